/-
 The statement CollectHeaps: part 13.
 Conditions: none.
-/
import Derived.Defers
import Derived.WalkKit
import Derived.Test.YtgedmeaemofdkaaGreatA12
set_option maxRecDepth 100000
set_option maxHeartbeats 2000000
set_option linter.all false
namespace Go.Proofs.YtgedmeaemofdkaaGreat
open Go.Sx Go.RowKit
def Zkz(a b c d e:Value) w :CallsD Tryz.prog 72 #[a,b,c,d,e] .returning w λg i w'=>g=.returned (.tuple #[])/\i=.returning/\w'=w:=by refine callsD_of_wpS Tryz.func72 rfl λf cs h=>?_;apply wpS_seq;apply wpS_region;simp[wpOpsS,go_sem,recoverD,h,Tryz.ntmps72,Exit.thenS];apply wpS_seq;apply wpS_region;simp[wpOpsS,go_sem,Tryz.ntmps72,Exit.thenS];refine wpS_cond (t:=false) (by simp[Act.eval,go_sem,Array.replicate]) ?_;simp only[Bool.false_eq_true,if_false];refine wpS_of_wp (wp_skip ?_);cases f;simp_all[bodyPostS,results,Tryz.results72]
end Go.Proofs.YtgedmeaemofdkaaGreat
