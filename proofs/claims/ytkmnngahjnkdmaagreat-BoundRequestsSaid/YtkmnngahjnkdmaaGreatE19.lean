/-
 The statement BoundRequests: part 19.
 Conditions: none.
-/
import Derived.Ground.NamesProg
import Derived.Lib.SortBridge
import Derived.Shelf.Lay
import Derived.Shelf.Slices.In.SortNone
import Derived.Sort.EveryDepth
import Derived.Sort.Grow
import Derived.Sort.OwnSortedInts
import Derived.Test.YtkmnngahjnkdmaaGreatChecked
import Derived.WalkKit
import Derived.Test.YtkmnngahjnkdmaaGreatE18
set_option maxRecDepth 100000
set_option maxHeartbeats 2000000
set_option linter.all false
open Bool renaming true->M,false->O,false_eq_true->Lh,true_eq_false->Li,eq_false_or_eq_true->Lj
open Decidable renaming decide->La
open Go.Value renaming int->Lb
open Inhabited renaming default->Lc
open Option renaming some->Ld,none->Lg
open Go.IntKind renaming i64->Le
open List renaming map->Lf,length_map->Lk,getD_eq_getElem?_getD->Ll,getElem?_eq_getElem->Lm,getElem_mem->Ln,mem_cons->Lo,not_mem_nil->Lp
open Go.Proofs.Tryz
namespace Go.Proofs.YtkmnngahjnkdmaaGreat
open Go.Shelf
def GN:Go.Shelf.Ren where
 f x:=match x with|189=>106|125=>164|257=>163|128=>212|129=>213|294=>203|295=>204|296=>205|297=>206|298=>207|299=>208|216=>209|300=>210|301=>211|328=>226|329=>227|330=>228|331=>229|332=>230|215=>231|343=>238|n=>n
 t x:=match x with|28=>28|3=>3|46=>77|0=>0|51=>29|53=>44|4=>4|183=>263|182=>262|131=>120|5=>5|9=>9|218=>282|222=>285|228=>289|229=>290|n=>n
 g n:=n
def Zdd:Go.Proofs.Lays.n189 prog GN where
 mixed:=by kernel_rfl
 f125:=Eq.trans func164 (congrArg Ld (by kernel_rfl:f164=Go.Proofs.Body.n125 GN))
 f128:=Eq.trans func212 (congrArg Ld (by kernel_rfl:f212=Go.Proofs.Body.n128 GN))
 f129:=Eq.trans func213 (congrArg Ld (by kernel_rfl:f213=Go.Proofs.Body.n129 GN))
 f189:=Eq.trans func106 (congrArg Ld (by kernel_rfl:f106=Go.Proofs.Body.n189 GN))
 f215:=Eq.trans func231 (congrArg Ld (by kernel_rfl:f231=Go.Proofs.Body.n215 GN))
 f216:=Eq.trans func209 (congrArg Ld (by kernel_rfl:f209=Go.Proofs.Body.n216 GN))
 f257:=Eq.trans func163 (congrArg Ld (by kernel_rfl:f163=Go.Proofs.Body.n257 GN))
 f294:=Eq.trans func203 (congrArg Ld (by kernel_rfl:f203=Go.Proofs.Body.n294 GN))
 f295:=Eq.trans func204 (congrArg Ld (by kernel_rfl:f204=Go.Proofs.Body.n295 GN))
 f296:=Eq.trans func205 (congrArg Ld (by kernel_rfl:f205=Go.Proofs.Body.n296 GN))
 f297:=Eq.trans func206 (congrArg Ld (by kernel_rfl:f206=Go.Proofs.Body.n297 GN))
 f298:=Eq.trans func207 (congrArg Ld (by kernel_rfl:f207=Go.Proofs.Body.n298 GN))
 f299:=Eq.trans func208 (congrArg Ld (by kernel_rfl:f208=Go.Proofs.Body.n299 GN))
 f300:=Eq.trans func210 (congrArg Ld (by kernel_rfl:f210=Go.Proofs.Body.n300 GN))
 f301:=Eq.trans func211 (congrArg Ld (by kernel_rfl:f211=Go.Proofs.Body.n301 GN))
 f328:=Eq.trans func226 (congrArg Ld (by kernel_rfl:f226=Go.Proofs.Body.n328 GN))
 f329:=Eq.trans func227 (congrArg Ld (by kernel_rfl:f227=Go.Proofs.Body.n329 GN))
 f330:=Eq.trans func228 (congrArg Ld (by kernel_rfl:f228=Go.Proofs.Body.n330 GN))
 f331:=Eq.trans func229 (congrArg Ld (by kernel_rfl:f229=Go.Proofs.Body.n331 GN))
 f332:=Eq.trans func230 (congrArg Ld (by kernel_rfl:f230=Go.Proofs.Body.n332 GN))
 f343:=Eq.trans func238 (congrArg Ld (by kernel_rfl:f238=Go.Proofs.Body.n343 GN))
 t0:=Tryz.underlying0
 a0:=Tryz.isAgg0
 z0:=Tryz.sizeOf0
 v0:=Tryz.zeroValue0
 t3:=Tryz.underlying3
 a3:=Tryz.isAgg3
 z3:=Tryz.sizeOf3
 v3:=Tryz.zeroValue3
 t4:=Tryz.underlying4
 a4:=Tryz.isAgg4
 z4:=Tryz.sizeOf4
 v4:=Tryz.zeroValue4
 t5:=Tryz.underlying5
 a5:=Tryz.isAgg5
 z5:=Tryz.sizeOf5
 v5:=Tryz.zeroValue5
 t9:=Tryz.underlying9
 a9:=Tryz.isAgg9
 z9:=Tryz.sizeOf9
 v9:=Tryz.zeroValue9
 t28:=Tryz.underlying28
 a28:=Tryz.isAgg28
 z28:=Tryz.sizeOf28
 v28:=Tryz.zeroValue28
 t46:=Tryz.underlying77
 a46:=Tryz.isAgg77
 z46:=Tryz.sizeOf77
 v46:=Tryz.zeroValue77
 t51:=Tryz.underlying29
 a51:=Tryz.isAgg29
 z51:=Tryz.sizeOf29
 v51:=Tryz.zeroValue29
 t53:=Tryz.underlying44
 a53:=Tryz.isAgg44
 z53:=Tryz.sizeOf44
 v53:=Tryz.zeroValue44
 t131:=Tryz.underlying120
 a131:=Tryz.isAgg120
 z131:=Tryz.sizeOf120
 v131:=Tryz.zeroValue120
 t182:=Tryz.underlying262
 a182:=Tryz.isAgg262
 z182:=Tryz.sizeOf262
 v182:=Tryz.zeroValue262
 t183:=Tryz.underlying263
 a183:=Tryz.isAgg263
 z183:=Tryz.sizeOf263
 v183:=Tryz.zeroValue263
 t218:=Tryz.underlying282
 a218:=Tryz.isAgg282
 z218:=Tryz.sizeOf282
 v218:=Tryz.zeroValue282
 t222:=Tryz.underlying285
 a222:=Tryz.isAgg285
 z222:=Tryz.sizeOf285
 v222:=Tryz.zeroValue285
 t228:=Tryz.underlying289
 a228:=Tryz.isAgg289
 z228:=Tryz.sizeOf289
 v228:=Tryz.zeroValue289
 t229:=Tryz.underlying290
 a229:=Tryz.isAgg290
 z229:=Tryz.sizeOf290
 v229:=Tryz.zeroValue290
end Go.Proofs.YtkmnngahjnkdmaaGreat
namespace Go.Proofs.YtkmnngahjnkdmaaGreat
open Go.RowKit Go.Shelf Go.Sort
set_option maxHeartbeats 2000000
set_option maxRecDepth 100000
def srt(a b c d e:Int):List Int:=[a,b,c,d,e].mergeSort λx y=>La (x<=y)
def Og a b c d e:(srt a b c d e).length=5:=by simp[srt]
def Z9y(W:World)(a b c d e:Int)(t:Nat):Holds (Lb .i64) (W.alloc (.cells #[.int .i64 a,.int .i64 b,.int .i64 c,.int .i64 d,.int .i64 e] t)) W.heap.size 0 [a,b,c,d,e].toArray:=by
 intro j h;have f:(W.alloc (.cells #[.int .i64 a,.int .i64 b,.int .i64 c,.int .i64 d,.int .i64 e] t)).heap[W.heap.size]?=Ld (.cells #[.int .i64 a,.int .i64 b,.int .i64 c,.int .i64 d,.int .i64 e] t):=by(show(W.heap.push _)[W.heap.size]?=Ld _;simp)
 have g:j=0\/j=1\/j=2\/j=3\/j=4:=by simp at h;omega
 rcases g with rfl|rfl|rfl|rfl|rfl<;>exact⟨by simp only[World.cell?,f,Nat.zero_add];rfl,by simp only[World.frozen?,f];rfl⟩
def ZfY(W:World)(a b c d e:Int)(t n:Nat) os(f:World)(h:f=grow (putRow (Lb .i64) (Sort.ahead (W.alloc (.cells #[.int .i64 a,.int .i64 b,.int .i64 c,.int .i64 d,.int .i64 e] t)) n) W.heap.size 0 (srt a b c d e).toArray) os) :(∀j,j<5->f.cell? ⟨W.heap.size,j,Lg⟩=Ld (.int .i64 ((srt a b c d e).getD j 0)))/\Below W.heap.size W f:=by
 have m:=Z9y W a b c d e t;have l:=holds_putRow (Lb .i64) _ W.heap.size 0 _ (srt a b c d e).toArray (holds_ahead (Lb .i64) _ n W.heap.size 0 _ m) (by simp[Og]);have i:=holds_grow (Lb .i64) _ os W.heap.size 0 _ (by simp[putRow,mapBlock,Sort.ahead]) l;rw[<-h]at i;constructor;intro j k;have:=(i j (by simp[Og];omega)).1;rw[Nat.zero_add]at this;rw[this];have o:j<(srt a b c d e).length:=by rw[Og];omega
 simp[Ll,o];have g:=grownBy_sortedI (w:=W.alloc (.cells #[.int .i64 a,.int .i64 b,.int .i64 c,.int .i64 d,.int .i64 e] t)) (g:=W.heap.size) (n:=n) (os:=os) (srt a b c d e).toArray;rw[<-h]at g;exact((Below.refl W.heap.size W).alloc (Nat.le_refl _) _).grown g (by simp) (λj k=>by cases k;exact Nat.le_refl _)
def ZhB(a b c d e:Int)(w:World):Calls prog 52 #[.agg #[.int .i64 a,.int .i64 b,.int .i64 c,.int .i64 d,.int .i64 e]] w λl w'=>l=.returned (.bool (La (0<=(srt a b c d e).getD 0 0)&&La ((srt a b c d e).getD 4 0<=2147483647)))/\Below w.heap.size w w':=by
  go_enter func52,Tryz.ntmps52
  go_wp2_with (go_at_call 106
               have m:=Z9y ((w.alloc (Obj.cells #[Lb .i64 a,Lb .i64 b,Lb .i64 c,Lb .i64 d,Lb .i64 e] 67)).alloc (Obj.cells #[Lb .i64 a,Lb .i64 b,Lb .i64 c,Lb .i64 d,Lb .i64 e] 163)) a b c d e 163;have k:=calls_of_every_depth λD=>AnyS.slices_Sort_int_alone Zdd D _ 0 5 [a,b,c,d,e] _ m (by simp) (by simp);have q:((w.alloc (Obj.cells #[Lb .i64 a,Lb .i64 b,Lb .i64 c,Lb .i64 d,Lb .i64 e] 67)).alloc (Obj.cells #[Lb .i64 a,Lb .i64 b,Lb .i64 c,Lb .i64 d,Lb .i64 e] 163)).heap.size=w.heap.size+1+1:=by simp
               have i:=λn os p h=>ZfY ((w.alloc (Obj.cells #[Lb .i64 a,Lb .i64 b,Lb .i64 c,Lb .i64 d,Lb .i64 e] 67)).alloc (Obj.cells #[Lb .i64 a,Lb .i64 b,Lb .i64 c,Lb .i64 d,Lb .i64 e] 163)) a b c d e 163 n os p h;rw[q]at k i;refine k.mono ?_;rintro l w' ⟨rfl,n,os,o⟩;obtain⟨f,g⟩:=i n os w' o;have h0:=f 0 (by decide);have h4:=f 4 (by decide);clear f i k m o)
  all_goals
    have j:Below w.heap.size w w':=(((Below.refl w.heap.size w).alloc (Nat.le_refl _) _).alloc (by simp) _).trans (g.mono (by omega));go_ret
    refine⟨?_,j⟩;simp_all
    try (intro h;omega)
def Zde(a b c d e m:Int):(La (0<=(srt a b c d e).getD 0 0)&&La ((srt a b c d e).getD 4 0<=m))=La (∀x∈[a,b,c,d,e],0<=x/\x<=m):=by
 have g:(srt a b c d e).Pairwise (λx y=>La (x<=y)=M):=List.pairwise_mergeSort (λx y z h k=>by simp at h k⊢;omega) (λx y=>by simp;omega) _;have f:∀x,x∈srt a b c d e↔x∈[a,b,c,d,e]:=λx=>List.mem_mergeSort;have l:=Og a b c d e;generalize srt a b c d e=s at g f l;match s,l with|[p,q,r,t,u],_ =>rw[Bool.eq_iff_iff];simp only[Bool.and_eq_true,decide_eq_true_eq,List.getD_cons_zero,List.getD_cons_succ];simp only[List.pairwise_cons,Lo,Lp,or_false,decide_eq_true_eq]at g;constructor;intro h x v;have:=(f x).2 v;simp only[Lo,Lp,or_false]at this;obtain⟨i,j,n,o,h5⟩:=g;have a1:=i q (by simp);have a2:=j r (by simp);have a3:=n t (by simp);have a4:=o u rfl;omega;intro h;have i:=h p ((f p).1 (by simp));have j:=h u ((f u).1 (by simp));omega
end Go.Proofs.YtkmnngahjnkdmaaGreat
namespace Go.Proofs.YtkmnngahjnkdmaaGreat
open Go.Sx
structure Live where
 objects:Int
 W:Int
 small:Int
 large:Int
 pinned:Int
 deriving DecidableEq,Inhabited
def Live.av(l:Live):AV:=.ag [nI l.objects,nI l.W,nI l.small,nI l.large,nI l.pinned]
def CB(l:Live):Bool:=La (∀x∈[l.objects,l.W,l.small,l.large,l.pinned],0<=x/\x<=2147483647)
def Z9W{l:Live}:CB l=M↔(0<=l.objects/\l.objects<=2147483647)/\(0<=l.W/\l.W<=2147483647)/\(0<=l.small/\l.small<=2147483647)/\(0<=l.large/\l.large<=2147483647)/\(0<=l.pinned/\l.pinned<=2147483647):=by simp[CB]
def Zc9{w w':Go.World}(h:Go.RowKit.Below w.heap.size w w'):Kept (λ_=>False) w w':=
 ⟨h.os,h.tape,h.output,h.size,λk a _=>h.block k a,λk a=>by unfold rows;rw[h.block k a]⟩
def ZgX{v:Array Go.Value}(h:v.size=1):∃a,v=#[a]:=by
 obtain⟨l⟩:=v;match l,h with|[a],_=>exact⟨a,rfl⟩
def Ze8{v:Array Go.Value}(h:v.size=5):∃a b c d e,v=#[a,b,c,d,e]:=by
 obtain⟨l⟩:=v;match l,h with|[a,b,c,d,e],_=>exact⟨a,b,c,d,e,rfl⟩
def R7(l:Live):GP 52 [l.av] M (bL (CB l)) []:=by intro w Im vs hI g i;obtain⟨v,rfl⟩:=ZgX g;obtain⟨cs,rfl,c1,_,c3⟩:=Hx (i 0 _ v rfl rfl);obtain⟨a,b,c,d,e,rfl⟩:=Ze8 c1;obtain rfl:a=.int .i64 l.objects:=BV (c3 0 _ a rfl rfl);obtain rfl:b=.int .i64 l.W:=BV (c3 1 _ b rfl rfl);obtain rfl:c=.int .i64 l.small:=BV (c3 2 _ c rfl rfl);obtain rfl:d=.int .i64 l.large:=BV (c3 3 _ d rfl rfl);obtain rfl:e=.int .i64 l.pinned:=BV (c3 4 _ e rfl rfl);refine(ZhB l.objects l.W l.small l.large l.pinned w).mono ?_;rintro en w' ⟨rfl,f⟩;refine⟨_,rfl,Zc9 f,λ_=>Lg,λ_=>False,λ_ h=>h.elim,λ_ h=>h.elim,(λ_ _ _ h=>by cases h),(λ_ _ _ _ _ h=>by cases h),(λ_ _ h=>by cases h),(λk B h=>by simp at h), ?_⟩;rw[Zde];exact .d (.sc _ rfl)
def Bu(c:ZU)(l:Live):Int:=if Zm c=M/\CB l=M then l.pinned+l.large+(4*l.small+3*c.pw-1)/(3*c.pw)else 0
def R8(c:ZU)(l:Live)(hd:Zo):Bool:=
 if Zm c=M/\CB l=M/\BB c hd=M then
  (if need c (Z1 hd)=0 then La (Bu c l+1<=ZY c)else La (Bu c l+need c (Z1 hd)<=ZY c)&&La ((Bu c l+1)*(need c (Z1 hd)-1)<c.pg-Bu c l))else O
def Ah(c:ZU)(l:Live):GP 25 [c.av,l.av] M (nI (Bu c l)) []:=by
 by_cases d:Zm c=M;have hb:=BR.1 d;by_cases h:CB l=M;have hl:=Z9W.1 h;have a:Bu c l=l.pinned+l.large+(4*l.small+3*c.pw-1)/(3*c.pw):=by rw[Bu,if_pos ⟨d,h⟩]
 rw[a];have e:(4*l.small+3*c.pw-1).tdiv (3*c.pw)=(4*l.small+3*c.pw-1)/(3*c.pw):=H5 oq;have d1:0<=(4*l.small+3*c.pw-1)/(3*c.pw):=Int.ediv_nonneg oq oq;have d2:(4*l.small+3*c.pw-1)/(3*c.pw)<=4*l.small+3*c.pw-1:=Int.ediv_le_self _ oq;refine Zb [((7:Nat),[Hint.call M (bL (Zm c)) []]),((11:Nat),[Hint.call M (bL (CB l)) []]),((13:Nat),[Hint.br O]),((16:Nat),[Hint.int ((3:Int)*c.pw)]),((21:Nat),[Hint.int (l.pinned+l.large)]),((24:Nat),[Hint.int ((4:Int)*l.small)]),((26:Nat),[Hint.int ((4:Int)*l.small+(3:Int)*c.pw)]),((27:Nat),[Hint.int ((4:Int)*l.small+(3:Int)*c.pw-(1:Int))]),((29:Nat),[Hint.int (((4:Int)*l.small+(3:Int)*c.pw-(1:Int))/((3:Int)*c.pw))]),((30:Nat),[Hint.int (l.pinned+l.large+((4:Int)*l.small+(3:Int)*c.pw-(1:Int))/((3:Int)*c.pw))])] [] [] dd func25 [] (φ:=GP 51 [c.av] M (bL (Zm c)) []/\((!!Zm c)=M->GP 52 [l.av] M (bL (CB l)) [])/\(!Zm c||!CB l)=O/\O=O/\Le.wrap ((3:Int)*c.pw)=(3:Int)*c.pw/\Le.wrap (l.pinned+l.large)=l.pinned+l.large/\Le.wrap ((4:Int)*l.small)=(4:Int)*l.small/\Le.wrap ((4:Int)*l.small+(3:Int)*c.pw)=(4:Int)*l.small+(3:Int)*c.pw/\Le.wrap ((4:Int)*l.small+(3:Int)*c.pw-(1:Int))=(4:Int)*l.small+(3:Int)*c.pw-(1:Int)/\Le.wrap (((4:Int)*l.small+(3:Int)*c.pw-(1:Int)).tdiv ((3:Int)*c.pw))=((4:Int)*l.small+(3:Int)*c.pw-(1:Int))/((3:Int)*c.pw)/\(3:Int)*c.pw≠(0:Int)/\Le.wrap (l.pinned+l.large+((4:Int)*l.small+(3:Int)*c.pw-(1:Int))/((3:Int)*c.pw))=l.pinned+l.large+((4:Int)*l.small+(3:Int)*c.pw-(1:Int))/((3:Int)*c.pw)) ?_ kr kr;exact⟨(@EZ (c)),(λb=>by(try simp only[bs]at b);exact@R7 (l)),(by simp only[bs, *,true_or,or_true,true_and,and_true,not_true_eq_false,not_false_eq_true,Li,Lh]),rfl,(by exact Zf rfl oq oq),(by exact Zf rfl oq oq),(by exact Zf rfl oq oq),(by exact Zf rfl oq oq),(by exact Zf rfl oq oq),(by rw[E6 oq oq];omega),oq,(by exact Zf rfl oq oq)⟩;have a:Bu c l=0:=by rw[Bu,if_neg (λq=>h q.2)]
 rw[a];refine Zb [((7:Nat),[Hint.call M (bL (Zm c)) []]),((11:Nat),[Hint.call M (bL (CB l)) []]),((13:Nat),[Hint.br M])] [] [] dd func25 [] (φ:=GP 51 [c.av] M (bL (Zm c)) []/\((!!Zm c)=M->GP 52 [l.av] M (bL (CB l)) [])/\(!Zm c||!CB l)=M/\M=M) ?_ kr kr;exact⟨(@EZ (c)),(λb=>by(try simp only[bs]at b);exact@R7 (l)),(by simp only[bs, *,true_or,or_true,true_and,and_true,not_true_eq_false,not_false_eq_true,Li,Lh]),rfl⟩;have a:Bu c l=0:=by rw[Bu,if_neg (λq=>d q.1)]
 rw[a];refine Zb [((7:Nat),[Hint.call M (bL (Zm c)) []]),((11:Nat),[Hint.call M (bL (CB l)) []]),((13:Nat),[Hint.br M])] [] [] dd func25 [] (φ:=GP 51 [c.av] M (bL (Zm c)) []/\((!!Zm c)=M->GP 52 [l.av] M (bL (CB l)) [])/\(!Zm c||!CB l)=M/\M=M) ?_ kr kr;exact⟨(@EZ (c)),(λb=>by(try simp only[bs]at b);exact@R7 (l)),(by simp only[bs, *,true_or,or_true,true_and,and_true,not_true_eq_false,not_false_eq_true,Li,Lh]),rfl⟩
def ZjL{c}{l:Live}:0<=Bu c l/\Bu c l<=17179869184:=by unfold Bu;split;rename_i h;have hb:=BR.1 h.1;have hl:=Z9W.1 h.2;have d1:0<=(4*l.small+3*c.pw-1)/(3*c.pw):=Int.ediv_nonneg oq oq;have d2:(4*l.small+3*c.pw-1)/(3*c.pw)<=4*l.small+3*c.pw-1:=Int.ediv_le_self _ oq;omega;omega
def boundSure(c:ZU)(l:Live)(hd:Zo)(hm:0<=hd.map/\hd.map<=4294967295):GP 20 [c.av,l.av,hd.av] M (bL (R8 c l hd)) []:=by
 have hp:=ZjL (c:=c) (l:=l);have hr:=N3 c (Z1 hd);by_cases m:Zm c=M/\CB l=M/\BB c hd=M;obtain⟨f,k,i⟩:=m;have hb:=BR.1 f;have o:=Sz f;have ha:=TT i;have p:0<need c (Z1 hd)->0<=(Bu c l+1)*(need c (Z1 hd)-1)/\(Bu c l+1)*(need c (Z1 hd)-1)<=17179869185*4:=λq=>⟨Int.mul_nonneg oq oq,Int.mul_le_mul oq oq oq oq⟩;by_cases n:need c (Z1 hd)=0;have e:R8 c l hd=La (Bu c l+1<=ZY c):=by rw[R8,if_pos ⟨f,k,i⟩,if_pos n]
 rw[e];rcases Lj (La (ZY c-max (need c (Z1 hd)) (1:Int)<Bu c l))with hc0|hc0;have b:=hc0;simp only[bs]at b;refine Zb [((10:Nat),[Hint.call M (bL (Zm c)) []]),((14:Nat),[Hint.call M (bL (CB l)) []]),((20:Nat),[Hint.call M (bL (BB c hd)) []]),((22:Nat),[Hint.br O]),((25:Nat),[Hint.call M (nI (Bu c l)) []]),((28:Nat),[Hint.call M (nI (Z1 hd)) []]),((29:Nat),[Hint.call M (nI (need c (Z1 hd))) []]),((32:Nat),[Hint.call M (nI (ZY c)) []]),((34:Nat),[Hint.int (max (need c (Z1 hd)) (1:Int))]),((35:Nat),[Hint.int (ZY c-max (need c (Z1 hd)) (1:Int))]),((36:Nat),[Hint.br M])] [] [] dd func20 [O,O,O,O,O,O,O,M] (φ:=GP 51 [c.av] M (bL (Zm c)) []/\((!!Zm c)=M->GP 52 [l.av] M (bL (CB l)) [])/\((!(!Zm c||!CB l))=M->GP 53 [c.av,hd.av] M (bL (BB c hd)) [])/\(!Zm c||!CB l||!BB c hd)=O/\O=O/\GP 25 [c.av,l.av] M (nI (Bu c l)) []/\GP 48 [hd.av] M (nI (Z1 hd)) []/\GP 50 [c.av,nI (Z1 hd)] M (nI (need c (Z1 hd))) []/\GP 54 [c.av] M (nI (ZY c)) []/\(if(1:Int) > need c (Z1 hd)then(1:Int)else need c (Z1 hd))=max (need c (Z1 hd)) (1:Int)/\Le.wrap (ZY c-max (need c (Z1 hd)) (1:Int))=ZY c-max (need c (Z1 hd)) (1:Int)/\La (ZY c-max (need c (Z1 hd)) (1:Int)<Bu c l)=M/\M=M/\O=La (Bu c l+(1:Int)<=ZY c)) ?_ kr kr;exact⟨(@EZ (c)),(λa=>by(try simp only[bs]at a);exact@R7 (l)),(λa=>by(try simp only[bs]at a);exact@IQ (c) (hd) (by(try simp only[bs]at a);assumption)),(by simp only[bs, *,true_or,or_true,true_and,and_true,not_true_eq_false,not_false_eq_true,Li,Lh]),rfl,(@Ah (c) (l)),(@CK (hd) aa),(@Hc (c) (Z1 hd)),(@IG (c)),oq,(by exact Zf rfl oq oq),aa,rfl,(by(simp[*];omega))⟩;have b:=hc0;simp only[bs]at b;refine Zb [((10:Nat),[Hint.call M (bL (Zm c)) []]),((14:Nat),[Hint.call M (bL (CB l)) []]),((20:Nat),[Hint.call M (bL (BB c hd)) []]),((22:Nat),[Hint.br O]),((25:Nat),[Hint.call M (nI (Bu c l)) []]),((28:Nat),[Hint.call M (nI (Z1 hd)) []]),((29:Nat),[Hint.call M (nI (need c (Z1 hd))) []]),((32:Nat),[Hint.call M (nI (ZY c)) []]),((34:Nat),[Hint.int (max (need c (Z1 hd)) (1:Int))]),((35:Nat),[Hint.int (ZY c-max (need c (Z1 hd)) (1:Int))]),((36:Nat),[Hint.br O]),((43:Nat),[Hint.int (c.pg-Bu c l)]),((45:Nat),[Hint.int (Bu c l+(1:Int))]),((47:Nat),[Hint.int (need c (Z1 hd)-(1:Int))]),((48:Nat),[Hint.int ((Bu c l+(1:Int))*(need c (Z1 hd)-(1:Int)))])] [] [] dd func20 [O,O,O,O,O,O,O,O,O,O,O,O,O,O,O,O,O,M] (φ:=GP 51 [c.av] M (bL (Zm c)) []/\((!!Zm c)=M->GP 52 [l.av] M (bL (CB l)) [])/\((!(!Zm c||!CB l))=M->GP 53 [c.av,hd.av] M (bL (BB c hd)) [])/\(!Zm c||!CB l||!BB c hd)=O/\O=O/\GP 25 [c.av,l.av] M (nI (Bu c l)) []/\GP 48 [hd.av] M (nI (Z1 hd)) []/\GP 50 [c.av,nI (Z1 hd)] M (nI (need c (Z1 hd))) []/\GP 54 [c.av] M (nI (ZY c)) []/\(if(1:Int) > need c (Z1 hd)then(1:Int)else need c (Z1 hd))=max (need c (Z1 hd)) (1:Int)/\Le.wrap (ZY c-max (need c (Z1 hd)) (1:Int))=ZY c-max (need c (Z1 hd)) (1:Int)/\La (ZY c-max (need c (Z1 hd)) (1:Int)<Bu c l)=O/\O=O/\((!need c (Z1 hd)==(0:Int))=M->Le.wrap (c.pg-Bu c l)=c.pg-Bu c l)/\((!need c (Z1 hd)==(0:Int))=M->Le.wrap (Bu c l+(1:Int))=Bu c l+(1:Int))/\((!need c (Z1 hd)==(0:Int))=M->Le.wrap (need c (Z1 hd)-(1:Int))=need c (Z1 hd)-(1:Int))/\((!need c (Z1 hd)==(0:Int))=M->Le.wrap ((Bu c l+(1:Int))*(need c (Z1 hd)-(1:Int)))=(Bu c l+(1:Int))*(need c (Z1 hd)-(1:Int)))/\(need c (Z1 hd)==(0:Int)||La ((Bu c l+(1:Int))*(need c (Z1 hd)-(1:Int))<c.pg-Bu c l))=La (Bu c l+(1:Int)<=ZY c)) ?_ kr kr;exact⟨(@EZ (c)),(λa=>by(try simp only[bs]at a);exact@R7 (l)),(λa=>by(try simp only[bs]at a);exact@IQ (c) (hd) (by(try simp only[bs]at a);assumption)),(by simp only[bs, *,true_or,or_true,true_and,and_true,not_true_eq_false,not_false_eq_true,Li,Lh]),rfl,(@Ah (c) (l)),(@CK (hd) aa),(@Hc (c) (Z1 hd)),(@IG (c)),oq,(by exact Zf rfl oq oq),aa,rfl,(by intro a;(try simp only[bs]at a);exact Zf rfl oq oq),(by intro a;(try simp only[bs]at a);exact Zf rfl oq oq),(by intro a;(try simp only[bs]at a);exact Zf rfl oq oq),(by intro a;(try simp only[bs]at a);exact Zf rfl oq oq),(by(simp[*];omega))⟩;have e:R8 c l hd=(La (Bu c l+need c (Z1 hd)<=ZY c)&&La ((Bu c l+1)*(need c (Z1 hd)-1)<c.pg-Bu c l)):=by rw[R8,if_pos ⟨f,k,i⟩,if_neg n]
 have m2:=p oq;rw[e];rcases Lj (La (ZY c-max (need c (Z1 hd)) (1:Int)<Bu c l))with hc0|hc0;have b:=hc0;simp only[bs]at b;refine Zb [((10:Nat),[Hint.call M (bL (Zm c)) []]),((14:Nat),[Hint.call M (bL (CB l)) []]),((20:Nat),[Hint.call M (bL (BB c hd)) []]),((22:Nat),[Hint.br O]),((25:Nat),[Hint.call M (nI (Bu c l)) []]),((28:Nat),[Hint.call M (nI (Z1 hd)) []]),((29:Nat),[Hint.call M (nI (need c (Z1 hd))) []]),((32:Nat),[Hint.call M (nI (ZY c)) []]),((34:Nat),[Hint.int (max (need c (Z1 hd)) (1:Int))]),((35:Nat),[Hint.int (ZY c-max (need c (Z1 hd)) (1:Int))]),((36:Nat),[Hint.br M])] [] [] dd func20 [O,O,O,O,O,O,O,M] (φ:=GP 51 [c.av] M (bL (Zm c)) []/\((!!Zm c)=M->GP 52 [l.av] M (bL (CB l)) [])/\((!(!Zm c||!CB l))=M->GP 53 [c.av,hd.av] M (bL (BB c hd)) [])/\(!Zm c||!CB l||!BB c hd)=O/\O=O/\GP 25 [c.av,l.av] M (nI (Bu c l)) []/\GP 48 [hd.av] M (nI (Z1 hd)) []/\GP 50 [c.av,nI (Z1 hd)] M (nI (need c (Z1 hd))) []/\GP 54 [c.av] M (nI (ZY c)) []/\(if(1:Int) > need c (Z1 hd)then(1:Int)else need c (Z1 hd))=max (need c (Z1 hd)) (1:Int)/\Le.wrap (ZY c-max (need c (Z1 hd)) (1:Int))=ZY c-max (need c (Z1 hd)) (1:Int)/\La (ZY c-max (need c (Z1 hd)) (1:Int)<Bu c l)=M/\M=M/\O=(La (Bu c l+need c (Z1 hd)<=ZY c)&&La ((Bu c l+(1:Int))*(need c (Z1 hd)-(1:Int))<c.pg-Bu c l))) ?_ kr kr;exact⟨(@EZ (c)),(λa=>by(try simp only[bs]at a);exact@R7 (l)),(λa=>by(try simp only[bs]at a);exact@IQ (c) (hd) (by(try simp only[bs]at a);assumption)),(by simp only[bs, *,true_or,or_true,true_and,and_true,not_true_eq_false,not_false_eq_true,Li,Lh]),rfl,(@Ah (c) (l)),(@CK (hd) aa),(@Hc (c) (Z1 hd)),(@IG (c)),oq,(by exact Zf rfl oq oq),aa,rfl,(by(simp[*];omega))⟩;have b:=hc0;simp only[bs]at b;refine Zb [((10:Nat),[Hint.call M (bL (Zm c)) []]),((14:Nat),[Hint.call M (bL (CB l)) []]),((20:Nat),[Hint.call M (bL (BB c hd)) []]),((22:Nat),[Hint.br O]),((25:Nat),[Hint.call M (nI (Bu c l)) []]),((28:Nat),[Hint.call M (nI (Z1 hd)) []]),((29:Nat),[Hint.call M (nI (need c (Z1 hd))) []]),((32:Nat),[Hint.call M (nI (ZY c)) []]),((34:Nat),[Hint.int (max (need c (Z1 hd)) (1:Int))]),((35:Nat),[Hint.int (ZY c-max (need c (Z1 hd)) (1:Int))]),((36:Nat),[Hint.br O]),((43:Nat),[Hint.int (c.pg-Bu c l)]),((45:Nat),[Hint.int (Bu c l+(1:Int))]),((47:Nat),[Hint.int (need c (Z1 hd)-(1:Int))]),((48:Nat),[Hint.int ((Bu c l+(1:Int))*(need c (Z1 hd)-(1:Int)))])] [] [] dd func20 [O,O,O,O,O,O,O,O,O,O,O,O,O,O,O,O,O,M] (φ:=GP 51 [c.av] M (bL (Zm c)) []/\((!!Zm c)=M->GP 52 [l.av] M (bL (CB l)) [])/\((!(!Zm c||!CB l))=M->GP 53 [c.av,hd.av] M (bL (BB c hd)) [])/\(!Zm c||!CB l||!BB c hd)=O/\O=O/\GP 25 [c.av,l.av] M (nI (Bu c l)) []/\GP 48 [hd.av] M (nI (Z1 hd)) []/\GP 50 [c.av,nI (Z1 hd)] M (nI (need c (Z1 hd))) []/\GP 54 [c.av] M (nI (ZY c)) []/\(if(1:Int) > need c (Z1 hd)then(1:Int)else need c (Z1 hd))=max (need c (Z1 hd)) (1:Int)/\Le.wrap (ZY c-max (need c (Z1 hd)) (1:Int))=ZY c-max (need c (Z1 hd)) (1:Int)/\La (ZY c-max (need c (Z1 hd)) (1:Int)<Bu c l)=O/\O=O/\((!need c (Z1 hd)==(0:Int))=M->Le.wrap (c.pg-Bu c l)=c.pg-Bu c l)/\((!need c (Z1 hd)==(0:Int))=M->Le.wrap (Bu c l+(1:Int))=Bu c l+(1:Int))/\((!need c (Z1 hd)==(0:Int))=M->Le.wrap (need c (Z1 hd)-(1:Int))=need c (Z1 hd)-(1:Int))/\((!need c (Z1 hd)==(0:Int))=M->Le.wrap ((Bu c l+(1:Int))*(need c (Z1 hd)-(1:Int)))=(Bu c l+(1:Int))*(need c (Z1 hd)-(1:Int)))/\(need c (Z1 hd)==(0:Int)||La ((Bu c l+(1:Int))*(need c (Z1 hd)-(1:Int))<c.pg-Bu c l))=(La (Bu c l+need c (Z1 hd)<=ZY c)&&La ((Bu c l+(1:Int))*(need c (Z1 hd)-(1:Int))<c.pg-Bu c l))) ?_ kr kr;exact⟨(@EZ (c)),(λa=>by(try simp only[bs]at a);exact@R7 (l)),(λa=>by(try simp only[bs]at a);exact@IQ (c) (hd) (by(try simp only[bs]at a);assumption)),(by simp only[bs, *,true_or,or_true,true_and,and_true,not_true_eq_false,not_false_eq_true,Li,Lh]),rfl,(@Ah (c) (l)),(@CK (hd) aa),(@Hc (c) (Z1 hd)),(@IG (c)),oq,(by exact Zf rfl oq oq),aa,rfl,(by intro a;(try simp only[bs]at a);exact Zf rfl oq oq),(by intro a;(try simp only[bs]at a);exact Zf rfl oq oq),(by intro a;(try simp only[bs]at a);exact Zf rfl oq oq),(by intro a;(try simp only[bs]at a);exact Zf rfl oq oq),(by grind[])⟩;have e:R8 c l hd=O:=by rw[R8,if_neg m]
 rw[e];rcases Lj (!Zm c||!CB l||!BB c hd)with hc0|hc0;have b:=hc0;simp only[bs]at b;refine Zb [((10:Nat),[Hint.call M (bL (Zm c)) []]),((14:Nat),[Hint.call M (bL (CB l)) []]),((20:Nat),[Hint.call M (bL (BB c hd)) []]),((22:Nat),[Hint.br M])] [] [] dd func20 [] (φ:=GP 51 [c.av] M (bL (Zm c)) []/\((!!Zm c)=M->GP 52 [l.av] M (bL (CB l)) [])/\((!(!Zm c||!CB l))=M->GP 53 [c.av,hd.av] M (bL (BB c hd)) [])/\(!Zm c||!CB l||!BB c hd)=M/\M=M) ?_ kr kr;exact⟨(@EZ (c)),(λa=>by(try simp only[bs]at a);exact@R7 (l)),(λa=>by(try simp only[bs]at a);exact@IQ (c) (hd) (by(try simp only[bs]at a);assumption)),aa,rfl⟩;have b:=hc0;simp only[bs]at b;obtain⟨⟨g,h⟩,j⟩:=b;rcases Lj (La (Le.wrap (ZY c-max (need c (Z1 hd)) (1:Int))<Bu c l))with hc1|hc1;have d:=hc1;simp only[bs]at d;refine Zb [((10:Nat),[Hint.call M (bL (Zm c)) []]),((14:Nat),[Hint.call M (bL (CB l)) []]),((20:Nat),[Hint.call M (bL (BB c hd)) []]),((22:Nat),[Hint.br O]),((25:Nat),[Hint.call M (nI (Bu c l)) []]),((28:Nat),[Hint.call M (nI (Z1 hd)) []]),((29:Nat),[Hint.call M (nI (need c (Z1 hd))) []]),((32:Nat),[Hint.call M (nI (ZY c)) []]),((34:Nat),[Hint.int (max (need c (Z1 hd)) (1:Int))]),((36:Nat),[Hint.br M])] [] [] dd func20 [] (φ:=GP 51 [c.av] M (bL (Zm c)) []/\((!!Zm c)=M->GP 52 [l.av] M (bL (CB l)) [])/\((!(!Zm c||!CB l))=M->GP 53 [c.av,hd.av] M (bL (BB c hd)) [])/\(!Zm c||!CB l||!BB c hd)=O/\O=O/\GP 25 [c.av,l.av] M (nI (Bu c l)) []/\GP 48 [hd.av] M (nI (Z1 hd)) []/\GP 50 [c.av,nI (Z1 hd)] M (nI (need c (Z1 hd))) []/\GP 54 [c.av] M (nI (ZY c)) []/\(if(1:Int) > need c (Z1 hd)then(1:Int)else need c (Z1 hd))=max (need c (Z1 hd)) (1:Int)/\La (Le.wrap (ZY c-max (need c (Z1 hd)) (1:Int))<Bu c l)=M/\M=M) ?_ kr kr;exact⟨(@EZ (c)),(λa=>by(try simp only[bs]at a);exact@R7 (l)),(λa=>by(try simp only[bs]at a);exact@IQ (c) (hd) (by(try simp only[bs]at a);assumption)),aa,rfl,(@Ah (c) (l)),(@CK (hd) aa),(@Hc (c) (Z1 hd)),(@IG (c)),oq,aa,rfl⟩;have d:=hc1;simp only[bs]at d;refine Zb [((10:Nat),[Hint.call M (bL (Zm c)) []]),((14:Nat),[Hint.call M (bL (CB l)) []]),((20:Nat),[Hint.call M (bL (BB c hd)) []]),((22:Nat),[Hint.br O]),((25:Nat),[Hint.call M (nI (Bu c l)) []]),((28:Nat),[Hint.call M (nI (Z1 hd)) []]),((29:Nat),[Hint.call M (nI (need c (Z1 hd))) []]),((32:Nat),[Hint.call M (nI (ZY c)) []]),((34:Nat),[Hint.int (max (need c (Z1 hd)) (1:Int))]),((36:Nat),[Hint.br O]),((45:Nat),[Hint.int (Bu c l+(1:Int))]),((47:Nat),[Hint.int (need c (Z1 hd)-(1:Int))])] [] [] dd func20 [O,O,O,O,O,O,O,O,O,O,O,O,O,O,O,O,O,M] (φ:=GP 51 [c.av] M (bL (Zm c)) []/\((!!Zm c)=M->GP 52 [l.av] M (bL (CB l)) [])/\((!(!Zm c||!CB l))=M->GP 53 [c.av,hd.av] M (bL (BB c hd)) [])/\(!Zm c||!CB l||!BB c hd)=O/\O=O/\GP 25 [c.av,l.av] M (nI (Bu c l)) []/\GP 48 [hd.av] M (nI (Z1 hd)) []/\GP 50 [c.av,nI (Z1 hd)] M (nI (need c (Z1 hd))) []/\GP 54 [c.av] M (nI (ZY c)) []/\(if(1:Int) > need c (Z1 hd)then(1:Int)else need c (Z1 hd))=max (need c (Z1 hd)) (1:Int)/\La (Le.wrap (ZY c-max (need c (Z1 hd)) (1:Int))<Bu c l)=O/\O=O/\((!need c (Z1 hd)==(0:Int))=M->Le.wrap (Bu c l+(1:Int))=Bu c l+(1:Int))/\((!need c (Z1 hd)==(0:Int))=M->Le.wrap (need c (Z1 hd)-(1:Int))=need c (Z1 hd)-(1:Int))/\(need c (Z1 hd)==(0:Int)||La (Le.wrap ((Bu c l+(1:Int))*(need c (Z1 hd)-(1:Int)))<Le.wrap (c.pg-Bu c l)))=O) ?_ kr kr;exact⟨(@EZ (c)),(λa=>by(try simp only[bs]at a);exact@R7 (l)),(λa=>by(try simp only[bs]at a);exact@IQ (c) (hd) (by(try simp only[bs]at a);assumption)),aa,rfl,(@Ah (c) (l)),(@CK (hd) aa),(@Hc (c) (Z1 hd)),(@IG (c)),oq,aa,rfl,(by intro a;(try simp only[bs]at a);exact Zf rfl oq oq),(by intro a;(try simp only[bs]at a);exact Zf rfl oq oq),(by grind[])⟩
def Z8K:GP 15 [] M (bL M) []:=by
 have e1:Bu ⟨16,8⟩ ⟨0,0,13,0,0⟩=2:=by decide
 have e2:R8 ⟨16,8⟩ ⟨0,0,0,0,0⟩ ⟨3,3,0⟩=M:=by decide
 refine Zb [((5:Nat),[Hint.call M (nI (Bu (ZU.mk (16:Int) (8:Int)) (Live.mk (0:Int) (0:Int) (13:Int) (0:Int) (0:Int)))) []]),((11:Nat),[Hint.call M (bL (R8 (ZU.mk (16:Int) (8:Int)) (Live.mk (0:Int) (0:Int) (0:Int) (0:Int) (0:Int)) (Zo.mk (3:Int) (3:Int) (0:Int)))) []])] [] [] dd func15 [] (φ:=GP 25 [(ZU.mk (16:Int) (8:Int)).av,(Live.mk (0:Int) (0:Int) (13:Int) (0:Int) (0:Int)).av] M (nI (Bu (ZU.mk (16:Int) (8:Int)) (Live.mk (0:Int) (0:Int) (13:Int) (0:Int) (0:Int)))) []/\((Bu (ZU.mk (16:Int) (8:Int)) (Live.mk (0:Int) (0:Int) (13:Int) (0:Int) (0:Int))==(2:Int))=M->GP 20 [(ZU.mk (16:Int) (8:Int)).av,(Live.mk (0:Int) (0:Int) (0:Int) (0:Int) (0:Int)).av,(Zo.mk (3:Int) (3:Int) (0:Int)).av] M (bL (R8 (ZU.mk (16:Int) (8:Int)) (Live.mk (0:Int) (0:Int) (0:Int) (0:Int) (0:Int)) (Zo.mk (3:Int) (3:Int) (0:Int)))) [])) ?_ kr kr;exact⟨(@Ah (ZU.mk (16:Int) (8:Int)) (Live.mk (0:Int) (0:Int) (13:Int) (0:Int) (0:Int))),(λa=>by(try simp only[bs]at a);exact@boundSure (ZU.mk (16:Int) (8:Int)) (Live.mk (0:Int) (0:Int) (0:Int) (0:Int) (0:Int)) (Zo.mk (3:Int) (3:Int) (0:Int)) (by(try simp only[bs]at a);(simp only[bs];omega)))⟩
def Zo.dvR(h:Zo):List DV:=[.sc (.int .i64 h.K),.sc (.int .i64 h.length),.sc (.int .u32 h.map)]
def G6(hd:Zo):Z3:=.box 31 [nI hd.K,nI hd.length,u32 hd.map]
def Zg.dvR(x:Zg):List DV:=[Ze x.j.C.pw,Ze x.j.C.pg,.sl 1 (x.j.W.map wD),.sl 4 (x.j.P.map Z0.dv),Ze x.j.S,Ze x.j.B,.sl 1 (x.G.map wD),.sl 1 (x.E.map wD)]
def Z6Y{x:Zg}(o:R2 x)(hd:Zo)(hm:0<=hd.map/\hd.map<=4294967295):GP 12 [x.j.av,Z2 x.G,Z2 x.E,hd.av] O (.tu [(BS x.j x.G x.E hd).1.av,nI (BS x.j x.G x.E hd).2]) []:=
 Zbv _ _ _ _ ⟨Zch _ _ _ o.hw o.sl o.kl o.su o.ku⟩ o.hw hm o.sl o.kl o.su o.ku
def Z8g(r:E8)(h1:r.j.W.length<=1048576)(h2:r.j.P.length<=1048576)(h3:r.G.length<=1048576)(h4:r.E.length<=1048576):GP 14 [r.av,r.av] M (bL M) []:=by exact gF [] func14 (fO 25)<|Fc 9 (@ZhQ r.j r.j oq oq)<|FcG 15 (La (r.j=r.j)) (λa=>by(try simp only[bs]at a);exact@Z9p r.G aa)<|FcG 22 (La (r.j=r.j)&&M) (λa=>by(try simp only[bs]at a);exact@Z9p r.E aa)<|Fbs ((La (r.j=r.j)&&M&&M&&r.addr==r.addr&&r.coll==r.coll&&(r.rep.copied==r.rep.copied&&(r.rep.kept==r.rep.kept&&(r.rep.filled==r.rep.filled&&(r.rep.freed==r.rep.freed&&(r.rep.cleared==r.rep.cleared&&r.rep.steps==r.rep.steps))))))=M) Fz
def Z0t(l:List Zg)(hd:Zo)(i:Nat)(x:Zg)(T:Tape)(xs:List Zo)(k:Nat):Tg:=⟨tm 111 [(11,.pt 8011 0 0),(12,bL O),(14,.pt 32036 0 0),(17,.pt 72017 0 0),(56,.ow 40046),(57,nI l.length),(58,nI i),(71,.ow 80071),(72,nI 3),(73,nI k)],[(80071,.arr 31 3 (xs.map Zo.dvR)),(32036,T.b),(72017,.box 33 x.cells),(40046,.arr 33 8 (l.map Zg.dvR)),(8011,G6 hd)],11⟩
def Zkb(l:List Zg)(hd:Zo)(i:Nat)(x:Zg)(T:Tape)(xs:List Zo)(k:Nat)(o:R2 x)(hx:xs.length=3)(hm:0<=(xs.getD k Lc).map/\(xs.getD k Lc).map<=4294967295)(hk:k<3):CP (Zn f3 2) (Z0t l hd i x T xs k).st .nrm (Z0t l hd i x T xs (k+1)).st:=by
 have hw:=o.hw;have sl:=o.sl;have kl:=o.kl;have su:=o.su;have ku:=o.ku;have q:=Z8P (hd:=xs.getD k Lc) hw hm sl kl;let y1:=xs.getD k Lc;let y0:=BS x.j x.G x.E y1;exact sF [] [] (Fh 76 [.el y1.dvR] (Ftb 74 (La ((k:Int)<3)) (Fa (by(simp only[Lk];omega):0<=(k:Int)/\(k:Int).toNat<(Lf Zo.dvR xs).length) (Fa (by exact ZT oq:(Lf Zo.dvR xs)[(k:Int).toNat]?=Ld y1.dvR) (Fc 85 (@Z6Y x aa y1 aa) (Fc 96 (@Z5p x.j x.G x.E y1 aa aa aa aa aa aa) (FcG 105 (!y0.2 != y0.2) (λhg=>by(try simp only[bs]at hg);exact@Z8g (y0.1) oq oq oq oq) (Ffs 107 (y0.2 != y0.2||O) (Fx 108 k Fz)))))))))
def Zkv l(hd:Zo) i x T xs:CP (Zn f3 2) (Z0t l hd i x T xs 3).st (.ext 2) (Tg.st ⟨tm 111 [(11,.pt 8011 0 0),(12,bL O),(14,.pt 32036 0 0),(17,.pt 72017 0 0),(56,.ow 40046),(57,nI l.length),(58,nI i)],[(32036,T.b),(72017,.box 33 x.cells),(40046,.arr 33 8 (l.map Zg.dvR)),(8011,G6 hd)],11⟩):=by exact sF [] [] Fz
def ZaK(l:List Zg)(hd:Zo)(i:Nat) x(T:Tape)(xs:List Zo)(o:R2 x)(c:xs.length=3)(b:∀k,k<3->0<=(xs.getD k Lc).map/\(xs.getD k Lc).map<=4294967295)  := Bs (S:=λk=>(Z0t l hd i x T xs k).st) 3 (by kernel_rfl) (λk a=>Zkb l hd i x T xs k o c (b k a) a) (Zkv l hd i x T xs)
def rqA(l:List Zg)(t:Tape)(hd:Zo)(i:Nat):Tg:=⟨tm 111 [(11,.pt 8011 0 0),(12,bL O),(14,.pt 32036 0 0),(56,.ow 40046),(57,nI l.length),(58,nI i)],[(40046,.arr 33 8 (l.map Zg.dvR)),(32036,(Bp l t i).b),(8011,G6 hd)],8⟩
def Zfu(l:List Zg) t(hd:Zo)(hl:l.length<=4)(n:∀x∈l,R2 x)(m:C9 t)(g:t.at'<=4)(j:0<=hd.map/\hd.map<=4294967295)(i:Nat)(e:i<l.length):CP (Zn f3 0) (rqA l t hd i).st .nrm (rqA l t hd (i+1)).st:=by
 have o:=n (l.getD i Lc) (by rw[Ll,Lm e];exact Ln e);obtain⟨p,ka⟩:=Z24 l m g i oq;have f:=Z1S (Bp l t i) (l.getD i Lc).j.C;have k1:C9 ((Bp l t i).headerGT (l.getD i Lc).j.C):=G0 p f.2.2 oq oq;have c:=Z8c (Bp l t i) (l.getD i Lc).j.C;have d:∀(z:Int) (k:Nat),k<3->0<=(([hd,(Bp l t i).headerG (l.getD i Lc).j.C,⟨3,z,0⟩]:List Zo).getD k Lc).map/\(([hd,(Bp l t i).headerG (l.getD i Lc).j.C,⟨3,z,0⟩]:List Zo).getD k Lc).map<=4294967295:=λz k h=>by
  match k,h with|0,_=>exact j|1,_=>exact c|2,_=>exact⟨by simp,by simp⟩
 let a:=l.getD i Lc;let b:=(Bp l t i).headerGT a.j.C;exact sF [] []<|Fh 61 [.el a.dvR]<|Fh 72 [.int (↑(0+1+1+1):Int)]<|Ftb 59 (La ((i:Int)<(l.length:Int)))<|Fa (by(simp only[Lk];omega):0<=(i:Int)/\(i:Int).toNat<(Lf Zg.dvR l).length)<|Fa (ZT oq:(Lf Zg.dvR l)[(i:Int).toNat]?=Ld a.dvR)<|Fbr 67 [32036] (@Z9z (Bp l t i) (a.j.C) aa oq)<|Fbr 69 [32036] (@Gf b (70) aa)<|Fs 71 (Lf Zo.dvR [hd,(Bp l t i).headerG a.j.C,Zo.mk 3 (b.nextG 70) 0])<|Fr (↑(Lf Zo.dvR [hd,(Bp l t i).headerG a.j.C,Zo.mk (3:Int) (b.nextG (70:Int)) (0:Int)]).length:Int)<|Fu (@ZaK l hd i a (b.step 70) ([hd,(Bp l t i).headerG a.j.C,Zo.mk 3 (b.nextG 70) 0]) aa (by rfl) (by exact d _))<|Fx 109 i Fz
def ZaL l t(hd:Zo):CP (Zn f3 0) (rqA l t hd l.length).st (.ext 0) (Tg.st ⟨tm 111 [(12,bL O)],[],8⟩):=by exact sF [] []<|Ffb 59 (La ((l.length:Int)<(l.length:Int))) Fz
def Ziw(l:List Zg) t(hd:Zo)(hl:l.length<=4)(e:∀x∈l,R2 x)(d:C9 t)(a:t.at'<=4)(c:0<=hd.map/\hd.map<=4294967295):CP (Zl f3 0) (Tg.st ⟨tm 111 [(11,.pt 8011 0 0),(12,bL O),(14,.pt 32036 0 0),(56,.ow 40046),(57,nI l.length),(58,nI 0)],[(40046,.arr 33 8 (l.map Zg.dvR)),(32036,t.b),(8011,G6 hd)],8⟩) .nrm (Tg.st ⟨tm 111 [(12,bL O)],[],8⟩):=
 Bs (S:=λi=>(rqA l t hd i).st) l.length kr (λi b=>Zfu l t hd hl e d a c i b) (ZaL l t hd)
def PI(l:List Zg)(hd:Zo)(i:Nat)(x:Zg)(T:Tape)(xs:List Zo)(k:Nat):Tg:=⟨tm 111 [(11,.pt 8011 0 0),(12,bL O),(14,.pt 32036 0 0),(17,.pt 80017 0 0),(56,.ow 56055),(57,nI l.length),(58,nI i),(71,.ow 88071),(72,nI 3),(73,nI k)],[(88071,.arr 31 3 (xs.map Zo.dvR)),(32036,T.b),(80017,.box 33 x.cells),(56055,.arr 33 8 (l.map Zg.dvR)),(8011,G6 hd)],12⟩
def ZbM(l:List Zg)(hd:Zo)(i:Nat)(x:Zg)(T:Tape)(xs:List Zo)(k:Nat)(o:R2 x)(hx:xs.length=3)(hm:0<=(xs.getD k Lc).map/\(xs.getD k Lc).map<=4294967295)(hk:k<3):CP (Zn f3 2) (PI l hd i x T xs k).st .nrm (PI l hd i x T xs (k+1)).st:=by
 have hw:=o.hw;have sl:=o.sl;have kl:=o.kl;have su:=o.su;have ku:=o.ku;have q:=Z8P (hd:=xs.getD k Lc) hw hm sl kl;let y1:=xs.getD k Lc;let y0:=BS x.j x.G x.E y1;exact sF [] [] (Fh 76 [.el y1.dvR] (Ftb 74 (La ((k:Int)<3)) (Fa (by(simp only[Lk];omega):0<=(k:Int)/\(k:Int).toNat<(Lf Zo.dvR xs).length) (Fa (by exact ZT oq:(Lf Zo.dvR xs)[(k:Int).toNat]?=Ld y1.dvR) (Fc 85 (@Z6Y x aa y1 aa) (Fc 96 (@Z5p x.j x.G x.E y1 aa aa aa aa aa aa) (FcG 105 (!y0.2 != y0.2) (λhg=>by(try simp only[bs]at hg);exact@Z8g (y0.1) oq oq oq oq) (Ffs 107 (y0.2 != y0.2||O) (Fx 108 k Fz)))))))))
def Ze3 l(hd:Zo) i x T xs:CP (Zn f3 2) (PI l hd i x T xs 3).st (.ext 2) (Tg.st ⟨tm 111 [(11,.pt 8011 0 0),(12,bL O),(14,.pt 32036 0 0),(17,.pt 80017 0 0),(56,.ow 56055),(57,nI l.length),(58,nI i)],[(32036,T.b),(80017,.box 33 x.cells),(56055,.arr 33 8 (l.map Zg.dvR)),(8011,G6 hd)],12⟩):=by exact sF [] [] Fz
def Zfg(l:List Zg)(hd:Zo)(i:Nat) x(T:Tape)(xs:List Zo)(o:R2 x)(c:xs.length=3)(b:∀k,k<3->0<=(xs.getD k Lc).map/\(xs.getD k Lc).map<=4294967295)  := Bs (S:=λk=>(PI l hd i x T xs k).st) 3 (by kernel_rfl) (λk a=>ZbM l hd i x T xs k o c (b k a) a) (Ze3 l hd i x T xs)
def rqB(l:List Zg)(t:Tape)(hd:Zo)(i:Nat):Tg:=⟨tm 111 [(11,.pt 8011 0 0),(12,bL O),(14,.pt 32036 0 0),(56,.ow 56055),(57,nI l.length),(58,nI i)],[(56055,.arr 33 8 (l.map Zg.dvR)),(32036,(Bp l t i).b),(8011,G6 hd)],9⟩
def ZgU(l:List Zg) t(hd:Zo)(hl:l.length<=4)(n:∀x∈l,R2 x)(m:C9 t)(g:t.at'<=4)(j:0<=hd.map/\hd.map<=4294967295)(i:Nat)(e:i<l.length):CP (Zn f3 0) (rqB l t hd i).st .nrm (rqB l t hd (i+1)).st:=by
 have o:=n (l.getD i Lc) (by rw[Ll,Lm e];exact Ln e);obtain⟨p,ka⟩:=Z24 l m g i oq;have f:=Z1S (Bp l t i) (l.getD i Lc).j.C;have k1:C9 ((Bp l t i).headerGT (l.getD i Lc).j.C):=G0 p f.2.2 oq oq;have c:=Z8c (Bp l t i) (l.getD i Lc).j.C;have d:∀(z:Int) (k:Nat),k<3->0<=(([hd,(Bp l t i).headerG (l.getD i Lc).j.C,⟨3,z,0⟩]:List Zo).getD k Lc).map/\(([hd,(Bp l t i).headerG (l.getD i Lc).j.C,⟨3,z,0⟩]:List Zo).getD k Lc).map<=4294967295:=λz k h=>by
  match k,h with|0,_=>exact j|1,_=>exact c|2,_=>exact⟨by simp,by simp⟩
 let a:=l.getD i Lc;let b:=(Bp l t i).headerGT a.j.C;exact sF [] []<|Fh 61 [.el a.dvR]<|Fh 72 [.int (↑(0+1+1+1):Int)]<|Ftb 59 (La ((i:Int)<(l.length:Int)))<|Fa (by(simp only[Lk];omega):0<=(i:Int)/\(i:Int).toNat<(Lf Zg.dvR l).length)<|Fa (ZT oq:(Lf Zg.dvR l)[(i:Int).toNat]?=Ld a.dvR)<|Fbr 67 [32036] (@Z9z (Bp l t i) (a.j.C) aa oq)<|Fbr 69 [32036] (@Gf b (70) aa)<|Fs 71 (Lf Zo.dvR [hd,(Bp l t i).headerG a.j.C,Zo.mk 3 (b.nextG 70) 0])<|Fr (↑(Lf Zo.dvR [hd,(Bp l t i).headerG a.j.C,Zo.mk (3:Int) (b.nextG (70:Int)) (0:Int)]).length:Int)<|Fu (@Zfg l hd i a (b.step 70) ([hd,(Bp l t i).headerG a.j.C,Zo.mk 3 (b.nextG 70) 0]) aa (by rfl) (by exact d _))<|Fx 109 i Fz
def ZdD l t(hd:Zo):CP (Zn f3 0) (rqB l t hd l.length).st (.ext 0) (Tg.st ⟨tm 111 [(12,bL O)],[],9⟩):=by exact sF [] []<|Ffb 59 (La ((l.length:Int)<(l.length:Int))) Fz
def Zcw(l:List Zg) t(hd:Zo)(hl:l.length<=4)(e:∀x∈l,R2 x)(d:C9 t)(a:t.at'<=4)(c:0<=hd.map/\hd.map<=4294967295):CP (Zl f3 0) (Tg.st ⟨tm 111 [(11,.pt 8011 0 0),(12,bL O),(14,.pt 32036 0 0),(56,.ow 56055),(57,nI l.length),(58,nI 0)],[(56055,.arr 33 8 (l.map Zg.dvR)),(32036,t.b),(8011,G6 hd)],9⟩) .nrm (Tg.st ⟨tm 111 [(12,bL O)],[],9⟩):=
 Bs (S:=λi=>(rqB l t hd i).st) l.length kr (λi b=>ZgU l t hd hl e d a c i b) (ZdD l t hd)
theorem ZdF(tape odd strong weak:List Int)(hd:Zo)(ho:odd.length≤140737488355328)(hm:0≤hd.map∧hd.map≤4294967295)(hs:CR strong)(sl:strong.length≤50)(hk:CR weak)(kl:weak.length≤50):CSpec Tryz.prog (Zl Tryz.f3 0) (Tg.st ⟨tm 111 [(11,.pt 8011 0 0),(12,bL false),(14,.pt 32036 0 0),(56,.ow 40046),(57,nI 3),(58,nI 0)],[(40046,.arr 33 8 ((N8 (B1 tape) ⟨odd,0⟩ strong weak).map Zg.dvR)),(32036,((B1 tape).spoilT ⟨odd,0⟩).b),(8011,G6 hd)],8⟩) .nrm (Tg.st ⟨tm 111 [(12,bL false)],[],8⟩):=by
 have ht:C9 ⟨odd,0⟩:=by simp[C9];omega
 obtain⟨t1,t2⟩:=Z6N (B1 tape) ⟨odd,0⟩ ht (by show(0:Int)≤800000;omega)
 exact Ziw (N8 (B1 tape) ⟨odd,0⟩ strong weak) _ hd (by simp[N8]) ((Z8y tape odd strong weak hs sl hk kl)) t1 (by simp only at t2;omega) hm
theorem Zki(raw:Heap)(tape odd strong weak:List Int)(hd:Zo)(ho:odd.length≤140737488355328)(hm:0≤hd.map∧hd.map≤4294967295)(hs:CR strong)(sl:strong.length≤50)(hk:CR weak)(kl:weak.length≤50)(hw:Zz raw.W):CSpec Tryz.prog (Zl Tryz.f3 0) (Tg.st ⟨tm 111 [(11,.pt 8011 0 0),(12,bL false),(14,.pt 32036 0 0),(56,.ow 56055),(57,nI 4),(58,nI 0)],[(56055,.arr 33 8 ((N8 (B1 tape) ⟨odd,0⟩ strong weak++[(⟨raw,strong,weak⟩:Zg)]).map Zg.dvR)),(32036,((B1 tape).spoilT ⟨odd,0⟩).b),(8011,G6 hd)],9⟩) .nrm (Tg.st ⟨tm 111 [(12,bL false)],[],9⟩):=by
 have ht:C9 ⟨odd,0⟩:=by simp[C9];omega
 obtain⟨t1,t2⟩:=Z6N (B1 tape) ⟨odd,0⟩ ht (by show(0:Int)≤800000;omega)
 exact Zcw (N8 (B1 tape) ⟨odd,0⟩ strong weak++[(⟨raw,strong,weak⟩:Zg)]) _ hd (by simp[N8]) (fun x hx=>by
  rcases List.mem_append.1 hx with hx|hx
  ·exact Z8y tape odd strong weak hs sl hk kl x hx
  ·rw[List.mem_singleton.1 hx]
   exact⟨hw,by simp only;omega,by simp only;omega,hs,hk⟩) t1 (by simp only at t2;omega) hm
def Zfn(e:Heap)(a d b odd:List Int)(hd:Zo)(hw:Zz e.W)(_:a.length<=140737488355328)(hr:CR a)(_:d.length<=140737488355328)(h:CR d)(h1:b.length<=140737488355328)(h2:odd.length<=140737488355328)(hm:0<=hd.map/\hd.map<=4294967295):GP 3 [e.av,Z2 a,Z2 d,ZG b,ZG odd,hd.av] M (bL M) []:=by
 have f:=Z9x b;have i:=f.so;have ht:C9 ⟨odd,0⟩:=by simp[C9];omega
 have k:∀j,j<(B1 b).j.P.length->-1099511627776<=((B1 b).j.P.getD j Lc).U/\((B1 b).j.P.getD j Lc).U<=1099511627776:=λj g=>by(have:=f.us j g;omega)
 by_cases hl:a.length<=50;by_cases hk:d.length<=50;by_cases c:e.W.length<=5000/\e.P.length<=100;exact gF [] func3 []<|Fh 48 [.call M (bL (La (e.W.length<=5000/\e.P.length<=100))) [],.br M]<|Fh 57 [.int (↑(0+1+1+1+1):Int)]<|Fl 25 wD a<|FlG 29 (!decide (50<(a.length:Int))) wD d<|Ffb 31 (La (50<(a.length:Int))||La (50<(d.length:Int)))<|Fc 33 (@Z5A b aa)<|Fbr 40 [32036] (@Z4C (B1 b) (Tape.mk odd 0) aa aa (by(simp only[bs];omega)) aa)<|Fs 46 (Lf Zg.dvR [B1 b,(B1 b).spoil (Tape.mk odd 0),Zg.mk (B1 b).j a d])<|Fa (@Z7k e)<|Fb (La (e.W.length<=5000/\e.P.length<=100)=M)<|Fs 54 (Lf Zg.dvR [Zg.mk e a d])<|Fa (by simp[*]:(Lf Zg.dvR [B1 b,(B1 b).spoil (Tape.mk odd 0),Zg.mk (B1 b).j a d]).length+(Lf Zg.dvR [Zg.mk e a d]).length<=2^30)<|Fs 55 (Lf Zg.dvR [B1 b,(B1 b).spoil (Tape.mk odd 0),Zg.mk (B1 b).j a d,Zg.mk e a d])<|Fr (↑(Lf Zg.dvR [B1 b,(B1 b).spoil (Tape.mk odd (0:Int)),Zg.mk (B1 b).j a d,Zg.mk e a d]).length:Int)<|Fu (@Zki e b odd a d hd aa aa aa aa aa aa aa)<|Fc 110 (@Z8K) Fz;exact gF [] func3 []<|Fh 48 [.call M (bL (La (e.W.length<=5000/\e.P.length<=100))) [],.br O]<|Fh 57 [.int (↑(0+1+1+1):Int)]<|Fl 25 wD a<|FlG 29 (!decide (50<(a.length:Int))) wD d<|Ffb 31 (La (50<(a.length:Int))||La (50<(d.length:Int)))<|Fc 33 (@Z5A b aa)<|Fbr 40 [32036] (@Z4C (B1 b) (Tape.mk odd 0) aa aa (by(simp only[bs];omega)) aa)<|Fs 46 (Lf Zg.dvR [B1 b,(B1 b).spoil (Tape.mk odd 0),Zg.mk (B1 b).j a d])<|Fa (@Z7k e)<|Fb (La (e.W.length<=5000/\e.P.length<=100)=O)<|Fr (↑(Lf Zg.dvR [B1 b,(B1 b).spoil (Tape.mk odd (0:Int)),Zg.mk (B1 b).j a d]).length:Int)<|Fu (@ZdF b odd a d hd aa aa aa aa aa aa)<|Fc 110 (@Z8K) Fz;exact gF [] func3 []<|Fl 25 wD a<|FlG 29 (!decide (50<(a.length:Int))) wD d<|Ftb 31 (La (50<(a.length:Int))||La (50<(d.length:Int))) Fz;exact gF [] func3 []<|Fl 25 wD a<|FlG 29 (!decide (50<(a.length:Int))) wD d<|Ftb 31 (La (50<(a.length:Int))||La (50<(d.length:Int))) Fz
end Go.Proofs.YtkmnngahjnkdmaaGreat
namespace Go.Proofs.YtkmnngahjnkdmaaGreat
open Go.Sx Go.RowKit
def Zba(os:Os)(d:os.Started)(H:Type)(enc:TypeId×Value->H) :ReturnsInHanded {} Tryz.checked os 3 .any (Rows.boundRequestsSpec.pre6 enc prog f3 Rows.boundRequestsRow.domain O) (Rows.boundRequestsSpec.post enc prog f3 O M O O):=by
 refine Zc3 (C:=Tryz.checked) (tb:=4) 5 ZlZ d kr func3
  (ChangeSpec.witness6 (enc:=enc) (C:=Tryz.checked) O ⟨#[],#[.agg #[.int .i64 0,.int .i64 0,.slice Lg 0 0,.slice Lg 0 0,.int .i64 0,.int .i64 0],.slice Lg 0 0,.slice Lg 0 0,.slice Lg 0 0,.slice Lg 0 0,.agg #[.int .i64 0,.int .i64 0,.int .u32 0]],[]⟩ 8 kr kr kr kr)
  Zcf kr kr kr kr rfl (λr m=>?_) (λt s h=>?_)
 .match r,m with
  |[a0,a1,a2,a3,a4,a5],_=>rfl
 .match t,s with
  |[l0,l1,l2,l3,l4,l5],_ =>
   obtain⟨l,rfl,p⟩:=ZbJ (n:=1) (h 0 27 l0 kr rfl);obtain⟨a,rfl,b,c⟩:=Z1h (n:=3) (h 1 24 l1 kr rfl);obtain⟨g,rfl,j,k⟩:=Z1h (n:=3) (h 2 24 l2 kr rfl);obtain⟨f,rfl,i⟩:=Z9M (n:=3) (h 3 28 l3 kr rfl);obtain⟨odd,rfl,o⟩:=Z9M (n:=3) (h 4 28 l4 kr rfl);obtain⟨m,rfl,q⟩:=Zg1 (n:=3) (h 5 31 l5 kr rfl);have e:RE prog Tryz.f3.params.toList [Z8R l,[.sl 1 (a.map wD)],[.sl 1 (g.map wD)],[.sl 1 (f.map iD)],[.sl 1 (odd.map iD)],Z8j m]=[l.av,Z2 a,Z2 g,ZG f,ZG odd,m.av]:=by kernel_rfl
   exact⟨M,e▸Zfn l a g f odd m p b c j k i o q⟩
def Zil:(Rows.boundRequestsRow.inPlace==Tryz.prog.inPlace 3)=M:=by kernel_rfl
def ZkA:(Rows.boundRequestsRow.unfollowed==Tryz.prog.unfollowed 3)=M:=by kernel_rfl
def Zb6:(Rows.boundRequestsRow.recurses==Tryz.prog.recurses 3)=M:=by kernel_rfl
def Zj9:(Rows.boundRequestsRow.named==Tryz.prog.varsNamed 3)=M:=by kernel_rfl
def Zdc:joinedFacts prog 3 f3 Rows.boundRequestsSpec Rows.boundRequestsRow=M:=by unfold joinedFacts;rw[Zil,ZkA,Zb6,Zj9];kernel_rfl
theorem boundRequests_holds:Rows.BoundRequestsSaid:=
 OpenClaim.holds_of_wide 3 f3 rfl rfl rfl rfl rfl rfl rfl ⟨rfl,rfl,rfl,rfl,rfl⟩ rfl rfl rfl rfl rfl kr func3 Zdc
  (of_decide_eq_true kr) (by unfold Func.isWrapper;first|(rw[if_pos (by decide+kernel)];kernel_rfl)|(rw[if_neg (by decide+kernel)];exact⟨rfl,rfl⟩))
  (λos a H b _=>Zba os a H b)
end Go.Proofs.YtkmnngahjnkdmaaGreat
