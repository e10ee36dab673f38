/-
 The statement CollectKeeps: part 15.
 Conditions: none.
-/
import Derived.Test.YtgedmeaemofdkaaGreatChecked
import Derived.WalkKit
import Derived.Test.YtgedmeaemofdkaaGreatX14
set_option maxRecDepth 100000
set_option maxHeartbeats 2000000
set_option linter.all false
open Go.Builtin renaming zeroCells->M,nextslicecap->Lc
open Go.IntKind renaming u64->O
open Go.Value renaming int->La
open Nat renaming zero_le->Lb
namespace Go.Proofs.YtgedmeaemofdkaaGreat
open Go.RowKit
def Zd8(n:Int)(h:0<n/\n<=2097152)(w:World):Calls Tryz.prog 128 #[.slice none 0 0,.int .i64 n] w λen w'=>∃c:Nat,n<=c/\en=.returned (.slice (some ⟨w.heap.size,0,none⟩) 0 c)/\w'=(w.alloc (Obj.cells (M #[La O 0] n.toNat++M #[La O 0] (c-n.toNat)) 35)).drew:=by
 have hb:Tryz.t35.bytes=8:=by kernel_rfl
 have e:Lc n.toNat 0=n.toNat:=by unfold Lc;rw[if_pos (by omega)]
 go_enter Tryz.func128,Tryz.ntmps128
 go_wp2
 all_goals first
  |(exfalso;simp only[hb,e]at *;omega)
  |(go_ret;refine⟨_, ?_,rfl,rfl⟩;exact Int.le_trans (Int.self_le_toNat n) (Int.ofNat_le.2 (Nat.le_add_right _ _)))
def Zh4 w:Calls Tryz.prog 128 #[.slice none 0 0,.int .i64 0] w λa w'=>a=.returned (.slice none 0 0)/\w'=w:=by go_enter Tryz.func128,Tryz.ntmps128;go_wp2;all_goals (go_ret;exact⟨rfl,rfl⟩)
open Go.Sx in
def ZfA:GP 128 [.d (.sc (.slice none 0 0)),.d (.sc (.int .i64 0))] true (.ow 0) [.arr 35 1 []]:=by
 intro w Im h j d c;have e:h=#[.slice none 0 0,.int .i64 0]:=by
  obtain⟨l⟩:=h;match l,d with|[x,y],_ =>have r0:=c 0 _ x rfl rfl;have r1:=c 1 _ y rfl rfl;rw[C3 r0,C3 r1]
 rw[e];refine(Zh4 w).mono ?_;rintro en w' ⟨rfl,rfl⟩;refine⟨_,rfl,Kept.refl _ _,λk=>if k=0 then some ⟨none,1,0⟩else none,λ_=>False,λ_ q=>q.elim,λ_ q=>q.elim, ?_, ?_, ?_, ?_, ?_⟩;intro b β g a f;simp only at a;by_cases q:b=0;rw[if_pos q]at a;cases a;cases f;rw[if_neg q]at a;cases a;intro b b' β β' g a f i _;simp only at a;by_cases q:b=0;rw[if_pos q]at a;cases a;cases i;rw[if_neg q]at a;cases a;intro k β a;simp only at a;by_cases q:k=0;rw[q];decide;rw[if_neg q]at a;cases a;intro k B a;match k,a with|0,a =>cases a;exact⟨_,rfl,rfl,rfl,Lb _,λ_ q=>absurd q List.not_mem_nil,.inl ⟨rfl,rfl⟩⟩
 exact .ow (β:=⟨none,1,0⟩) rfl (Lb _) (Lb _) (.inl rfl)
open Go.Sx in
def ZfI(n:Int)(h:0<=n/\n<=2097152):GP 128 [.d (.sc (.slice none 0 0)),.d (.sc (.int .i64 n))] true (.ow 0) [.arr 35 1 []]:=by
 by_cases m:n=0;rw[m];exact ZfA;have h:0<n/\n<=2097152:=by omega
 intro w Im u z p d;have e:u=#[.slice none 0 0,.int .i64 n]:=by
  obtain⟨l⟩:=u;match l,p with|[x,y],_ =>have r0:=d 0 _ x rfl rfl;have r1:=d 1 _ y rfl rfl;rw[C3 r0,C3 r1]
 rw[e];refine(Zd8 n h w).mono ?_;rintro en w' ⟨c,hc,rfl,rfl⟩;have r:∀k,k<w.heap.size->((w.alloc (Obj.cells (M #[La O 0] n.toNat++M #[La O 0] (c-n.toNat)) 35)).drew).heap[k]?=w.heap[k]?:=λk f=>by(show(w.heap.push _)[k]?=_;rw[Array.getElem?_push_lt f,Array.getElem?_eq_getElem f])
 have m:((w.alloc (Obj.cells (M #[La O 0] n.toNat++M #[La O 0] (c-n.toNat)) 35)).drew).heap[w.heap.size]?=some (Obj.cells (M #[La O 0] n.toNat++M #[La O 0] (c-n.toNat)) 35):=by(show(w.heap.push _)[w.heap.size]?=_;simp)
 have s:w.heap.size<((w.alloc (Obj.cells (M #[La O 0] n.toNat++M #[La O 0] (c-n.toNat)) 35)).drew).heap.size:=by(show _<(w.heap.push _).size;simp)
 have hs:(M #[La O 0] n.toNat++M #[La O 0] (c-n.toNat)).size=c:=by(simp[M];omega)
 have kp:Kept (λ_=>False) w (w.alloc (Obj.cells (M #[La O 0] n.toNat++M #[La O 0] (c-n.toNat)) 35)).drew:=⟨rfl,rfl,rfl,Nat.le_of_lt s,λk f _=>r k f,λk f=>by unfold rows;rw[r k f]⟩;generalize (w.alloc (Obj.cells (M #[La O 0] n.toNat++M #[La O 0] (c-n.toNat)) 35)).drew=w' at *;refine⟨_,rfl,kp,λk=>if k=0 then some ⟨some w.heap.size,1,0⟩else none,λ_=>False,λ_ q=>q.elim,λ_ q=>q.elim, ?_, ?_, ?_, ?_, ?_⟩;intro b β g a j;simp only at a;by_cases q:b=0;rw[if_pos q]at a;cases a;cases j;exact⟨Nat.le_refl _,s,id⟩;rw[if_neg q]at a;cases a;intro b v β β' g a j _ _;simp only at a j;by_cases q:b=0;by_cases t:v=0;rw[q,t];rw[if_neg t]at j;cases j;rw[if_neg q]at a;cases a;intro k β a;simp only at a;by_cases q:k=0;rw[q];decide;rw[if_neg q]at a;cases a;intro k B a;match k,a with|0,a =>cases a;exact⟨_,rfl,rfl,rfl,Lb _,λ_ q=>absurd q List.not_mem_nil,.inr ⟨_,_,rfl,m,by simp,λi e o x q=>by simp at q⟩⟩
 exact .ow (β:=⟨some w.heap.size,1,0⟩) rfl (Lb _) (Lb _) (.inr ⟨_,rfl,rfl,by unfold rows;rw[m];exact Nat.le_of_eq ((Nat.mul_one c).trans hs.symm)⟩)
end Go.Proofs.YtgedmeaemofdkaaGreat
