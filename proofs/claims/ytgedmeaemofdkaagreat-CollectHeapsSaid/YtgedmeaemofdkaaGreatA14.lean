/-
 The statement CollectHeaps: part 14.
 Conditions: none.
-/
import Derived.Defers
import Derived.Test.YtgedmeaemofdkaaGreatChecked
import Derived.WalkKit
import Derived.Test.YtgedmeaemofdkaaGreatA13
set_option maxRecDepth 100000
set_option maxHeartbeats 2000000
set_option linter.all false
open Go.Builtin renaming zeroCells->X,nextslicecap->Lb
open Go.IntKind renaming u64->Y
open Go.Value renaming int->Z
open Option renaming none->M,some->O
open Nat renaming zero_le->La
namespace Go.Proofs.YtgedmeaemofdkaaGreat
open Go.RowKit
def Zju(n:Int)(h:0<n/\n<=2097152)(w:World):Calls Tryz.prog 128 #[.slice M 0 0,.int .i64 n] w λen w'=>∃c:Nat,n<=c/\en=.returned (.slice (O ⟨w.heap.size,0,M⟩) 0 c)/\w'=(w.alloc (Obj.cells (X #[Z Y 0] n.toNat++X #[Z Y 0] (c-n.toNat)) 35)).drew:=by
 have hb:Tryz.t35.bytes=8:=by kernel_rfl
 have e:Lb n.toNat 0=n.toNat:=by unfold Lb;rw[if_pos (by omega)]
 go_enter Tryz.func128,Tryz.ntmps128
 go_wp2
 all_goals first
  |(exfalso;simp only[hb,e]at *;omega)
  |(go_ret;refine⟨_, ?_,rfl,rfl⟩;exact Int.le_trans (Int.self_le_toNat n) (Int.ofNat_le.2 (Nat.le_add_right _ _)))
def Zd0 w:Calls Tryz.prog 128 #[.slice M 0 0,.int .i64 0] w λa w'=>a=.returned (.slice M 0 0)/\w'=w:=by go_enter Tryz.func128,Tryz.ntmps128;go_wp2;all_goals (go_ret;exact⟨rfl,rfl⟩)
open Go.Sx in
def ZdW:GP 128 [.d (.sc (.slice M 0 0)),.d (.sc (.int .i64 0))] true (.ow 0) [.arr 35 1 []]:=by
 intro w Im h j d c;have e:h=#[.slice M 0 0,.int .i64 0]:=by
  obtain⟨l⟩:=h;match l,d with|[x,y],_ =>have r0:=c 0 _ x rfl rfl;have r1:=c 1 _ y rfl rfl;rw[BV r0,BV r1]
 rw[e];refine(Zd0 w).mono ?_;rintro en w' ⟨rfl,rfl⟩;refine⟨_,rfl,Kept.refl _ _,λk=>if k=0 then O ⟨M,1,0⟩else M,λ_=>False,λ_ q=>q.elim,λ_ q=>q.elim, ?_, ?_, ?_, ?_, ?_⟩;intro b β g a f;simp only at a;by_cases q:b=0;rw[if_pos q]at a;cases a;cases f;rw[if_neg q]at a;cases a;intro b b' β β' g a f i _;simp only at a;by_cases q:b=0;rw[if_pos q]at a;cases a;cases i;rw[if_neg q]at a;cases a;intro k β a;simp only at a;by_cases q:k=0;rw[q];decide;rw[if_neg q]at a;cases a;intro k B a;match k,a with|0,a =>cases a;exact⟨_,rfl,rfl,rfl,La _,λ_ q=>absurd q List.not_mem_nil,.inl ⟨rfl,rfl⟩⟩
 exact .ow (β:=⟨M,1,0⟩) rfl (La _) (La _) (.inl rfl)
open Go.Sx in
def Zbp(n:Int)(h:0<=n/\n<=2097152):GP 128 [.d (.sc (.slice M 0 0)),.d (.sc (.int .i64 n))] true (.ow 0) [.arr 35 1 []]:=by
 by_cases m:n=0;rw[m];exact ZdW;have h:0<n/\n<=2097152:=by omega
 intro w Im u z p d;have e:u=#[.slice M 0 0,.int .i64 n]:=by
  obtain⟨l⟩:=u;match l,p with|[x,y],_ =>have r0:=d 0 _ x rfl rfl;have r1:=d 1 _ y rfl rfl;rw[BV r0,BV r1]
 rw[e];refine(Zju n h w).mono ?_;rintro en w' ⟨c,hc,rfl,rfl⟩;have r:∀k,k<w.heap.size->((w.alloc (Obj.cells (X #[Z Y 0] n.toNat++X #[Z Y 0] (c-n.toNat)) 35)).drew).heap[k]?=w.heap[k]?:=λk f=>by(show(w.heap.push _)[k]?=_;rw[Array.getElem?_push_lt f,Array.getElem?_eq_getElem f])
 have m:((w.alloc (Obj.cells (X #[Z Y 0] n.toNat++X #[Z Y 0] (c-n.toNat)) 35)).drew).heap[w.heap.size]?=O (Obj.cells (X #[Z Y 0] n.toNat++X #[Z Y 0] (c-n.toNat)) 35):=by(show(w.heap.push _)[w.heap.size]?=_;simp)
 have s:w.heap.size<((w.alloc (Obj.cells (X #[Z Y 0] n.toNat++X #[Z Y 0] (c-n.toNat)) 35)).drew).heap.size:=by(show _<(w.heap.push _).size;simp)
 have hs:(X #[Z Y 0] n.toNat++X #[Z Y 0] (c-n.toNat)).size=c:=by(simp[X];omega)
 have kp:Kept (λ_=>False) w (w.alloc (Obj.cells (X #[Z Y 0] n.toNat++X #[Z Y 0] (c-n.toNat)) 35)).drew:=⟨rfl,rfl,rfl,Nat.le_of_lt s,λk f _=>r k f,λk f=>by unfold rows;rw[r k f]⟩;generalize (w.alloc (Obj.cells (X #[Z Y 0] n.toNat++X #[Z Y 0] (c-n.toNat)) 35)).drew=w' at *;refine⟨_,rfl,kp,λk=>if k=0 then O ⟨O w.heap.size,1,0⟩else M,λ_=>False,λ_ q=>q.elim,λ_ q=>q.elim, ?_, ?_, ?_, ?_, ?_⟩;intro b β g a j;simp only at a;by_cases q:b=0;rw[if_pos q]at a;cases a;cases j;exact⟨Nat.le_refl _,s,id⟩;rw[if_neg q]at a;cases a;intro b v β β' g a j _ _;simp only at a j;by_cases q:b=0;by_cases t:v=0;rw[q,t];rw[if_neg t]at j;cases j;rw[if_neg q]at a;cases a;intro k β a;simp only at a;by_cases q:k=0;rw[q];decide;rw[if_neg q]at a;cases a;intro k B a;match k,a with|0,a =>cases a;exact⟨_,rfl,rfl,rfl,La _,λ_ q=>absurd q List.not_mem_nil,.inr ⟨_,_,rfl,m,by simp,λi e o x q=>by simp at q⟩⟩
 exact .ow (β:=⟨O w.heap.size,1,0⟩) rfl (La _) (La _) (.inr ⟨_,rfl,rfl,by unfold rows;rw[m];exact Nat.le_of_eq ((Nat.mul_one c).trans hs.symm)⟩)
end Go.Proofs.YtgedmeaemofdkaaGreat
namespace Go.Sx
def CSpec.seq{P c d s t u e}(h:CSpec P c s .nrm t)(k:CSpec P d t e u):CSpec P (.seq c d) s e u:=by intro f b g a w S;refine wp_seq (wp_mono (h f b g a w S) ?_);rintro e' j l ⟨rfl,i⟩;exact k f b g j l i
def ZkA{P:Program}{f:Nat}{fn:Func}{c:Code}{args l:List AV}{fr}{res x:AV}{ns:List Z4}{p qq:List Prop}{st}{kp:List Nat}(b:kp.Nodup)(s:P.funcs[f]?=O fn)(r:fn.body=O c)(h:CSpec P c ⟨args++List.replicate (fn.ntmps-args.length) .any,λ_=>M,1⟩ .ret st)(hl:Rh P st.tmps st.H fn.results.toList=O l)(t:MP kp st.H fr (Sd l)=O (x,p))(g:B3 p)(d:B3 (HQ x res).2)(n:(HQ x res).1=res)(k:SC kp st.H fr=O (ns,qq))(i:B3 qq):GSpec P f args fr res ns:=by intro w Im vs j m a;refine calls_of_wp s r (wp_mono (h _ _ _ _ _ (O4 j m a)) ?_);rintro e a' w' ⟨rfl,S⟩;obtain⟨v,o,q⟩:=OS b S hl t g d n k i;obtain⟨_,_,_,T⟩:=S;exact⟨T.defers,v,o,v,rfl,q⟩
def Sys.defer{Ow Im0 w0 w tmps H clk a}(S:Sys Ow Im0 w0 tmps H clk a w)(D:List Deferred):Sys ⟨Ow.p,D⟩ Im0 w0 tmps H clk {a with defers:=D} w:=by obtain⟨ρ,b,I,T⟩:=S;exact⟨ρ,b,⟨I.kept,I.inj,I.notIm,I.bnd,I.own,I.imb,I.im0,I.blk,I.fresh,I.one⟩,⟨T.size,T.tmp,rfl⟩⟩
def RD{P}{i:Nat}{l}{ops:Array Oper}{Q}{o:Oper}{a w}(c:ops[i]?=O o)(b:o.guard=M)(h:o.wp P a w (wpOps P ops Q l) Q):wpOps P ops Q (i::l) a w:=by rw[wpOps];simp only[c];rw[if_pos (by simp[Region.wanted,b])];exact .inl h
def Zfe:Code->Code|.seq _ y=>y|c=>c
def Zja:Code->Code|.seq x _=>x|c=>c
def Z4v:Nat->Code->Code|0,c=>c|n+1,c=>Z4v n (Zfe c)
def Gj(fn:Func)(n:Nat):Code:=match fn.body with|some c=>Z4v n c|none=>.skip
def Cn(fn:Func)(n:Nat):Code:=Zja (Gj fn n)
end Go.Sx
