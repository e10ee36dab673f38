/-
 The statement BoundRequests: part 12.
 Conditions: none.
-/
import Derived.Test.YtkmnngahjnkdmaaGreatChecked
import Derived.WalkKit
import Derived.Test.YtkmnngahjnkdmaaGreatE11
set_option maxRecDepth 100000
set_option maxHeartbeats 2000000
set_option linter.all false
open Option renaming some->X,none->Y,map_eq_some_iff->Ln
open Go.Builtin renaming zeroCells->Z,nextslicecap->Li
open Go.IntKind renaming u64->M
open Go.Value renaming int->O
open Nat renaming beq->La,ble->Lc,le_of_ble_eq_true->Ld,zero_le->Le,eq_of_beq_eq_true->Lh,zero_add->Lm
open List renaming getElem?_eq_getElem->Lb,getD_eq_getElem?_getD->Lf,getElem?_eq_some_iff->Lg,getElem?_map->Lj,mem_of_getElem?->Lk,not_mem_nil->Ll
namespace Go.Proofs.YtkmnngahjnkdmaaGreat
open Go.RowKit
def Zi5(n:Int)(h:0<n/\n<=2097152)(w:World):Calls Tryz.prog 75 #[.slice Y 0 0,.int .i64 n] w λen w'=>∃c:Nat,n<=c/\en=.returned (.slice (X ⟨w.heap.size,0,Y⟩) 0 c)/\w'=(w.alloc (Obj.cells (Z #[O M 0] n.toNat++Z #[O M 0] (c-n.toNat)) 44)).drew:=by
 have hb:Tryz.t44.bytes=8:=by kernel_rfl
 have e:Li n.toNat 0=n.toNat:=by unfold Li;rw[if_pos (by omega)]
 go_enter Tryz.func75,Tryz.ntmps75
 go_wp2
 all_goals first
  |(exfalso;simp only[hb,e]at *;omega)
  |(go_ret;refine⟨_, ?_,rfl,rfl⟩;exact Int.le_trans (Int.self_le_toNat n) (Int.ofNat_le.2 (Nat.le_add_right _ _)))
def ZdZ w:Calls Tryz.prog 75 #[.slice Y 0 0,.int .i64 0] w λa w'=>a=.returned (.slice Y 0 0)/\w'=w:=by go_enter Tryz.func75,Tryz.ntmps75;go_wp2;all_goals (go_ret;exact⟨rfl,rfl⟩)
open Go.Sx in
def Zbz:GP 75 [.d (.sc (.slice Y 0 0)),.d (.sc (.int .i64 0))] true (.ow 0) [.arr 44 1 []]:=by
 intro w Im h j d c;have e:h=#[.slice Y 0 0,.int .i64 0]:=by
  obtain⟨l⟩:=h;match l,d with|[x,y],_ =>have r0:=c 0 _ x rfl rfl;have r1:=c 1 _ y rfl rfl;rw[BV r0,BV r1]
 rw[e];refine(ZdZ w).mono ?_;rintro en w' ⟨rfl,rfl⟩;refine⟨_,rfl,Kept.refl _ _,λk=>if k=0 then X ⟨Y,1,0⟩else Y,λ_=>False,λ_ q=>q.elim,λ_ q=>q.elim, ?_, ?_, ?_, ?_, ?_⟩;intro b β g a f;simp only at a;by_cases q:b=0;rw[if_pos q]at a;cases a;cases f;rw[if_neg q]at a;cases a;intro b b' β β' g a f i _;simp only at a;by_cases q:b=0;rw[if_pos q]at a;cases a;cases i;rw[if_neg q]at a;cases a;intro k β a;simp only at a;by_cases q:k=0;rw[q];decide;rw[if_neg q]at a;cases a;intro k B a;match k,a with|0,a =>cases a;exact⟨_,rfl,rfl,rfl,Le _,λ_ q=>absurd q Ll,.inl ⟨rfl,rfl⟩⟩
 exact .ow (β:=⟨Y,1,0⟩) rfl (Le _) (Le _) (.inl rfl)
open Go.Sx in
def ZkB(n:Int)(h:0<=n/\n<=2097152):GP 75 [.d (.sc (.slice Y 0 0)),.d (.sc (.int .i64 n))] true (.ow 0) [.arr 44 1 []]:=by
 by_cases m:n=0;rw[m];exact Zbz;have h:0<n/\n<=2097152:=by omega
 intro w Im u z p d;have e:u=#[.slice Y 0 0,.int .i64 n]:=by
  obtain⟨l⟩:=u;match l,p with|[x,y],_ =>have r0:=d 0 _ x rfl rfl;have r1:=d 1 _ y rfl rfl;rw[BV r0,BV r1]
 rw[e];refine(Zi5 n h w).mono ?_;rintro en w' ⟨c,hc,rfl,rfl⟩;have r:∀k,k<w.heap.size->((w.alloc (Obj.cells (Z #[O M 0] n.toNat++Z #[O M 0] (c-n.toNat)) 44)).drew).heap[k]?=w.heap[k]?:=λk f=>by(show(w.heap.push _)[k]?=_;rw[Array.getElem?_push_lt f,Array.getElem?_eq_getElem f])
 have m:((w.alloc (Obj.cells (Z #[O M 0] n.toNat++Z #[O M 0] (c-n.toNat)) 44)).drew).heap[w.heap.size]?=X (Obj.cells (Z #[O M 0] n.toNat++Z #[O M 0] (c-n.toNat)) 44):=by(show(w.heap.push _)[w.heap.size]?=_;simp)
 have s:w.heap.size<((w.alloc (Obj.cells (Z #[O M 0] n.toNat++Z #[O M 0] (c-n.toNat)) 44)).drew).heap.size:=by(show _<(w.heap.push _).size;simp)
 have hs:(Z #[O M 0] n.toNat++Z #[O M 0] (c-n.toNat)).size=c:=by(simp[Z];omega)
 have kp:Kept (λ_=>False) w (w.alloc (Obj.cells (Z #[O M 0] n.toNat++Z #[O M 0] (c-n.toNat)) 44)).drew:=⟨rfl,rfl,rfl,Nat.le_of_lt s,λk f _=>r k f,λk f=>by unfold rows;rw[r k f]⟩;generalize (w.alloc (Obj.cells (Z #[O M 0] n.toNat++Z #[O M 0] (c-n.toNat)) 44)).drew=w' at *;refine⟨_,rfl,kp,λk=>if k=0 then X ⟨X w.heap.size,1,0⟩else Y,λ_=>False,λ_ q=>q.elim,λ_ q=>q.elim, ?_, ?_, ?_, ?_, ?_⟩;intro b β g a j;simp only at a;by_cases q:b=0;rw[if_pos q]at a;cases a;cases j;exact⟨Nat.le_refl _,s,id⟩;rw[if_neg q]at a;cases a;intro b v β β' g a j _ _;simp only at a j;by_cases q:b=0;by_cases t:v=0;rw[q,t];rw[if_neg t]at j;cases j;rw[if_neg q]at a;cases a;intro k β a;simp only at a;by_cases q:k=0;rw[q];decide;rw[if_neg q]at a;cases a;intro k B a;match k,a with|0,a =>cases a;exact⟨_,rfl,rfl,rfl,Le _,λ_ q=>absurd q Ll,.inr ⟨_,_,rfl,m,by simp,λi e o x q=>by simp at q⟩⟩
 exact .ow (β:=⟨X w.heap.size,1,0⟩) rfl (Le _) (Le _) (.inr ⟨_,rfl,rfl,by unfold rows;rw[m];exact Nat.le_of_eq ((Nat.mul_one c).trans hs.symm)⟩)
end Go.Proofs.YtkmnngahjnkdmaaGreat
namespace Go.Sx
def mvP(ids:List Nat)(post:List Z3)(n:Nat):List Z3:=(upto 0 n).map λk=>match E5 k ids 0 with|some j=>GL ids (post.getD j .dead)|none=>.dead
def Z7x(m p n:Nat)(ids:List Nat):Bool:=La ids.length p&&Lc m p&&Lc m n&&nodupB ids&&(upto 0 p).all (λj=>Lc (ids.getD j 0+1) n&&(La (ids.getD j 0) j||Lc m (ids.getD j 0)))&&(upto 0 n).all λk=>match E5 k ids 0 with|X _=>true|Y=>Lc (k+1) m
def MZ{P f args pre res post}(ids:List Nat) n{res2:AV}{post2:List Z3}(h:BorSpec P f args pre res post)(ok:Z7x pre.length post.length n ids=true)(hr:IK (Io ids) res=res2)(hp:mvP ids post n=post2):BorSpec P f args pre res2 post2:=by
 simp only[Z7x,Bool.and_eq_true,List.all_eq_true,Bool.or_eq_true]at ok;obtain⟨⟨⟨⟨⟨k1,k2⟩,k3⟩,k4⟩,k5⟩,k6⟩:=ok;have k1:=Lh k1;have k2:=Ld k2;have k3:=Ld k3;have k4:=Mh k4;have mem:∀{j p:Nat},j<p->j∈upto 0 p:=λ{j p} hj=>Lk (by rw[Ty _ _ _ hj,Lm]);have k5:∀j,j<post.length->ids.getD j 0<n/\(ids.getD j 0=j\/pre.length<=ids.getD j 0):=λj hj=>by(have:=k5 j (mem hj);exact⟨Ld this.1,this.2.imp Lh Ld⟩)
 have k6:∀k,k<n->E5 k ids 0=Y->k<pre.length:=λk hk e=>by(have:=k6 k (mem hk);rw[e]at this;exact Ld this)
 subst hr hp;have pl:(mvP ids post n).length=n:=by simp[mvP,Z0m]
 have pg:∀(k:Nat) (B:Z3),(mvP ids post n)[k]?=X B->k<n/\((∃j,ids[j]?=X k/\j<post.length/\B=GL ids (post.getD j .dead))\/(k<pre.length/\B=.dead)):=λk B hB=>by
  have hk:k<n:=by have:=(Lg.1 hB).1;omega
  simp only[mvP,Lj,Ty _ _ _ hk,Lm,Option.map_some,Option.some.injEq]at hB;refine⟨hk, ?_⟩;cases e:E5 k ids 0 with
  |none=>rw[e]at hB;exact .inr ⟨k6 k hk e,hB.symm⟩
  |some j =>
   rw[e]at hB;obtain⟨_,q⟩:=IR e;have q:ids[j]?=X k:=by simpa using q
   exact .inl ⟨j,q,by have:=(Lg.1 q).1;omega,hB.symm⟩
 intro w Im ρ vs hIm hsz hρ hinj hbnd hpre hargs;refine(h w Im ρ vs hIm hsz hρ hinj hbnd hpre hargs).mono ?_;rintro e w' ⟨v,rfl,hk,ρ',Im',a1,a2,a3,a4,a5,a6,a7,a8,a9⟩;let ρ2:ZM:=λk=>if k<pre.length then ρ' k else match E5 k ids 0 with|X j=>ρ' j|Y=>Y
 have hlow:∀k,k<pre.length->ρ2 k=ρ' k:=λk hk=>by simp only[ρ2,if_pos hk]
 have hat:∀(j k:Nat),ids[j]?=X k->ρ2 k=ρ' j:=λj k q=>by
  have hj:j<post.length:=by have:=(Lg.1 q).1;omega
  have e:ids.getD j 0=k:=by rw[Lf,q];rfl
  have c:=k5 j hj;rw[e]at c;by_cases hkp:k<pre.length;rw[hlow k hkp];rcases c.2 with c|c;rw[c];omega;simp only[ρ2,if_neg hkp];cases ex:E5 k ids 0 with|none=>exact absurd (Lk q) (Ds ex)|some j2 =>obtain⟨_,q2⟩:=IR ex;rw[Ad k4 q (by simpa using q2)]
 have hfrom:∀k β,ρ2 k=X β->∃j,ρ' j=X β/\k<n:=λk β hb=>by
  by_cases hkp:k<pre.length;rw[hlow k hkp]at hb;exact⟨k,hb,by omega⟩;simp only[ρ2,if_neg hkp]at hb;split at hb;rename_i j hj;obtain⟨_,q⟩:=IR hj;have q:ids[j]?=X k:=by simpa using q
  have hj:j<post.length:=by have:=(Lg.1 q).1;omega
  have:=k5 j hj;rw[Lf,q]at this;exact⟨j,hb,this.1⟩;cases hb
 have hren:∀j β,ρ' j=X β->ρ2 (ids.getD j 0)=X β:=λj β hb=>by
  have hj:=a2 j β hb;have q:ids[j]?=X (ids.getD j 0):=by rw[Lf,Lb oq];rfl
  rw[hat j _ q];exact hb
 have hlv:∀k,live (hL (mvP ids post n)) k->∃j,ids[j]?=X k/\live (hL post) j:=by(rintro k ⟨B,hB,hd⟩;obtain⟨_,⟨j,q1,q2,q3⟩|⟨_,q⟩⟩:=pg k B hB;refine⟨j,q1,post[j],Lb q2,λe=>hd ?_⟩;rw[q3,Lf,Lb q2];simp only[Option.getD_some,e,GL];exact absurd q hd)
 refine⟨v,rfl,hk,ρ2,Im',λk β hb=>?_,λk β hb=>?_,a3,a4,λk β g hb=>?_,λk β g hl hb=>?_,λk k' β β' g hl hl' hb hb' hg hg'=>?_,λk B hB=>?_, ?_⟩;rw[hlow k (hρ k β hb)];exact a1 k β hb;obtain⟨j,_,q⟩:=hfrom k β hb;rw[pl];exact q;obtain⟨j,q,_⟩:=hfrom k β hb;exact a5 j β g q;obtain⟨j,q1,q2⟩:=hlv k hl;rw[hat j k q1]at hb;exact a6 j β g q2 hb;obtain⟨j,q1,q2⟩:=hlv k hl;obtain⟨j',q1',q2'⟩:=hlv k' hl';rw[hat j k q1]at hb;rw[hat j' k' q1']at hb';have:=a7 j j' β β' g q2 q2' hb hb' hg hg';subst this;rw[q1]at q1';exact Option.some.inj q1';obtain⟨_,⟨j,q1,q2,rfl⟩|⟨q,rfl⟩⟩:=pg k B hB;obtain⟨β,m1,m2⟩:=a8 j _ (Lb q2);rw[Lf,Lb q2];exact⟨β,by rw[hat j k q1];exact m1,Z14 (λ_ h=>h) hren m2⟩;obtain⟨β,m1,_⟩:=hpre k _ (Lb q);exact⟨β,by rw[hlow k q];exact a1 k β m1,trivial⟩;obtain⟨q1,q2,q3⟩:=O6 (w:=w') (Im:=Im') (Im':=Im') hren;exact MS (λ_ h=>h) q1 q2 q3 a9
def Ri(b s:Nat)(els:List (List DV)):AV->AV|.ow k=>(match La k b with|true=>.d (.sl s els)|false=>.ow k)|.os k o n=>(match La k b with|true=>.any|false=>.os k o n)|.pt k i o=>(match La k b with|true=>.any|false=>.pt k i o)|x=>x
def TC(b s:Nat)(els:List (List DV)):Z3->Z3|.box ty cells=>.box ty (cells.map (HX (Ri b s els)))|B=>B
def NI(b s:Nat)(els:List (List DV)):List (Nat×Z3)->List (Nat×Z3)|[]=>[]|(k,B)::l=>match La k b with|true=>NI b s els l|false=>(k,TC b s els B)::NI b s els l
def Z30(b:Nat)(t:Tg):Option Tg:=match Bv t.hl b,Lc (b+1) (t.clk*8000)with|some (.arr _ s els),true=>X ⟨t.tmps.map (IK (Ri b s els)),NI b s els t.hl,t.clk⟩|_,_=>Y
theorem Z2E{b s els}:∀{l:List (Nat×Z3)} (k:Nat),Bv (NI b s els l) k=if k=b then Y else(Bv l k).map (TC b s els)
 |[],k=>by simp[NI,Bv]
 |(j,B)::l,k=>by
  have ih:=Z2E (b:=b) (s:=s) (els:=els) (l:=l) k;grind[NI,Lh,Bv,Nat.ne_of_beq_eq_false]
def Zd8{b s els}{B:Z3}(h:TC b s els B≠.dead):B≠.dead:=by rintro rfl;exact h rfl
def ZeP{b}{t t':Tg}(h:Z30 b t=X t'){Ow Im0 w0 x w}(hS:Sys Ow Im0 w0 t.st.tmps t.st.H t.st.clk x w):Sys Ow Im0 w0 t'.st.tmps t'.st.H t'.st.clk x w:=by
 unfold Z30 at h;split at h;rotate_left;cases h;rename_i ty s els hb r;cases h;have r:=Ld r;obtain⟨ρ,Im,I,T⟩:=hS;obtain⟨β,hρ,hs,hn,a7,a2,a0⟩:=I.blk b _ hb;let d:Nat->Prop:=λg=>Im g\/β.g=X g;have hi:∀g,Im g->d g:=λ_ h=>.inl h;have ow:∀{k:Nat} {v:Value},Zk ρ w Im (.ow k) v->Zk ρ w d (Ri b s els (.ow k)) v:=by
  intro k v hx;simp only[Ri];cases hk:La k b with
  |false=>cases hx with|ow f m j p=>exact .ow f m j p
  |true =>
   have e:=Lh hk;subst e;cases hx with
   |ow f m j p =>
    rw[hρ]at f;cases f;refine .d ?_;by_cases he:els=[];subst he;have:β.n=0:=by omega
    rw[this];exact .slNil _ _ _;have a8:0<els.length:=List.length_pos_iff.2 he;rcases p with p|⟨g,a,rfl,_⟩;omega;rcases a0 with⟨_,h5⟩|⟨g',cs,a1,hw,b0,hc⟩;grind;rw[a]at a1;cases a1;have a6:∀(i:Nat) (e:List DV) (o:Nat) (y:DV),els[i]?=X e->e[o]?=X y->∃u,w.cell? ⟨g,0+(i*s+o),Y⟩=X u/\CM w Im y u:=by grind[World.cell?]
    refine .sl s els ⟨g,0,Y⟩ β.n _ (λi o=>(w.cell? ⟨g,0+(i*s+o),Y⟩).getD undef) hn.symm m j a2 rfl (.inr a) ?_ ?_;grind;intro i e o y he hy;obtain⟨u,k1,k2⟩:=a6 i e o y he hy;rw[k1];exact k2.mono (Ext.refl _ _) hi
 have os:∀{k o n:Nat} {v:Value},Zk ρ w Im (.os k o n) v->Zk ρ w d (Ri b s els (.os k o n)) v:=by(intro k o n v hx;simp only[Ri];split;exact .any _;cases hx with|os f m j p h5=>exact .os f m j p h5)
 have pt:∀{k i o:Nat} {v:Value},Zk ρ w Im (.pt k i o) v->Zk ρ w d (Ri b s els (.pt k i o)) v:=by(intro k i o v hx;simp only[Ri];split;exact .any _;obtain⟨g,s,n,f,rfl⟩:=NJ hx;exact .pt f)
 have rB:∀{κ:Bi} {B:Z3},RelB ρ w Im κ B->RelB ρ w d κ (TC b s els B):=by
  intro κ B hB;cases B with|box ty cells =>obtain⟨h0,a4,g,cs,f,m,j,a5,p⟩:=hB;refine⟨by simpa using h0,a4,g,cs,f,m,by simpa using j,a5,λo x v hx hv=>?_⟩;grind[Me]|arr ty s els=>exact RelB.arr_any (by rfl) hB hi|mp ks=>exact hB|dead=>trivial
 have hH:∀k B,Bv (NI b s els t.hl) k=X B->k≠b/\∃B',Bv t.hl k=X B'/\B=TC b s els B':=by grind[Z2E,Ln]
 have c:∀k,live (Bv (NI b s els t.hl)) k->k≠b/\live t.st.H k:=by(rintro k ⟨B,f,m⟩;obtain⟨q,B',j,rfl⟩:=hH k B f;exact⟨q,B',j,Zd8 m⟩)
 have lb:live t.st.H b:=⟨_,hb,by simp⟩;refine⟨ρ,d,⟨I.kept,λk k' β β' g l1 l2=>I.inj k k' β β' g (c k l1).2 (c k' l2).2,λk κ g l q q' a=>?_,I.bnd,I.own,λg a=>?_,λg a=>?_,λk B q=>?_,λk hk q=>?_,I.one⟩,⟨by rw[T.size];simp[Tg.st],λi y v hy hv=>?_,T.defers⟩⟩;obtain⟨ne,l⟩:=c k l;rcases a with a|a;exact I.notIm k κ g l q q' a;exact ne (I.inj k b κ β g l lb q hρ q' a);rcases a with a|a;exact I.imb g a;grind;rcases a with a|a;exact I.im0 g a
 .rcases I.own b β g hρ a with⟨h,_⟩|h;all_goals grind
 obtain⟨_,B',j,rfl⟩:=hH k B q;obtain⟨κ,p,h5⟩:=I.blk k B' j;grind;rw[show({tmps:=t.tmps.map (IK (Ri b s els)),hl:=NI b s els t.hl,clk:=t.clk:Tg}.st.H k)=Bv (NI b s els t.hl) k from rfl,Z2E]at q;have a9:t.clk*8000<=k:=hk;rw[if_neg oq]at q;exact I.fresh k hk (Option.map_eq_none_iff.1 q);have a3:(t.tmps.map (IK (Ri b s els)))[i]?=X y:=hy;simp only[Lj,Ln]at a3;obtain⟨z,hz,rfl⟩:=a3;exact MS hi (λ_ _ _ _ h=>pt h) (λ_ _ _ _ h=>os h) (λ_ _ h=>ow h) (T.tmp i z v hz hv)
def CSpec.frz{P c s e}{t t':Tg} b(h:CSpec P c s e t.st)(k:Z30 b t=X t'):CSpec P c s e t'.st:=
 λf d l a w j=>Code.wp_mono (λ_ _ _ ⟨g,i⟩=>⟨g,ZeP k i⟩) (h f d l a w j)
end Go.Sx
