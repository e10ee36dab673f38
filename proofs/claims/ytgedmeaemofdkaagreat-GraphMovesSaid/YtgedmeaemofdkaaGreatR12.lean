/-
 The statement GraphMoves: part 12.
 Conditions: none.
-/
import Derived.RangeFuncFrom
import Derived.RangeFuncLeaves
import Derived.Test.YtgedmeaemofdkaaGreatR11
set_option maxRecDepth 100000
set_option maxHeartbeats 2000000
set_option linter.all false
open Option renaming some->M,none->Lc
open Bool renaming true->O,false->Lb,and_eq_true->Lx,eq_false_or_eq_true->LZ
open Inhabited renaming default->La
open List renaming map->Ld,replicate->Lg,take->Lk,mem_cons->Lm,mem_of_getElem?->Ln,not_mem_nil->Lp,range->Lq,mem_replicate->Lv,getD_eq_getElem?_getD->Lz,length_map->LA,all_eq_true->LM,getElem?_append->LN,append_nil->LS,drop->LU,map_append->LV,map_take->LW,getElem?_eq_some_iff->L2,map_drop->L3,map_set->L4,mem_map->L5,filter_append->Xe,filter_eq_self->Xf,getElem?_eq_getElem->Xg,getElem?_of_mem->Xh,length_replicate->Xi,map_nil->Xj,mem_append->Xk,mem_iff_getElem?->Xl,take_succ->Xm
open Decidable renaming decide->Le
open Go.Fence renaming wide->Lf
open Go.World renaming putObj_heap_other->Lh,putObj_size->Lt,putObj_heap_same->Lw,alloc_heap_new->L8,setRow->L9,cell?->Xs
open Go.Exit renaming inBlock->Li
open Array renaming getElem?_eq_some_iff->Lj,getElem?_append->LD,replicate->LF,size_setIfInBounds->LG,ext->LQ,getElem?_eq_getElem->Xa
open Int renaming toNat->Ll,fdiv_eq_ediv_of_nonneg->L0,toNat_natCast->L1
open Go.Obj renaming loop->Lo
open Option.some renaming injEq->Lr
open Nat renaming le_refl->Ls,lt_of_lt_of_le->LY,beq->L6,add_zero->Xn,le_trans->Xo,mul_le_mul_right->Xp,zero_mul->Xq
open Go.RowKit.Below renaming heap_alloc->Lu
open Go.IntKind renaming u32->Ly,u64->LL,i64->Xd
open Go.Oper renaming wp->LB,upon_enter->L7
open Go.Value renaming int->LC,slice->Xr
open Go.Code renaming region->LH,seq->LR,exit->Xb,ret->Xc
open Go.Deferred renaming ofValue->LI
open Go.Region renaming wanted->LO
open Go.Proofs.Tryz
namespace Go.Sx
open Go.RowKit
def Zdp{P:Program}{clk:Nat}{ops:Array Oper}{hints:List (Nat×List Hint)}{o:Oper}{t:List AV}{H:Heap}{x:Out}(h:Z8f P clk ops hints o t H=M x):∀ c,o.op≠.defer c:=by
 intro c hc;unfold Z8f Z2z Z2i act at h;rw[hc]at h;simp only at h;split at h
 .rename_i k hk;split at hk
  .cases hk
  .split at hk
   .split at hk
    .cases hk
    .cases hk
   .split at hk
    .cases hk
    .split at hk
     .cases hk
     .cases hk
 .cases h
def fen(ro:Option Nat):Fence := { Lf with round:=ro }
def Z2Y{P:Program}{ro:Option Nat}{n:Nat}{o:Oper}{a:Act}{w:World}{next:Act->World->Prop}{Q:Exit->Act->World->Prop}(hd:∀ c,o.op≠.defer c)(h:o.wp P a w next Q):o.wpIn (fen ro) n P a w next Q:=by
 refine⟨λ_ _=>trivial, ?_⟩;rw[Oper.semAt_eq _ _ _ hd];unfold LB at h;generalize (execOp a.eval o).run P w=r at h ⊢;cases r with
 | ok x w' =>
  cases x with
  | value v=>exact h
  | skip=>exact h
  | defer d=>exact h
  | enter f args=>exact⟨λh=>(by cases h),callsIn_wide.2 h⟩
  | row s args=>exact⟨λh=>(by cases h),λc cs _=>let ⟨v,w2,q,r⟩:=h c cs;⟨v,w2,q,stepsIn_wide.2 r⟩⟩
  | _=>exact h.elim
 | halt e w' =>
  cases e with
  | panic v=>exact h
  | _=>exact h.elim
def Z3p{P:Program}{Ow:Own}{Im0:Nat->Prop}{w0:World}{clk:Nat}{hints:List (Nat×List Hint)}{ops:Array Oper}{Q:Exit->Act->World->Prop}{ro:Option Nat}{n:Nat}{l2:List Nat}:∀ {l:List Nat} {tmps:List AV} {H:Heap} {a:Act} {w:World} {out:Out},
  Z6S P clk ops hints l tmps H=M out->Sys Ow Im0 w0 tmps H clk a w->allP out.ph->EqP out.eq->(∀ a' w',Sys Ow Im0 w0 out.tmps out.H clk a' w'->wpOpsIn (fen ro) n P ops Q l2 a' w')->wpOpsIn (fen ro) n P ops Q (l++l2) a w
 | [],tmps,H,a,w,out,h,hS,_,_,hQ=>by
  simp only[Z6S,Lr]at h;subst h;exact hQ a w hS
 | i::l,tmps,H,a,w,out,h,hS,hph,heq,hQ=>by
  simp only[Z6S]at h;split at h
  .cases h
  rename_i o ho;split at h
  .cases h
  rename_i x hx;split at h
  .cases h
  rename_i y hy;cases h;obtain⟨p1,p2⟩:=allP_append.1 hph;have key:=Z99 (next:=wpOpsIn (fen ro) n P ops Q (l++l2)) (Q:=Q) hx hS p1 heq.left λa' w' hS'=>Z3p hy hS' p2 heq.right hQ;simp only[List.cons_append,wpOpsIn,ho];split
  .exact Z2Y (Zdp hx) (key.1 aa)
  .rename_i hw;exact⟨λ_ _=>trivial,key.2 ((Bool.not_eq_true _).mp hw)⟩
def Z6T{P:Program}{Ow:Own}{Im0:Nat->Prop}{w0:World}{clk:Nat}{hints:List (Nat×List Hint)}{ops:Array Oper}{Q:Exit->Act->World->Prop}{ro:Option Nat}{n:Nat}{l:List Nat}{tmps:List AV}{H:Heap}{a:Act}{w:World}{out:Out}
  (h:Z6S P clk ops hints l tmps H=M out) (hS:Sys Ow Im0 w0 tmps H clk a w) (hph:allP out.ph) (heq:EqP out.eq) (hQ:∀ a' w',Sys Ow Im0 w0 out.tmps out.H clk a' w'->Q .normal a' w'):wpOpsIn (fen ro) n P ops Q l a w:=by
 have:=Z3p (ro:=ro) (n:=n) (Q:=Q) (l2:=[]) h hS hph heq hQ;rwa [LS]at this
def ZbK:Code->Bool
 | .skip=>O
 | .region _ _ d=>!d
 | .seq x y=>ZbK x&&ZbK y
 | .cond _ x y=>ZbK x&&ZbK y
 | .block _ c=>ZbK c
 | .exit _=>O
 | .ret=>O
 | _=>Lb
def CIn(P:Program)(c:Code)(s:St)(e:Ex)(t:St):Prop :=
 ∀ (ro:Option Nat) (n:Nat) (Ow:Own) (Im0:Nat->Prop) (w0:World) (a:Act) (w:World),Sys Ow Im0 w0 s.tmps s.H s.clk a w->c.wpIn (fen ro) n P (λe' a' w'=>e'=e.exit/\Sys Ow Im0 w0 t.tmps t.H t.clk a' w') a w
def ZnQ{P:Program}{hints:List (Nat×List Hint)}:∀ {c:Code} {s:St} {r:Run},ZbK c=O->runC P hints [] c s=M r->allP r.ph->EqP r.eq->CIn P c s r.e r.s:=by
 intro c;induction c with
 | skip=>intro s r _ h _ _ ro n Ow Im0 w0 a w hS;simp only[runC,Lr]at h;subst h;exact wpIn_skip ⟨rfl,hS⟩
 | region m ops dr =>
  intro s r hf h hph heq ro n Ow Im0 w0 a w hS;cases dr with
  | true=>cases hf
  | false =>
   simp only[runC]at h;split at h;rotate_left
   .cases h
   rename_i x hx;cases h;exact wpIn_region (Z6T hx hS hph heq λa' w' hS'=>⟨rfl,hS'.clk pq⟩)
 | seq x y ihx ihy =>
  intro s r hf h hph heq ro n Ow Im0 w0 a w hS;simp only[ZbK,Lx]at hf;simp only[runC]at h;split at h
  .cases h
  rename_i q hq;split at h
  .rename_i he;split at h;rotate_left
   .cases h
   rename_i q2 hq2;cases h;obtain⟨p1,p2⟩:=allP_append.1 hph;refine wpIn_seq (wpIn_mono (ihx hf.1 hq p1 heq.left ro n Ow Im0 w0 a w hS) ?_);rintro e a' w' ⟨rfl,hS'⟩;rw[he];exact ihy hf.2 hq2 p2 heq.right ro n Ow Im0 w0 a' w' hS'
  .rename_i he;cases h;refine wpIn_seq (wpIn_mono (ihx hf.1 hq hph heq ro n Ow Im0 w0 a w hS) ?_);rintro e a' w' ⟨rfl,hS'⟩;cases hqe:q.e with
   | nrm=>exact absurd hqe he
   | ext n=>exact⟨rfl,hS'⟩
   | ret=>exact⟨rfl,hS'⟩
 | cond c x y ihx ihy =>
  intro s r hf h hph heq ro n Ow Im0 w0 a w hS;simp only[ZbK,Lx]at hf;simp only[runC]at h;split at h
  .cases h
  rename_i b hb;have hv:a.eval c = .bool b:=by
   obtain⟨ρ,Im,I,T⟩:=hS;have:=Z1v T c;rw[Z7Z hb]at this;exact Z0O this
  split at h
  .split at h;rotate_left
   .cases h
   rename_i q hq;cases h;obtain⟨p1,p2⟩:=allP_cons.1 hph;exact wpIn_cond_true (by rw[hv,p1]) (ihx hf.1 hq p2 heq ro n Ow Im0 w0 a w hS)
  .split at h;rotate_left
   .cases h
   rename_i q hq;cases h;obtain⟨p1,p2⟩:=allP_cons.1 hph;exact wpIn_cond_false (by rw[hv,p1]) (ihy hf.2 hq p2 heq ro n Ow Im0 w0 a w hS)
  .split at h
   .exact wpIn_cond_true hv (ihx hf.1 h hph heq ro n Ow Im0 w0 a w hS)
   .exact wpIn_cond_false hv (ihy hf.2 h hph heq ro n Ow Im0 w0 a w hS)
 | block m c ih =>
  intro s r hf h hph heq ro n Ow Im0 w0 a w hS;simp only[runC,Zhs]at h;split at h
  .cases h
  rename_i q hq;refine wpIn_block ?_;split at h
  .rename_i k hm;split at h
   .rename_i hmn;cases h;refine wpIn_mono (ih hf hq hph heq ro n Ow Im0 w0 a w hS) ?_;rintro e a' w' ⟨rfl,hS'⟩;rw[hm];simp only[Ex.exit,Li,hmn,if_true];exact⟨by trivial,hS'⟩
   .rename_i hmn;cases h;refine wpIn_mono (ih hf hq hph heq ro n Ow Im0 w0 a w hS) ?_;rintro e a' w' ⟨rfl,hS'⟩;rw[hm];simp only[Ex.exit,Li,hmn,if_false];exact⟨by trivial,hS'⟩
  .rename_i hne;cases h;refine wpIn_mono (ih hf hq hph heq ro n Ow Im0 w0 a w hS) ?_;rintro e a' w' ⟨rfl,hS'⟩;cases hqe:r.e with
   | nrm=>exact⟨rfl,hS'⟩
   | ext k=>exact absurd hqe (hne k)
   | ret=>exact⟨rfl,hS'⟩
 | exit n=>intro s r _ h _ _ ro n Ow Im0 w0 a w hS;simp only[runC,Lr]at h;subst h;exact wpIn_exit ⟨rfl,hS⟩
 | ret=>intro s r _ h _ _ ro n Ow Im0 w0 a w hS;simp only[runC,Lr]at h;subst h;exact wpIn_ret ⟨rfl,hS⟩
 | _=>intro s r hf;cases hf
def ZbC{P:Program}(hints:List (Nat×List Hint))(ren:List (Nat×Nat))(fl:List Bool){c:Code}{s:St}{e:Ex}{t:Tg}{φ:Prop}(hφ:φ)
  (h1:oblE fl (runToR P hints [] ren c s t)=φ) (h2:lefE fl (runToR P hints [] ren c s t)=rigE fl (runToR P hints [] ren c s t)) (h3:exO (runToR P hints [] ren c s t)=M e) (hfl:ZbK c=O):CIn P c s e t.st:=by
 rw[<- h1]at hφ;obtain⟨k1,k2⟩:=Z5c hφ h2;cases hr:runToR P hints [] ren c s t with
 | none=>rw[hr]at k1;exact k1.elim
 | some r =>
  rw[hr]at k1 k2 h3;have heq:EqP r.eq:=Z8R k2;have he:r.e=e:=by simpa[exO]using h3
  unfold runToR at hr;split at hr
  .cases hr
  rename_i q hq;split at hr
  .cases hr
  rename_i s' hs';split at hr;rotate_left
  .cases hr
  rename_i l hl;cases hr;intro ro n Ow Im0 w0 a w hS;refine wpIn_mono (ZnQ hfl hq k1 heq.left ro n Ow Im0 w0 a w hS) ?_;rintro e' a' w' ⟨rfl,hS'⟩;exact⟨by rw[<- he],Zhe hl heq.right (ZbS hs' hS')⟩
def hasR(k:Nat):Code->Bool
 | .region n _ _=>L6 n k
 | .seq x y=>hasR k x||hasR k y
 | .cond _ x y=>hasR k x||hasR k y
 | .block _ c=>hasR k c
 | .loop c=>hasR k c
 | _=>Lb
def cutAt(k:Nat):Code->Code
 | .region _ _ _=>.exit 99999
 | .seq x y=>match hasR k x with
  | true=>cutAt k x
  | false=>.seq x (cutAt k y)
 | .cond c x y=>match hasR k x with
  | true=>.cond c (cutAt k x) .skip
  | false=>.cond c .skip (cutAt k y)
 | .block n c=>.block n (cutAt k c)
 | c=>c
def noX:Code->Bool
 | .seq x y=>noX x&&noX y
 | .cond _ x y=>noX x&&noX y
 | .block _ c=>noX c
 | .exit n=>!Nat.beq n 99999
 | _=>O
def okH(k:Nat):Code->Bool
 | .region n _ _=>L6 n k
 | .seq x y=>match hasR k x with
  | true=>okH k x
  | false=>noX x&&okH k y
 | .cond _ x y=>match hasR k x with
  | true=>okH k x
  | false=>okH k y
 | .block n c=>!Nat.beq n 99999&&okH k c
 | _=>Lb
def rest(P:Program)(n k:Nat):Code->(Exit->Act->World->Prop)->Act->World->Prop
 | .seq x y,Q=>match hasR k x with
  | true=>rest P n k x (Exit.then (y.wpIn Lf n P Q) Q)
  | false=>rest P n k y Q
 | .cond _ x y,Q=>match hasR k x with
  | true=>rest P n k x Q
  | false=>rest P n k y Q
 | .block m c,Q=>rest P n k c (Li m Q)
 | c,Q=>c.wpIn Lf n P Q
def ZmU{P:Program}{hints:List (Nat×List Hint)}:∀ {c:Code} {s:St} {r:Run},noX c=O->runC P hints [] c s=M r->r.e≠.ext 99999:=by
 intro c;induction c with
 | region m ops dr =>
  intro s r _ h;simp only[runC]at h;split at h
  .cases h;simp
  .cases h
 | seq x y ihx ihy =>
  intro s r hf h;simp only[noX,Lx]at hf;simp only[runC]at h;split at h
  .cases h
  rename_i q hq;split at h
  .split at h;rotate_left
   .cases h
   rename_i q2 hq2;cases h;have:=ihy hf.2 hq2;exact this
  .cases h;exact ihx hf.1 hq
 | cond c x y ihx ihy =>
  intro s r hf h;simp only[noX,Lx]at hf;simp only[runC]at h;split at h
  .cases h
  split at h
  .split at h;rotate_left
   .cases h
   rename_i q hq;cases h;have:=ihx hf.1 hq;exact this
  .split at h;rotate_left
   .cases h
   rename_i q hq;cases h;have:=ihy hf.2 hq;exact this
  .split at h
   .exact ihx hf.1 h
   .exact ihy hf.2 h
 | block m c ih =>
  intro s r hf h;simp only[runC,Zhs]at h;split at h
  .cases h
  rename_i q hq;have:=ih hf hq;split at h
  .split at h
   .cases h;simp
   .cases h;exact this
  .cases h;exact this
 | exit n =>
  intro s r hf h;simp only[runC,Lr]at h;subst h;intro e;cases e;cases hf
 | skip=>intro s r _ h;simp only[runC,Lr]at h;subst h;simp
 | label n=>intro s r _ h;simp only[runC,Lr]at h;subst h;simp
 | ret=>intro s r _ h;simp only[runC,Lr]at h;subst h;simp
 | _=>intro s r _ h;simp[runC]at h
def Zof{P:Program}{hints:List (Nat×List Hint)}{k n:Nat}:∀ {c:Code} {s:St} {r:Run},okH k c=O->runC P hints [] (cutAt k c) s=M r->allP r.ph->EqP r.eq->r.e = .ext 99999 ->
  ∀ (Q:Exit->Act->World->Prop) (Ow:Own) (Im0:Nat->Prop) (w0:World) (a:Act) (w:World),Sys Ow Im0 w0 s.tmps s.H s.clk a w->(∀ a' w',Sys Ow Im0 w0 r.s.tmps r.s.H r.s.clk a' w'->rest P n k c Q a' w')->c.wpIn Lf n P Q a w:=by
 intro c;induction c with
 | region m ops dr =>
  intro s r _ h _ _ _ Q Ow Im0 w0 a w hS hr;simp only[cutAt,runC,Lr]at h;subst h;exact hr a w hS
 | seq x y ihx ihy =>
  intro s r hf h hph heq he Q Ow Im0 w0 a w hS hr;simp only[okH]at hf;simp only[cutAt]at h;simp only[rest]at hr;cases hx:hasR k x with
  | true =>
   rw[hx]at hf h hr;exact wpIn_seq (ihx hf h hph heq he _ Ow Im0 w0 a w hS hr)
  | false =>
   rw[hx]at hf h hr;simp only[Lx]at hf;simp only[runC]at h;split at h
   .cases h
   rename_i q hq;split at h
   .rename_i hqe;split at h;rotate_left
    .cases h
    rename_i q2 hq2;cases h;obtain⟨p1,p2⟩:=allP_append.1 hph;refine wpIn_seq (wpIn_mono (wpIn_wide.2 (Z8L hq p1 heq.left Ow Im0 w0 a w hS)) ?_);rintro e a' w' ⟨rfl,hS'⟩;rw[hqe];exact ihy hf.2 hq2 p2 heq.right he Q Ow Im0 w0 a' w' hS' hr
   .cases h;exact absurd he (ZmU hf.1 hq)
 | cond c x y ihx ihy =>
  intro s r hf h hph heq he Q Ow Im0 w0 a w hS hr;simp only[okH]at hf;simp only[cutAt]at h;simp only[rest]at hr;have hv:∀ {b:Bool},asB (ev s.tmps c)=M b->a.eval c = .bool b:=λhb=>by
   obtain⟨ρ,Im,I,T⟩:=hS;have:=Z1v T c;rw[Z7Z hb]at this;exact Z0O this
  cases hx:hasR k x with
  | true =>
   rw[hx]at hf h hr;simp only[runC]at h;split at h
   .cases h
   rename_i b hb;split at h
   .split at h;rotate_left
    .cases h
    rename_i q hq;cases h;obtain⟨p1,p2⟩:=allP_cons.1 hph;exact wpIn_cond_true (by rw[hv hb,p1]) (ihx hf hq p2 heq he Q Ow Im0 w0 a w hS hr)
   .cases h;cases he
   .split at h
    .exact wpIn_cond_true (hv hb) (ihx hf h hph heq he Q Ow Im0 w0 a w hS hr)
    .cases h;cases he
  | false =>
   rw[hx]at hf h hr;simp only[runC]at h;split at h
   .cases h
   rename_i b hb;split at h
   .cases h;cases he
   .split at h;rotate_left
    .cases h
    rename_i q hq;cases h;obtain⟨p1,p2⟩:=allP_cons.1 hph;exact wpIn_cond_false (by rw[hv hb,p1]) (ihy hf hq p2 heq he Q Ow Im0 w0 a w hS hr)
   .split at h
    .cases h;cases he
    .exact wpIn_cond_false (hv hb) (ihy hf h hph heq he Q Ow Im0 w0 a w hS hr)
 | block m c ih =>
  intro s r hf h hph heq he Q Ow Im0 w0 a w hS hr;simp only[okH,Lx]at hf;simp only[cutAt,runC,Zhs]at h;simp only[rest]at hr;split at h
  .cases h
  rename_i q hq;refine wpIn_block ?_;split at h
  .split at h
   .cases h;cases he
   .cases h;exact ih hf.2 hq hph heq he _ Ow Im0 w0 a w hS hr
  .cases h;exact ih hf.2 hq hph heq he _ Ow Im0 w0 a w hS hr
 | _=>intro s r hf;cases hf
def Zek(P:Program)(k:Nat)(c:Code)(s t:St):Prop :=
 ∀ (n:Nat) (Q:Exit->Act->World->Prop) (Ow:Own) (Im0:Nat->Prop) (w0:World) (a:Act) (w:World),Sys Ow Im0 w0 s.tmps s.H s.clk a w->(∀ a' w',Sys Ow Im0 w0 t.tmps t.H t.clk a' w'->rest P n k c Q a' w')->c.wpIn Lf n P Q a w
def Z5l{P:Program}(hints:List (Nat×List Hint))(ren:List (Nat×Nat))(fl:List Bool){k:Nat}{c:Code}{s:St}{t:Tg}{φ:Prop}(hφ:φ)
  (h1:oblE fl (runToR P hints [] ren (cutAt k c) s t)=φ) (h2:lefE fl (runToR P hints [] ren (cutAt k c) s t)=rigE fl (runToR P hints [] ren (cutAt k c) s t)) (h3:exO (runToR P hints [] ren (cutAt k c) s t)=M (.ext 99999)) (hfl:okH k c=O):Zek P k c s t.st:=by
 rw[<- h1]at hφ;obtain⟨k1,k2⟩:=Z5c hφ h2;cases hr:runToR P hints [] ren (cutAt k c) s t with
 | none=>rw[hr]at k1;exact k1.elim
 | some r =>
  rw[hr]at k1 k2 h3;have heq:EqP r.eq:=Z8R k2;have he:r.e = .ext 99999:=by simpa[exO]using h3
  unfold runToR at hr;split at hr
  .cases hr
  rename_i q hq;split at hr
  .cases hr
  rename_i s' hs';split at hr;rotate_left
  .cases hr
  rename_i l hl;cases hr;intro n Q Ow Im0 w0 a w hS hrr;exact Zof hfl hq k1 heq.left he Q Ow Im0 w0 a w hS λa' w' hS'=>hrr a' w' (Zhe hl heq.right (ZbS hs' hS'))
def ZcD(k:Nat):Code->Option (Array Oper)
 | .region n ops _=>match L6 n k with
  | true=>M ops
  | false=>Lc
 | .seq x y=>match ZcD k x with
  | some o=>M o
  | none=>ZcD k y
 | .cond _ x y=>match ZcD k x with
  | some o=>M o
  | none=>ZcD k y
 | .block _ c=>ZcD k c
 | .loop c=>ZcD k c
 | _=>Lc
def rgO(fn:Func)(k:Nat):Array Oper:=match fn.body with
 | some c=>match ZcD k c with
  | some o=>o
  | none => #[]
 | none => #[]
def ZoX{s:St}{t:Tg}(h1:(wk s t).isSome=O)(h2:((wk s t).getD []).map (·.1)=((wk s t).getD []).map (·.2)){Ow:Own}{Im0:Nat->Prop}{w0:World}{a:Act}{w:World}(S:Sys Ow Im0 w0 s.tmps s.H s.clk a w):Sys Ow Im0 w0 t.st.tmps t.st.H t.st.clk a w:=by
 cases h:wk s t with
 | none=>rw[h]at h1;cases h1
 | some l=>rw[h]at h2;exact Zhe h (Z8R h2) S
def Z6m{ρ:Rho}{w:World}{Im Im2:Nat->Prop}{k t:Nat}{e:List DV}{v:Value}{β:Bi}(hβ:ρ k=M β)(r:RelB ρ w Im β (.box t (e.map .d)))(hv:Rel ρ w Im (.pt k 0 0) v)(hi:∀ g,Im g->Im2 g)(hg:∀ g,β.g=M g->Im2 g):Rel (λ_=>Lc) w Im2 (.rp e 0) v:=by
 obtain⟨g,s,n,k1,rfl⟩:=Z3G hv rfl;rw[hβ]at k1;cases k1;obtain⟨r1,r2,g2,cs,r3,r4,r5,r6,r7⟩:=r;cases r3;have:=@Rel.rp (λ_=>Lc) w Im2 e 0 ⟨g,0,Lc⟩ rfl (hg _ rfl) (λj y hy=>by
  have hj:j<e.length:=(L2.1 hy).1;have hc:j<cs.size:=by rw[r5];simpa using hj
  have h1:cs[j]? = M cs[j]:=Xa hc;have h2:=r7 j (.d y) cs[j] (by simp[hy]) h1;refine⟨cs[j], ?_, ?_⟩
  .simp only[Xs,r4];simpa using h1
  .cases h2 with
   | d h2=>exact h2.mono (Ext.refl _ _) hi)
 simpa using this
def Kept.no{w0 w:World}(h:Kept (OwA Z4s) w0 w):Kept (λ_=>False) w0 w:=h.imp λ_ q=>q.no
def Inv.empty{w:World}{Im:Nat->Prop}{clk:Nat}(hI:∀ g,Im g->g<w.heap.size)(hc:1<=clk):Inv Z4s Im w (λ_=>Lc) w Im (hOf []) clk:=by
 refine⟨Kept.refl _ _, ?_, ?_, ?_, ?_,hI,λ_ h=>.inl h, ?_,λ_ _ _=>rfl,hc,λb β _ h=>nomatch h⟩
 .intro b b' β β' g _ _ h;cases h
 .intro b β g _ h;cases h
 .intro b β g h;cases h
 .intro b β g h;cases h
 .intro b B h;cases h
def RelT.reSet{D:List Deferred}{ρ:Rho}{w:World}{Im:Nat->Prop}{tmps:List AV}{a:Act}(T:RelT D ρ w Im tmps a)(t:Nat)(y:AV)(h:∀ v,a.tmps[t]? = M v->Rel ρ w Im y v):RelT D ρ w Im (tmps.set t y) a:=by
 refine⟨by simp[T.size],λi x v h1 h2=>?_,T.defers⟩;rw[List.getElem?_set]at h1;by_cases hi:t=i
 .subst hi;simp only[if_true]at h1;split at h1
  .cases h1;exact h v h2
  .cases h1
 .simp only[hi,if_false]at h1;exact T.tmp i x v h1 h2
def RelT.pure{D:List Deferred}{ρ:Rho}{w:World}{Im:Nat->Prop}{tmps:List AV}{a:Act}(T:RelT D ρ w Im tmps a)(h:tmps.all (ZjA [])=O):RelT D (λ_=>Lc) w Im tmps a :=
 ⟨T.size,λi x v h1 h2=>Zdo (ids:=[]) (λb hb=>by simp at hb) (T.tmp i x v h1 h2) (LM.1 h _ (Ln h1)),T.defers⟩
def Zfe{P:Program}{n l:Nat}{o:Oper}{f x y:Operand}{ts:Array Nat}{a:Act}{w:World}{next:Act->World->Prop}{Q:Exit->Act->World->Prop}{args:Array Value}{R:Ending->World->Prop}(ho:o.op = .call ⟨.value f,#[x,y],ts⟩)
  (hf:a.eval f = .func (.yield l) #[] #[]) (hx : #[a.eval x,a.eval y]=args) (hY:YieldAt Lf n P l args w R) (hn:∀ e w',R e w'->∃ v,e = .returned v/\next (a.put o.dst v) w'):o.wpIn Lf (n+1) P a w next Q:=by
 obtain⟨fn,t,s,b,h1,h2⟩:=hY;refine⟨λ_ _=>trivial, ?_⟩;have hrun:(o.semAt Lf.round a.eval).run P w = .ok (.round l fn t s b) w:=by
  rw[show Lf.round=Lc from rfl,Oper.semAt_none];simp[execOp,ho,resolve,hf,LI,invoke,hx,h1]
 rw[hrun,Oper.uponIn_round];refine⟨λh=>(by cases h),h2.mono ?_⟩;rintro e w' hR;obtain⟨v,rfl,hv⟩:=hn e w' hR;exact hv
end Go.Sx
namespace Go.Proofs.YtgedmeaemofdkaaGreat
open Go.Sx
def Z35(h:Header)(hm:0<=h.map/\h.map<=4294967295):GP 120 [h.av] O (bool (Z0d h)) []:=by
 have hs:=λq=>Zp1 (n:=h.length) q;have ho:0<=h.length->h.length<=32->ones h.length=2^h.length.toNat-1:=λh0 h1=>by rw[ones,Nat.min_eq_left oq]
 rcases LZ (Le (h.K<(0:Int))||Le ((3:Int)<h.K)||Le (h.length<(0:Int))||Le ((255:Int)<h.length))with hc0 | hc0
 .have hc0p:=hc0;simp only[bs]at hc0p;refine gspec_ofE [((20:Nat),[Hint.br O])] [] [] dd func120 [Lb,Lb,Lb,Lb,Lb,Lb,Lb,Lb,Lb,O] (φ:=(Le (h.K<(0:Int))||Le ((3:Int)<h.K)||Le (h.length<(0:Int))||Le ((255:Int)<h.length))=O/\O=O/\Lb=Z0d h) ?_ kr kr;exact⟨aa,rfl,(by(simp[Z0d, *];omega))⟩
 .have hc0p:=hc0;simp only[bs]at hc0p;obtain⟨⟨⟨hc0paaa,hc0paab⟩,hc0pab⟩,hc0pb⟩:=hc0p;rcases LZ (h.K==(1:Int))with hc1 | hc1
  .have hc1p:=hc1;simp only[bs]at hc1p;refine gspec_ofE [((20:Nat),[Hint.br Lb]),((23:Nat),[Hint.br O]),((30:Nat),[Hint.int h.map]),((33:Nat),[Hint.call O (u64 (ones h.length)) []])] [] [] dd func120 [Lb,Lb,Lb,Lb,Lb,Lb,Lb,Lb,Lb,Lb,Lb,Lb,Lb,Lb,Lb,Lb,O] (φ:=(Le (h.K<(0:Int))||Le ((3:Int)<h.K)||Le (h.length<(0:Int))||Le ((255:Int)<h.length))=Lb/\Lb=Lb/\(h.K==(1:Int))=O/\O=O/\(Le (h.length<=(32:Int))=O->LL.wrap h.map=h.map)/\(Le (h.length<=(32:Int))=O->GP 170 [int h.length] O (u64 (ones h.length)) [])/\(Le (h.length<=(32:Int))&&Le (h.map<=ones h.length))=Z0d h) ?_ kr kr;exact⟨aa,rfl,aa,rfl,(by intro hg;(try simp only[bs]at hg);exact wrapU2 rfl oq oq),(λhg=>by(try simp only[bs]at hg);exact @Z6M (h.length)),(by grind[Z0d])⟩
  .have hc1p:=hc1;simp only[bs]at hc1p;refine gspec_ofE [((20:Nat),[Hint.br Lb]),((23:Nat),[Hint.br Lb])] [] [] dd func120 [Lb,Lb,Lb,Lb,Lb,Lb,Lb,Lb,Lb,O] (φ:=(Le (h.K<(0:Int))||Le ((3:Int)<h.K)||Le (h.length<(0:Int))||Le ((255:Int)<h.length))=Lb/\Lb=Lb/\(h.K==(1:Int))=Lb/\Lb=Lb/\(h.K==h.K&&(h.length==h.length&&h.map==(0:Int)))=Z0d h) ?_ kr kr;exact⟨aa,rfl,aa,rfl,(by grind[Z0d])⟩
def Z1o(h:Header)(hm:0<=h.map/\h.map<=4294967295):GP 69 [h.av] O (int (sizeH h)) []:=by
 rcases LZ (!Z0d h)with hc0 | hc0
 .have hc0p:=hc0;simp only[bs]at hc0p;refine gspec_ofE [((4:Nat),[Hint.call O (Sx.bool (Z0d h)) []]),((5:Nat),[Hint.br O])] [] [] dd func69 [O] (φ:=GP 120 [h.av] O (Sx.bool (Z0d h)) []/\(!Z0d h)=O/\O=O/\(0:Int)=sizeH h) ?_ kr kr;exact⟨(@Z35 (h) aa),aa,rfl,(by simp[sizeH, *])⟩
 .have hc0p:=hc0;simp only[bs]at hc0p;have hf3:=validH_iff.1 hc0p;obtain⟨hf3a,⟨hf3ba,⟨hf3bba,⟨hf3bbba,hf3bbbb⟩⟩⟩⟩:=hf3;refine gspec_ofE [((4:Nat),[Hint.call O (Sx.bool (Z0d h)) []]),((5:Nat),[Hint.br Lb]),((8:Nat),[Hint.int (h.length+(1:Int))])] [] [] dd func69 [O] (φ:=GP 120 [h.av] O (Sx.bool (Z0d h)) []/\(!Z0d h)=Lb/\Lb=Lb/\Xd.wrap (h.length+(1:Int))=h.length+(1:Int)/\h.length+(1:Int)=sizeH h) ?_ kr kr;exact⟨(@Z35 (h) aa),aa,rfl,(by exact wrapI2 rfl oq oq),(by simp[sizeH, *])⟩
def Z74(ws:List Int)(a n:Int)(hw:ws.length<=1048576)(h0:0<=a/\a<=18446744073709551615):GP 169 [Z02 ws,u64 a,int n] O (.tu [int (Z08 ws a n).1,bool (Z08 ws a n).2]) []:=by
 have Q0 {h_ c_ p_} (r_:Fq h_ c_ p_):=FvG 13 (!decide (a<4096)) (a-4096) (FlG 15 (!decide (a<4096)) wdv ws (FvG 16 (!decide (a<4096)) (↑ws.length) r_));rcases bb (Le (a<4096)||Le ((ws.length:Int)<a-4096))with hc0 | hc0<;>have hc0p:=hc0<;>simp only[bs]at hc0p
 .rw[show Z08 ws a n=((0:Int),Lb)from by(simp[Z08, *];omega)];exact gF [] func169 [] (Q0 (Ft 18 hc0 Fz))
 .obtain⟨hc0pa,hc0pb⟩:=hc0p;rw[show Z08 ws a n=(a-(4096:Int),Le (n<=(ws.length:Int)-(a-(4096:Int))))from by(simp[Z08, *];omega)];exact gF [] func169 [] (Q0 (Ff 18 hc0 (Fv 20 (a-4096) (Fi 21 (a-4096) (Fl 25 wdv ws (Fi 27 ((ws.length:Int)-(a-4096)) Fz))))))
def Zat(ws:List Int)(a:Int)(hw:ws.length<=1048576)(h0:0<=a/\a<=18446744073709551615):GP 163 [Z02 ws,u64 a] O (.tu [int (Z0N ws a).1,int (Z0N ws a).2]) []:=by
 have Q0 {h_ c_ p_} (r_:Fq h_ c_ p_):=Fc 11 (@Z74 ws a (1) aa aa) r_;rcases bb (!(Z08 ws a 1).2)with hc0 | hc0<;>have hc0p:=hc0<;>simp only[bs]at hc0p
 .rw[show Z0N ws a=((0:Int),(2:Int))from by grind[Z08,Z0N]];exact gF [] func163 [] (Q0 (Ft 15 hc0 Fz))
 .rw[show Z0N ws a=((Z08 ws a (1:Int)).1,(0:Int))from by grind[Z08,Z0N]];exact gF [] func163 [] (Q0 (Ff 15 hc0 Fz))
def Z8c(ws:List Int)(a:Int)(hw:ws.length<=1048576)(h0:0<=a/\a<=18446744073709551615):GP 111 [Z02 ws,u64 a] O (.tu [u64 (loadA ws a).1,int (loadA ws a).2]) []:=by
 rcases bb ((Z0N ws a).2 != 0)with hc0 | hc0<;>have hc0p:=hc0<;>simp only[bs]at hc0p
 .have hf3:=Zd6 hc0p;obtain⟨hf3a,hf3b⟩:=hf3;rw[show loadA ws a=((0:Int),(Z0N ws a).2)from by simp[loadA, *]];exact gF [] func111 [] (Fc 11 (@Zat ws a aa aa) (Ft 15 hc0 Fz))
 .have hf5:=Zdn hc0p;obtain⟨hf5a,⟨hf5ba,hf5bb⟩⟩:=hf5;rw[show loadA ws a=(ws.getD (Z0N ws a).1.toNat La,(0:Int))from by simp[loadA, *]];refine gspec_ofE [((11:Nat),[Hint.call O (AV.tu [int (Z0N ws a).1,int (Z0N ws a).2]) []]),((15:Nat),[Hint.br Lb]),((19:Nat),[Hint.el (wdv (ws.getD (Z0N ws a).1.toNat La))])] [] [] dd func111 [] (φ:=GP 163 [Z02 ws,u64 a] O (AV.tu [int (Z0N ws a).1,int (Z0N ws a).2]) []/\((Z0N ws a).2 != (0:Int))=Lb/\Lb=Lb/\(0:Int)<=(Z0N ws a).1/\(Ld wdv ws)[(Z0N ws a).1.toNat]? = M (wdv (ws.getD (Z0N ws a).1.toNat La))) ?_ kr kr;exact⟨(@Zat (ws) (a) aa aa),aa,rfl,(by exact elI oq oq oq)⟩
def upS(w:Int):Nat->Int
 | 0=>w
 | 1=>w/4
 | 2=>w/16
 | 3=>w/65536
 | _=>w/281474976710656
def upO(w:Int):List Int:=[w%4,w/4%4,w/16%4096,w/65536%4294967296]
def upL1(w:Int)(i:Nat):Tg:=⟨tm 49 [(0,u64 w),(1,Z0x [2,2,12,32]),(4,.d (.sl 0 [])),(5,int 0),(6,int ([64,62,60,48,16].getD i 0)),(12,Z0x [2,2,12,32]),(13,int 4),(14,int i)],[],20⟩
def Zl4(w:Int)(i:Nat)(hi:i<4):CP (rndF f201 0) (upL1 w i).st .nrm (upL1 w (i+1)).st:=by
 have h:i=0\/i=1\/i=2\/i=3:=by omega
 rcases h with rfl | rfl | rfl | rfl
 .refine stretchE [((16:Nat),[Hint.el (idv (2:Int))])] [] [] [] (φ:=(0:Int)<=(↑(0:Nat):Int)/\(Ld idv [(2:Int),(2:Int),(12:Int),(32:Int)])[(↑(0:Nat):Int).toNat]? = M (idv (2:Int))) ?_ kr kr kr;exact(by simp[*])
 .refine stretchE [((16:Nat),[Hint.el (idv (2:Int))])] [] [] [] (φ:=(0:Int)<=(↑(1:Nat):Int)/\(Ld idv [(2:Int),(2:Int),(12:Int),(32:Int)])[(↑(1:Nat):Int).toNat]? = M (idv (2:Int))) ?_ kr kr kr;exact(by simp[*])
 .refine stretchE [((16:Nat),[Hint.el (idv (12:Int))])] [] [] [] (φ:=(0:Int)<=(↑(2:Nat):Int)/\(Ld idv [(2:Int),(2:Int),(12:Int),(32:Int)])[(↑(2:Nat):Int).toNat]? = M (idv (12:Int))) ?_ kr kr kr;exact(by simp[*])
 .refine stretchE [((16:Nat),[Hint.el (idv (32:Int))])] [] [] [] (φ:=(0:Int)<=(↑(3:Nat):Int)/\(Ld idv [(2:Int),(2:Int),(12:Int),(32:Int)])[(↑(3:Nat):Int).toNat]? = M (idv (32:Int))) ?_ kr kr kr;exact(by simp[*])
def ZoY(w:Int):CP (rndF f201 0) (upL1 w 4).st (.ext 0) (Tg.st ⟨tm 49 [(0,u64 w),(1,Z0x [2,2,12,32]),(4,.d (.sl 0 [])),(5,int 0)],[],60⟩):=by
 exact sF [] [] Fz
def ZjI(w:Int)  := Z0b (S:=λi=>(upL1 w i).st) 4 (by kernel_rfl) (λi hi=>Zl4 w i hi) (ZoY w)
def upL2(w:Int)(i:Nat):Tg:=⟨tm 49 [(0,u64 (upS w i)),(4,.d (.sl 0 [])),(5,int 0),(9,.ow 480009),(29,Z0x [2,2,12,32]),(30,int 4),(31,int i)],[(480009,.arr 35 1 (((upO w).take i).map wdv))],60⟩
def ZkA(w:Int)(i:Nat)(h0:0<=w)(h1:w<=18446744073709551615)(hi:i<4):CP (rndF f201 2) (upL2 w i).st .nrm (upL2 w (i+1)).st:=by
 have o1:ones 2=3:=by decide
 have o2:ones 12=4095:=by decide
 have o3:ones 32=4294967295:=by decide
 have a0:bits .and .u64 w (ones 2)=w%4:=by rw[o1];exact Z3H 2 dd dd oq oq
 have a1:bits .and .u64 (w/4) (ones 2)=w/4%4:=by rw[o1];exact Z3H 2 dd dd oq oq
 have a2:bits .and .u64 (w/16) (ones 12)=w/16%4096:=by rw[o2];exact Z3H 12 dd dd oq oq
 have a3:bits .and .u64 (w/65536) (ones 32)=w/65536%4294967296:=by rw[o3];exact Z3H 32 dd dd oq oq
 have f1:(w/4).fdiv 4=w/16:=by rw[L0 _ dd];omega
 have f2:(w/16).fdiv 4096=w/65536:=by rw[L0 _ dd];omega
 have f3:(w/65536).fdiv 4294967296=w/281474976710656:=by rw[L0 _ dd];omega
 have h:i=0\/i=1\/i=2\/i=3:=by omega
 rcases h with rfl | rfl | rfl | rfl
 .exact sF [(496041,480009)] [] (Fh 33 [.el (idv 2)] (Fa (by simp[upS,upO, *]:0<=(↑(0:Nat):Int)/\(Ld idv [2,2,12,32])[(↑(0:Nat):Int).toNat]? = M (idv 2)) (Fc 38 (@Z6M (2)) (Fg 39 (by assumption:bits BinOp.and LL (upS w 0) (ones (2:Int))=upS w 0%4) (Fs 40 (Ld wdv [upS w 0%4]) (Fa (by simp[upS,upO, *]:(Ld wdv (Lk 0 (upO w))).length+(Ld wdv [upS w 0%4]).length<=2^30) (Fs 41 (Ld wdv [upS w 0%4]) (Fg 44 (by exact Z5U rfl dd:(upS w 0).fdiv (2^min (Ll 2) 64)=upS w 0/4) (Fo ((0:Int)<=2) Fz)))))))))
 .exact sF [(496041,480009)] [O] (Fh 33 [.el (idv 2)] (Fa (by simp[upS,upO, *]:0<=(↑(1:Nat):Int)/\(Ld idv [2,2,12,32])[(↑(1:Nat):Int).toNat]? = M (idv 2)) (Fc 38 (@Z6M (2)) (Fg 39 (by assumption:bits BinOp.and LL (upS w 1) (ones (2:Int))=upS w 1%4) (Fs 40 (Ld wdv [upS w 1%4]) (Fa (by simp[upS,upO, *]:(Ld wdv (Lk 1 (upO w))).length+(Ld wdv [upS w 1%4]).length<=2^30) (Fs 41 (Ld wdv [w%4,upS w 1%4]) (Fg 44 (by exact Z5U rfl dd:(upS w 1).fdiv (2^min (Ll 2) 64)=upS w 1/4) (Fo ((0:Int)<=2) (Fa (by(simp[upS,upO, *];omega):upS w 1/4=upS w (1+1)) Fz))))))))))
 .exact sF [(496041,480009)] [O] (Fh 33 [.el (idv 12)] (Fa (by simp[upS,upO, *]:0<=(↑(2:Nat):Int)/\(Ld idv [2,2,12,32])[(↑(2:Nat):Int).toNat]? = M (idv 12)) (Fc 38 (@Z6M (12)) (Fg 39 (by assumption:bits BinOp.and LL (upS w 2) (ones (12:Int))=upS w 2%4096) (Fs 40 (Ld wdv [upS w 2%4096]) (Fa (by simp[upS,upO, *]:(Ld wdv (Lk 2 (upO w))).length+(Ld wdv [upS w 2%4096]).length<=2^30) (Fs 41 (Ld wdv [w%4,w/4%4,upS w 2%4096]) (Fg 44 (by exact Z5U rfl dd:(upS w 2).fdiv (2^min (Ll 12) 64)=upS w 2/4096) (Fo ((0:Int)<=12) (Fa (by(simp[upS,upO, *];omega):upS w 2/4096=upS w (2+1)) Fz))))))))))
 .exact sF [(496041,480009)] [O] (Fh 33 [.el (idv 32)] (Fa (by simp[upS,upO, *]:0<=(↑(3:Nat):Int)/\(Ld idv [2,2,12,32])[(↑(3:Nat):Int).toNat]? = M (idv 32)) (Fc 38 (@Z6M (32)) (Fg 39 (by assumption:bits BinOp.and LL (upS w 3) (ones (32:Int))=upS w 3%4294967296) (Fs 40 (Ld wdv [upS w 3%4294967296]) (Fa (by simp[upS,upO, *]:(Ld wdv (Lk 3 (upO w))).length+(Ld wdv [upS w 3%4294967296]).length<=2^30) (Fs 41 (Ld wdv [w%4,w/4%4,w/16%4096,upS w 3%4294967296]) (Fg 44 (by exact Z5U rfl dd:(upS w 3).fdiv (2^min (Ll 32) 64)=upS w 3/4294967296) (Fo ((0:Int)<=32) (Fa (by(simp[upS,upO, *];omega):upS w 3/4294967296=upS w (3+1)) Fz))))))))))
def Zpa(w:Int):CP (rndF f201 2) (upL2 w 4).st (.ext 2) (Tg.st ⟨tm 49 [(0,u64 (w/281474976710656)),(4,.d (.sl 0 [])),(5,int 0),(9,.ow 480009)],[(480009,.arr 35 1 ((upO w).map wdv))],60⟩):=by
 exact sF [] [] Fz
def Zhw(w:Int)(h0:0<=w)(h1:w<=18446744073709551615)  := Z0b (S:=λi=>(upL2 w i).st) 4 (by kernel_rfl) (λi hi=>ZkA w i h0 h1 hi) (Zpa w)
def ZdZ(w:Int)(h0:0<=w)(h1:w<=18446744073709551615)(h:w<281474976710656):GP 201 [u64 w,Z0x [2,2,12,32]] O (.tu [Z02 (upO w),int 0]) []:=by
 exact gF [] func201 [] (Fh 9 [.own] (Fu (@ZjI w) (Fu (@Zhw w aa aa) (Ffb 47 (w/(281474976710656:Int) != 0) (Fa (by exact Z4k _:Z1p (Ld wdv (upO w))) Fz)))))
def ZkS(w:Int)(h0:0<=w)(h1:w<=18446744073709551615)(h:¬ w<281474976710656):GP 201 [u64 w,Z0x [2,2,12,32]] O (.tu [Z02 [],int 2]) []:=by
 exact gF [] func201 [] (Fh 9 [.own] (Fu (@ZjI w) (Fu (@Zhw w aa aa) (Ftb 47 (w/(281474976710656:Int) != 0) (Fnl Fz)))))
def Zc9(w:Int)(h0:0<=w):decodeH w=if w<281474976710656/\w%4=1/\Z0d (Z2S w)=O then(Z2S w,O)else(Z2b,Lb):=by
 have k1:(Z2S w).K=w/4%4:=rfl;have k2:(Z2S w).length=w/16%4096:=rfl;have k3:(Z2S w).map=w/65536%4294967296:=rfl;by_cases hv:Z0d (Z2S w)=O
 .have e:Z0a (Z2S w)=(1+4*(Z2S w).K+16*(Z2S w).length+65536*(Z2S w).map,0):=by rw[Z0a,if_pos hv]
  by_cases hc:w<281474976710656/\w%4=1
  .rw[decodeH,e,if_pos ⟨rfl,by simp only;omega⟩,if_pos ⟨hc.1,hc.2,hv⟩]
  .rw[decodeH,e,if_neg (by simp only;omega),if_neg (λq=>hc ⟨q.1,q.2.1⟩)]
 .have e:Z0a (Z2S w)=(0,1):=by rw[Z0a,if_neg hv]
  rw[decodeH,e,if_neg pq,if_neg (λq=>hv q.2.2)]
def Z1a(w:Int)(h0:0<=w)(h1:w<=18446744073709551615):GP 161 [u64 w] O (.tu [(decodeH w).1.av,bool (decodeH w).2]) []:=by
 have hm:=Z8a w h0;rw[Zc9 w h0];have u0:(upO w).getD 0 La=w%4:=rfl;have u1:(upO w).getD 1 La=w/4%4:=rfl;have u2:(upO w).getD 2 La=w/16%4096:=rfl;have u3:(upO w).getD 3 La=w/65536%4294967296:=rfl;have uL:(upO w).length=4:=rfl;have k1:(Z2S w).K=w/4%4:=rfl;have k2:(Z2S w).length=w/16%4096:=rfl;have k3:(Z2S w).map=w/65536%4294967296:=rfl;by_cases ha:w<281474976710656
 .by_cases hb:w%4=1
  .by_cases hv:Z0d (Z2S w)=O
   .rw[if_pos ⟨ha,hb,hv⟩];have hv2:Z0d ⟨w/4%4,w/16%4096,w/65536%4294967296⟩=O:=hv;exact gF [] func161 [] (Fh 17 [.el (wdv ((upO w).getD 0 La))] (Fh 23 [.el (wdv ((upO w).getD 1 La))] (Fh 27 [.el (wdv ((upO w).getD 2 La))] (Fh 31 [.el (wdv ((upO w).getD 3 La))] (Fs 9 (Ld idv [2,2,12,32]) (Fc 10 (@ZdZ w aa aa aa) (Fa (by intro hg;(try simp only[bs]at hg);exact elI oq oq oq:(!(0:Int) != 0)=O->(0:Int)<=0/\(Ld wdv (upO w))[Ll 0]? = M (wdv ((upO w).getD 0 La))) (Ffb 20 ((upO w).getD 0 La != 1) (Fa (by exact elI oq oq oq:(0:Int)<=1/\(Ld wdv (upO w))[Ll 1]? = M (wdv ((upO w).getD 1 La))) (Fi 25 ((upO w).getD 1 La) (Fa (by exact elI oq oq oq:(0:Int)<=2/\(Ld wdv (upO w))[Ll 2]? = M (wdv ((upO w).getD 2 La))) (Fi 29 ((upO w).getD 2 La) (Fa (by exact elI oq oq oq:(0:Int)<=3/\(Ld wdv (upO w))[Ll 3]? = M (wdv ((upO w).getD 3 La))) (Fg 33 (by exact Zbi oq oq:Ly.wrap ((upO w).getD 3 La)=(upO w).getD 3 La) (Fc 36 (@Z35 (Header.mk ((upO w).getD 1 La) ((upO w).getD 2 La) ((upO w).getD 3 La)) aa) (Ffs 37 (!Z0d (Header.mk ((upO w).getD 1 La) ((upO w).getD 2 La) ((upO w).getD 3 La))) Fz))))))))))))))))
   .rw[if_neg (by simp[hv])];have hv':Z0d ⟨w/4%4,w/16%4096,w/65536%4294967296⟩=Lb:=eq_false_of_ne_true hv;exact gF [] func161 [] (Fh 17 [.el (wdv ((upO w).getD 0 La))] (Fh 23 [.el (wdv ((upO w).getD 1 La))] (Fh 27 [.el (wdv ((upO w).getD 2 La))] (Fh 31 [.el (wdv ((upO w).getD 3 La))] (Fs 9 (Ld idv [2,2,12,32]) (Fc 10 (@ZdZ w aa aa aa) (Fa (by intro hg;(try simp only[bs]at hg);exact elI oq oq oq:(!(0:Int) != 0)=O->(0:Int)<=0/\(Ld wdv (upO w))[Ll 0]? = M (wdv ((upO w).getD 0 La))) (Ffb 20 ((upO w).getD 0 La != 1) (Fa (by exact elI oq oq oq:(0:Int)<=1/\(Ld wdv (upO w))[Ll 1]? = M (wdv ((upO w).getD 1 La))) (Fi 25 ((upO w).getD 1 La) (Fa (by exact elI oq oq oq:(0:Int)<=2/\(Ld wdv (upO w))[Ll 2]? = M (wdv ((upO w).getD 2 La))) (Fi 29 ((upO w).getD 2 La) (Fa (by exact elI oq oq oq:(0:Int)<=3/\(Ld wdv (upO w))[Ll 3]? = M (wdv ((upO w).getD 3 La))) (Fg 33 (by exact Zbi oq oq:Ly.wrap ((upO w).getD 3 La)=(upO w).getD 3 La) (Fc 36 (@Z35 (Header.mk ((upO w).getD 1 La) ((upO w).getD 2 La) ((upO w).getD 3 La)) aa) (Fts 37 (!Z0d (Header.mk ((upO w).getD 1 La) ((upO w).getD 2 La) ((upO w).getD 3 La))) Fz))))))))))))))))
  .rw[if_neg (by simp[hb])];exact gF [] func161 [] (Fh 17 [.el (wdv ((upO w).getD 0 La))] (Fs 9 (Ld idv [2,2,12,32]) (Fc 10 (@ZdZ w aa aa aa) (Fa (by intro hg;(try simp only[bs]at hg);exact elI oq oq oq:(!(0:Int) != 0)=O->(0:Int)<=0/\(Ld wdv (upO w))[Ll 0]? = M (wdv ((upO w).getD 0 La))) (Ftb 20 ((upO w).getD 0 La != 1) Fz)))))
 .rw[if_neg (by simp[ha])];exact gF [] func161 [] (Fh 17 [.el (wdv ([].getD 0 La))] (Fs 9 (Ld idv [2,2,12,32]) (Fc 10 (@ZkS w aa aa aa) (Fa (by intro hg;(try simp only[bs]at hg);exact elI oq oq oq:(!(2:Int) != 0)=O->(0:Int)<=0/\(Ld wdv [])[Ll 0]? = M (wdv ([].getD 0 La))) Fz))))
def Heap.dvs(h:Heap):List DV:=[.sc (.int .i64 h.C.pw),.sc (.int .i64 h.C.pg),.sl 1 (h.W.map wdv),.sl 4 (h.P.map Page.dv),.sc (.int .i64 h.S),.sc (.int .i64 h.B)]
def Zh2(h:Heap)(a:Int)(hl:h.W.length<=1048576)(h0:0<=a/\a<=18446744073709551615):GP 160 [.rp [.sc (.int .i64 h.C.pw),.sc (.int .i64 h.C.pg),.sl 1 (h.W.map wdv),.sl 4 (h.P.map Page.dv),.sc (.int .i64 h.S),.sc (.int .i64 h.B)] 0,.rp [.sc (.int .u64 a)] 0] O (u64 (loadA h.W a).1) []:=by
 exact gF [] func160 [] (Fc 9 (@Z8c h.W a aa aa) Fz)
def Z24(h:Heap)(a:Int)(hl:h.W.length<=1048576)(h0:0<=a/\a<=18446744073709551615):LP 160 [.pt 0 0 0,.pt 1 0 0] [.box 28 h.cells,.box 35 [u64 a]] (u64 (loadA h.W a).1) [.box 28 h.cells,.box 35 [u64 a]] :=
 Zk8 (e0:=h.dvs) (e1:=[.sc (.int .u64 a)]) rfl (Zh2 h a hl h0)
def Z6y(h:Heap)(a:Int)(hw:WOk h.W)(h0:0<=a/\a<=18446744073709551615):GP 109 [h.av,u64 a] O (.tu [(atH h a).1.av,int (atH h a).2]) []:=by
 have hv:=Z0J hw a;have hm:=Z2n (loadA h.W a).1 hv.1;by_cases hp:Z03 h=O
 .have po:=Z07 hp;by_cases ho:(ofA h.C a).2.2=0
  .have oo:=Z3I po.1 ho;have hz:(decodeH (loadA h.W a).1).2=O->sizeH (decodeH (loadA h.W a).1).1=(decodeH (loadA h.W a).1).1.length+1/\0<=(decodeH (loadA h.W a).1).1.length/\(decodeH (loadA h.W a).1).1.length<=255:=λe=>by
    have hv:=Z71 e;have:=validH_iff.1 hv;rw[sizeH,if_pos hv];omega
   have pp:=Z0u hp (j:=(ofA h.C a).1.toNat) oq;by_cases c3:((h.P.getD (ofA h.C a).1.toNat La).K=1\/(h.P.getD (ofA h.C a).1.toNat La).K=2)/\(ofA h.C a).2.1<(h.P.getD (ofA h.C a).1.toNat La).U/\(decodeH (loadA h.W a).1).2=O
   .have hz':=hz c3.2.2;by_cases c4:((h.P.getD (ofA h.C a).1.toNat La).K=1/\(h.P.getD (ofA h.C a).1.toNat La).U<(ofA h.C a).2.1+sizeH (decodeH (loadA h.W a).1).1)\/((h.P.getD (ofA h.C a).1.toNat La).K=2/\((ofA h.C a).2.1≠0\/sizeH (decodeH (loadA h.W a).1).1≠(h.P.getD (ofA h.C a).1.toNat La).U))
    .have e7:atH h a=(Z2b,19):=by rw[atH,if_pos hp,if_pos ho,if_pos c3,if_pos c4]
     rw[e7];have Q0 {h_ c_ p_} (r_:Fq h_ c_ p_):=Fc 15 (@Z0L h) (Ffb 16 (!Z03 h) (Fc 22 (@Z42 h.C a oq oq) (Ffb 27 ((ofA h.C a).2.2 != 0) (Fe 34 Page.dv h.P ((ofA h.C a).1) (Fbq 38 [8002,8003] (@Z24 h a oq aa) (Fc 39 (@Z1a ((loadA h.W a).1) oq oq) (Fc 43 (@Z1o ((decodeH (loadA h.W a).1).1) aa) r_)))))));rcases bb (!(decodeH (loadA h.W a).1).2||Le ((h.P.getD (ofA h.C a).1.toNat La).U<=(ofA h.C a).2.1))with hc0 | hc0<;>have hc0p:=hc0<;>simp only[bs]at hc0p
     .exact gF [] func109 [] (Fh 44 [.br O] (Q0 (Fa hc0 Fz)))
     .obtain⟨hc0pa,hc0pb⟩:=hc0p;rcases bb ((h.P.getD (ofA h.C a).1.toNat La).K==1)with hc1 | hc1<;>have hc1p:=hc1<;>simp only[bs]at hc1p
      .let y0:=h.P.getD (ofA h.C a).1.toNat La;exact gF [] func109 [] (Fh 44 [.br Lb] (Fh 76 [.br O] (Q0 (Fa hc0 (Fa hc1 (Fi 61 (y0.U-(ofA h.C a).2.1) (Ftb 53 (!decide (sizeH (decodeH (loadA h.W a).1).1<=y0.U-(ofA h.C a).2.1)) Fz)))))))
      .let y1:=h.P.getD (ofA h.C a).1.toNat La;exact gF [] func109 [] (Fh 44 [.br Lb] (Fh 53 [.br Lb] (Fh 76 [.br O] (Q0 (Fa hc0 (Fa hc1 (Fb ((y1.K==2)=O) (Ftb 63 (!((ofA h.C a).2.1==0&&sizeH (decodeH (loadA h.W a).1).1==y1.U)) Fz))))))))
    .have e7:atH h a=((decodeH (loadA h.W a).1).1,0):=by rw[atH,if_pos hp,if_pos ho,if_pos c3,if_neg c4]
     rw[e7];have Q1 {h_ c_ p_} (r_:Fq h_ c_ p_):=Fc 15 (@Z0L h) (Ffb 16 (!Z03 h) (Fc 22 (@Z42 h.C a oq oq) (Ffb 27 ((ofA h.C a).2.2 != 0) (Fe 34 Page.dv h.P ((ofA h.C a).1) (Fbq 38 [8002,8003] (@Z24 h a oq aa) (Fc 39 (@Z1a ((loadA h.W a).1) oq oq) (Fc 43 (@Z1o ((decodeH (loadA h.W a).1).1) aa) r_)))))));rcases bb (!(decodeH (loadA h.W a).1).2||Le ((h.P.getD (ofA h.C a).1.toNat La).U<=(ofA h.C a).2.1))with hc0 | hc0<;>have hc0p:=hc0<;>simp only[bs]at hc0p
     .let y2:=decodeH (loadA h.W a).1;exact gF [] func109 (fO 4) (Fh 44 [.br O] (Q1 (Fa hc0 (Fa (by grind[Z2b]:0=y2.1.K) (Fa (by grind[Z2b]:0=y2.1.length) (Fa (by grind[Z2b]:0=y2.1.map) (Fa (by grind[Z2b]:(19:Int)=0) Fz)))))))
     .obtain⟨hc0pa,hc0pb⟩:=hc0p;rcases bb ((h.P.getD (ofA h.C a).1.toNat La).K==1)with hc1 | hc1<;>have hc1p:=hc1<;>simp only[bs]at hc1p
      .let y3:=h.P.getD (ofA h.C a).1.toNat La;exact gF [] func109 [] (Fh 53 [.br O] (Fh 76 [.br Lb] (Q1 (Fa hc0 (Fa hc1 (Fi 61 (y3.U-(ofA h.C a).2.1) (Ffb 44 (!decide (sizeH (decodeH (loadA h.W a).1).1<=y3.U-(ofA h.C a).2.1)) Fz)))))))
      .let y4:=h.P.getD (ofA h.C a).1.toNat La;exact gF [] func109 [] (Fh 53 [.br Lb] (Fh 63 [.br O] (Fh 76 [.br Lb] (Q1 (Fa hc0 (Fa hc1 (Fb ((y4.K==2)=O) (Ffb 44 (!((ofA h.C a).2.1==0&&sizeH (decodeH (loadA h.W a).1).1==y4.U)) Fz))))))))
   .have e7:atH h a=(Z2b,19):=by rw[atH,if_pos hp,if_pos ho,if_neg c3]
    rw[e7];have Q2 {h_ c_ p_} (r_:Fq h_ c_ p_):=Fc 15 (@Z0L h) (Ffb 16 (!Z03 h) (Fc 22 (@Z42 h.C a oq oq) (Ffb 27 ((ofA h.C a).2.2 != 0) (Fe 34 Page.dv h.P ((ofA h.C a).1) (Fbq 38 [8002,8003] (@Z24 h a oq aa) (Fc 39 (@Z1a ((loadA h.W a).1) oq oq) (Fc 43 (@Z1o ((decodeH (loadA h.W a).1).1) aa) r_)))))));rcases bb (!(decodeH (loadA h.W a).1).2||Le ((h.P.getD (ofA h.C a).1.toNat La).U<=(ofA h.C a).2.1))with hc0 | hc0<;>have hc0p:=hc0<;>simp only[bs]at hc0p
    .exact gF [] func109 [] (Fh 44 [.br O] (Q2 (Fa hc0 Fz)))
    .obtain⟨hc0pa,hc0pb⟩:=hc0p;rcases bb ((h.P.getD (ofA h.C a).1.toNat La).K==1)with hc1 | hc1<;>have hc1p:=hc1<;>simp only[bs]at hc1p
     .have Q3 {h_ c_ p_} (r_:Fq h_ c_ p_):=Q2 (Fa hc0 (Fa hc1 (Fi 61 ((h.P.getD (ofA h.C a).1.toNat La).U-(ofA h.C a).2.1) r_)));rcases bb (!decide (sizeH (decodeH (loadA h.W a).1).1<=(h.P.getD (ofA h.C a).1.toNat La).U-(ofA h.C a).2.1))with hc2 | hc2<;>have hc2p:=hc2<;>simp only[bs]at hc2p
      .exact gF [] func109 [] (Fh 44 [.br Lb] (Fh 76 [.br O] (Q3 (Ft 53 hc2 Fz))))
      .rw[show Z2b=(decodeH (loadA h.W a).1).1 from by grind[Z2b]];let y5:=decodeH (loadA h.W a).1;exact gF [] func109 (fO 4) (Fh 53 [.br O] (Fh 76 [.br Lb] (Q3 (Ff 44 hc2 (Fr (y5.1.K) (Fr (y5.1.length) (Fr (y5.1.map) (Fa (by grind[Z2b]:(0:Int)=19) Fz))))))))
     .rcases bb ((h.P.getD (ofA h.C a).1.toNat La).K==2)with hc3 | hc3<;>have hc3p:=hc3<;>simp only[bs]at hc3p
      .rcases bb (!((ofA h.C a).2.1==0&&sizeH (decodeH (loadA h.W a).1).1==(h.P.getD (ofA h.C a).1.toNat La).U))with hc4 | hc4<;>have hc4p:=hc4<;>simp only[bs]at hc4p
       .exact gF [] func109 [] (Fh 44 [.br Lb] (Fh 53 [.br Lb] (Fh 76 [.br O] (Q2 (Fa hc0 (Fa hc1 (Fa hc3 (Ft 63 hc4 Fz))))))))
       .obtain⟨hc4pa,hc4pb⟩:=hc4p;rw[show Z2b=(decodeH (loadA h.W a).1).1 from by grind[Z2b]];let y6:=decodeH (loadA h.W a).1;exact gF [] func109 (fO 8) (Fh 53 [.br Lb] (Fh 63 [.br O] (Fh 76 [.br Lb] (Q2 (Fa hc0 (Fa hc1 (Fa hc3 (Ff 44 hc4 (Fr (y6.1.K) (Fr (y6.1.length) (Fr (y6.1.map) (Fa (by grind[Z2b]:(0:Int)=19) Fz))))))))))))
      .exact gF [] func109 [] (Fh 44 [.br Lb] (Fh 53 [.br Lb] (Fh 63 [.br Lb] (Q2 (Fa hc0 (Fa hc1 (Fa hc3 Fz)))))))
  .have e7:atH h a=(Z2b,2):=by rw[atH,if_pos hp,if_neg ho]
   have e2:(ofA h.C a).2.2=2:=by
    unfold ofA at ho ⊢;rw[if_pos po.1]at ho ⊢;split at ho
    .simp at ho
    .rename_i q;rw[if_neg q]
   rw[e7];exact gF [] func109 [O] (Fc 15 (@Z0L h) (Ffb 16 (!Z03 h) (Fc 22 (@Z42 h.C a oq oq) (Ftb 27 ((ofA h.C a).2.2 != 0) (Fr (0:Int) (Fr (0:Int) (Fr (0:Int) (Fa ‹(ofA h.C a).2.2=2› Fz))))))))
 .have e7:atH h a=(Z2b,1):=by rw[atH,if_neg hp]
  have hp':Z03 h=Lb:=by simpa using hp
  rw[e7];exact gF [] func109 [] (Fc 15 (@Z0L h) (Ftb 16 (!Z03 h) Fz))
structure Found where
 addr:Int
 hd:Header
 deriving DecidableEq,Inhabited
def Found.dv(f:Found):List DV:=[.sc (.int .u64 f.addr),.sc (.int .i64 f.hd.K),.sc (.int .i64 f.hd.length),.sc (.int .u32 f.hd.map)]
def Found.av(f:Found):AV:=.ag [u64 f.addr,int f.hd.K,int f.hd.length,u32 f.hd.map]
def asgF(fn:Func)(n:Nat):Code:=match blkF fn n with
 | .block _ (.rangeFunc _ _ x _)=>x
 | _=>.skip
def bodF(fn:Func)(n:Nat):Code:=match blkF fn n with
 | .block _ (.rangeFunc _ _ _ x)=>x
 | _=>.skip
def lstH(pre:List Found):List (Nat×Blk):=[(8020,.arr 212 4 (pre.map Found.dv)),(6,.box 206 [.ow 8020])]
def lst1(pre:List Found)(x:Found):Tg:=⟨tm 22 [(6,.pt 6 0 0),(12,x.av),(13,int 0)],lstH pre,20⟩
def lst2(pre:List Found)(x:Found):Tg:=⟨tm 22 [(6,.pt 6 0 0),(7,.pt 160007 0 0),(8,int 0)],(160007,.box 212 [u64 x.addr,int x.hd.K,int x.hd.length,u32 x.hd.map])::lstH pre,30⟩
def lstA(pre:List Found)(x:Found):CIn prog (asgF f183 0) (lst1 pre x).st .nrm (lst2 pre x).st:=by
 refine ZbC [] [] [] (φ:=True) ?_ kr kr kr kr;exact trivial
def lstB(pre:List Found)(x:Found)(hl:pre.length<=1000):CIn prog (bodF f183 0) (lst2 pre x).st .nrm (Tg.st ⟨tm 22 [(6,.pt 6 0 0),(20,.ow 8020)],lstH (pre++[x]),60⟩):=by
 refine ZbC [((19:Nat),[Hint.els (Ld Found.dv [x])]),((20:Nat),[Hint.els (Ld Found.dv (pre++[x]))])] [((248020:Nat),(8020:Nat))] [] (φ:=(Lg (1:Nat) [du64 (0:Int),dint (0:Int),dint (0:Int),DV.sc (LC Ly (0:Int))]).set ((0:Nat),Operand.tmp (18:Nat)).1 [du64 x.addr,dint x.hd.K,dint x.hd.length,DV.sc (LC Ly x.hd.map)]=Ld Found.dv [x]/\(Ld Found.dv pre).length+(Ld Found.dv [x]).length<=(2:Nat)^(30:Nat)/\Ld Found.dv pre++Ld Found.dv [x]=Ld Found.dv (pre++[x])) ?_ kr kr kr kr;exact⟨rfl,(by(simp[*];omega)),(by simp[LW,L3,L4,LV,wdv,idv])⟩
def Z2f(l:Nat):Value:=.func (.yield l) #[] #[]
def Z1L(h:Heap)(i:Int):Nat->Int->List Found×Bool
 | 0,_=>([],O)
 | f+1,o=>if o<(pg h i).U then(if(address h.C i o).2=0/\(atH h (adr h i o)).2=0 then(⟨adr h i o,(atH h (adr h i o)).1⟩::(Z1L h i f (o+sizeH (atH h (adr h i o)).1)).1,(Z1L h i f (o+sizeH (atH h (adr h i o)).1)).2)else([],Lb))else([],O)
def bdyF(fn:Func):Code:=match fn.body with
 | some c=>c
 | none=>.skip
def inE(h:Heap)(l:Nat)(i:Int):Tg:=⟨tm 58 [(0,.d (.sc (Z2f l))),(1,.rp h.dvs 0),(2,.rp [dint i] 0)],[],1⟩
def inP(h:Heap)(l:Nat)(i:Int):Tg:=⟨tm 58 [(0,.d (.sc (Z2f l))),(1,.rp h.dvs 0),(2,.rp [dint i] 0),(4,.pt 8004 0 0)],[(8004,.box 86 [int (pg h i).K,int (pg h i).S,int (pg h i).U,int (pg h i).N])],20⟩
def ZoA(h:Heap)(l:Nat)(i:Int)(hi:0<=i/\i<h.P.length)(hk:(pg h i).K=1\/(pg h i).K=2):Zek prog 2 (bdyF f234) (inE h l i).st (inP h l i).st:=by
 unfold inP inE pg;unfold pg at hk;refine Z5l [((13:Nat),[Hint.el (h.P.getD i.toNat La).dv]),((22:Nat),[Hint.br Lb])] [] [] (φ:=((0:Int)<=i/\(Ld Page.dv h.P)[i.toNat]? = M (h.P.getD i.toNat La).dv)/\((h.P.getD i.toNat La).K != (1:Int)&&(h.P.getD i.toNat La).K != (2:Int))=Lb/\Lb=Lb) ?_ kr kr kr kr;exact⟨(by exact elI oq oq oq),(by(simp only[bs];omega)),rfl⟩
def Zoo(h:Heap)(l:Nat)(i:Int)(hi:0<=i/\i<h.P.length)(hk:¬ ((pg h i).K=1\/(pg h i).K=2)):CP (bdyF f234) (inE h l i).st .ret (Tg.st ⟨tm 58 [],[],20⟩):=by
 unfold inE;unfold pg at hk;exact sF [] [] (Fe 13 Page.dv h.P i (Ftb 22 ((h.P.getD i.toNat La).K != 1&&(h.P.getD i.toNat La).K != 2) Fz))
def inS(h:Heap)(l:Nat)(i o:Int):Tg:=⟨tm 58 [(0,.d (.sc (Z2f l))),(1,.rp h.dvs 0),(2,.rp [dint i] 0),(4,.rp (pg h i).dv 0),(5,int o)],[],20⟩
def inT(h:Heap)(l:Nat)(i o:Int)(a:Int)(hd:Header):Tg:=⟨tm 58 [(0,.d (.sc (Z2f l))),(1,.rp h.dvs 0),(2,.rp [dint i] 0),(4,.rp (pg h i).dv 0),(5,int o),(6,u64 a),(8,.pt 184008 0 0)],[(184008,.box 52 [int hd.K,int hd.length,u32 hd.map])],30⟩
section
variable (h:Heap) (l:Nat) (i o:Int) (hw:WOk h.W) (hp:Z03 h=O) (ho:0<=o/\o<=1000)
include hw hp ho
theorem Zpe(h1:o<(pg h i).U)(h2:(address h.C i o).2=0)(h3:(atH h (adr h i o)).2=0):Zek prog 9 (rndF f234 0) (inS h l i o).st (inT h l i (o+sizeH (atH h (adr h i o)).1) (adr h i o) (atH h (adr h i o)).1).st:=by
 have po:=Z07 hp;have ar:=Z4g po.1 i o;have sz:=Z1u (atH h (adr h i o)).1;have hm:=Z3u hw (adr h i o);unfold adr at ar sz hm h3;refine Z5l [((26:Nat),[Hint.br O]),((32:Nat),[Hint.call O (Z0U h.C i o) []]),((36:Nat),[Hint.br O]),((40:Nat),[Hint.call O (AV.tu [(atH h (address h.C i o).1).1.av,int (atH h (address h.C i o).1).2]) []]),((44:Nat),[Hint.br O]),((47:Nat),[Hint.call O (int (sizeH (atH h (address h.C i o).1).1)) []]),((48:Nat),[Hint.int (o+sizeH (atH h (address h.C i o).1).1)])] [] [] (φ:=Le (o<(pg h i).U)=O/\O=O/\GP 212 [h.C.av,int i,int o] O (Z0U h.C i o) []/\((address h.C i o).2==(0:Int))=O/\O=O/\GP 109 [h.av,u64 (address h.C i o).1] O (AV.tu [(atH h (address h.C i o).1).1.av,int (atH h (address h.C i o).1).2]) []/\((atH h (address h.C i o).1).2==(0:Int))=O/\O=O/\GP 69 [(atH h (address h.C i o).1).1.av] O (int (sizeH (atH h (address h.C i o).1).1)) []/\Xd.wrap (o+sizeH (atH h (address h.C i o).1).1)=o+sizeH (atH h (address h.C i o).1).1) ?_ kr kr kr kr;exact⟨(by(simp only[bs];omega)),rfl,(@Z67 (h.C) (i) (o)),(by(simp only[bs];omega)),rfl,(@Z6y (h) ((address h.C i o).1) aa oq),(by(simp only[bs];omega)),rfl,(@Z1o ((atH h (address h.C i o).1).1) aa),(by exact wrapI2 rfl oq oq)⟩
theorem Zou(h1:o<(pg h i).U)(h2:¬ (address h.C i o).2=0):Zek prog 10 (rndF f234 0) (inS h l i o).st (Tg.st ⟨tm 58 [(0,.d (.sc (Z2f l)))],[],30⟩):=by
 refine Z5l [((26:Nat),[Hint.br O]),((32:Nat),[Hint.call O (Z0U h.C i o) []]),((36:Nat),[Hint.br Lb])] [] [] (φ:=Le (o<(pg h i).U)=O/\O=O/\GP 212 [h.C.av,int i,int o] O (Z0U h.C i o) []/\((address h.C i o).2==(0:Int))=Lb/\Lb=Lb) ?_ kr kr kr kr;exact⟨(by(simp only[bs];omega)),rfl,(@Z67 (h.C) (i) (o)),(by(simp only[bs];omega)),rfl⟩
theorem ZoM(h1:o<(pg h i).U)(h2:(address h.C i o).2=0)(h3:¬ (atH h (adr h i o)).2=0):Zek prog 10 (rndF f234 0) (inS h l i o).st (Tg.st ⟨tm 58 [(0,.d (.sc (Z2f l)))],[],30⟩):=by
 have po:=Z07 hp;have ar:=Z4g po.1 i o;unfold adr at ar h3;refine Z5l [((26:Nat),[Hint.br O]),((32:Nat),[Hint.call O (Z0U h.C i o) []]),((36:Nat),[Hint.br O]),((40:Nat),[Hint.call O (AV.tu [(atH h (address h.C i o).1).1.av,int (atH h (address h.C i o).1).2]) []]),((44:Nat),[Hint.br Lb])] [] [] (φ:=Le (o<(pg h i).U)=O/\O=O/\GP 212 [h.C.av,int i,int o] O (Z0U h.C i o) []/\((address h.C i o).2==(0:Int))=O/\O=O/\GP 109 [h.av,u64 (address h.C i o).1] O (AV.tu [(atH h (address h.C i o).1).1.av,int (atH h (address h.C i o).1).2]) []/\((atH h (address h.C i o).1).2==(0:Int))=Lb/\Lb=Lb) ?_ kr kr kr kr;exact⟨(by(simp only[bs];omega)),rfl,(@Z67 (h.C) (i) (o)),(by(simp only[bs];omega)),rfl,(@Z6y (h) ((address h.C i o).1) aa oq),(by(simp only[bs];omega)),rfl⟩
omit hw hp ho in
theorem Zpv(h1:(pg h i).U<=o):CP (rndF f234 0) (inS h l i o).st (.ext 0) (Tg.st ⟨tm 58 [],[],30⟩):=by
 exact sF [] [] (Ffb 26 (Le (o<(pg h i).U)) Fz)
end
end Go.Proofs.YtgedmeaemofdkaaGreat
namespace Go.Proofs.YtgedmeaemofdkaaGreat
open Go.Sx Go.RowKit
def flt1(ids bids:List Nat):AV->Bool
 | .pt b _ _=>memN b bids
 | .ow b=>memN b ids
 | .d (.sc _)=>O
 | .any=>O
 | _=>Lb
def fltB(ids bids:List Nat):Blk->Bool
 | .box _ l=>l.all (flt1 ids bids)
 | .arr .. => O
 | _=>Lb
def Z4G:List (Nat×Blk)->List Nat
 | []=>[]
 | (b,.box ..)::l=>b::Z4G l
 | _::l=>Z4G l
def Z4d{b:Nat}:∀ {hl:List (Nat×Blk)},b∈Z4G hl->∃ ty cells,(b,Blk.box ty cells)∈hl
 | [],h=>by simp[Z4G]at h
 | (c,.box ty cells)::l,h=>by
  simp only[Z4G,Lm]at h;rcases h with rfl | h
  .exact⟨ty,cells,by simp⟩
  .obtain⟨ty,cells,h⟩:=Z4d h;exact⟨ty,cells,by simp[h]⟩
 | (c,.arr ..)::l,h=>by obtain⟨ty,cells,h⟩:=Z4d (hl:=l) h;exact⟨ty,cells,by simp[h]⟩
 | (c,.mp _)::l,h=>by obtain⟨ty,cells,h⟩:=Z4d (hl:=l) h;exact⟨ty,cells,by simp[h]⟩
 | (c,.dead)::l,h=>by obtain⟨ty,cells,h⟩:=Z4d (hl:=l) h;exact⟨ty,cells,by simp[h]⟩
def ZfI{ρ ρ':Rho}{w Y:World}{Im:Nat->Prop}{ids bids:List Nat}{x:AV}{v:Value}(h:Rel ρ w Im x v)(hx:flt1 ids bids x=O)(hρ:∀ b∈bids,∀ β,ρ b=M β->ρ' b=M β)
  (ho:∀ b∈ids,∀ β,ρ b=M β->ρ' b=M β\/(ρ' b=M ⟨Lc,β.s,β.n⟩/\∀ g,β.g=M g->rows w g<β.s)) (hr:∀ g,rows Y g=rows w g):Rel ρ' Y (λ_=>False) x v:=by
 cases h with
 | pt h1=>exact .pt (hρ _ (memN_iff.1 hx) _ h1)
 | ow h1 h2 h3 h4 =>
  rename_i b c a β;rcases ho _ (memN_iff.1 hx) _ h1 with k | ⟨k,k'⟩
  .refine .ow k h2 h3 (h4.imp id λ⟨g,k1,k2,k3⟩=>⟨g,k1,k2, ?_⟩);rw[hr g];exact k3
  .refine Rel.ow (β:=⟨Lc,β.s,β.n⟩) k h2 h3 (.inl ?_);rcases h4 with h4 | ⟨g,k1,_,k3⟩
   .exact h4
   .have:=k' g k1;rcases Nat.eq_zero_or_pos c with h | h
    .exact h
    .have:=Xp β.s h;omega
 | any=>exact .any _
 | d h =>
  cases h with
  | sc _ h=>exact .d (.sc _ h)
  | _=>cases hx
 | _=>cases hx
def ZaW{ρ:Rho}{w:World}{Im:Nat->Prop}{β:Bi}{ty g:Nat}{cells:List AV}(h:RelB ρ w Im β (.box ty cells))(hg:β.g=M g):rows w g=cells.length:=by
 obtain⟨_,_,g',cs,h1,h2,h3,_⟩:=h;rw[hg]at h1;cases h1;simp[rows,h2,h3]
def Zlh{ρ:Rho}{w:World}{Im:Nat->Prop}{β:Bi}{ty g s:Nat}{els:List (List DV)}(h:RelB ρ w Im β (.arr ty s els))(hg:β.g=M g):els.length*s<=rows w g:=by
 obtain⟨_,_,_,_,⟨h1,_⟩ | ⟨g',cs,h1,h2,h3,_⟩⟩:=h
 .rw[hg]at h1;cases h1
 .rw[hg]at h1;cases h1;simpa[rows,h2]using h3
def Zml{Ow:Sx.Own}{Im0:Nat->Prop}{w0 w:World}{tmps:List AV}{hl:List (Nat×Blk)}{clk clk':Nat}{a:Act}(S:Sx.Sys Ow Im0 w0 tmps (hOf hl) clk a w)(hT:tmps.all (flt1 (hl.map (·.1)) (Z4G hl))=O)(hB:hl.all (λp=>fltB (hl.map (·.1)) (Z4G hl) p.2)=O)(hN:(hl.map (·.1)).Nodup)
  (hF:∀ b ty s els,(b,Blk.arr ty s els)∈hl->Z1p els) {Y:World} {l:Nat} {r r':Loop} (hl0:w.heap[l]? = M (.loop r)) (hl1:Y.heap[l]? = M (.loop r')) (hY:Y.heap.size=w.heap.size) (hs:∀ g,g≠l->Y.heap[g]? = w.heap[g]?) (hc:1<=clk') :
  ∃ ρ:Rho,(∀ b β,ρ b=M β->b∈hl.map (·.1))/\(∀ b β g,ρ b=M β->β.g=M g->(w0.heap.size<=g/\8000<=b)\/OwA Ow g)/\(∀ b β g,ρ b=M β->β.g=M g->β.s<=rows Y g)/\Inv (ownR ρ) (λ_=>False) Y ρ Y (λ_=>False) (hOf hl) clk'/\RelT Ow.ds ρ Y (λ_=>False) tmps a/\Kept (OwA Ow) w0 w:=by
 obtain⟨ρ,Im,I,T⟩:=S;let ids:=hl.map (·.1);let ρ':Rho:=λb=>if memN b ids then(match ρ b with | Lc=>Lc | M β=>match β.g with | M g=>if rows w g<β.s then M ⟨Lc,β.s,β.n⟩else M β | Lc=>M β)else Lc;have hout:∀ b β,ρ' b=M β->b∈ids/\∃ κ,ρ b=M κ/\κ.s=β.s/\κ.n=β.n/\∀ g,β.g=M g->κ=β/\β.s<=rows w g:=by
  intro b β h;simp only[ρ']at h;split at h;rotate_left
  .cases h
  refine⟨memN_iff.1 aa, ?_⟩;split at h
  .cases h
  rename_i κ hκ;refine⟨κ,hκ, ?_⟩;split at h
  .rename_i g hg;split at h
   .cases h;exact⟨rfl,rfl,λg h=>by cases h⟩
   .cases h;exact⟨rfl,rfl,λg' h=>by rw[hg]at h;cases h;exact⟨rfl,by omega⟩⟩
  .rename_i hg;cases h;exact⟨rfl,rfl,λg' h=>by rw[hg]at h;cases h⟩
 have hin:∀ b∈ids,∀ β,ρ b=M β->ρ' b=M β\/(ρ' b=M ⟨Lc,β.s,β.n⟩/\∀ g,β.g=M g->rows w g<β.s):=by
  intro b hb β h;simp only[ρ',h];rw[if_pos (memN_iff.2 hb)];split
  .rename_i g hg;split
   .exact .inr ⟨rfl,λg' h'=>by rw[hg]at h';cases h';assumption⟩
   .exact .inl rfl
  .exact .inl rfl
 have hrow:∀ g,rows Y g=rows w g:=by
  intro g;by_cases hg:g=l
  .subst hg;simp[rows,hl0,hl1]
  .simp only[rows,hs g hg]
 have hbox:∀ b∈Z4G hl,∀ β,ρ b=M β->ρ' b=M β:=by
  intro b hb β h;obtain⟨ty,cells,hm⟩:=Z4d hb;have hbi:b∈ids:=L5.2 ⟨_,hm,rfl⟩;rcases hin b hbi β h with k | ⟨_,k⟩
  .exact k
  .cases hq:hOf hl b with
   | none=>exact absurd hbi (hOf_mem.2.1 hq)
   | some B =>
    have hB':B = .box ty cells:=by
     have h1:=hOf_mem.1 B hq;obtain⟨i,hi⟩:=Xl.1 h1;obtain⟨j,hj⟩:=Xl.1 hm;have:i=j:=ZmX b hN (by simp[hi]) (by simp[hj]);subst this;rw[hi]at hj;cases hj;rfl
    subst hB';obtain⟨β',m1,m2⟩:=I.blk b _ hq;rw[h]at m1;cases m1;have m3:=m2;obtain⟨h0,_,g,_,h1,_⟩:=m2;have:=k g h1;rw[ZaW m3 h1]at this;omega
 have hlive:∀ b,b∈ids->live (hOf hl) b:=by
  intro b hb;cases hq:hOf hl b with
  | none=>exact absurd hb (hOf_mem.2.1 hq)
  | some B =>
   refine⟨B,hq, ?_⟩;rintro rfl;have:=LM.1 hB _ (hOf_mem.1 _ hq);cases this
 have hsame:∀ b β g,ρ' b=M β->β.g=M g->ρ b=M β:=λb β g h h'=>by
  obtain⟨_,κ,k1,_,_,k4⟩:=hout b β h;rw[(k4 g h').1]at k1;exact k1
 refine⟨ρ',λb β h=>(hout b β h).1,λb β g h h'=>I.own b β g (hsame b β g h h') h',λb β g h h'=>by
   obtain⟨_,κ,k1,_,_,k4⟩:=hout b β h;rw[hrow];exact(k4 g h').2,⟨Kept.refl _ _,λb b' β β' g _ _ q1 q2 q3 q4=>I.inj b b' β β' g (hlive _ (hout _ _ q1).1) (hlive _ (hout _ _ q2).1) (hsame _ _ g q1 q3) (hsame _ _ g q2 q4) q3 q4,λ_ _ _ _ _ _ h=>h,λb β g q1 q2=>by rw[hY];exact I.bnd b β g (hsame _ _ g q1 q2) q2,λb β g q1 q2=>.inr ⟨b,β,q1,q2⟩,λ_ h=>h.elim,λ_ h=>h.elim,λb B q=>?_,λb _ q=>?_,⟨hc,λ_ _ _ h=>h⟩⟩,⟨T.size,λi x v h1 h2=>ZfI (T.tmp i x v h1 h2) (LM.1 hT _ (Ln h1)) hbox hin hrow,T.defers⟩,I.kept⟩
 .have hm:=hOf_mem.1 B q;have hb:b∈ids:=L5.2 ⟨(b,B),hm,rfl⟩;obtain⟨β,m1,m2⟩:=I.blk b B q;have hfl:=LM.1 hB _ hm;cases B with
  | dead=>cases hfl
  | mp=>cases hfl
  | box ty cells =>
   obtain⟨h0,h00,g,cs,h1,h2,h3,h3',h4⟩:=m2;have hg:g≠l:=by rintro rfl;rw[hl0]at h2;cases h2
   have:b∈Z4G hl:=by
    have:∀ {k:List (Nat×Blk)},(b,Blk.box ty cells)∈k->b∈Z4G k:=by
     intro k;induction k with
     | nil=>intro h;simp at h
     | cons p k ih =>
      obtain⟨c,C⟩:=p;intro h;rcases Lm.1 h with e | e
      .cases e;simp[Z4G]
      .cases C<;>simp[Z4G,ih e]
    exact this hm
   exact⟨β,hbox b this β m1,h0,h00,g,cs,h1,by rw[hs g hg];exact h2,h3,h3',λo x v hx hv=>ZfI (h4 o x v hx hv) (LM.1 hfl _ (Ln hx)) hbox hin hrow⟩
  | arr ty s els =>
   have m3:=m2;obtain⟨h0,h1,hb',h2,h3⟩:=m2;rcases hin b hb β m1 with k | ⟨k,k'⟩
   .refine⟨β,k,h0,h1,hb',h2,h3.imp id λ⟨g,cs,h4,h5,h6,h7⟩=>?_⟩;have hg:g≠l:=by rintro rfl;rw[hl0]at h5;cases h5
    refine⟨g,cs,h4,by rw[hs g hg];exact h5,h6,λi e o x hx hy=>?_⟩;obtain⟨v,h8,h9⟩:=h7 i e o x hx hy;exact⟨v,h8,Zb2 (hF _ _ _ _ hm) (Ln hx) (Ln hy) h9⟩
   .refine⟨_,k,h0,h1,hb',h2,.inl ⟨rfl, ?_⟩⟩;rcases h3 with⟨_,h⟩ | ⟨g,_,h4,_⟩
    .exact h
    .have e1:=k' g h4;have e2:=Zlh m3 h4;rw[h0]at e1;cases els with
     | nil=>rfl
     | cons y ys =>
      have:1*s<=(y::ys).length*s:=Xp s pq;omega
 .have:b∉ids:=hOf_mem.2.1 q;simp only[ρ'];rw[if_neg (λh=>this (memN_iff.1 h))]
def Z5P(f:Found):Value:=.agg #[.int .u64 f.addr,.int .i64 f.hd.K,.int .i64 f.hd.length,.int .u32 f.hd.map]
def encF(f:Found)(e:Int):Array Value := #[Z5P f,.int .i64 e]
def Zaf(ρ:Rho)(w:World)(Im:Nat->Prop)(f:Found):Rel ρ w Im f.av (Z5P f):=by
 refine .ag _ _ rfl (λi v h=>?_) (λi a v ha hv=>?_)
 .rcases i with _ | _ | _ | _ | i<;>simp at h<;>subst h<;>rfl
 .rcases i with _ | _ | _ | _ | i<;>simp at ha hv<;>subst ha<;>subst hv<;>exact .d (.sc _ rfl)
def Zm8(l:List Found):Z1p (l.map Found.dv):=by
 intro e he x hx;obtain⟨f,_,rfl⟩:=L5.1 he;simp only[Found.dv,Lm,Lp,or_false]at hx;rcases hx with rfl | rfl | rfl | rfl<;>exact⟨_,rfl⟩
def LJ(g6:Nat)(prot:List (Nat×Obj))(A:Nat->Prop)(pre:List Found)(W:World):Prop :=
 ∃ ρ:Rho,(∀ g,A g↔∃ b β,ρ b=M β/\β.g=M g)/\Inv (ownR ρ) (λ_=>False) W ρ W (λ_=>False) (hOf (lstH pre)) 20/\(∃ s n,ρ 6=M ⟨M g6,s,n⟩)/\(∀ b β,ρ b=M β->b∈[8020,6])/\(∀ b β g,ρ b=M β->β.g=M g->β.s<=rows W g)/\∀ p∈prot,W.heap[p.1]? = M p.2/\¬ A p.1
def LJ.keep{g6:Nat}{prot:List (Nat×Obj)}{A:Nat->Prop}{pre:List Found}{X Y:World}(J:LJ g6 prot A pre X)(K:Kept (λ_=>False) X Y):LJ g6 prot A pre Y:=by
 obtain⟨ρ,hA,I,h6,hs,hr,hp⟩:=J;have he:Ext (λ_=>False) X Y:=⟨K.size,λg h=>h.elim,K.rows⟩
 refine⟨ρ,hA,⟨Kept.refl _ _,I.inj,λ_ _ _ _ _ _ h=>h,λb β g q1 q2=>LY (I.bnd b β g q1 q2) K.size,λb β g q1 q2=>.inr ⟨b,β,q1,q2⟩,λ_ h=>h.elim,λ_ h=>h.elim,λb B q=>?_,I.fresh,I.one⟩,h6,hs,λb β g q1 q2=>?_,λp hpp=>⟨?_,(hp p hpp).2⟩⟩
 .obtain⟨β,m1,m2⟩:=I.blk b B q;exact⟨β,m1,m2.mono he (λ_ h=>h) (λ_ _ h=>h) I.bnd (λg hg=>K.block g (I.bnd b β g m1 hg) (λh=>h))⟩
 .rw[K.rows g (I.bnd _ _ _ q1 q2)];exact hr b β g q1 q2
 .have h1:=(hp p hpp).1;rw[K.block p.1 (Lj.1 h1).1 (λh=>h)];exact h1
def ZjK{fn:Nat}{a0:Array Value}{D l g6 n:Nat}{prot:List (Nat×Obj)}{A:Nat->Prop}{pre:List Found}{W:World}(hl:pre.length<=1000)(ha0:a0.size=22)(ha6:a0[6]? = M (.pointer (M ⟨g6,0,Lc⟩)))
  (hrec:(l,Lo { state:=.ready,pending:=Lc,fn:=fn,tmps:=a0,params := #[12,13],assign:=asgF f183 0,body:=bodF f183 0,defers:=D })∈prot) (J:LJ g6 prot A pre W) (x:Found) :
  YieldAt Lf n prog l (encF x 0) W λe W'=>e = .returned (.bool O)/\∃ A',LJ g6 prot A' (pre++[x]) W'/\(∀ g,A' g->A g\/W.heap.size<=g)/\Kept A W W':=by
 obtain⟨ρ,hA,I,⟨s6,n6,h6⟩,hs,hr,hp⟩:=J;obtain⟨rl,nl⟩:=hp _ hrec;have hAe:OwA (ownR ρ)=A:=by funext g;exact propext (hA g).symm
 refine⟨fn,_,_,_,run_yield rl rfl,roundIn_of_wpIn trivial ?_⟩;have T0:RelT [] ρ W (λ_=>False) (tm 22 [(6,.pt 6 0 0)]) { tmps:=a0,defers:=[] }:=by
  refine⟨by rw[ha0];rfl,λi y v h1 h2=>?_,rfl⟩;by_cases h:i=6
  .subst h;rw[ha6]at h2;cases h2;cases (show(tm 22 [(6,.pt 6 0 0)])[6]? = M (.pt 6 0 0)from rfl).symm.trans h1;have:=Rel.pt (ρ:=ρ) (w:=W) (Im:=λ_=>False) (i:=0) (o:=0) h6;simpa[ptV,mpO]using this
  .have:y = .any:=by
    have hi:i<22:=(L2.1 h1).1;have e:∀ j,j<22->j≠6->(tm 22 [(6,.pt 6 0 0)])[j]? = M .any:=by
     intro j hj hj6;have:j∈[0,1,2,3,4,5,7,8,9,10,11,12,13,14,15,16,17,18,19,20,21]:=by
      simp only[Lm,Lp,or_false];omega
     simp only[Lm,Lp,or_false]at this;rcases this with rfl | rfl | rfl | rfl | rfl | rfl | rfl | rfl | rfl | rfl | rfl | rfl | rfl | rfl | rfl | rfl | rfl | rfl | rfl | rfl | rfl<;>rfl
    rw[e i hi h]at h1;cases h1;rfl
   subst this;exact .any _
 have T1:=(T0.put 12 (Zaf ρ W (λ_=>False) x)).put 13 (Rel.d (RelD.sc (LC .i64 0) rfl));have S1:Sx.Sys (ownR ρ) (λ_=>False) W (lst1 pre x).st.tmps (lst1 pre x).st.H (lst1 pre x).st.clk { tmps:=(a0.setIfInBounds 12 (Z5P x)).setIfInBounds 13 (.int .i64 0),defers:=[] } W:=⟨ρ,_,I,T1⟩
 have ef:((#[12,13]:Array Nat).zip (encF x 0)).foldl (λtmps (t,a)=>tmps.setIfInBounds t a) a0=(a0.setIfInBounds 12 (Z5P x)).setIfInBounds 13 (.int .i64 0):=by simp[encF]
 show(asgF f183 0).wpIn _ n _ _ { tmps:=((#[12,13]:Array Nat).zip (encF x 0)).foldl (λtmps (t,a)=>tmps.setIfInBounds t a) a0,defers:=[] } W;rw[ef];refine wpIn_mono (lstA pre x (M l) n _ _ _ _ _ S1) ?_;rintro e a1 w1 ⟨rfl,S2⟩;have K1:Kept A W w1:=by obtain⟨_,_,I1,_⟩:=S2;exact hAe▸I1.kept
 have hlW:l<W.heap.size:=(Lj.1 rl).1;have rl1:w1.heap[l]? = M (Lo { state:=.ready,pending:=Lc,fn:=fn,tmps:=a0,params := #[12,13],assign:=asgF f183 0,body:=bodF f183 0,defers:=D }):=by
  rw[K1.block l hlW nl];exact rl
 refine⟨_,run_beginRound rl1 rfl, ?_⟩;obtain⟨w2,hw2⟩:∃ w2,w1.putObj l (Lo { state:=.busy,pending:=Lc,fn:=fn,tmps:=a0,params := #[12,13],assign:=asgF f183 0,body:=bodF f183 0,defers:=D })=w2:=⟨_,rfl⟩
 have rl2:w2.heap[l]? = M (Lo { state:=.busy,pending:=Lc,fn:=fn,tmps:=a0,params := #[12,13],assign:=asgF f183 0,body:=bodF f183 0,defers:=D }):=by
  rw[<- hw2];exact Lw (Lj.1 rl1).1
 have hs2:∀ g,g≠l->w2.heap[g]? = w1.heap[g]? := λg hg=>by rw[<- hw2];exact Lh hg
 have hz2:w2.heap.size=w1.heap.size:=by rw[<- hw2];exact Lt
 obtain⟨ρ1,q1,q2,qr,I1,T1',_⟩:=Zml S2 kr kr (by show([160007,8020,6]:List Nat).Nodup;decide) (by
   intro b ty s els hm;simp only[lst2,lstH,Lm,Lp,or_false,Prod.mk.injEq,reduceCtorEq,and_false,Blk.arr.injEq,false_or]at hm;obtain⟨_,_,_,rfl⟩:=hm;exact Zm8 pre) rl1 rl2 hz2 hs2 (by decide:1<=30)
 show(bodF f183 0).wpIn _ _ _ _ _ _;rw[hw2];refine wpIn_mono (lstB pre x hl (M l) n _ _ _ _ _ (⟨ρ1,_,I1,T1'⟩:Sx.Sys _ _ w2 (lst2 pre x).st.tmps (lst2 pre x).st.H (lst2 pre x).st.clk a1 w2)) ?_;rintro e a3 w3 ⟨rfl,S3⟩;have K3:Kept (λg=>∃ b β,ρ1 b=M β/\β.g=M g) w2 w3:=by obtain⟨_,_,I3,_⟩:=S3;exact I3.kept
 have hrow2:∀ g,rows w2 g=rows w1 g:=by
  intro g;by_cases hg:g=l
  .subst hg;simp[rows,rl1,rl2]
  .simp only[rows,hs2 g hg]
 have hw12:W.heap.size<=w1.heap.size:=K1.size;have own1:∀ b β g,ρ1 b=M β->β.g=M g->W.heap.size<=g\/A g:=λb β g h h'=>(q2 b β g h h').imp (·.1) λh=>hAe▸h;have hl2:¬ ∃ b β,ρ1 b=M β/\β.g=M l:=by
  rintro⟨b,β,h,h'⟩;rcases own1 b β l h h' with k | k
  .omega
  .exact nl k
 have box6:∀ {ρ:Rho} {X:World} {H:List (Nat×Blk)} {t:Nat} {x:AV},Inv (ownR ρ) (λ_=>False) X ρ X (λ_=>False) (hOf H) t->hOf H 6=M (.box 206 [x])->∃ β g,ρ 6=M β/\β.g=M g/\rows X g=1:=by
  intro ρ X H t x I hH;obtain⟨β,k1,k2⟩:=I.blk 6 _ hH;have k3:=k2;obtain⟨_,_,g,_,k4,_⟩:=k2;exact⟨β,g,k1,k4,ZaW k3 k4⟩
 have arr4:∀ {ρ:Rho} {X:World} {H:List (Nat×Blk)} {t:Nat} {els:List (List DV)} {β:Bi},Inv (ownR ρ) (λ_=>False) X ρ X (λ_=>False) (hOf H) t->hOf H 8020=M (.arr 212 4 els)->ρ 8020=M β->β.s=4:=by
  intro ρ X H t els β I hH h;obtain⟨β',k1,k2⟩:=I.blk 8020 _ hH;rw[h]at k1;cases k1;exact k2.1
 have id1:∀ β g,ρ1 6=M β->β.g=M g->rows w2 g=1->g=g6:=by
  intro β g h h' h1;rcases q2 6 β g h h' with⟨_,k⟩ | k
  .omega
  obtain⟨b,κ,(k1:ρ b=M κ),k2⟩:=k;have hb:=hs b κ k1;simp only[Lm,Lp,or_false]at hb;rcases hb with rfl | rfl
  .have:=hr _ _ _ k1 k2;rw[arr4 I rfl k1,<- K1.rows g (I.bnd _ _ _ k1 k2),<- hrow2,h1]at this;omega
  .rw[h6]at k1;cases k1;cases k2;rfl
 have rl3:w3.heap[l]? = M (Lo { state:=.busy,pending:=Lc,fn:=fn,tmps:=a0,params := #[12,13],assign:=asgF f183 0,body:=bodF f183 0,defers:=D }):=by
  rw[K3.block l oq hl2];exact rl2
 refine⟨_,_,run_endRound Lc rl3,rfl, ?_⟩;obtain⟨W',hW'⟩:∃ W',w3.putObj l (Lo { state:=.ready,pending:=Lc,fn:=fn,tmps:=a0,params := #[12,13],assign:=asgF f183 0,body:=bodF f183 0,defers:=D })=W':=⟨_,rfl⟩
 have rl4:W'.heap[l]? = M (Lo { state:=.ready,pending:=Lc,fn:=fn,tmps:=a0,params := #[12,13],assign:=asgF f183 0,body:=bodF f183 0,defers:=D }):=by
  rw[<- hW'];exact Lw (Lj.1 rl3).1
 have hs4:∀ g,g≠l->W'.heap[g]? = w3.heap[g]? := λg hg=>by rw[<- hW'];exact Lh hg
 have hz4:W'.heap.size=w3.heap.size:=by rw[<- hW'];exact Lt
 have hrow4:∀ g,rows W' g=rows w3 g:=by
  intro g;by_cases hg:g=l
  .subst hg;simp[rows,rl3,rl4]
  .simp only[rows,hs4 g hg]
 have hosw:W'.os=w3.os/\W'.tape=w3.tape/\W'.output=w3.output:=by rw[<- hW'];exact⟨rfl,rfl,rfl⟩
 have hos2:w2.os=w1.os/\w2.tape=w1.tape/\w2.output=w1.output:=by rw[<- hw2];exact⟨rfl,rfl,rfl⟩
 suffices key:∃ A',LJ g6 prot A' (pre++[x]) W'/\(∀ g,A' g->A g\/W.heap.size<=g)/\Kept A W W' by
  rw[<- hW']at key;exact key
 obtain⟨ρ3,p1,p2,pr,I3,_,_⟩:=Zml S3 kr kr (by show([8020,6]:List Nat).Nodup;decide) (by
   intro b ty s els hm;simp only[lstH,Lm,Lp,or_false,Prod.mk.injEq,reduceCtorEq,and_false,Blk.arr.injEq]at hm;obtain⟨_,_,_,rfl⟩:=hm;exact Zm8 _) rl3 rl4 hz4 hs4 (by decide:1<=20)
 have own3:∀ b β g,ρ3 b=M β->β.g=M g->A g\/W.heap.size<=g:=by
  intro b β g h h';rcases p2 b β g h h' with⟨k,_⟩ | ⟨c,κ,k1,k2⟩
  .exact .inr oq
  .exact(own1 c κ g k1 k2).symm
 have keep:Kept A W W':=by
  refine⟨hosw.1.trans (K3.os.trans (hos2.1.trans K1.os)),hosw.2.1.trans (K3.tape.trans (hos2.2.1.trans K1.tape)),hosw.2.2.trans (K3.output.trans (hos2.2.2.trans K1.output)),by have:=K3.size;omega,λk hk hn=>?_,λk hk=>?_⟩
  .by_cases hkl:k=l
   .subst hkl;rw[rl4,rl]
   .rw[hs4 k hkl,K3.block k oq ?_,hs2 k hkl,K1.block k hk hn];rintro⟨b,β,h,h'⟩;rcases own1 b β k h h' with q | q
    .omega
    .exact hn q
  .rw[hrow4,K3.rows k oq,hrow2,K1.rows k hk]
 refine⟨λg=>∃ b β,ρ3 b=M β/\β.g=M g,⟨ρ3,λg=>Iff.rfl,I3, ?_,p1,pr,λp hpp=>?_⟩,λg ⟨b,β,h,h'⟩=>own3 b β g h h',keep⟩
 .obtain⟨β,g,k1,k2,k3⟩:=box6 I3 rfl;rcases p2 6 β g k1 k2 with⟨_,k⟩ | ⟨c,κ,m1,m2⟩
  .omega
  have hg2:g<w2.heap.size:=I1.bnd _ _ _ m1 m2;have hr2:rows w2 g=1:=by rw[<- k3,hrow4,K3.rows g hg2]
  have hc:=q1 c κ m1;have e:g=g6:=by
   simp only[lst2,lstH,List.map_cons,Xj,Lm,Lp,or_false]at hc;rcases hc with rfl | rfl | rfl
   .obtain⟨κ',n1,n2⟩:=I1.blk 160007 _ rfl;rw[m1]at n1;cases n1;rw[ZaW n2 m2]at hr2;simp at hr2
   .have:=qr _ _ _ m1 m2;rw[arr4 I1 rfl m1,hr2]at this;omega
   .exact id1 κ g m1 m2 hr2
  subst e;obtain⟨βg,βs,βn⟩:=β;cases k2;exact⟨βs,βn,k1⟩
 .obtain⟨h1,h2⟩:=hp p hpp;have hpl:=(Lj.1 h1).1;refine⟨by rw[keep.block p.1 hpl h2];exact h1, ?_⟩;rintro⟨b,β,h,h'⟩;rcases own3 b β p.1 h h' with q | q
  .exact h2 q
  .omega
end Go.Proofs.YtgedmeaemofdkaaGreat
namespace Go.Proofs.YtgedmeaemofdkaaGreat
open Go.Sx Go.RowKit
def Z20(h:Heap)(i:Int):List Found×Bool:=if(pg h i).K=1\/(pg h i).K=2 then Z1L h i 256 0 else([],O)
def noFound:Found:=⟨0,⟨0,0,0⟩⟩
structure Rnd (l n:Nat) (J:(Nat->Prop)->List Found->World->Prop) (Jx:World->Prop):Prop where
 keep:∀ A pre X Y,J A pre X->Kept (λ_=>False) X Y->J A pre Y
 bnd:∀ A pre X,J A pre X->∀ g,A g->g<X.heap.size
 yes:∀ A pre X x,J A pre X->pre.length<=1000->YieldAt Lf n prog l (encF x 0) X λe X'=>e = .returned (.bool O)/\∃ A',J A' (pre++[x]) X'/\(∀ g,A' g->A g\/X.heap.size<=g)/\Kept A X X'
 no:∀ A pre X,J A pre X->pre.length<=1000->YieldAt Lf n prog l (encF noFound 19) X λe X'=>e = .returned (.bool Lb)/\Jx X'
section
variable (h:Heap) (i:Int) (l n:Nat) {J:(Nat->Prop)->List Found->World->Prop} {Jx:World->Prop} (R:Rnd l n J Jx)
def InL(J:(Nat->Prop)->List Found->World->Prop)(a:Act)(w:World):Prop :=
 ∃ (pre:List Found) (A Im:Nat->Prop) (f:Nat) (o:Int),(Z20 h i).1=pre++(Z1L h i f o).1/\(Z20 h i).2=(Z1L h i f o).2/\(pg h i).U-o<=f/\0<=o/\o<=1000/\pre.length+f<=256/\J A pre w/\RelT [] (λ_=>Lc) w Im (inS h l i o).tmps a/\∀ g,Im g->g<w.heap.size/\¬ A g
def inMu(a:Act):Nat:=match (a.tmps.getD 5 undef:Value)with
 | .int _ o=>((pg h i).U-o).toNat
 | _=>0
theorem Zie{w:World}{Im:Nat->Prop}{a:Act}{o:Int}(T:RelT [] (λ_=>Lc) w Im (inS h l i o).tmps a):inMu h i a=((pg h i).U-o).toNat:=by
 have:a.tmps.getD 5 undef = .int .i64 o:=Z0O (Z1v T (.tmp 5));rw[inMu,this]
def Zaa(Jx:World->Prop)(e:Ending)(W':World):Prop:=(∃ v,e = .returned v)/\(((Z20 h i).2=O/\∃ A,J A (Z20 h i).1 W')\/((Z20 h i).2=Lb/\Jx W'))
def tsOf(o:Oper):Array Nat:=match o.op with
 | .call c=>c.argTypes
 | _ => #[]
theorem found_eq{ρ:Rho}{w:World}{Im:Nat->Prop}{f:Found}{v:Value}(h:Rel ρ w Im f.av v):v=Z5P f:=by
 obtain⟨cs,h1,h2,h3,h4⟩:=Z3l h;rw[h1];have g:∀ (k:Nat) (hk:k<cs.size) (v:Value),[u64 f.addr,int f.hd.K,int f.hd.length,u32 f.hd.map][k]? = M (.d (.sc v))->cs[k]=v:=λk hk v hv=>Z0O (h4 k _ cs[k] hv (Xa hk));have hs:cs.size=4:=h2;simp only[Z5P];congr 1;apply LQ
 .simp[hs]
 .intro k hk _;rcases k with _ | _ | _ | _ | k
  .exact g 0 hk _ rfl
  .exact g 1 hk _ rfl
  .exact g 2 hk _ rfl
  .exact g 3 hk _ rfl
  .omega
theorem ZlU(hw:WOk h.W)(hp:Z03 h=O)(hu:(pg h i).U<=256)(R:Rnd l n J Jx)(a:Act)(w:World)(hI:InL h i l J a w) :
  (rndF f234 0).wpIn Lf (n+1) prog (Exit.then (λa' w'=>InL h i l J a' w'/\inMu h i a'<inMu h i a) (Li 0 (bodyPost prog f234 (Zaa h i (J:=J) Jx)))) a w:=by
 obtain⟨pre,A,Im,f,o,e1,e2,hf,h0,h1,hl,hJ,T,hIm⟩:=hI;have S:Sx.Sys Z4s Im w (inS h l i o).st.tmps (inS h l i o).st.H (inS h l i o).st.clk a w:=⟨_,_,Inv.empty (λg hg=>(hIm g hg).1) (by decide:1<=20),T⟩
 by_cases hlt:o<(pg h i).U
 .obtain⟨f,rfl⟩:∃ k,f=k+1:=⟨f-1,by omega⟩
  unfold Z1L at e1 e2;rw[if_pos hlt]at e1 e2;have bad:¬ ((address h.C i o).2=0/\(atH h (adr h i o)).2=0)->∀ a' w',Sx.Sys Z4s Im w (Tg.st ⟨tm 58 [(0,.d (.sc (Z2f l)))],[],30⟩).tmps (Tg.st ⟨tm 58 [(0,.d (.sc (Z2f l)))],[],30⟩).H 30 a' w' ->
    rest prog (n+1) 10 (rndF f234 0) (Exit.then (λa' w'=>InL h i l J a' w'/\inMu h i a'<inMu h i a) (Li 0 (bodyPost prog f234 (Zaa h i (J:=J) Jx)))) a' w':=by
   intro hb a' w' S1;rw[if_neg hb]at e1 e2;generalize hQ:Li 0 (bodyPost prog f234 (Zaa h i (J:=J) Jx))=Q0;generalize (λa' w'=>InL h i l J a' w'/\inMu h i a'<inMu h i a)=nx;have er:rest prog (n+1) 10 (rndF f234 0) (Exit.then nx Q0) a' w' =
     (LH 10 (rgO f234 10) Lb).wpIn Lf (n+1) prog (Exit.then (Xc.wpIn Lf (n+1) prog (Li 1 (Exit.then nx Q0))) (Li 1 (Exit.then nx Q0))) a' w':=by kernel_rfl
   rw[er];refine wpIn_region ?_;rw[show Lq (rgO f234 10).size=[0,1]++[2]from by kernel_rfl];refine Z3p (ro:=Lc) (hints:=[]) (out:=⟨tm 58 [(0,.d (.sc (Z2f l))),(55,.d (.sc (Z2f l))),(56,noFound.av)],hOf [],[],[]⟩) kr S1 trivial (λp hp=>by simp at hp) ?_;intro a2 w2 S2;obtain⟨o',ho,⟨ts,hop⟩,hd,hg⟩:∃ o':Oper,(rgO f234 10)[2]? = M o'/\(∃ ts,o'.op = .call ⟨.value (.tmp 55),#[.tmp 56,.const (.int .i64 19)],ts⟩)/\o'.dst=M 57/\o'.guard=Lc:=⟨(rgO f234 10).getD 2 La,by kernel_rfl,⟨tsOf ((rgO f234 10).getD 2 La),by kernel_rfl⟩,by kernel_rfl,by kernel_rfl⟩
   have hwd:LO o' (yielded (rgO f234 10) a2.tmps)=O:=by simp[LO,hg]
   simp only[wpOpsIn,ho,hwd,if_true];obtain⟨ρ2,Im2,I2,T2⟩:=S2;have v1:a2.eval (.tmp 55) = .func (.yield l) #[] #[]:=Z0O (Z1v T2 (.tmp 55));have v2:a2.eval (.tmp 56)=Z5P noFound:=found_eq (Z1v T2 (.tmp 56):Rel ρ2 w2 Im2 noFound.av _);have J2:J A pre w2:=R.keep _ _ _ _ hJ I2.kept.no;refine Zfe hop v1 (show #[a2.eval (.tmp 56),a2.eval (.const (.int .i64 19))]=encF noFound 19 by rw[v2];rfl) (R.no A pre w2 J2 oq) ?_;rintro e w3 ⟨rfl,hx⟩;refine⟨_,rfl,wpIn_ret ?_⟩;show Q0 .ret _ _;rw[<- hQ];exact bodyPost_ret (results_none rfl _ _ _) (by rw[hd];exact T2.defers) ⟨⟨_,rfl⟩,.inr ⟨e2,hx⟩⟩
  by_cases ha:(address h.C i o).2=0
  .by_cases hh:(atH h (adr h i o)).2=0
   .rw[if_pos ⟨ha,hh⟩]at e1 e2;have sz:=Z1u (atH h (adr h i o)).1;have sp:=Z9i hh;obtain⟨o2,ho2⟩:∃ o2,o+sizeH (atH h (adr h i o)).1=o2:=⟨_,rfl⟩
    refine Zpe h l i o hw hp ⟨h0,h1⟩ hlt ha hh _ _ _ _ _ _ _ S ?_;intro a1 w1 S1;rw[ho2]at S1 e1 e2;generalize hQ:Li 0 (bodyPost prog f234 (Zaa h i (J:=J) Jx))=Q0;have hmu:=Zie h i l T;generalize hnx:(λa' w'=>InL h i l J a' w'/\inMu h i a'<inMu h i a)=nx;obtain⟨yc,hyc⟩:∃ yc:Code,∀ a' w',rest prog (n+1) 9 (rndF f234 0) (Exit.then nx Q0) a' w' =
     (LH 9 (rgO f234 9) Lb).wpIn Lf (n+1) prog (Exit.then ((Code.cond (.tmp 54) .ret .skip).wpIn Lf (n+1) prog (Exit.then ((Xb 1).wpIn Lf (n+1) prog (Exit.then (yc.wpIn Lf (n+1) prog (Li 1 (Exit.then nx Q0))) (Li 1 (Exit.then nx Q0)))) (Exit.then (yc.wpIn Lf (n+1) prog (Li 1 (Exit.then nx Q0))) (Li 1 (Exit.then nx Q0)))))
      (Exit.then ((Xb 1).wpIn Lf (n+1) prog (Exit.then (yc.wpIn Lf (n+1) prog (Li 1 (Exit.then nx Q0))) (Li 1 (Exit.then nx Q0)))) (Exit.then (yc.wpIn Lf (n+1) prog (Li 1 (Exit.then nx Q0))) (Li 1 (Exit.then nx Q0))))) a' w':=⟨.seq (.region 10 (rgO f234 10) Lb) .ret,λa' w'=>by kernel_rfl⟩
    rw[hyc];refine wpIn_region ?_;rw[show Lq (rgO f234 9).size=[0,1,2,3]++([4]++[5])from by kernel_rfl];refine Z3p (ro:=Lc) (hints:=[]) (out:=⟨tm 58 [(0,.d (.sc (Z2f l))),(1,.rp h.dvs 0),(2,.rp [dint i] 0),(4,.rp (pg h i).dv 0),(5,int o2),(6,u64 (adr h i o)),(8,.pt 184008 0 0),(49,.d (.sc (Z2f l))),(50,u64 (adr h i o)),(51,(atH h (adr h i o)).1.av),(52,(Found.mk (adr h i o) (atH h (adr h i o)).1).av)],hOf [(184008,.box 52 [int (atH h (adr h i o)).1.K,int (atH h (adr h i o)).1.length,u32 (atH h (adr h i o)).1.map])],[],[]⟩) kr S1 trivial (λp hp=>by simp at hp) ?_;intro a2 w2 S2;obtain⟨o',ho,⟨ts,hop⟩,hd,hg⟩:∃ o':Oper,(rgO f234 9)[4]? = M o'/\(∃ ts,o'.op = .call ⟨.value (.tmp 49),#[.tmp 52,.const (.int .i64 0)],ts⟩)/\o'.dst=M 53/\o'.guard=Lc:=⟨(rgO f234 9).getD 4 La,by kernel_rfl,⟨tsOf ((rgO f234 9).getD 4 La),by kernel_rfl⟩,by kernel_rfl,by kernel_rfl⟩
    have hwd:LO o' (yielded (rgO f234 9) a2.tmps)=O:=by simp[LO,hg]
    rw[show([4]++[5]:List Nat)=4::[5]from rfl,wpOpsIn];simp only[ho];rw[if_pos hwd];have v1:a2.eval (.tmp 49) = .func (.yield l) #[] #[]:=by obtain⟨ρ2,Im2,I2,T2⟩:=S2;exact Z0O (Z1v T2 (.tmp 49))
    have v2:a2.eval (.tmp 52)=Z5P ⟨adr h i o,(atH h (adr h i o)).1⟩:=by
     obtain⟨ρ2,Im2,I2,T2⟩:=S2;exact found_eq (Z1v T2 (.tmp 52):Rel ρ2 w2 Im2 (Found.mk (adr h i o) (atH h (adr h i o)).1).av _)
    have S3:=ZoX (s:=⟨tm 58 [(0,.d (.sc (Z2f l))),(1,.rp h.dvs 0),(2,.rp [dint i] 0),(4,.rp (pg h i).dv 0),(5,int o2),(6,u64 (adr h i o)),(8,.pt 184008 0 0),(49,.d (.sc (Z2f l))),(50,u64 (adr h i o)),(51,(atH h (adr h i o)).1.av),(52,(Found.mk (adr h i o) (atH h (adr h i o)).1).av)],hOf [(184008,.box 52 [int (atH h (adr h i o)).1.K,int (atH h (adr h i o)).1.length,u32 (atH h (adr h i o)).1.map])],30⟩) (t:=inS h l i o2) kr kr S2;clear S2 S1;obtain⟨ρ2,Im2,I2,T2⟩:=S3;have J2:J A pre w2:=R.keep _ _ _ _ hJ I2.kept.no;refine Zfe hop v1 (show #[a2.eval (.tmp 52),a2.eval (.const (.int .i64 0))]=encF ⟨adr h i o,(atH h (adr h i o)).1⟩ 0 by rw[v2];rfl) (R.yes A pre w2 _ J2 oq) ?_;rintro e w3 ⟨rfl,A',J3,hA',K3⟩;have hIm2:∀ g,Im2 g->¬ A g:=by
     intro g hg hA;rcases I2.im0 g hg with k | k | k
     .exact(hIm g k).2 hA
     .have:=R.bnd _ _ _ hJ g hA;omega
     .exact k.no
    refine⟨_,rfl, ?_⟩;have T3:RelT [] (λ_=>Lc) w3 Im2 (inS h l i o2).tmps a2:=(T2.pure kr).mono ⟨K3.size,λg hg=>K3.block g (I2.imb g hg) (hIm2 g hg),K3.rows⟩ (λ_ h=>h) (λ_ _ h=>h) (λ_ _ _ h=>nomatch h);have S4:Sx.Sys Z4s Im2 w3 ((inS h l i o2).tmps.set 53 (Sx.bool O)) (hOf []) 20 (a2.put o'.dst (.bool O)) w3:=by
     rw[hd];exact⟨_,Im2,Inv.empty (λg hg=>LY (I2.imb g hg) K3.size) dd,T3.put 53 (Rel.d (RelD.sc (.bool O) rfl))⟩
    refine Z6T (ro:=Lc) (hints:=[]) (out:=⟨((inS h l i o2).tmps.set 53 (Sx.bool O)).set 54 (Sx.bool (!true)),hOf [],[],[]⟩) kr S4 trivial (λp hp=>by simp at hp) ?_;intro a5 w5 S5;have v5:a5.eval (.tmp 54) = .bool Lb:=by obtain⟨_,_,_,T5⟩:=S5;exact Z0O (Z1v T5 (.tmp 54))
    have S6:=ZoX (s:=⟨((inS h l i o2).tmps.set 53 (Sx.bool O)).set 54 (Sx.bool (!true)),hOf [],20⟩) (t:=inS h l i o2) kr kr S5;obtain⟨ρ6,Im6,I6,T6⟩:=S6;refine wpIn_cond_false v5 (wpIn_skip ?_);refine wpIn_exit ?_;show(if 1=1 then(Exit.then nx Q0) .normal a5 w5 else Exit.then nx Q0 (.exit 1) a5 w5);rw[if_pos rfl,<- hnx];have T7:=T6.pure kr;refine⟨⟨pre++[⟨adr h i o,(atH h (adr h i o)).1⟩],A',Im6,f,o2, ?_,e2,by omega,by omega,by omega,by simp;omega,R.keep _ _ _ _ J3 I6.kept.no,T7,λg hg=>⟨I6.imb g hg,λhA=>?_⟩⟩, ?_⟩
    .rw[e1];simp
    .have hb:=R.bnd _ _ _ J3 g hA;rcases I6.im0 g hg with k | k | k
     .have:=I2.imb g k;rcases hA' g hA with q | q
      .exact hIm2 g k q
      .omega
     .omega
     .exact k.no
    .show inMu h i a5<inMu h i a;rw[Zie h i l T7,hmu];omega
   .exact ZoM h l i o hw hp ⟨h0,h1⟩ hlt ha hh _ _ _ _ _ _ _ S (bad (λq=>hh q.2))
  .exact Zou h l i o hw hp ⟨h0,h1⟩ hlt ha _ _ _ _ _ _ _ S (bad (λq=>ha q.1))
 .refine wpIn_mono (wpIn_wide.2 (Zpv h l i o oq _ _ _ _ _ S)) ?_;rintro e a' w' ⟨rfl,S1⟩;have hz:Z1L h i f o=([],O):=by
   cases f with
   | zero=>rfl
   | succ f=>rw[Z1L,if_neg hlt]
  rw[hz]at e1 e2;obtain⟨ρ,Im1,I1,T1⟩:=S1;show bodyPost _ _ _ .normal _ _;refine bodyPost_end (results_none rfl _ _ _) T1.defers ⟨⟨_,rfl⟩,.inl ⟨e2,A, ?_⟩⟩;rw[e1,LS];exact R.keep _ _ _ _ hJ I1.kept.no
theorem ZmW(hw:WOk h.W)(hp:Z03 h=O)(hi:0<=i/\i<h.P.length)(R:Rnd l n J Jx){A0 Im:Nat->Prop}{W:World}{v1 v2:Value}(him:∀ g,Im g->g<W.heap.size/\¬ A0 g)
  (h1:Rel (λ_=>Lc) W Im (.rp h.dvs 0) v1) (h2:Rel (λ_=>Lc) W Im (.rp [dint i] 0) v2) (J0:J A0 [] W):CallsIn Lf (n+1) prog 234 #[Z2f l,v1,v2] W (Zaa h i (J:=J) Jx):=by
 have hu:(pg h i).U<=256:=(Z0u hp (j:=i.toNat) oq).2.2.2.2.2.2.2.1;refine callsIn_of_wp func234 (c:=bdyF f234) kr trivial ?_ rfl;have S:Sx.Sys Z4s Im W (inE h l i).st.tmps (inE h l i).st.H (inE h l i).st.clk { tmps := #[Z2f l,v1,v2]++LF (Tryz.f234.ntmps-(#[Z2f l,v1,v2]:Array Value).size) undef,defers:=[] } W:=by
  refine⟨_,Im,Inv.empty (λg hg=>(him g hg).1) (Ls 1),⟨by kernel_rfl,λk y v hy hv=>?_,rfl⟩⟩;rw[show(inE h l i).st.tmps=[.d (.sc (Z2f l)),.rp h.dvs 0,.rp [dint i] 0]++Lg 55 .any from by kernel_rfl,LN]at hy;rw[LD]at hv;split at hy
  .rename_i hk;have hk3:k<3:=hk;rw[if_pos (show k<(#[Z2f l,v1,v2]:Array Value).size from hk3)]at hv;rcases k with _ | _ | _ | k
   .cases hy;cases hv;exact .d (.sc _ rfl)
   .cases hy;cases hv;exact h1
   .cases hy;cases hv;exact h2
   .omega
  .have:=Ln hy;rw[(Lv.1 this).2];exact .any _
 by_cases hk:(pg h i).K=1\/(pg h i).K=2
 .refine ZoA h l i hi hk _ _ _ _ _ _ _ S ?_;intro a1 w1 S1;generalize hQ:bodyPost prog f234 (Zaa h i (J:=J) Jx)=Q;have er:rest prog (n+1) 2 (bdyF f234) Q a1 w1=(LH 2 (rgO f234 2) Lb).wpIn Lf (n+1) prog (Exit.then ((blkF f234 0).wpIn Lf (n+1) prog Q) Q) a1 w1:=by kernel_rfl
  rw[er];refine wpIn_region ?_;rw[show Lq (rgO f234 2).size=[0]from by kernel_rfl];refine Z6T (ro:=Lc) (hints:=[]) (out:=⟨tm 58 [(0,.d (.sc (Z2f l))),(1,.rp h.dvs 0),(2,.rp [dint i] 0),(4,.pt 8004 0 0),(5,int 0)],hOf [(8004,.box 86 ((pg h i).dv.map .d))],[],[]⟩) kr S1 trivial (λp hp=>by simp at hp) ?_;intro a2 w2 S2;show(blkF f234 0).wpIn Lf (n+1) prog Q a2 w2;rw[Z8r kr,<- hQ];refine wpIn_block (wpIn_loop (InL h i l J) (λa _=>inMu h i a) ?_ (λa w hI=>ZlU h i l n hw hp hu R a w hI));obtain⟨ρ2,Im2,I2,T2⟩:=S2;obtain⟨β,m1,m2⟩:=I2.blk 8004 _ rfl;have J2:=R.keep _ _ _ _ J0 I2.kept.no;have hlv:live (hOf [(8004,Blk.box 86 ((pg h i).dv.map .d))]) 8004:=⟨_,rfl,by simp⟩
  have T3:RelT [] ρ2 w2 (λg=>Im2 g\/β.g=M g) _ a2:=T2.mono (Ext.refl _ _) (λ_ h=>.inl h) (λ_ _ h=>h) I2.bnd;have T4:=(T3.reSet 4 .any (λv _=>.any v)).pure kr;have T5:=T4.reSet 4 (.rp (pg h i).dv 0) (λv hv=>by
   have:=T2.tmp 4 _ v rfl hv;exact Z6m m1 m2 this (λ_ h=>.inl h) (λ_ h=>.inr h))
  refine⟨[],A0,_,256,0,by rw[Z20,if_pos hk];rfl,by rw[Z20,if_pos hk],by omega,by omega,by omega,by simp,J2,T5,λg hg=>?_⟩;rcases hg with hg | hg
  .refine⟨I2.imb g hg,λhA=>?_⟩;rcases I2.im0 g hg with k | k | k
   .exact(him g k).2 hA
   .have:=R.bnd _ _ _ J0 g hA;omega
   .exact k.no
  .refine⟨I2.bnd _ _ _ m1 hg,λhA=>?_⟩;rcases I2.own _ _ _ m1 hg with⟨k,_⟩ | k
   .have:=R.bnd _ _ _ J0 g hA;omega
   .exact k.no
 .refine wpIn_mono (wpIn_wide.2 (Zoo h l i hi hk _ _ _ _ _ S)) ?_;rintro e a' w' ⟨rfl,S1⟩;obtain⟨ρ,Im1,I1,T1⟩:=S1;refine bodyPost_ret (results_none rfl _ _ _) T1.defers ⟨⟨_,rfl⟩,.inl ⟨by rw[Z20,if_neg hk],A0, ?_⟩⟩;rw[Z20,if_neg hk];exact R.keep _ _ _ _ J0 I1.kept.no
end
end Go.Proofs.YtgedmeaemofdkaaGreat
namespace Go.Proofs.YtgedmeaemofdkaaGreat
open Go.Sx
def ZmY(h:Heap)(i:Int):CP (bdyF f214) (Tg.st ⟨tm 6 [(0,h.av),(1,int i)],[],1⟩) .ret (Tg.st ⟨tm 6 [(4,.fn 234 [.pt 8002 0 0,.pt 8003 0 0])],[(8003,.box 3 [int i]),(8002,.box 28 h.cells)],30⟩):=by
 exact sF [] [] Fz
def ZmH(h:Heap)(i:Int):Zek prog 1 (bdyF f183) (Tg.st ⟨tm 22 [(0,h.av),(1,int i)],[],1⟩) (Tg.st ⟨tm 22 [(1,int i),(2,.pt 8002 0 0),(4,.pt 8004 0 0),(5,.pt 8005 0 0)],[(8005,.box 32 [int 0]),(8004,.box 206 [.d (.sl 0 [])]),(8002,.box 28 h.cells)],20⟩):=by
 refine Z5l [] [] [] (φ:=True) ?_ kr kr kr kr;exact trivial
def ptr(g:Nat):AV:=.d (.sc (.pointer (M ⟨g,0,Lc⟩)))
def lstN(g4 g5:Nat):CIn prog (asgF f183 0) (Tg.st ⟨tm 22 [(4,ptr g4),(5,ptr g5),(12,noFound.av),(13,int 19)],[],20⟩) .nrm (Tg.st ⟨tm 22 [(4,ptr g4),(5,ptr g5),(8,int 19)],[],30⟩):=by
 refine ZbC [] [] [] (φ:=True) ?_ kr kr kr kr;exact trivial
end Go.Proofs.YtgedmeaemofdkaaGreat
namespace Go.Proofs.YtgedmeaemofdkaaGreat
open Go.Sx Go.RowKit
section
variable {P:Program} {o:Oper} {a:Act} {w:World}
theorem Zo1{t g ty:Nat}{v:Value}(hw:w.heap[g]? = M (.cells #[v] ty (0,0)))(hv:v.oneCell'=O)(ht:Z6k P t=M Lb):(loadVar t ⟨g,0,Lc⟩).run P w = .ok v w:=by
 obtain⟨v',h1,h2⟩:=Z4i (P:=P) (w:=w) (t:=t) (g:=g) (off:=0) (l:=[.d (.sc v)]) (o:=0) (x:=.d (.sc v)) (ρ:=λ_=>Lc) (Im:=λ_=>False) (λj a ha=>by
  cases j with
  | zero=>cases ha;exact⟨v,by simp[Xs,hw],hv,.d (.sc _ hv)⟩
  | succ j=>simp at ha) (by simp[Z9O,ht])
 rw[Z0O h2]at h1;exact h1
theorem Zoc{t g ty:Nat}{x:Operand}{v:Value}(ho:o.op = .load t x)(hx:a.eval x = .pointer (M ⟨g,0,Lc⟩))(hw:w.heap[g]? = M (.cells #[v] ty (0,0)))(hv:v.oneCell'=O)(ht:Z6k P t=M Lb):(execOp a.eval o).run P w = .ok (.value v) w:=by
 simp[execOp,ho,Instr.loadAt,Instr.sureAddr,hx,Zo1 hw hv ht]
theorem Z7X{t g ty:Nat}{x y:Operand}{u v:Value}(ho:o.op = .store t x y)(hx:a.eval x = .pointer (M ⟨g,0,Lc⟩))(hy:a.eval y=v)(hw:w.heap[g]? = M (.cells #[u] ty (0,0)))(hv:v.oneCell'=O)(hs:szOf P t=1):(execOp a.eval o).run P w = .ok .skip (w.setRow g #[v]):=by
 have hc:=Z6L hv;have:=Z4H (P:=P) (t:=t) (off:=0) (v:=v) hw (by rw[hc,hs];rfl) (Z7f oq) (by rw[hc];simp) (λi u h=>by rw[hc]at h;cases i<;>simp at h;subst h;exact hv);rw[hc]at this;simp at this;simp[execOp,ho,Instr.storeAt,Instr.sureAddr,hx,hy,this]
theorem ZkQ{t:Nat}{z:Value}(ho:o.op = .alloc t)(hz:zeroOf P t=M z):(execOp a.eval o).run P w = .ok (.value (.pointer (M ⟨w.heap.size,0,Lc⟩))) (w.alloc (.cells z.cells t)):=by
 unfold zeroOf at hz;split at hz
 .rename_i i hi;simp[execOp,ho,Instr.alloc,zeroValue,typeInfo,hi,hz,newVar,newRow]
 .cases hz
theorem Z6J{v:Value}{w':World}{next:Act->World->Prop}{Q:Exit->Act->World->Prop}(h:(execOp a.eval o).run P w = .ok (.value v) w')(k:next (a.put o.dst v) w'):o.wp P a w next Q:=by
 unfold LB;rw[h];exact k
theorem Z5z{w':World}{next:Act->World->Prop}{Q:Exit->Act->World->Prop}(h:(execOp a.eval o).run P w = .ok .skip w')(k:next (a.put o.dst undef) w'):o.wp P a w next Q:=by
 unfold LB;rw[h];exact k
theorem Z2B{F:Fence}{n i:Nat}{l:List Nat}{ops:Array Oper}{Q:Exit->Act->World->Prop}(ho:ops[i]? = M o)(hg:o.guard=Lc)(h:o.wpIn F n P a w (wpOpsIn F n P ops Q l) Q):wpOpsIn F n P ops Q (i::l) a w:=by
 rw[wpOpsIn];simp only[ho];rw[if_pos (by simp[LO,hg])];exact h
theorem setRow_self{g ty:Nat}{cs cs':Array Value}(hg:w.heap[g]? = M (.cells cs ty (0,0))):(w.setRow g cs').heap[g]? = M (.cells cs' ty (0,0)):=setRow_heap w g cs cs' ty _ hg
end
def Z3F{A:Nat->Prop}{X Y Z:World}(h:Kept (λ_=>False) X Y)(k:Kept A Y Z)(hA:∀ g,A g->X.heap.size<=g):Kept (λ_=>False) X Z :=
 ⟨k.os.trans h.os,k.tape.trans h.tape,k.output.trans h.output,Xo h.size k.size,λg hg _=>by
  rw[k.block g (LY hg h.size) (λq=>by have:=hA g q;omega)];exact h.block g hg (λq=>q),λg hg=>by rw[k.rows g (LY hg h.size)];exact h.rows g hg⟩
def Zox(h:Heap)(i:Int)(w:World)(Im:Nat->Prop)(hv iv:Value)(hIm:∀ g,Im g->g<w.heap.size)(h1:Rel (λ_=>Lc) w Im h.av hv)(h2:Rel (λ_=>Lc) w Im (int i) iv) :
  Calls prog 214 #[hv,iv] w λe w'=>∃ p1 p2,∃ Im':Nat->Prop,e = .returned (.func (.func 234) #[] #[p1,p2])/\Kept (λ_=>False) w w'/\(∀ g,Im' g->(Im g\/w.heap.size<=g)/\g<w'.heap.size) /\
   Rel (λ_=>Lc) w' Im' (.rp h.dvs 0) p1/\Rel (λ_=>Lc) w' Im' (.rp [dint i] 0) p2:=by
 refine calls_of_wp func214 (c:=bdyF f214) kr ?_;have S:Sx.Sys Z4s Im w (tm 6 [(0,h.av),(1,int i)]) (hOf []) 1 { tmps := #[hv,iv]++LF (Tryz.f214.ntmps-(#[hv,iv]:Array Value).size) undef,defers:=[] } w:=by
  refine⟨_,Im,Inv.empty hIm (Ls 1),⟨by kernel_rfl,λk y v hy hv=>?_,rfl⟩⟩;rw[show tm 6 [(0,h.av),(1,int i)]=[h.av,int i]++Lg 4 .any from by kernel_rfl,LN]at hy;rw[LD]at hv;split at hy
  .rename_i hk;have hk3:k<2:=hk;rw[if_pos (show k<(#[_,iv]:Array Value).size from hk3)]at hv;rcases k with _ | _ | k
   .cases hy;cases hv;exact h1
   .cases hy;cases hv;exact h2
   .omega
  .have:=Ln hy;rw[(Lv.1 this).2];exact .any _
 refine wp_mono (ZmY h i _ _ _ _ _ S) ?_;rintro e a' w' ⟨rfl,ρ,Im',I,T⟩;refine bodyPost_ret (results_tmp rfl _ _ _) T.defers ?_;have hf:Rel ρ w' Im' (.fn 234 [.pt 8002 0 0,.pt 8003 0 0]) (a'.tmps.getD 4 undef):=Z1v T (.tmp 4);generalize a'.tmps.getD 4 undef=fv at hf;cases hf with
 | fn hn hr =>
  rename_i cs;have hn2:cs.size=2:=hn;obtain⟨p1,p2,rfl⟩:∃ p1 p2,cs = #[p1,p2]:=⟨cs[0],cs[1],by
   apply LQ
   .simp[hn2]
   .intro k hk _;rcases k with _ | _ | k
    .rfl
    .rfl
    .omega⟩
  obtain⟨β2,m2,n2⟩:=I.blk 8002 _ rfl;obtain⟨β3,m3,n3⟩:=I.blk 8003 _ rfl;refine⟨p1,p2,λg=>Im' g\/β2.g=M g\/β3.g=M g,rfl,I.kept.no,λg hg=>?_,Z6m m2 n2 (hr 0 _ p1 rfl rfl) (λ_ h=>.inl h) (λ_ h=>.inr (.inl h)),Z6m m3 n3 (hr 1 _ p2 rfl rfl) (λ_ h=>.inl h) (λ_ h=>.inr (.inr h))⟩;rcases hg with hg | hg | hg
  .exact⟨(I.im0 g hg).imp id (λh=>h.elim id (λh=>h.no.elim)),I.imb g hg⟩
  .exact⟨.inr ((I.own _ _ g m2 hg).elim (·.1) (λh=>h.no.elim)),I.bnd _ _ g m2 hg⟩
  .exact⟨.inr ((I.own _ _ g m3 hg).elim (·.1) (λh=>h.no.elim)),I.bnd _ _ g m3 hg⟩
def rgB(fn:Func)(k:Nat):Array Oper:=match ZcD k (bodF fn 0)with
 | some o=>o
 | none => #[]
def Zex{tmps:Array Value}{W:World}{g4 g5:Nat}{v4 v5:Value}(h4:tmps.getD 4 undef = .pointer (M ⟨g4,0,Lc⟩))(h5:tmps.getD 5 undef = .pointer (M ⟨g5,0,Lc⟩))(c4:W.heap[g4]? = M (.cells #[v4] 206 (0,0)))(c5:W.heap[g5]? = M (.cells #[v5] 32 (0,0)))
  (o4:v4.oneCell'=O) (o5:v5.oneCell'=O):(results f183 tmps).run prog W = .ok (.tuple #[v4,v5]) W:=by
 rw[ZaI,show Tryz.f183.results = #[.cell 4 206,.cell 5 32]from rfl];have l4:=Zo1 (P:=prog) (t:=206) c4 o4 kr;have l5:=Zo1 (P:=prog) (t:=32) c5 o5 kr;simp[Z9X,h4,h5,asAddr,l4,l5,List.mapM_toArray]
def Zcv{tmps:Array Value}{W:World}{g4 g5 D:Nat}{v4 v5:Value}{R:Ending->World->Prop}(h4:tmps.getD 4 undef = .pointer (M ⟨g4,0,Lc⟩))(h5:tmps.getD 5 undef = .pointer (M ⟨g5,0,Lc⟩))(c4:W.heap[g4]? = M (.cells #[v4] 206 (0,0)))(c5:W.heap[g5]? = M (.cells #[v5] 32 (0,0)))
  (o4:v4.oneCell'=O) (o5:v5.oneCell'=O) (hD:W.heap[D]? = M (.deferred (M []))) (hR:R (.returned (.tuple #[v4,v5])) (W.putObj D (.deferred Lc))) :
  bodyPostM Lf 10 prog f183 R .ret { tmps:=tmps,defers:=[{ target:=.collected D,args := #[] }] } W:=by
 refine⟨by simp,.inl ⟨_,_,rfl,run_takeDeferred hD, ?_⟩⟩;have n4:g4≠D:=by rintro rfl;rw[c4]at hD;cases hD
 have n5:g5≠D:=by rintro rfl;rw[c5]at hD;cases hD
 exact⟨_,Zex h4 h5 ((Lh n4).trans c4) ((Lh n5).trans c5) o4 o5,hR⟩
def ZkH{fn:Nat}{a0:Array Value}{D l n g4 g5:Nat}{u4 u5:Value}{W:World}(ha0:a0.size=22)(ha4:a0[4]? = M (.pointer (M ⟨g4,0,Lc⟩)))(ha5:a0[5]? = M (.pointer (M ⟨g5,0,Lc⟩)))
  (rl:W.heap[l]? = M (Lo { state:=.ready,pending:=Lc,fn:=fn,tmps:=a0,params := #[12,13],assign:=asgF f183 0,body:=bodF f183 0,defers:=D }))
  (rD:W.heap[D]? = M (.deferred (M []))) (c4:W.heap[g4]? = M (.cells #[u4] 206 (0,0))) (c5:W.heap[g5]? = M (.cells #[u5] 32 (0,0))) (h45:g4≠g5) :
  YieldAt Lf n prog l (encF noFound 19) W λe W'=>e = .returned (.bool Lb)/\W'.heap[l]? = M (Lo { state:=.done,pending:=M .ret,fn:=fn,tmps:=a0,params := #[12,13],assign:=asgF f183 0,body:=bodF f183 0,defers:=D }) /\
   W'.heap[D]? = M (.deferred (M []))/\W'.heap[g4]? = M (.cells #[.slice Lc 0 0] 206 (0,0))/\W'.heap[g5]? = M (.cells #[.int .i64 19] 32 (0,0))/\Kept (λg=>g=l\/g=g4\/g=g5) W W':=by
 refine⟨fn,_,_,_,run_yield rl rfl,roundIn_of_wpIn trivial ?_⟩;have ef:((#[12,13]:Array Nat).zip (encF noFound 19)).foldl (λtmps (t,a)=>tmps.setIfInBounds t a) a0=(a0.setIfInBounds 12 (Z5P noFound)).setIfInBounds 13 (.int .i64 19):=by simp[encF]
 show(asgF f183 0).wpIn _ n _ _ { tmps:=((#[12,13]:Array Nat).zip (encF noFound 19)).foldl (λtmps (t,a)=>tmps.setIfInBounds t a) a0,defers:=[] } W;rw[ef];have TA:RelT [] (λ_=>Lc) W (λ_=>False) (Lg 22 .any) { tmps:=a0,defers:=[] }:=by
  refine⟨by rw[ha0];rfl,λi y v h1 h2=>?_,rfl⟩;have:=Ln h1;rw[(Lv.1 this).2];exact .any _
 have T1:=(((TA.reSet 4 (ptr g4) (λv hv=>by rw[ha4]at hv;cases hv;exact .d (.sc _ rfl))).reSet 5 (ptr g5) (λv hv=>by rw[ha5]at hv;cases hv;exact .d (.sc _ rfl))).put 12 (Zaf _ W _ noFound)).put 13 (Rel.d (RelD.sc (LC .i64 19) rfl));have S1:Sx.Sys Z4s (λ_=>False) W (Tg.st ⟨tm 22 [(4,ptr g4),(5,ptr g5),(12,noFound.av),(13,int 19)],[],20⟩).tmps (Tg.st ⟨tm 22 [(4,ptr g4),(5,ptr g5),(12,noFound.av),(13,int 19)],[],20⟩).H 20 { tmps:=(a0.setIfInBounds 12 (Z5P noFound)).setIfInBounds 13 (.int .i64 19),defers:=[] } W :=
  ⟨_,_,Inv.empty (λ_ h=>h.elim) dd,T1⟩
 refine wpIn_mono (lstN g4 g5 (M l) n _ _ _ _ _ S1) ?_;rintro e a1 w1 ⟨rfl,ρ1,Im1,I1,T1⟩;have K1:=I1.kept.no;have same1:∀ {g:Nat} {o:Obj},W.heap[g]? = M o->w1.heap[g]? = M o:=λ{g o} h=>by
  rw[K1.block g (Lj.1 h).1 (λq=>q)];exact h
 refine⟨_,run_beginRound (same1 rl) rfl, ?_⟩;obtain⟨w2,hw2⟩:∃ w2,w1.putObj l (Lo { state:=.busy,pending:=Lc,fn:=fn,tmps:=a0,params := #[12,13],assign:=asgF f183 0,body:=bodF f183 0,defers:=D })=w2:=⟨_,rfl⟩
 have rl2:w2.heap[l]? = M (Lo { state:=.busy,pending:=Lc,fn:=fn,tmps:=a0,params := #[12,13],assign:=asgF f183 0,body:=bodF f183 0,defers:=D }):=by
  rw[<- hw2];exact Lw (Lj.1 (same1 rl)).1
 have hs2:∀ g,g≠l->w2.heap[g]? = w1.heap[g]? := λg hg=>by rw[<- hw2];exact Lh hg
 have hz2:w2.heap.size=w1.heap.size:=by rw[<- hw2];exact Lt
 have hos2:w2.os=w1.os/\w2.tape=w1.tape/\w2.output=w1.output:=by rw[<- hw2];exact⟨rfl,rfl,rfl⟩
 have n4:g4≠l:=by rintro rfl;rw[c4]at rl;cases rl
 have n5:g5≠l:=by rintro rfl;rw[c5]at rl;cases rl
 have nD:D≠l:=by rintro rfl;rw[rD]at rl;cases rl
 have T2:RelT [] (λ_=>Lc) w2 (λ_=>False) (tm 22 [(4,ptr g4),(5,ptr g5),(8,int 19)]) a1:=by
  refine⟨T1.size,λi x v h1 h2=>?_,T1.defers⟩;have:=T1.tmp i x v h1 h2;have hx:x = .any\/∃ u,x = .d (.sc u):=by
   have hm:=Ln h1;have:∀ y∈tm 22 [(4,ptr g4),(5,ptr g5),(8,int 19)],y = .any\/∃ u,y = .d (.sc u):=by
    rw[show tm 22 [(4,ptr g4),(5,ptr g5),(8,int 19)]=Lg 4 .any++[ptr g4,ptr g5,.any,.any,int 19]++Lg 13 .any from by kernel_rfl];intro y hy;simp only[Xk,Lv,Lm,Lp,or_false]at hy;rcases hy with(⟨_,rfl⟩ | rfl | rfl | rfl | rfl | rfl) | ⟨_,rfl⟩<;>first | exact .inl rfl | exact .inr ⟨_,rfl⟩
   exact this x hm
  rcases hx with rfl | ⟨u,rfl⟩
  .exact .any _
  .rw[Z0O this];have h1:(Value.oneCell' u)=O:=by
    cases this with | d h=>cases h with | sc _ h=>exact h
   exact .d (.sc _ h1)
 have S2:Sx.Sys Z4s (λ_=>False) w2 (tm 22 [(4,ptr g4),(5,ptr g5),(8,int 19)]) (hOf []) 20 a1 w2:=⟨_,_,Inv.empty (λ_ h=>h.elim) dd,T2⟩
 show(bodF f183 0).wpIn (fen (M l)) n prog _ a1 _;rw[hw2];generalize hQ:roundPost prog l _=Q;obtain⟨yc,hyc⟩:∃ yc:Code,bodF f183 0 = .block 1 (.seq (.seq (.region 5 (rgB f183 5) Lb) (.cond (.tmp 15) (.seq (.region 6 (rgB f183 6) Lb) .ret) .skip)) yc):=⟨.region 7 (rgB f183 7) Lb,by kernel_rfl⟩
 rw[hyc];refine wpIn_block (wpIn_seq (wpIn_seq (wpIn_region ?_)));rw[show Lq (rgB f183 5).size=[0,1]from by kernel_rfl];refine Z6T (ro:=M l) (hints:=[]) (out:=⟨tm 22 [(4,ptr g4),(5,ptr g5),(8,int 19),(14,int 19),(15,Sx.bool ((19:Int) != 0))],hOf [],[],[]⟩) kr S2 trivial (λp hp=>by simp at hp) ?_;intro a3 w3 S3;have v15:a3.eval (.tmp 15) = .bool O:=by obtain⟨_,_,_,T⟩:=S3;exact Z0O (Z1v T (.tmp 15))
 refine wpIn_cond_true v15 (wpIn_seq (wpIn_region ?_));rw[show Lq (rgB f183 6).size=[0]++[1,2]from by kernel_rfl];refine Z3p (ro:=M l) (hints:=[]) (out:=⟨tm 22 [(4,ptr g4),(5,ptr g5),(8,int 19),(14,int 19),(15,Sx.bool ((19:Int) != 0)),(16,int 19)],hOf [],[],[]⟩) kr S3 trivial (λp hp=>by simp at hp) ?_;rintro a4 w4 ⟨ρ4,Im4,I4,T4⟩;have K4:=I4.kept.no;have same4:∀ {g:Nat} {o:Obj},w2.heap[g]? = M o->w4.heap[g]? = M o:=λ{g o} h=>by
  rw[K4.block g (Lj.1 h).1 (λq=>q)];exact h
 have v4:a4.eval (.tmp 4) = .pointer (M ⟨g4,0,Lc⟩):=Z0O (Z1v T4 (.tmp 4));have v5:a4.eval (.tmp 5) = .pointer (M ⟨g5,0,Lc⟩):=Z0O (Z1v T4 (.tmp 5));have v16:a4.eval (.tmp 16) = .int .i64 19:=Z0O (Z1v T4 (.tmp 16));have d4:w4.heap[g4]? = M (.cells #[u4] 206 (0,0)):=same4 (by rw[hs2 _ n4];exact same1 c4);have d5:w4.heap[g5]? = M (.cells #[u5] 32 (0,0)):=same4 (by rw[hs2 _ n5];exact same1 c5);have e4:=setRow_self (cs' := #[.slice Lc 0 0]) d4;have f5:(w4.setRow g4 #[.slice Lc 0 0]).heap[g5]? = M (.cells #[u5] 32 (0,0)):=by rw[setRow_other w4 g4 g5 _ h45.symm];exact d5
 refine Z2B (o:=(rgB f183 6).getD 1 La) kr kr (Z2Y (by intro c h;cases h) (Z5z (Z7X (t:=206) (x:=.tmp 4) (y:=.const (.slice Lc 0 0)) (v:=.slice Lc 0 0) kr v4 rfl d4 rfl kr) ?_));refine Z2B (o:=(rgB f183 6).getD 2 La) kr kr (Z2Y (by intro c h;cases h) (Z5z (Z7X (t:=32) (x:=.tmp 5) (y:=.tmp 16) (v:=.int .i64 19) kr v5 v16 f5 rfl kr) ?_));generalize hw5:(w4.setRow g4 #[.slice Lc 0 0]).setRow g5 #[.int .i64 19]=w5;have sm:∀ {g:Nat},g≠g4->g≠g5->w5.heap[g]? = w4.heap[g]? := λ{g} h k=>by
  rw[<- hw5,setRow_other _ g5 g _ k,setRow_other _ g4 g _ h]
 have rw5:∀ g,rows w5 g=rows w4 g:=λg=>by rw[<- hw5,Z2j _ g5 #[u5] #[.int .i64 19] _ f5 rfl,Z2j _ g4 #[u4] #[.slice Lc 0 0] _ d4 rfl]
 have z5:w5.heap.size=w4.heap.size:=by rw[<- hw5];simp[L9]
 have os5:w5.os=w4.os/\w5.tape=w4.tape/\w5.output=w4.output:=by rw[<- hw5];exact⟨rfl,rfl,rfl⟩
 have rl5:w5.heap[l]? = M (Lo { state:=.busy,pending:=Lc,fn:=fn,tmps:=a0,params := #[12,13],assign:=asgF f183 0,body:=bodF f183 0,defers:=D }):=by
  rw[sm n4.symm n5.symm];exact same4 rl2
 have m4:g4≠D:=by rintro rfl;rw[c4]at rD;cases rD
 have m5:g5≠D:=by rintro rfl;rw[c5]at rD;cases rD
 refine wpIn_ret ?_;show Q .ret _ w5;rw[<- hQ];refine⟨_,_,run_endRound (M .ret) rl5,rfl,Lw (Lj.1 rl5).1, ?_, ?_, ?_, ?_⟩
 .rw[Lh nD,sm m4.symm m5.symm];exact same4 (by rw[hs2 _ nD];exact same1 rD)
 .rw[Lh n4,<- hw5,setRow_other _ g5 g4 _ h45];exact e4
 .rw[Lh n5,<- hw5];exact setRow_self f5
 .have rowl:∀ (X:World) (o:Obj) (g:Nat),(∃ r,X.heap[l]? = M (.loop r))->(∃ r,o = .loop r)->rows (X.putObj l o) g=rows X g:=by
   rintro X o g ⟨r,hr⟩ ⟨r',rfl⟩;by_cases hg:g=l
   .subst hg;simp[rows,hr,Lw (Lj.1 hr).1]
   .simp only[rows,Lh hg]
  refine⟨os5.1.trans (K4.os.trans (hos2.1.trans K1.os)),os5.2.1.trans (K4.tape.trans (hos2.2.1.trans K1.tape)),os5.2.2.trans (K4.output.trans (hos2.2.2.trans K1.output)), ?_,λg hg hn=>?_,λg hg=>?_⟩
  .rw[Lt,z5];have:=K1.size;have:=K4.size;omega
  .have q1:g≠l:=λe=>hn (.inl e);have q2:g≠g4:=λe=>hn (.inr (.inl e));have q3:g≠g5:=λe=>hn (.inr (.inr e));have:=K1.size;rw[Lh q1,sm q2 q3,K4.block g oq (λq=>q),hs2 g q1,K1.block g hg (λq=>q)]
  .have:=K1.size;rw[rowl _ _ _ ⟨_,rl5⟩ ⟨_,rfl⟩,rw5,K4.rows g oq,<- hw2,rowl _ _ _ ⟨_,same1 rl⟩ ⟨_,rfl⟩,K1.rows g hg]
end Go.Proofs.YtgedmeaemofdkaaGreat
namespace Go.Proofs.YtgedmeaemofdkaaGreat
open Go.Sx Go.RowKit
def Z1j(l:List Found):AV:=.d (.sl 4 (l.map Found.dv))
def Z0F(h:Heap)(i:Int):List Found×Int:=if(Z20 h i).2=O then((Z20 h i).1,0)else([],19)
def LK(w00:World)(g6:Nat)(prot:List (Nat×Obj))(A:Nat->Prop)(pre:List Found)(W:World):Prop:=LJ g6 prot A pre W/\Kept (λ_=>False) w00 W/\∀ g,A g->w00.heap.size<=g
def recV(F:Func)(fn:Nat)(a0:Array Value)(D:Nat)(st:LoopState)(pe:Option Code):Obj:=.loop { state:=st,pending:=pe,fn:=fn,tmps:=a0,params := #[12,13],assign:=asgF F 0,body:=bodF F 0,defers:=D }
def LX(w00:World)(fn:Nat)(a0:Array Value)(l D g4 g5:Nat)(W:World):Prop :=
 W.heap[l]? = M (recV f183 fn a0 D .done (M .ret))/\W.heap[D]? = M (.deferred (M []))/\W.heap[g4]? = M (.cells #[.slice Lc 0 0] 206 (0,0))/\W.heap[g5]? = M (.cells #[.int .i64 19] 32 (0,0))/\Kept (λ_=>False) w00 W
def Zo6{w00:World}{fn:Nat}{a0:Array Value}{D l n g4 g5 g6:Nat}{u4 u5:Value}(ha0:a0.size=22)(ha4:a0[4]? = M (.pointer (M ⟨g4,0,Lc⟩)))(ha5:a0[5]? = M (.pointer (M ⟨g5,0,Lc⟩)))(ha6:a0[6]? = M (.pointer (M ⟨g6,0,Lc⟩)))
  (h45:g4≠g5) (h4:w00.heap.size<=g4) (h5:w00.heap.size<=g5) (hl:w00.heap.size<=l) :
  Rnd l n (LK w00 g6 [(l,recV f183 fn a0 D .ready Lc),(D,.deferred (M [])),(g4,.cells #[u4] 206 (0,0)),(g5,.cells #[u5] 32 (0,0))]) (LX w00 fn a0 l D g4 g5):=by
 refine⟨λA pre X Y ⟨J,K,hA⟩ k=>⟨J.keep k,Z3F K k (λ_ h=>h.elim),hA⟩,λA pre X ⟨⟨ρ,h1,I,_⟩,_,_⟩ g hg=>?_,λA pre X x ⟨J,K,hA⟩ hlen=>?_,λA pre X ⟨J,K,hA⟩ _=>?_⟩
 .obtain⟨b,β,k1,k2⟩:=(h1 g).1 hg;exact I.bnd b β g k1 k2
 .obtain⟨fn',t,s,b,q1,q2⟩:=ZjK (n:=n) (D:=D) hlen ha0 ha6 (List.mem_cons_self) J x;refine⟨fn',t,s,b,q1,q2.mono ?_⟩;rintro e W' ⟨rfl,A',J',hA',K'⟩;refine⟨rfl,A',⟨J',Z3F K K' hA,λg hg=>?_⟩,hA',K'⟩;rcases hA' g hg with h | h
  .exact hA g h
  .exact Xo K.size h
 .obtain⟨ρ,_,_,_,_,_,hp⟩:=J;have p1:=(hp (l,recV f183 fn a0 D .ready Lc) pq).1;have p2:=(hp (D,.deferred (M [])) pq).1;have p3:=(hp (g4,.cells #[u4] 206 (0,0)) pq).1;have p4:=(hp (g5,.cells #[u5] 32 (0,0)) pq).1;obtain⟨fn',t,s,b,q1,q2⟩:=ZkH (n:=n) ha0 ha4 ha5 p1 p2 p3 p4 h45;refine⟨fn',t,s,b,q1,q2.mono ?_⟩;rintro e W' ⟨rfl,m1,m2,m3,m4,K'⟩;refine⟨rfl,m1,m2,m3,m4,Z3F K K' (λg hg=>?_)⟩;rcases hg with rfl | rfl | rfl<;>assumption
def ZlS{w00 W:World}{g6:Nat}{prot:List (Nat×Obj)}{A:Nat->Prop}{pre:List Found}(J:LK w00 g6 prot A pre W):∃ sv,W.heap[g6]? = M (.cells #[sv] 206 (0,0))/\sv.oneCell'=O/\A g6/\∃ Im:Nat->Prop,(∀ g,Im g->A g/\g<W.heap.size)/\RelD W Im (.sl 4 (pre.map Found.dv)) sv:=by
 obtain⟨⟨ρ,hA,I,⟨s6,n6,h6⟩,hs,hr,hp⟩,K,hge⟩:=J;obtain⟨β,m1,m2⟩:=I.blk 6 _ rfl;rw[h6]at m1;cases m1;obtain⟨_,_,g,cs,e1,e2,e3,e4,e5⟩:=m2;cases e1;have hc:cs.size=1:=e3;obtain⟨sv,rfl⟩:∃ sv,cs = #[sv]:=⟨cs[0],by
  apply LQ
  .simp[hc]
  .intro k hk _;rcases k with _ | k
   .rfl
   .omega⟩
 have hsv:Rel ρ W (λ_=>False) (.ow 8020) sv:=e5 0 _ sv rfl rfl;have hA6:A g6:=(hA g6).2 ⟨6,_,h6,rfl⟩;refine⟨sv,e2,e4 0 sv rfl,hA6, ?_⟩;obtain⟨β2,k1,k2⟩:=I.blk 8020 _ rfl;let ρ':Rho:=λb=>if b=8020 then ρ 8020 else Lc
 have hρ:∀ b β,ρ' b=M β->b=8020/\ρ 8020=M β:=by
  intro b β h;simp only[ρ']at h;split at h
  .exact⟨aa,h⟩
  .cases h
 have I2:Sx.Inv Z4s (λ_=>False) w00 ρ' W (λ_=>False) (hOf [(8020,.arr 212 4 (pre.map Found.dv))]) 20:=by
  refine⟨K.imp λ_ h=>h.elim,λb b' β β' g _ _ q1 q2 _ _=>by rw[(hρ _ _ q1).1,(hρ _ _ q2).1],λ_ _ _ _ _ _ h=>h,λb β g q1 q2=>I.bnd _ _ g (hρ _ _ q1).2 q2,λb β g q1 q2=>.inl ⟨hge g ((hA g).2 ⟨8020,β,(hρ _ _ q1).2,q2⟩),by rw[(hρ _ _ q1).1];decide⟩,λ_ h=>h.elim,λ_ h=>h.elim,λb B hB=>?_,λb hb _=>?_,⟨by decide,λb β hb q=>absurd hb (by rw[(hρ _ _ q).1];decide)⟩⟩
  .simp only[hOf]at hB;split at hB
   .cases hB;rename_i hb;subst hb;exact⟨β2,by simp only[ρ',if_true];exact k1,k2.mono (Ext.refl _ _) (λ_ h=>h) (λ_ _ h=>h) I.bnd (λ_ _=>rfl) |> λh=>by
     obtain⟨a1,a2,a3,a4,a5⟩:=h;exact⟨a1,a2,a3,a4,a5⟩⟩
   .cases hB
  .simp only[ρ'];rw[if_neg oq]
 have hx:Rel ρ' W (λ_=>False) (.ow 8020) sv:=by
  cases hsv with
  | ow q1 q2 q3 q4=>exact .ow (by simp only[ρ',if_true];exact q1) q2 q3 q4
 have:=Z66 (keep:=[]) (fr:=O) (b:=8020) (els0:=pre.map Found.dv) I2 hx rfl pq ⟨_,rfl,by simp⟩ (λe he=>he) (λ_=>Zm8 pre) (λa n c hv hn=>by
  subst hv;cases hx with
  | ow q1 q2 q3 q4 =>
   rcases q4 with q4 | ⟨g,q5,q6,_⟩
   .omega
   .cases q6;exact⟨_,q1,q5⟩)
 refine⟨_,λg hg=>?_,this⟩;rcases hg with⟨h,_⟩ | ⟨b,β,_,_,q1,q2⟩
 .cases h
 .exact⟨(hA g).2 ⟨8020,β,(hρ _ _ q1).2,q2⟩,I.bnd _ _ g (hρ _ _ q1).2 q2⟩
end Go.Proofs.YtgedmeaemofdkaaGreat
namespace Go.Proofs.YtgedmeaemofdkaaGreat
open Go.Sx
def Zb8(h:Heap):¬ (atH h 0).2=0:=by
 unfold atH;split
 .have:¬ (ofA h.C 0).2.2=0:=by
   unfold ofA;split
   .rw[if_neg oq];simp
   .simp
  rw[if_neg this];simp
 .simp
def ZoI{h:Heap}(hp:Z03 h=O){i o:Int}(hi:0<=i/\i<h.P.length)(ho:0<=o/\o<h.C.pw)(e:(atH h (adr h i o)).2=0):(pg h i).K=2->o=0/\sizeH (atH h (adr h i o)).1=(pg h i).U:=by
 have hv:=Z07 hp;have hq:=properB_iff.1 hp;have ea:adr h i o=4096+(i*h.C.pw+o):=by
  unfold adr address;rw[if_pos hv.1,if_pos (by unfold inB;simp;omega)]
 have eo:=Zf3 (c:=h.C) (i:=i) (o:=o) hv.1 oq ho;rw[<- ea]at eo;unfold atH at e ⊢;rw[if_pos hp,eo]at e ⊢;simp only[if_true]at e ⊢;intro hk;have hk':(h.P.getD i.toNat La).K=2:=hk;split at e
 .rename_i h1;rw[if_pos h1];split at e
  .simp at e
  .rename_i h2;rw[if_neg h2];simp only[hk',not_or,not_and]at h2;have:=h2.2;simp only[true_and,not_or,Classical.not_not,forall_const]at this;exact⟨this.1,this.2⟩
 .simp at e
def Z9W{h:Heap}(hp:Z03 h=O){i:Int}(hi:0<=i/\i<h.P.length):∀ (f:Nat) (o:Int),0<=o->((pg h i).K=2->o=0) ->
  ((Z1L h i f o).2=O->Z2Z h i f o=M ((Z1L h i f o).1.map (·.addr)))/\((Z1L h i f o).2=Lb->Z2Z h i f o=Lc)
 | 0,o,_,_=>⟨λ_=>rfl,λh=>by cases h⟩
 | f+1,o,h0,hk=>by
  unfold Z1L Z2Z;by_cases ho:o<(pg h i).U
  .rw[if_pos ho,if_pos ho];by_cases ha:(address h.C i o).2=0
   .by_cases hh:(atH h (adr h i o)).2=0
    .rw[if_pos ⟨ha,hh⟩,if_pos hh];have hpw:o<h.C.pw:=by
      unfold address at ha;split at ha
      .split at ha
       .rename_i hb;unfold inB at hb;simp at hb;omega
       .simp at ha
      .simp at ha
     have h2:=ZoI hp hi ⟨h0,hpw⟩ hh;by_cases hk2:(pg h i).K=2
     .rw[if_pos hk2];have e:Z1L h i f (o+sizeH (atH h (adr h i o)).1)=([],O):=by
       have:=h2 hk2;cases f with
       | zero=>rfl
       | succ f=>unfold Z1L;rw[if_neg oq]
      rw[e];exact⟨λ_=>rfl,λh=>by cases h⟩
     .rw[if_neg hk2];have sz:=Z1u (atH h (adr h i o)).1;obtain⟨i1,i2⟩:=Z9W hp hi f (o+sizeH (atH h (adr h i o)).1) oq (λh=>absurd h hk2);exact⟨λh=>by rw[i1 h];rfl,λh=>by rw[i2 h];rfl⟩
    .rw[if_neg (λq=>hh q.2),if_neg hh];exact⟨λh=>(by cases h),λ_=>rfl⟩
   .have e:adr h i o=0:=by
     unfold adr address at *;split at ha
     .rename_i hv;split at ha
      .simp at ha
      .rename_i hb;rw[if_pos hv,if_neg hb]
     .rename_i hv;rw[if_neg hv]
    rw[if_neg (λq=>ha q.1),if_neg (by rw[e];exact Zb8 h)];exact⟨λh=>(by cases h),λ_=>rfl⟩
  .rw[if_neg ho,if_neg ho];exact⟨λ_=>rfl,λh=>(by cases h)⟩
def ZfJ{h:Heap}{i:Int}:∀ {f:Nat} {o:Int},∀ x∈(Z1L h i f o).1,x.hd=(atH h x.addr).1/\(atH h x.addr).2=0/\∃ o,x.addr=adr h i o
 | 0,o,x,hx=>by simp[Z1L]at hx
 | f+1,o,x,hx=>by
  unfold Z1L at hx;split at hx
  .split at hx
   .rename_i h1;rcases Lm.1 hx with rfl | hx
    .exact⟨rfl,h1.2,o,rfl⟩
    .exact ZfJ x hx
   .simp at hx
  .simp at hx
def Zdf{h:Heap}{i:Int}:∀ {f:Nat} {o:Int},(Z1L h i f o).1.length<=f
 | 0,o=>by simp[Z1L]
 | f+1,o=>by
  unfold Z1L;split
  .split
   .have:=Zdf (h:=h) (i:=i) (f:=f) (o:=o+sizeH (atH h (adr h i o)).1);simp only[List.length_cons];omega
   .simp
  .simp
def ZgZ{h:Heap}(hp:Z03 h=O){i:Int}(hi:0<=i/\i<h.P.length):Z0m h i=((Z0F h i).1.map (·.addr),(Z0F h i).2):=by
 have hk:=(Z0u hp (j:=i.toNat) oq)
 unfold Z0m Z0F Z20;rw[if_pos hp,if_pos hi];by_cases h1:(pg h i).K=0\/(pg h i).K=3
 .have e:(if(pg h i).K=1\/(pg h i).K=2 then Z1L h i 256 0 else([],O))=([],O):=if_neg oq;rw[if_pos h1,e];rfl
 .have h2:(pg h i).K=1\/(pg h i).K=2:=by
   have:0<=(pg h i).K/\(pg h i).K<=3:=⟨hk.2.2.2.2.1,hk.2.2.2.2.2.1⟩
   omega
  rw[if_neg h1,if_pos h2];obtain⟨i1,i2⟩:=Z9W hp hi 256 0 oq (λ_=>rfl);cases e:(Z1L h i 256 0).2 with
  | true=>rw[i1 e];rfl
  | false=>rw[i2 e];rfl
def Z5W(h:Heap)(i:Int):(Z0F h i).1.length<=256:=by
 unfold Z0F Z20;split
 .split
  .exact Zdf
  .simp
 .simp
def Zas{h:Heap}{i:Int}:∀ x∈(Z0F h i).1,x.hd=(atH h x.addr).1/\(atH h x.addr).2=0/\∃ o,x.addr=adr h i o:=by
 intro x hx;unfold Z0F Z20 at hx;split at hx
 .split at hx
  .exact ZfJ x hx
  .simp at hx
 .simp at hx
def allR(h:Heap):Nat->Nat->List Found×Int
 | 0,_=>([],0)
 | f+1,i=>if(Z0F h i).2=0 then(if(allR h f (i+1)).2=0 then((Z0F h i).1++(allR h f (i+1)).1,0)else([],(allR h f (i+1)).2))else([],(Z0F h i).2)
def allW(h:Heap):List Found×Int:=if Z03 h=O then allR h h.P.length 0 else([],1)
def Zhz{h:Heap}(hp:Z03 h=O):∀ (f i:Nat),i+f<=h.P.length->Z0D h f i=((allR h f i).1.map (·.addr),(allR h f i).2)
 | 0,i,_=>rfl
 | f+1,i,hi=>by
  unfold Z0D allR;rw[ZgZ hp (i:=i) oq,Zhz hp f (i+1) oq];simp only;split
  .split
   .simp
   .rfl
  .rfl
def ZaK(h:Heap):Z0P h=((allW h).1.map (·.addr),(allW h).2):=by
 unfold Z0P allW;split
 .rename_i hp;exact Zhz hp _ _ oq
 .rfl
def Zka(h:Heap):∀ (f i:Nat),¬ (allR h f i).2=0->(allR h f i).1=[]
 | 0,i,e=>absurd rfl e
 | f+1,i,e=>by
  unfold allR at e ⊢;split at e
  .rename_i h1;rw[if_pos h1];split at e
   .exact absurd rfl e
   .rename_i h2;rw[if_neg h2]
  .rename_i h1;rw[if_neg h1]
def Zis{h:Heap}:∀ (f i:Nat),∀ x∈(allR h f i).1,x.hd=(atH h x.addr).1/\(atH h x.addr).2=0
 | 0,i,x,hx=>by simp[allR]at hx
 | f+1,i,x,hx=>by
  unfold allR at hx;split at hx
  .split at hx
   .rcases Xk.1 hx with hx | hx
    .exact⟨(Zas x hx).1,(Zas x hx).2.1⟩
    .exact Zis f (i+1) x hx
   .simp at hx
  .simp at hx
def Zj7{h:Heap}:∀ x∈(allW h).1,x.hd=(atH h x.addr).1/\(atH h x.addr).2=0:=by
 intro x hx;unfold allW at hx;split at hx
 .exact Zis _ _ x hx
 .simp at hx
def Zfb(h:Heap):∀ (f i:Nat),(allR h f i).1.length<=256*f
 | 0,i=>by simp[allR]
 | f+1,i=>by
  have:=Z5W h i;have:=Zfb h f (i+1);unfold allR;split
  .split
   .simp;omega
   .simp
  .simp
def ZlG(h:Heap):(allW h).1.length<=16384:=by
 unfold allW;split
 .rename_i hp;have:=Zfb h h.P.length 0;have:=Z07 hp;omega
 .simp
end Go.Proofs.YtgedmeaemofdkaaGreat
namespace Go.Proofs.YtgedmeaemofdkaaGreat
open Go.Sx Go.RowKit
def Zjw{h:Heap}{i:Int}(e:(Z20 h i).2=O):Z0F h i=((Z20 h i).1,0):=if_pos e
def Zhc{h:Heap}{i:Int}(e:(Z20 h i).2=Lb):Z0F h i=([],19):=if_neg (by rw[e];simp)
def Z82{w00 X:World}(K:Kept (λ_=>False) w00 X){g:Nat}{o:Obj}(hg:w00.heap.size<=g):Kept (λ_=>False) w00 (X.putObj g o):=by
 refine⟨K.os,K.tape,K.output,by rw[Lt];exact K.size,λk hk _=>by rw[Lh oq];exact K.block k hk id,λk hk=>?_⟩;have:=K.rows k hk;unfold rows at this ⊢;rw[Lh oq];exact this
def Zg2{w00 X:World}(K:Kept (λ_=>False) w00 X){g:Nat}{cs:Array Value}(hg:w00.heap.size<=g):Kept (λ_=>False) w00 (X.setRow g cs):=by
 refine⟨K.os,K.tape,K.output,by have:=K.size;simp[L9];omega,λk hk _=>by rw[setRow_other X g k _ oq];exact K.block k hk id,λk hk=>?_⟩;have:=K.rows k hk;unfold rows at this ⊢;rw[setRow_other X g k _ oq];exact this
def kept_alloc{w00 X:World}(K:Kept (λ_=>False) w00 X)(o:Obj):Kept (λ_=>False) w00 (X.alloc o):=by
 have hs:=K.size;refine⟨K.os,K.tape,K.output,by simp;omega,λk hk _=>by rw[Lu _ _ _ oq];exact K.block k hk id,λk hk=>?_⟩;have:=K.rows k hk;unfold rows at this ⊢;rw[Lu _ _ _ oq];exact this
def ZiE{X:World}{l g:Nat}{x y:Option (List Deferred)}(h:X.heap[l]? = M (.deferred x)):rows (X.putObj l (.deferred y)) g=rows X g:=by
 by_cases hg:g=l
 .subst hg;simp[rows,h,Lw (Lj.1 h).1]
 .simp only[rows,Lh hg]
def ZiV{X:World}{l g:Nat}{x y:Loop}(h:X.heap[l]? = M (.loop x)):rows (X.putObj l (.loop y)) g=rows X g:=by
 by_cases hg:g=l
 .subst hg;simp[rows,h,Lw (Lj.1 h).1]
 .simp only[rows,Lh hg]
def Z60{a:Act}{k:Nat}{v:Value}(h:a.tmps[k]? = M v):a.eval (.tmp k)=v:=by
 show a.tmps.getD k undef=v;simp[Array.getD_eq_getD_getElem?,h]
def Z7x{a:Act}{k d:Nat}{u v:Value}(h:a.tmps[k]? = M v)(hk:d≠k):(a.put (M d) u).tmps[k]? = M v:=by
 show(a.tmps.setIfInBounds d u)[k]? = M v;rw[Array.getElem?_setIfInBounds_ne hk];exact h
def Z5Y{a:Act}{d:Nat}{u:Value}(h:d<a.tmps.size):(a.put (M d) u).tmps[d]? = M u:=by
 show(a.tmps.setIfInBounds d u)[d]? = M u;rw[Array.getElem?_setIfInBounds_self_of_lt h]
def Zly{W:World}{g6:Nat}(c6:W.heap[g6]? = M (.cells #[.slice Lc 0 0] 206 (0,0)))(prot:List (Nat×Obj))(hp:∀ p∈prot,W.heap[p.1]? = M p.2/\p.1≠g6):LJ g6 prot (λg=>g=g6) [] W:=by
 have l6:g6<W.heap.size:=(Lj.1 c6).1;let ρ:Rho:=λb=>if b=6 then M ⟨M g6,1,1⟩else if b=8020 then M ⟨Lc,4,0⟩else Lc
 have hρ:∀ b β,ρ b=M β->(b=6/\β=⟨M g6,1,1⟩)\/(b=8020/\β=⟨Lc,4,0⟩):=by
  intro b β h;simp only[ρ]at h;split at h
  .cases h;exact .inl ⟨aa,rfl⟩
  .split at h
   .cases h;exact .inr ⟨aa,rfl⟩
   .cases h
 have hA:∀ g,g=g6↔∃ b β,ρ b=M β/\β.g=M g:=by
  intro g;constructor
  .rintro rfl;exact⟨6,_,rfl,rfl⟩
  .rintro⟨b,β,h,h'⟩;rcases hρ b β h with⟨_,rfl⟩ | ⟨_,rfl⟩
   .cases h';rfl
   .cases h'
 have hg:∀ b β g,ρ b=M β->β.g=M g->b=6/\g=g6:=by
  intro b β g h h';rcases hρ b β h with⟨rfl,rfl⟩ | ⟨_,rfl⟩
  .cases h';exact⟨rfl,rfl⟩
  .cases h'
 refine⟨ρ,hA,⟨Kept.refl _ _,λb b' β β' g _ _ q1 q2 q3 q4=>by rw[(hg _ _ _ q1 q3).1,(hg _ _ _ q2 q4).1],λ_ _ _ _ _ _ h=>h,λb β g q1 q2=>by rw[(hg _ _ _ q1 q2).2];exact l6,λb β g q1 q2=>.inr ⟨b,β,q1,q2⟩,λ_ h=>h.elim,λ_ h=>h.elim,λb B q=>?_,λb hb _=>?_,⟨by decide,λ_ _ _ h=>h⟩⟩,⟨1,1,rfl⟩,λb β h=>?_,λb β g q1 q2=>?_,λp hpp=>hp p hpp⟩
 .simp only[lstH,Xj,hOf]at q;split at q
  .rename_i hb;cases q;subst hb;exact⟨_,rfl,rfl,rfl,by simp[big],by simp,.inl ⟨rfl,rfl⟩⟩
  .split at q
   .rename_i hb;cases q;subst hb;refine⟨_,rfl,rfl,rfl,g6,_,rfl,c6,rfl,λi v h=>?_,λo a v ha hv=>?_⟩
    .rcases i with _ | i<;>simp at h;subst h;rfl
    .rcases o with _ | o<;>simp at ha hv;subst ha;subst hv;exact .ow (β:=⟨Lc,4,0⟩) rfl (Ls _) (by simp[big]) (.inl rfl)
   .cases q
 .simp only[ρ];rw[if_neg oq,if_neg oq]
 .rcases hρ b β h with⟨rfl,_⟩ | ⟨rfl,_⟩<;>simp
 .obtain⟨rfl,rfl⟩:=hg _ _ _ q1 q2;rcases hρ _ _ q1 with⟨_,rfl⟩ | ⟨h,_⟩
  .simp[rows,c6]
  .omega
def ZiP{w00 W:World}{Im Im':Nat->Prop}{v4 v5:Value}{l:List Found}{e:Int}(K:Kept (λ_=>False) w00 W)(h1:∀ g,Im' g->w00.heap.size<=g/\g<W.heap.size)(h4:RelD W Im' (.sl 4 (l.map Found.dv)) v4)(h5:v5 = .int .i64 e) :
  ZdQ w00 Im O (.tu [Z1j l,int e]) [] (.tuple #[v4,v5]) W:=by
 subst h5;refine⟨K,λ_=>Lc,Im',λg hg=>.inr (h1 g hg).1,λg hg=>(h1 g hg).2,λ_ _ _ h=>(by cases h),λ_ _ _ _ _ h=>(by cases h),λ_ _ h=>(by cases h),λk B h=>(by simp at h),.tu _ _ rfl λi a v ha hv=>?_⟩;rcases i with _ | _ | i<;>simp at ha hv
 .subst ha;subst hv;exact .d h4
 .subst ha;subst hv;exact .d (.sc _ rfl)
def ZlC{h:Heap}{i:Int}(hw:WOk h.W)(hp:Z03 h=O)(hi:0<=i/\i<h.P.length){w00 w4:World}{Im Im4:Nat->Prop}{a4:Act}{g4 g5 g6:Nat}{u4 u5 p1 p2:Value}
  (K:Kept (λ_=>False) w00 w4) (ha:a4.tmps.size=22) (t4:a4.tmps[4]? = M (.pointer (M ⟨g4,0,Lc⟩))) (t5:a4.tmps[5]? = M (.pointer (M ⟨g5,0,Lc⟩))) (t6:a4.tmps[6]? = M (.pointer (M ⟨g6,0,Lc⟩)))
  (t11:a4.tmps[11]? = M (.func (.func 234) #[] #[p1,p2])) (hd:a4.defers=[]) (l4:w00.heap.size<=g4) (l5:w00.heap.size<=g5) (n45:g4≠g5) (n46:g4≠g6) (n56:g5≠g6) (l6:w00.heap.size<=g6)
  (c4:w4.heap[g4]? = M (.cells #[u4] 206 (0,0))) (c5:w4.heap[g5]? = M (.cells #[u5] 32 (0,0))) (c6:w4.heap[g6]? = M (.cells #[.slice Lc 0 0] 206 (0,0)))
  (hIm:∀ g,Im4 g->g<w4.heap.size/\g≠g6) (r1:Rel (λ_=>Lc) w4 Im4 (.rp h.dvs 0) p1) (r2:Rel (λ_=>Lc) w4 Im4 (.rp [dint i] 0) p2) {Q:Exit->Act->World->Prop}
  (hQ:bodyPostM Lf 10 prog f183 (λe w'=>∃ v,e=Ending.returned v/\ZdQ w00 Im O (AV.tu [Z1j (Z0F h i).1,int (Z0F h i).2]) [] v w')=Q) :
  (blkF f183 0).wpIn Lf 10 prog (Exit.then ((LR (.region 8 (rgO f183 8) Lb) .ret).wpIn Lf 10 prog Q) Q) a4 w4:=by
 have hs4:=K.size;rw[show blkF f183 0 = .block 0 (.rangeFunc (.tmp 11) #[12,13] (asgF f183 0) (bodF f183 0))from by kernel_rfl];refine wpIn_block (wpIn_rangeFunc ?_);intro fn hfn;have q4:g4<w4.heap.size:=(Lj.1 c4).1;have q5:g5<w4.heap.size:=(Lj.1 c5).1;have q6:g6<w4.heap.size:=(Lj.1 c6).1;obtain⟨D,hD⟩:∃ D,w4.heap.size=D:=⟨_,rfl⟩
 obtain⟨W1,hW1⟩:∃ W1,(w4.alloc (.deferred (M []))).alloc (recV f183 fn a4.tmps D .ready Lc)=W1:=⟨_,rfl⟩
 have old:∀ {g:Nat},g<D->W1.heap[g]? = w4.heap[g]? := λ{g} hg=>by
  rw[<- hW1,Lu _ _ _ qo,Lu _ _ _ oq]
 have atD:W1.heap[D]? = M (.deferred (M [])):=by
  rw[<- hW1,Lu _ _ _ qo,<- hD];exact L8 _ _
 have atL:W1.heap[D+1]? = M (recV f183 fn a4.tmps D .ready Lc):=by
  have:=L8 (w4.alloc (.deferred (M []))) (recV f183 fn a4.tmps D .ready Lc);rw[World.size_alloc,hD]at this;rw[<- hW1];exact this
 have z1:W1.heap.size=D+2:=by rw[<- hW1];simp;omega
 have K1:Kept (λ_=>False) w00 W1:=by rw[<- hW1];exact kept_alloc (kept_alloc K _) _
 have E1:Sx.Ext Im4 w4 W1:=⟨by omega,λg hg=>old (by have:=(hIm g hg).1;omega),λg hg=>by unfold rows;rw[old oq]⟩
 have J0:LK w00 g6 [(D+1,recV f183 fn a4.tmps D .ready Lc),(D,.deferred (M [])),(g4,.cells #[u4] 206 (0,0)),(g5,.cells #[u5] 32 (0,0))] (λg=>g=g6) [] W1:=by
  refine⟨Zly (by rw[old oq];exact c6) _ λp hpp=>?_,K1,λg hg=>by omega⟩;simp only[Lm,Lp,or_false]at hpp;rcases hpp with rfl | rfl | rfl | rfl
  .exact⟨atL,by show D+1≠g6;omega⟩
  .exact⟨atD,by show D≠g6;omega⟩
  .exact⟨by rw[old (by show g4<D;omega)];exact c4,n46⟩
  .exact⟨by rw[old (by show g5<D;omega)];exact c5,n56⟩
 have RR:=Zo6 (w00:=w00) (fn:=fn) (a0:=a4.tmps) (D:=D) (l:=D+1) (n:=8) (g4:=g4) (g5:=g5) (g6:=g6) (u4:=u4) (u5:=u5) ha t4 t5 t6 n45 l4 l5 oq;have v11:=Z60 t11;refine⟨D+1,[{ target:=.collected D,args := #[] }],W1,{ target:=.fn (.func 234) #[p1,p2],args := #[Z2f (D+1)] },W1,234,#[Z2f (D+1)] ++ #[p1,p2],W1, ?_, ?_,λ_ _=>trivial, ?_,λ_=>by decide, ?_⟩
 .rw[<- hW1,<- hD];exact run_enterLoop_outer _ _ _ _ _
 .simp[resolve,t11,LI,rangeCall,Z2f,go_sem]
 .have:=Z1U (P:=prog) (f:=234) kr (#[Z2f (D+1)] ++ #[p1,p2]) W1;simp[invoke,go_sem]at this ⊢ <;> exact this
 .refine(ZmW h i (D+1) 8 hw hp hi RR (Im:=Im4) (λg hg=>⟨by have:=(hIm g hg).1;omega,(hIm g hg).2⟩) (r1.mono E1 (λ_ h=>h) (λ_ _ h=>h) (λ_ _ _ h=>nomatch h)) (r2.mono E1 (λ_ h=>h) (λ_ _ h=>h) (λ_ _ _ h=>nomatch h)) J0).mono ?_;rintro e W2 ⟨⟨v,rfl⟩,hh⟩;rcases hh with⟨e1,A,J2⟩ | ⟨e1,x1,x2,x3,x4,x5⟩
  .obtain⟨sv,s1,s2,s3,Im',s4,s5⟩:=ZlS J2;obtain⟨⟨ρ,_,_,_,_,_,hpp⟩,K2,hge⟩:=J2;have pl:=hpp (D+1,recV f183 fn a4.tmps D .ready Lc) pq;have pD:=hpp (D,.deferred (M [])) pq;have p4:=hpp (g4,.cells #[u4] 206 (0,0)) pq;have p5:=hpp (g5,.cells #[u5] 32 (0,0)) pq;have n6:∀ {g:Nat},¬ A g->g6≠g:=λhg e=>hg (e▸s3);refine⟨Lc,_,run_endLoop pl.1 pq, ?_⟩;show(LR (.region 8 (rgO f183 8) Lb) .ret).wpIn Lf 10 prog Q { tmps:=a4.tmps,defers:=[{ target:=.collected D,args := #[] }]++a4.defers } _;rw[hd];generalize hW3:W2.putObj (D+1) _=W3;have o3:∀ {g:Nat},g≠D+1->W3.heap[g]? = W2.heap[g]? := λ{g} hg=>by rw[<- hW3];exact Lh hg
   have K3:Kept (λ_=>False) w00 W3:=by rw[<- hW3];exact Z82 K2 oq
   have z3:W3.heap.size=W2.heap.size:=by rw[<- hW3];exact Lt
   have d6:W3.heap[g6]? = M (.cells #[sv] 206 (0,0)):=by rw[o3 (n6 pl.2)];exact s1
   have d4:W3.heap[g4]? = M (.cells #[u4] 206 (0,0)):=by rw[o3 oq];exact p4.1
   have d5:W3.heap[g5]? = M (.cells #[u5] 32 (0,0)):=by rw[o3 oq];exact p5.1
   have dD:W3.heap[D]? = M (.deferred (M [])):=by rw[o3 oq];exact pD.1
   refine wpIn_seq (wpIn_region ?_);rw[show Lq (rgO f183 8).size=[0,1,2]from by kernel_rfl];refine Z2B (o:=(rgO f183 8).getD 0 La) kr kr (Z2Y (ro:=Lc) (by intro c h;cases h) (Z6J (Zoc (t:=206) (x:=.tmp 6) kr (Z60 t6) d6 s2 kr) ?_));have e4:(W3.setRow g4 #[sv]).heap[g4]? = M (.cells #[sv] 206 (0,0)):=setRow_self d4;have f5:(W3.setRow g4 #[sv]).heap[g5]? = M (.cells #[u5] 32 (0,0)):=by rw[setRow_other W3 g4 g5 _ n45.symm];exact d5
   refine Z2B (o:=(rgO f183 8).getD 1 La) kr kr (Z2Y (ro:=Lc) (by intro c h;cases h) (Z5z (Z7X (t:=206) (x:=.tmp 4) (y:=.tmp 21) (v:=sv) kr (Z60 (Z7x t4 dd)) (Z60 (Z5Y (by show 21<a4.tmps.size;omega))) d4 s2 kr) ?_));refine Z2B (o:=(rgO f183 8).getD 2 La) kr kr (Z2Y (ro:=Lc) (by intro c h;cases h) (Z5z (Z7X (t:=32) (x:=.tmp 5) (y:=.const (.int .i64 0)) (v:=.int .i64 0) kr (Z60 (Z7x t5 dd)) rfl f5 rfl kr) ?_));generalize hW5:(W3.setRow g4 #[sv]).setRow g5 #[.int .i64 0]=W5;have o5:∀ {g:Nat},g≠g4->g≠g5->W5.heap[g]? = W3.heap[g]? := λ{g} h k=>by
    rw[<- hW5,setRow_other _ g5 g _ k,setRow_other _ g4 g _ h]
   have m4:g4≠D:=by omega
   have m5:g5≠D:=by omega
   have K5:Kept (λ_=>False) w00 W5:=by rw[<- hW5];exact Zg2 (Zg2 K3 l4) l5
   have z5:W5.heap.size=W2.heap.size:=by rw[<- hW5,<- z3];simp[L9]
   refine wpIn_ret ?_;show Q .ret _ W5;rw[<- hQ,Zjw e1];refine Zcv (g4:=g4) (g5:=g5) (v4:=sv) (v5:=.int .i64 0) (Z60 (a := { tmps:=_,defers:=[] }) (Z7x t4 dd)) (Z60 (a := { tmps:=_,defers:=[] }) (Z7x t5 dd)) ?_ ?_ s2 rfl ?_ ⟨_,rfl,ZiP (Im':=Im') (Z82 K5 oq) (λg hg=>?_) (s5.mono ⟨?_,λg hg=>?_,λg hg=>?_⟩ (λ_ h=>h)) rfl⟩
   .rw[<- hW5,setRow_other _ g5 g4 _ n45];exact e4
   .rw[<- hW5];exact setRow_self f5
   .rw[o5 m4.symm m5.symm];exact dD
   .have:=(s4 g hg).2;have:=hge g (s4 g hg).1;rw[Lt];omega
   .rw[Lt];omega
   .have hA:=(s4 g hg).1;have ne:∀ {k:Nat},¬ A k->g≠k:=λhk e=>hk (e▸hA);rw[Lh (ne pD.2),o5 (ne p4.2) (ne p5.2),o3 (ne pl.2)]
   .rw[ZiE (by rw[o5 m4.symm m5.symm];exact dD),<- hW5,Z2j _ g5 #[u5] #[.int .i64 0] _ f5 rfl,Z2j _ g4 #[u4] #[sv] _ d4 rfl,<- hW3,ZiV pl.1]
  .refine⟨M .ret,_,run_endLoop x1 pq, ?_⟩;refine wpIn_ret ?_;show Q .ret { tmps:=a4.tmps,defers:=[{ target:=.collected D,args := #[] }]++a4.defers } _;rw[hd,<- hQ,Zhc e1];refine Zcv (g4:=g4) (g5:=g5) (v4:=.slice Lc 0 0) (v5:=.int .i64 19) (Z60 (a := { tmps:=_,defers:=[] }) t4) (Z60 (a := { tmps:=_,defers:=[] }) t5) ?_ ?_ rfl rfl ?_ ⟨_,rfl,ZiP (Im':=λ_=>False) (Z82 (Z82 x5 oq) oq) (λ_ h=>h.elim) (.slNil _ _ _) rfl⟩
   .rw[Lh oq];exact x3
   .rw[Lh oq];exact x4
   .rw[Lh oq];exact x2
def Za8(h:Heap)(i:Int)(hw:WOk h.W)(hp:Z03 h=O)(hi:0<=i/\i<h.P.length):GP 183 [h.av,int i] O (.tu [Z1j (Z0F h i).1,int (Z0F h i).2]) []:=by
 intro w00 Im vs hIm hsz hargs;rw[<- callsIn_wide (n:=10)];refine callsIn_of_wp_marks func183 (c:=bdyF f183) kr trivial ?_ rfl;have S0:Sx.Sys Z4s Im w00 (tm 22 [(0,h.av),(1,int i)]) (hOf []) 1 { tmps:=vs++LF (Tryz.f183.ntmps-vs.size) undef,defers:=[] } w00:=by
  have hs2:vs.size=2:=hsz;refine⟨_,Im,Sx.Inv.empty hIm (Ls 1),⟨by rw[hs2];simp[hs2];kernel_rfl,λk y v hy hv=>?_,rfl⟩⟩;rw[show tm 22 [(0,h.av),(1,int i)]=[h.av,int i]++Lg 20 .any from by kernel_rfl,LN]at hy;rw[LD]at hv;split at hy
  .rename_i hk;rw[if_pos (by rw[hsz];exact hk)]at hv;exact hargs k y v hy hv
  .have:=Ln hy;rw[(Lv.1 this).2];exact .any _
 generalize hR:(λe w'=>∃ v,e=Ending.returned v/\ZdQ w00 Im O (AV.tu [Z1j (Z0F h i).1,int (Z0F h i).2]) [] v w')=R;generalize hQ:bodyPostM Lf 10 prog f183 R=Q;refine ZmH h i 10 Q _ _ _ _ _ S0 ?_;rintro a1 w1 ⟨ρ1,Im1,I1,T1⟩;obtain⟨v2,t2,r2⟩:=T1.at (t:=2) (x:=.pt 8002 0 0) rfl;obtain⟨v4,t4,r4⟩:=T1.at (t:=4) (x:=.pt 8004 0 0) rfl;obtain⟨v5,t5,r5⟩:=T1.at (t:=5) (x:=.pt 8005 0 0) rfl;obtain⟨β2,m2,n2⟩:=I1.blk 8002 _ rfl;obtain⟨β4,m4,n4⟩:=I1.blk 8004 _ rfl;obtain⟨β5,m5,n5⟩:=I1.blk 8005 _ rfl;have rp2:Rel (λ_=>Lc) w1 (λg=>Im1 g\/β2.g=M g) (.rp h.dvs 0) v2:=Z6m m2 n2 r2 (λ_ h=>.inl h) (λ_ h=>.inr h);obtain⟨g4,s4,k4,e4,rfl⟩:=Z3G r4 rfl;obtain⟨g5,s5,k5,e5,rfl⟩:=Z3G r5 rfl;rw[m4]at e4;cases e4;rw[m5]at e5;cases e5;have h45:g4≠g5:=by
  rintro rfl;have:=I1.inj 8004 8005 _ _ g4 ⟨_,rfl,by simp⟩ ⟨_,rfl,by simp⟩ m4 m5 rfl rfl;omega
 have l4:w00.heap.size<=g4:=(I1.own 8004 _ g4 m4 rfl).elim (·.1) (λh=>h.no.elim);have l5:w00.heap.size<=g5:=(I1.own 8005 _ g5 m5 rfl).elim (·.1) (λh=>h.no.elim);have cell:∀ {β:Bi} {ty g:Nat} {x:AV},RelB ρ1 w1 Im1 β (.box ty [x])->β.g=M g->∃ u,w1.heap[g]? = M (.cells #[u] ty (0,0)):=by
  intro β ty g x hb hg;obtain⟨_,_,g',cs,q1,q2,q3,_⟩:=hb;rw[hg]at q1;cases q1;have hc:cs.size=1:=q3;exact⟨cs[0],by
   have:cs = #[cs[0]]:=by
    apply LQ
    .simp[hc]
    .intro k hk _;rcases k with _ | k
     .rfl
     .omega
   rw[<- this];exact q2⟩
 obtain⟨u4,c4⟩:=cell n4 rfl;obtain⟨u5,c5⟩:=cell n5 rfl;have er:rest prog 10 1 (bdyF f183) Q a1 w1=(LH 1 (rgO f183 1) Lb).wpIn Lf 10 prog (Exit.then ((LR (.seq (.region 2 (rgO f183 2) Lb) (blkF f183 0)) (.seq (.region 8 (rgO f183 8) Lb) .ret)).wpIn Lf 10 prog Q) Q) a1 w1:=by kernel_rfl
 rw[er];refine wpIn_region ?_;rw[show Lq (rgO f183 1).size=[0]from by kernel_rfl];refine Z2B (o:=(rgO f183 1).getD 0 La) kr kr (Z2Y (ro:=Lc) (by intro c h;cases h) (Z6J (ZkQ (t:=206) (z:=.slice Lc 0 0) kr kr) ?_));show(LR (.seq (.region 2 (rgO f183 2) Lb) (blkF f183 0)) (.seq (.region 8 (rgO f183 8) Lb) .ret)).wpIn Lf 10 prog Q (a1.put (M 6) (.pointer (M ⟨w1.heap.size,0,Lc⟩))) (w1.alloc (.cells #[.slice Lc 0 0] 206));obtain⟨w2,hw2⟩:∃ w2,w1.alloc (.cells #[.slice Lc 0 0] 206)=w2:=⟨_,rfl⟩
 rw[hw2];obtain⟨g6,hg6⟩:∃ g6,w1.heap.size=g6:=⟨_,rfl⟩
 rw[hg6];have E2:Sx.Ext (λg=>Im1 g\/β2.g=M g) w1 w2:=by
  rw[<- hw2];refine Sx.Ext.alloc _ w1 _ ?_;rintro g (hg | hg)
  .exact I1.imb g hg
  .exact I1.bnd _ _ g m2 hg
 have z2:w2.heap.size=w1.heap.size+1:=by rw[<- hw2];simp
 have K2:Kept (λ_=>False) w1 w2:=by
  rw[<- hw2];exact⟨rfl,rfl,rfl,by simp,λk hk _=>Lu _ _ _ hk,λk hk=>by simp only[rows];rw[Lu _ _ _ hk]⟩
 have c6:w2.heap[g6]? = M (.cells #[.slice Lc 0 0] 206 (0,0)):=by rw[<- hw2,<- hg6];exact L8 _ _
 have T2:RelT [] (λ_=>Lc) w2 (λg=>Im1 g\/β2.g=M g) (tm 22 [(1,int i),(2,.rp h.dvs 0),(4,ptr g4),(5,ptr g5),(6,ptr g6)]) (a1.put (M 6) (.pointer (M ⟨g6,0,Lc⟩))):=by
  have A1:RelT [] ρ1 w1 (λg=>Im1 g\/β2.g=M g) _ a1:=T1.mono (Sx.Ext.refl _ _) (λ_ h=>.inl h) (λ_ _ h=>h) I1.bnd;have A2:=((((A1.reSet 2 .any (λv _=>.any v)).reSet 4 .any (λv _=>.any v)).reSet 5 .any (λv _=>.any v)).pure kr)
  have A3:=((A2.reSet 2 (.rp h.dvs 0) (λv hv=>by rw[t2]at hv;cases hv;exact rp2)).reSet 4 (ptr g4) (λv hv=>by rw[t4]at hv;cases hv;simp only[Xq,Xn];exact .d (.sc _ rfl))).reSet 5 (ptr g5) (λv hv=>by rw[t5]at hv;cases hv;simp only[Xq,Xn];exact .d (.sc _ rfl));exact(A3.mono E2 (λ_ h=>h) (λ_ _ h=>h) (λ_ _ _ h=>nomatch h)).put 6 (Rel.d (RelD.sc _ rfl))
 have S2:Sx.Sys Z4s (λg=>Im1 g\/β2.g=M g) w2 (tm 22 [(1,int i),(2,.rp h.dvs 0),(4,ptr g4),(5,ptr g5),(6,ptr g6)]) (hOf []) 20 (a1.put (M 6) (.pointer (M ⟨g6,0,Lc⟩))) w2:=by
  refine⟨_,_,Sx.Inv.empty ?_ dd,T2⟩;rintro g (hg | hg)
  .have:=I1.imb g hg;omega
  .have:=I1.bnd _ _ g m2 hg;omega
 refine wpIn_seq (wpIn_seq (wpIn_region ?_));rw[show Lq (rgO f183 2).size=[0,1]++[2]from by kernel_rfl];refine Z3p (ro:=Lc) (hints:=[]) (out:=⟨tm 22 [(1,int i),(2,.rp h.dvs 0),(4,ptr g4),(5,ptr g5),(6,ptr g6),(9,h.av),(10,int i)],hOf [],[],[]⟩) kr S2 trivial (λp hp=>by simp at hp) ?_;rintro a3 w3 ⟨ρ3,Im3,I3,T3⟩;have T3:=T3.pure kr;have hcall:(execOp a3.eval ((rgO f183 2).getD 2 La)).run prog w3 = .ok (.enter 214 #[a3.eval (.tmp 9),a3.eval (.tmp 10)]) w3:=by
  have hop:((rgO f183 2).getD 2 La).op = .call ⟨.value (.func 214),#[.tmp 9,.tmp 10],tsOf ((rgO f183 2).getD 2 La)⟩:=by kernel_rfl
  have:=Z1U (P:=prog) (f:=214) kr #[a3.eval (.tmp 9),a3.eval (.tmp 10)] w3;have hev:a3.eval (.func 214) = .func (.func 214) #[] #[]:=rfl;generalize (rgO f183 2).getD 2 La=o at hop ⊢;simp[execOp,hop,resolve,hev,LI,invoke,this]
 refine Z2B (o:=(rgO f183 2).getD 2 La) kr kr (Z2Y (ro:=Lc) (by intro c h;cases h) ?_);unfold LB;rw[hcall,L7];refine(Zox h i w3 Im3 _ _ I3.imb (Z1v T3 (.tmp 9)) (Z1v T3 (.tmp 10))).mono ?_;rintro e w4 ⟨p1,p2,Im4,rfl,K4,hIm4,rp1,rp2'⟩;have hdst:((rgO f183 2).getD 2 La).dst=M 11:=by kernel_rfl
 rw[hdst];have b4:g4<g6:=by rw[<- hg6];exact I1.bnd _ _ _ m4 rfl
 have b5:g5<g6:=by rw[<- hg6];exact I1.bnd _ _ _ m5 rfl
 have s1:=I1.kept.size;have s3:=I3.kept.size;obtain⟨x4,y4,q4⟩:=T3.at (t:=4) (x:=ptr g4) rfl;obtain⟨x5,y5,q5⟩:=T3.at (t:=5) (x:=ptr g5) rfl;obtain⟨x6,y6,q6⟩:=T3.at (t:=6) (x:=ptr g6) rfl;rw[Z0O q4]at y4;rw[Z0O q5]at y5;rw[Z0O q6]at y6;have hz:a3.tmps.size=22:=T3.size;have to4:∀ {g:Nat},g<w2.heap.size->w4.heap[g]? = w2.heap[g]? := λ{g} hg=>by
  rw[K4.block g oq id,I3.kept.no.block g hg id]
 have to2:∀ {g:Nat},g<w1.heap.size->w2.heap[g]? = w1.heap[g]? := λ{g} hg=>K2.block g hg id;refine ZlC hw hp hi (w4:=w4) (Im4:=Im4) (g4:=g4) (g5:=g5) (g6:=g6) (u4:=u4) (u5:=u5) (p1:=p1) (p2:=p2) (Z3F (Z3F (Z3F I1.kept.no K2 (λ_ h=>h.elim)) I3.kept.no (λ_ h=>h.elim)) K4 (λ_ h=>h.elim)) ?_ (Z7x y4 dd) (Z7x y5 dd) (Z7x y6 dd) (Z5Y oq) T3.defers l4 l5 h45 oq oq oq ?_ ?_ ?_ (λg hg=>?_) rp1 rp2' (by rw[hR];exact hQ)
 .show(a3.tmps.setIfInBounds 11 _).size=22;rw[LG];exact hz
 .rw[to4 oq,to2 oq];exact c4
 .rw[to4 oq,to2 oq];exact c5
 .rw[to4 oq];exact c6
 .obtain⟨h1,h2⟩:=hIm4 g hg;refine⟨h2, ?_⟩;rcases h1 with h1 | h1
  .rcases I3.im0 g h1 with k | k | k
   .rcases k with k | k
    .have:=I1.imb g k;omega
    .have:=I1.bnd _ _ g m2 k;omega
   .omega
   .exact k.no.elim
  .omega
end Go.Proofs.YtgedmeaemofdkaaGreat
namespace Go.Proofs.YtgedmeaemofdkaaGreat
open Go.Sx
def Z8D{l:List Found}{i:Nat}(hi:i<l.length):l.take (i+1)=l.take i++[l.getD i La]:=by
 rw[Xm];simp[hi]
def Zma(l:List Found)(i:Nat):Tg:=⟨tm 19 [(2,.d (.sl 0 [])),(3,.ow 16003),(6,Z1j l),(7,int l.length),(8,int i)],[(16003,.arr 35 1 (((l.take i).map (·.addr)).map wdv))],60⟩
def Zj8(l:List Found)(i:Nat)(hl:l.length<=1048576)(hi:i<l.length):CP (rndF f157 0) (Zma l i).st .nrm (Zma l (i+1)).st:=by
 have e:(l.take (i+1)).map (·.addr)=(l.take i).map (·.addr)++[(l.getD i La).addr]:=by rw[Z8D hi,LV];rfl
 have en:((l.take i).map (·.addr)).length<=1048576:=by simp;omega
 let y0:=l.getD i La;exact sF [(496016,16003)] (fO 5) (Fh 16 [.els (Ld wdv (Ld (λ(x:Found)=>x.addr) (Lk i l)++[y0.addr]))] (Ftb 9 (Le ((i:Int)<(l.length:Int))) (Fek 10 Found.dv l (↑i) i (Fs 15 (Ld wdv [y0.addr]) (Fa (by(simp[*];omega):(Ld wdv (Ld (λ(x:Found)=>x.addr) (Lk i l))).length+(Ld wdv [y0.addr]).length<=2^30) (Fa (ms:Ld wdv (Ld (λ(x:Found)=>x.addr) (Lk i l))++Ld wdv [y0.addr]=Ld wdv (Ld (λ(x:Found)=>x.addr) (Lk i l)++[y0.addr])) (Fx 17 i (Fr (35:Int) (Fa (by refine congrArg _ ?_;rw[e]:Ld wdv (Ld (λ(x:Found)=>x.addr) (Lk i l)++[y0.addr])=Ld wdv (Ld (λ(x:Found)=>x.addr) (Lk (i+1) l))) Fz)))))))))
def ZmD(l:List Found):CP (rndF f157 0) (Zma l l.length).st (.ext 0) (Tg.st ⟨tm 19 [(2,.d (.sl 0 [])),(3,.ow 16003)],[(16003,.arr 35 1 ((l.map (·.addr)).map wdv))],60⟩):=by
 exact sF [] (fO 2) (Ffb 9 (Le ((l.length:Int)<(l.length:Int))) (Fr (35:Int) (Fa (by refine congrArg _ ?_;refine congrArg _ ?_;simp[LW,L3,L4,LV,wdv,idv]:Ld wdv (Ld (λ(x:Found)=>x.addr) (Lk l.length l))=Ld wdv (Ld (λ(x:Found)=>x.addr) l)) Fz)))
def Zkt(l:List Found)(hl:l.length<=1048576)  := Z0b (S:=λj=>(Zma l j).st) l.length (by kernel_rfl) (λj hj=>Zj8 l j hl hj) (ZmD l)
def Zbv(l:List Found)(hl:l.length<=1048576):GP 157 [Z1j l] O (Z02 (l.map (·.addr))) []:=by
 exact gF [] func157 [] (Fh 3 [.own] (Fl 7 Found.dv l (Fu (@Zkt l aa) (Fa (by exact Z4k _:Z1p (Ld wdv (Ld (λ(x:Found)=>x.addr) l))) Fz))))
def ZgN(h:Heap)(i:Nat)(acc:List Found):Tg:=⟨tm 31 [(1,.pt 8001 0 0),(2,.d (.sl 0 [])),(3,int 0),(4,.ow 24004),(13,int h.P.length),(14,int i)],[(24004,.arr 212 4 (acc.map Found.dv)),(8001,.box 28 h.cells)],60⟩
section
variable (h:Heap) (i:Nat) (acc:List Found) (hw:WOk h.W) (hp:Z03 h=O) (hl:h.P.length<=1048576) (ha:acc.length<=1048576)
include hw hp hl ha
theorem Zi3(hi:i<h.P.length)(e:(Z0F h i).2=0):CP (rndF f156 0) (ZgN h i acc).st .nrm (ZgN h (i+1) (acc++(Z0F h i).1)).st:=by
 have hn:=Z5W h i;exact sF [(512028,24004)] [] (Fh 28 [.els (Ld Found.dv (acc++(Z0F h (i:Int)).1))] (Ftb 15 (Le ((i:Int)<(h.P.length:Int))) (Fc 20 (@Za8 h ((i:Int)) aa aa oq) (Ffb 24 ((Z0F h (i:Int)).2 != 0) (Fa (by(simp only[LA];omega):(Ld Found.dv acc).length+(Ld Found.dv (Z0F h (i:Int)).1).length<=2^30) (Fa (ms:Ld Found.dv acc++Ld Found.dv (Z0F h (i:Int)).1=Ld Found.dv (acc++(Z0F h (i:Int)).1)) (Fx 29 i Fz)))))))
theorem Znk(hi:i<h.P.length)(e:¬ (Z0F h i).2=0):CP (rndF f156 0) (ZgN h i acc).st .ret (Tg.st ⟨tm 31 [(2,.d (.sl 0 [])),(3,int (Z0F h i).2)],[],60⟩):=by
 exact sF [] [] (Ftb 15 (Le ((i:Int)<(h.P.length:Int))) (Fc 20 (@Za8 h ((i:Int)) aa aa oq) (Ftb 24 ((Z0F h (i:Int)).2 != 0) Fz)))
omit hw hp hl ha in
theorem Znn:CP (rndF f156 0) (ZgN h h.P.length acc).st (.ext 0) (Tg.st ⟨tm 31 [(2,.d (.sl 0 [])),(3,int 0),(4,.ow 24004)],[(24004,.arr 212 4 (acc.map Found.dv))],60⟩):=by
 exact sF [] [] (Ffb 15 (Le ((h.P.length:Int)<(h.P.length:Int))) Fz)
end
def Zmk(h:Heap)(hw:WOk h.W)(hp:Z03 h=O)(hl:h.P.length<=1048576):∀ (f i:Nat) (acc:List Found),i+f=h.P.length->acc.length+256*f<=1048576 ->
  ((allR h f i).2=0->LSpec prog f156 0 (ZgN h i acc).st (.ext 0) (Tg.st ⟨tm 31 [(2,.d (.sl 0 [])),(3,int 0),(4,.ow 24004)],[(24004,.arr 212 4 ((acc++(allR h f i).1).map Found.dv))],60⟩)) /\
  (¬ (allR h f i).2=0->LSpec prog f156 0 (ZgN h i acc).st .ret (Tg.st ⟨tm 31 [(2,.d (.sl 0 [])),(3,int (allR h f i).2)],[],60⟩)):=by
 intro f;induction f with
 | zero =>
  intro i acc hi _;have:i=h.P.length:=by omega
  subst this;refine⟨λ_=>?_,λe=>absurd rfl e⟩;rw[allR,LS];exact .endx (Znn h acc)
 | succ f ih =>
  intro i acc hi hb;have hn:=Z5W h i;unfold allR;by_cases e:(Z0F h i).2=0
  .rw[if_pos e];have hr:=Zi3 h i acc hw hp hl oq oq e;obtain⟨i1,i2⟩:=ih (i+1) (acc++(Z0F h i).1) oq qo;by_cases e2:(allR h f (i+1)).2=0
   .rw[if_pos e2];refine⟨λ_=>?_,λe=>absurd rfl e⟩;have:=i1 e2;rw[List.append_assoc]at this;exact .next hr this
   .rw[if_neg e2];exact⟨λe=>absurd e e2,λ_=>.next hr (i2 e2)⟩
  .rw[if_neg e];exact⟨λe'=>absurd e' e,λ_=>.endr (Znk h i acc hw hp hl oq oq e)⟩
def ZkN(h:Heap)(hw:WOk h.W)(hp:Z03 h=O)(hl:h.P.length<=64)(e:(allR h h.P.length 0).2=0):CP (blkF f156 0) (Tg.st ⟨tm 31 [(1,.pt 8001 0 0),(2,.d (.sl 0 [])),(3,int 0),(4,.ow 24004),(13,int h.P.length),(14,int 0)],[(24004,.arr 212 4 []),(8001,.box 28 h.cells)],60⟩) .nrm
  (Tg.st ⟨tm 31 [(2,.d (.sl 0 [])),(3,int 0),(4,.ow 24004)],[(24004,.arr 212 4 ((allR h h.P.length 0).1.map Found.dv))],60⟩) :=
 ((Zmk h hw hp oq h.P.length 0 [] oq qo).1 e).ext kr
def Zeb(h:Heap)(hw:WOk h.W)(hp:Z03 h=O)(hl:h.P.length<=64)(e:¬ (allR h h.P.length 0).2=0):CP (blkF f156 0) (Tg.st ⟨tm 31 [(1,.pt 8001 0 0),(2,.d (.sl 0 [])),(3,int 0),(4,.ow 24004),(13,int h.P.length),(14,int 0)],[(24004,.arr 212 4 []),(8001,.box 28 h.cells)],60⟩) .ret
  (Tg.st ⟨tm 31 [(2,.d (.sl 0 [])),(3,int (allR h h.P.length 0).2)],[],60⟩) :=
 ((Zmk h hw hp oq h.P.length 0 [] oq qo).2 e).ret kr
def ZlA(h:Heap)(hw:WOk h.W)(e:(allW h).2=0):GP 156 [h.av] O (.tu [.ow 0,int 0]) [.arr 212 4 ((allW h).1.map Found.dv)]:=by
 have hp:Z03 h=O:=by
  unfold allW at e;split at e
  .assumption
  .simp at e
 have po:=Z07 hp;have e7:allW h=allR h h.P.length 0:=by rw[allW,if_pos hp]
 rw[e7]at e ⊢;exact gF [24004] func156 [] (Fh 4 [.own] (Fc 9 (@Z0L h) (Ffb 10 (!Z03 h) (Fl 13 Page.dv h.P (Fu (@ZkN h aa aa oq aa) (Fa (by exact Zm8 _:Z1p (Ld Found.dv (allR h h.P.length 0).1)) Fz))))))
def Zhj(h:Heap)(hw:WOk h.W)(e:¬ (allW h).2=0):GP 156 [h.av] O (.tu [Z1j [],int (allW h).2]) []:=by
 cases hp:Z03 h with
 | false =>
  have e7:allW h=([],1):=by rw[allW,if_neg (by rw[hp];simp)]
  refine gspec_ofE [((9:Nat),[Hint.call O (Sx.bool (Z03 h)) []]),((10:Nat),[Hint.br O])] [] [] dd func156 [O] (φ:=GP 94 [h.av] O (Sx.bool (Z03 h)) []/\(!Z03 h)=O/\O=O/\([]:List (List DV))=[]/\[]=Ld Found.dv []/\(1:Int)=(allW h).2) ?_ kr kr;exact⟨(@Z0L (h)),(by(simp only[bs];omega)),rfl,rfl,rfl,(by rw[e7])⟩
 | true =>
  have po:=Z07 hp;have e7:allW h=allR h h.P.length 0:=by rw[allW,if_pos hp]
  rw[e7]at e ⊢;refine gspec_ofE [((9:Nat),[Hint.call O (Sx.bool (Z03 h)) []]),((10:Nat),[Hint.br Lb]),((4:Nat),[Hint.own]),((13:Nat),[Hint.int (h.P.length:Int)])] [((0:Nat),Tg.mk (tm (31:Nat) [((1:Nat),AV.pt (8001:Nat) (0:Nat) (0:Nat)),((2:Nat),AV.d (DV.sl (0:Nat) [])),((3:Nat),int (0:Int)),((4:Nat),AV.ow (24004:Nat)),((13:Nat),int (h.P.length:Int)),((14:Nat),int (0:Int))]) [((24004:Nat),Blk.arr 212 (4:Nat) []),((8001:Nat),Blk.box 28 h.cells)] (60:Nat),Ex.ret,Tg.mk (tm (31:Nat) [((2:Nat),AV.d (DV.sl (0:Nat) [])),((3:Nat),int (allR h h.P.length (0:Nat)).2)]) [] (60:Nat))] [] dd func156 [] (φ:=GP 94 [h.av] O (Sx.bool (Z03 h)) []/\(!Z03 h)=Lb/\Lb=Lb/\(↑(Ld Page.dv h.P).length:Int)=(h.P.length:Int)/\CP (blkF f156 (0:Nat)) (Tg.mk (tm (31:Nat) [((1:Nat),AV.pt (8001:Nat) (0:Nat) (0:Nat)),((2:Nat),AV.d (DV.sl (0:Nat) [])),((3:Nat),int (0:Int)),((4:Nat),AV.ow (24004:Nat)),((13:Nat),int (h.P.length:Int)),((14:Nat),int (0:Int))]) [((24004:Nat),Blk.arr 212 (4:Nat) []),((8001:Nat),Blk.box 28 h.cells)] (60:Nat)).st Ex.ret (Tg.mk (tm (31:Nat) [((2:Nat),AV.d (DV.sl (0:Nat) [])),((3:Nat),int (allR h h.P.length (0:Nat)).2)]) [] (60:Nat)).st/\([]:List (List DV))=[]) ?_ kr kr;exact⟨(@Z0L (h)),(by(simp only[bs];omega)),rfl,(by simp only[LA]),(@Zeb (h) aa aa oq aa),rfl⟩
def Z2E(f:Found):Bool:=!(f.hd.K==0)
def Zfp(x:Found):GP 159 [x.av] O (bool (x.hd.K==0)) []:=by
 exact gF [] func159 [] Fz
def Z0Q(l:List Found):Nat:=(l.takeWhile Z2E).length
def Z6Z{l:List Found}{m:Nat}(h:m<Z0Q l):m<l.length/\((l.getD m La).hd.K==0)=Lb:=by
 obtain⟨h1,h2⟩:=Zky _ _ _ h;refine⟨h1, ?_⟩;rw[Lz,Xg h1];simpa[Z2E]using h2
def Zav{l:List Found}(h:Z0Q l<l.length):((l.getD (Z0Q l) La).hd.K==0)=O:=by
 have h2:=Zfz Z2E l h;have h3:l.getD (Z0Q l) La=l[(l.takeWhile Z2E).length]:=by
  rw[Lz,Xg h];rfl
 rw[h3];simpa[Z2E]using h2
def idxF(l:List Found):Int:=if Z0Q l<l.length then Z0Q l else -1
def ZgG(l:List Found)(i:Nat):Tg:=⟨tm 19 [(0,Z1j l),(1,.fn 159 []),(4,int 0),(7,int l.length),(8,int i)],[],60⟩
def Zdz(l:List Found)(i:Nat)(hl:l.length<=1048576)(hi:i<l.length)(e:((l.getD i La).hd.K==0)=Lb):CP (rndF f200 0) (ZgG l i).st .nrm (ZgG l (i+1)).st:=by
 exact sF [] [] (Fh 16 [.call O (Sx.bool ((l.getD i La).hd.K==0)) [],.br Lb] (Ftb 9 (Le ((i:Int)<(l.length:Int))) (Fek 14 Found.dv l (↑i) i (Fa (@Zfp (l.getD i La)) (Fa ‹((l.getD i La).hd.K==0)=Lb› (Fx 18 i Fz))))))
def Zj2(l:List Found)(i:Nat)(hl:l.length<=1048576)(hi:i<l.length)(e:((l.getD i La).hd.K==0)=O):CP (rndF f200 0) (ZgG l i).st .ret (Tg.st ⟨tm 19 [(4,int i)],[],60⟩):=by
 exact sF [] [] (Fh 16 [.call O (Sx.bool ((l.getD i La).hd.K==0)) [],.br O] (Ftb 9 (Le ((i:Int)<(l.length:Int))) (Fek 14 Found.dv l (↑i) i (Fa (@Zfp (l.getD i La)) (Fa ‹((l.getD i La).hd.K==0)=O› Fz)))))
def ZnM(l:List Found):CP (rndF f200 0) (ZgG l l.length).st (.ext 0) (Tg.st ⟨tm 19 [(4,int 0)],[],60⟩):=by
 exact sF [] [] (Ffb 9 (Le ((l.length:Int)<(l.length:Int))) Fz)
def ZlK(l:List Found)(hl:l.length<=1048576)(h:¬ Z0Q l<l.length)  := Z0b (S:=λj=>(ZgG l j).st) l.length (by kernel_rfl) (λj hj=>Zdz l j hl hj (Z6Z (by omega)).2) (ZnM l)
def Zj9(l:List Found)(hl:l.length<=1048576)(h:Z0Q l<l.length)  := Z0y (S:=λj=>(ZgG l j).st) (Z0Q l) (by kernel_rfl) (λj hj=>Zdz l j hl (by omega) (Z6Z hj).2) (Zj2 l (Z0Q l) hl h (Zav h))
def Zmu(l:List Found)(hl:l.length<=1048576):GP 200 [Z1j l,.fn 159 []] O (int (idxF l)) []:=by
 by_cases h:Z0Q l<l.length
 .have e7:idxF l=Z0Q l:=if_pos h;rw[e7];exact gF [] func200 [] (Fl 7 Found.dv l (Fu (@Zj9 l aa aa) Fz))
 .have e7:idxF l=-1:=if_neg h;rw[e7];exact gF [] func200 [] (Fl 7 Found.dv l (Fu (@ZlK l aa aa) Fz))
def dfS(l:List Found)(i0:Nat):Nat->List Found×Nat
 | 0=>(l,i0)
 | m+1=>if Z2E ((dfS l i0 m).1.getD (i0+1+m) La)=O then((dfS l i0 m).1.set (dfS l i0 m).2 ((dfS l i0 m).1.getD (i0+1+m) La),(dfS l i0 m).2+1)else dfS l i0 m
def ZhM{l:List Found}{i0:Nat}(h0:(l.take i0).filter Z2E=l.take i0)(h1:i0<l.length)(h2:Z2E (l.getD i0 La)=Lb):∀ m,i0+1+m<=l.length ->
  (dfS l i0 m).1.length=l.length/\(dfS l i0 m).2<=i0+m/\(∀ k,i0+1+m<=k->(dfS l i0 m).1.getD k La=l.getD k La)/\(dfS l i0 m).1.take (dfS l i0 m).2=(l.take (i0+1+m)).filter Z2E
 | 0,_=>by
  refine⟨rfl,Ls _,λ_ _=>rfl, ?_⟩;show l.take i0=(l.take (i0+1)).filter Z2E;rw[Z8D h1,Xe,h0];generalize l.getD i0 La=y at h2 ⊢;simp[h2]
 | m+1,hm=>by
  obtain⟨a1,a2,a3,a4⟩:=ZhM h0 h1 h2 m oq;have e:=a3 (i0+1+m) (Ls _);have et:l.take (i0+1+(m+1))=l.take (i0+1+m)++[l.getD (i0+1+m) La]:=Z8D (l:=l) (i:=i0+1+m) (show i0+1+m<l.length by omega);unfold dfS;rw[e,et,Xe];generalize hd:dfS l i0 m=d at *;by_cases hk:Z2E (l.getD (i0+1+m) La)=O
  .rw[if_pos hk];refine⟨by simp[a1],by simp only;omega,λk hk'=>?_, ?_⟩
   .simp only;rw[Lz,List.getElem?_set_ne oq,<- Lz];exact a3 k oq
   .have hlt:d.2<d.1.length:=by omega
    simp only;rw[<- a4,Xm,List.take_set_of_le oq];generalize l.getD (i0+1+m) La=y at hk ⊢;simp[hk,hlt]
  .rw[if_neg hk];refine⟨a1,by omega,λk hk'=>a3 k oq, ?_⟩;rw[a4];generalize l.getD (i0+1+m) La=y at hk ⊢;simp[hk]
def Z8G(l:List Found):(l.take (Z0Q l)).filter Z2E=l.take (Z0Q l):=by
 rw[Xf];intro x hx;obtain⟨k,hk⟩:=Xh hx;rw[List.getElem?_take]at hk;split at hk
 .rename_i hlt;have:=(Z6Z hlt).2;rw[Lz,hk]at this;simpa[Z2E]using this
 .cases hk
def Zad{l:List Found}(h:Z0Q l<l.length):Z2E (l.getD (Z0Q l) La)=Lb:=by
 have:=Zav h;show(!((l.getD (Z0Q l) La).hd.K==0))=Lb;rw[this];rfl
def ZiX{l:List Found}(h:Z0Q l<l.length):(dfS l (Z0Q l) (l.length-Z0Q l-1)).1.take (dfS l (Z0Q l) (l.length-Z0Q l-1)).2=l.filter Z2E/\(dfS l (Z0Q l) (l.length-Z0Q l-1)).1.length=l.length/\(dfS l (Z0Q l) (l.length-Z0Q l-1)).2<=l.length:=by
 have h0:=Z8G l;have h2:=Zad h;obtain⟨a1,a2,a3,a4⟩:=ZhM h0 h h2 (l.length-Z0Q l-1) oq;refine⟨?_,a1,by omega⟩;rw[a4,show Z0Q l+1+(l.length-Z0Q l-1)=l.length from by omega,List.take_length]
def ZhC{l:List Found}(h:¬ Z0Q l<l.length):l.filter Z2E=l:=by
 rw[Xf];intro x hx;obtain⟨k,hk⟩:=Xh hx;have hlt:k<l.length:=(L2.1 hk).1;have:=(Z6Z (l:=l) (m:=k) oq).2;rw[Lz,hk]at this;simpa[Z2E]using this
def ZmG(l:List Found)(hl:l.length<=1048576)(h:¬ Z0Q l<l.length):CP (bdyF f158) (Tg.st ⟨tm 42 [(0,.ow 0),(1,.fn 159 [])],[(0,.arr 212 4 (l.map Found.dv))],1⟩) .ret (Tg.st ⟨tm 42 [(4,.ow 0)],[(0,.arr 212 4 (l.map Found.dv))],60⟩):=by
 have e7:idxF l=-1:=if_neg h;exact sF [] [] (Fc 10 (@Zmu l aa) (Ftb 12 (idxF l==(-1:Int)) Fz))
def delL(l:List Found)(i0 m:Nat):Tg:=⟨tm 42 [(0,.ow 0),(1,.fn 159 []),(5,int (dfS l i0 m).2),(6,int (i0+1+m:Nat))],[(0,.arr 212 4 ((dfS l i0 m).1.map Found.dv))],60⟩
section
variable (l:List Found) (i0 m:Nat) (hl:l.length<=1048576) (h1:(dfS l i0 m).1.length=l.length) (h2:(dfS l i0 m).2<=i0+m)
include hl h1 h2
theorem ZnD(hm:i0+1+m<l.length)(hk:(((dfS l i0 m).1.getD (i0+1+m) La).hd.K==0)=Lb):CP (rndF f158 0) (delL l i0 m).st .nrm (delL l i0 (m+1)).st:=by
 have e7:dfS l i0 (m+1)=((dfS l i0 m).1.set (dfS l i0 m).2 ((dfS l i0 m).1.getD (i0+1+m) La),(dfS l i0 m).2+1):=by
  rw[dfS,if_pos (by unfold Z2E;rw[hk];rfl)]
 have hk2:¬ ((dfS l i0 m).1.getD ((i0+1+m:Nat):Int).toNat La).hd.K=0:=by rw[L1];simpa using hk
 exact sF [] [Lb,Lb,O,Lb,O] (Fh 10033 [.els (Ld Found.dv ((dfS l i0 m).1.set (↑(dfS l i0 m).2:Int).toNat ((dfS l i0 m).1.getD (↑(i0+1+m):Int).toNat La)))] (Fl 18 Found.dv (dfS l i0 m).1 (Ftb 19 (Le ((↑(i0+1+m):Int)<(↑(dfS l i0 m).1.length:Int))) (Fmq 25 Found.dv ((dfS l i0 m).1) (↑(i0+1+m):Int) (Fc 28 (@Zfp ((dfS l i0 m).1.getD (↑(i0+1+m):Int).toNat La)) (Ftb 29 (!((dfS l i0 m).1.getD (↑(i0+1+m):Int).toNat La).hd.K==0) (Fa (by(simp only[LA];omega):0<=(↑(dfS l i0 m).2:Int)/\(↑(dfS l i0 m).2:Int).toNat<(Ld Found.dv (dfS l i0 m).1).length) (Fa (by(simp only[LA];omega):(↑(dfS l i0 m).2:Int).toNat<(Ld Found.dv (dfS l i0 m).1).length) (Fa (by rw[L4];rfl:(Ld Found.dv (dfS l i0 m).1).set (↑(dfS l i0 m).2:Int).toNat [du64 ((dfS l i0 m).1.getD (↑(i0+1+m):Int).toNat La).addr,dint ((dfS l i0 m).1.getD (↑(i0+1+m):Int).toNat La).hd.K,dint ((dfS l i0 m).1.getD (↑(i0+1+m):Int).toNat La).hd.length,DV.sc (LC Ly ((dfS l i0 m).1.getD (↑(i0+1+m):Int).toNat La).hd.map)]=Ld Found.dv ((dfS l i0 m).1.set (↑(dfS l i0 m).2:Int).toNat ((dfS l i0 m).1.getD (↑(i0+1+m):Int).toNat La))) (Fw 35 ((↑(dfS l i0 m).2:Int)+1) (↑((dfS l i0 m).2+1):Int) (Fw 21 ((↑(i0+1+m):Int)+1) (↑(i0+1+m+1):Int) (Fa (by rw[e7]:(↑((dfS l i0 m).2+1):Int)=(↑(dfS l i0 (m+1)).2:Int)) (Fr (212:Int) (Fa (by refine congrArg _ ?_;rw[e7];rfl:Ld Found.dv ((dfS l i0 m).1.set (↑(dfS l i0 m).2:Int).toNat ((dfS l i0 m).1.getD (↑(i0+1+m):Int).toNat La))=Ld Found.dv (dfS l i0 (m+1)).1) Fz))))))))))))))
theorem ZnV(hm:i0+1+m<l.length)(hk:(((dfS l i0 m).1.getD (i0+1+m) La).hd.K==0)=O):CP (rndF f158 0) (delL l i0 m).st .nrm (delL l i0 (m+1)).st:=by
 have e7:dfS l i0 (m+1)=dfS l i0 m:=by
  rw[dfS,if_neg (by unfold Z2E;rw[hk];simp)]
 have hk2:((dfS l i0 m).1.getD ((i0+1+m:Nat):Int).toNat La).hd.K=0:=by rw[L1];simpa using hk
 let y0:=(dfS l i0 m).1.getD (↑(i0+1+m):Int).toNat La;exact sF [] [Lb,Lb,O,Lb,O] (Fl 18 Found.dv (dfS l i0 m).1 (Ftb 19 (Le ((↑(i0+1+m):Int)<(↑(dfS l i0 m).1.length:Int))) (Fmq 25 Found.dv ((dfS l i0 m).1) (↑(i0+1+m):Int) (Fc 28 (@Zfp y0) (Ffb 29 (!y0.hd.K==0) (Fw 21 ((↑(i0+1+m):Int)+1) (↑(i0+1+m+1):Int) (Fa (by rw[e7]:(↑(dfS l i0 m).2:Int)=(↑(dfS l i0 (m+1)).2:Int)) (Fr (212:Int) (Fa (by refine congrArg _ ?_;rw[e7]:Ld Found.dv (dfS l i0 m).1=Ld Found.dv (dfS l i0 (m+1)).1) Fz)))))))))
theorem Zph(hm:i0+1+m=l.length):CP (rndF f158 0) (delL l i0 m).st (.ext 0) (Tg.st ⟨tm 42 [(0,.ow 0),(5,int (dfS l i0 m).2)],[(0,.arr 212 4 ((dfS l i0 m).1.map Found.dv))],60⟩):=by
 exact sF [] [] (Fl 18 Found.dv (dfS l i0 m).1 (Ffb 19 (Le ((↑(i0+1+m):Int)<(↑(dfS l i0 m).1.length:Int))) Fz))
end
def delR(l:List Found):List Found×Nat:=dfS l (Z0Q l) (l.length-Z0Q l-1)
def ZnX(l:List Found)(hl:l.length<=1048576)(h:Z0Q l<l.length):CP (blkF f158 0) (Tg.st ⟨tm 42 [(0,.ow 0),(1,.fn 159 []),(5,int (idxF l)),(6,int (idxF l+1))],[(0,.arr 212 4 (l.map Found.dv))],60⟩) .nrm
  (Tg.st ⟨tm 42 [(0,.ow 0),(5,int (delR l).2)],[(0,.arr 212 4 ((delR l).1.map Found.dv))],60⟩):=by
 rw[show idxF l=Z0Q l from if_pos h];have h0:(l.take (Z0Q l)).filter Z2E=l.take (Z0Q l):=Z8G l;have h2:Z2E (l.getD (Z0Q l) La)=Lb:=Zad h;have hh:=λm hm=>ZhM h0 h h2 m hm;have:=Z0b (S:=λj=>(delL l (Z0Q l) j).st) (l.length-Z0Q l-1) kr (λj hj=>by
  obtain⟨a1,a2,a3,a4⟩:=hh j oq;cases hk:(((dfS l (Z0Q l) j).1.getD (Z0Q l+1+j) La).hd.K==0)with
  | false=>exact ZnD l (Z0Q l) j hl a1 a2 oq hk
  | true=>exact ZnV l (Z0Q l) j hl a1 a2 oq hk) (Zph l (Z0Q l) _ hl (hh _ oq).1 (hh _ oq).2.1 oq)
 exact this
def Zo3(l:List Found)(hl:l.length<=1048576)(h:Z0Q l<l.length):CP (bdyF f158) (Tg.st ⟨tm 42 [(0,.ow 0),(1,.fn 159 [])],[(0,.arr 212 4 (l.map Found.dv))],1⟩) .ret (Tg.st ⟨tm 42 [(4,.os 0 0 (delR l).2)],[(0,.arr 212 4 (((delR l).1.take (delR l).2++Lg ((delR l).1.length-(delR l).2) noFound).map Found.dv))],60⟩):=by
 have e7:idxF l=Z0Q l:=if_pos h;obtain⟨d1,d2,d3⟩:=ZiX h;have d4:(delR l).1.length=l.length:=d2;have d5:(delR l).2<=l.length:=d3;exact sF [] (fO 6) (Fh 20000 [.els (Ld Found.dv (Lk (↑(delR l).2:Int).toNat (delR l).1++Lg ((↑(Ld Found.dv (delR l).1).length:Int).toNat-(↑(delR l).2:Int).toNat) (Found.mk 0 (Header.mk 0 0 0))++LU ((↑(delR l).2:Int).toNat+(Lg ((↑(Ld Found.dv (delR l).1).length:Int).toNat-(↑(delR l).2:Int).toNat) (Found.mk 0 (Header.mk 0 0 0))).length) (delR l).1))] (Fc 10 (@Zmu l aa) (Ffb 12 (idxF l==(-1:Int)) (Fi 15 (idxF l+1) (Fu (@ZnX l aa aa) (Fa (by(simp only[LA];omega):0<=(↑(delR l).2:Int)/\(↑(delR l).2:Int)<=(↑(Ld Found.dv (delR l).1).length:Int)) (Fa (by simp only[Z0V,LV,LW,L3,List.map_replicate,Xi];rfl:Z0V (Ld Found.dv (delR l).1) (↑(delR l).2:Int).toNat (Lg ((↑(Ld Found.dv (delR l).1).length:Int).toNat-(↑(delR l).2:Int).toNat) [du64 0,dint 0,dint 0,DV.sc (LC Ly 0)])=Ld Found.dv (Lk (↑(delR l).2:Int).toNat (delR l).1++Lg ((↑(Ld Found.dv (delR l).1).length:Int).toNat-(↑(delR l).2:Int).toNat) (Found.mk 0 (Header.mk 0 0 0))++LU ((↑(delR l).2:Int).toNat+(Lg ((↑(Ld Found.dv (delR l).1).length:Int).toNat-(↑(delR l).2:Int).toNat) (Found.mk 0 (Header.mk 0 0 0))).length) (delR l).1)) (Fa (by simp[*]:0<=(↑(delR l).2:Int)/\(↑(delR l).2:Int)<=(↑(Ld Found.dv (Lk (↑(delR l).2:Int).toNat (delR l).1++Lg ((↑(Ld Found.dv (delR l).1).length:Int).toNat-(↑(delR l).2:Int).toNat) (Found.mk 0 (Header.mk 0 0 0))++LU ((↑(delR l).2:Int).toNat+(Lg ((↑(Ld Found.dv (delR l).1).length:Int).toNat-(↑(delR l).2:Int).toNat) (Found.mk 0 (Header.mk 0 0 0))).length) (delR l).1)).length:Int)) (Fr (212:Int) (Fa (by refine congrArg _ ?_;simp only[L1,LA,Xi];rw[List.drop_of_length_le oq,LS];rfl:Ld Found.dv (Lk (↑(delR l).2:Int).toNat (delR l).1++Lg ((↑(Ld Found.dv (delR l).1).length:Int).toNat-(↑(delR l).2:Int).toNat) (Found.mk 0 (Header.mk 0 0 0))++LU ((↑(delR l).2:Int).toNat+(Lg ((↑(Ld Found.dv (delR l).1).length:Int).toNat-(↑(delR l).2:Int).toNat) (Found.mk 0 (Header.mk 0 0 0))).length) (delR l).1)=Ld Found.dv (Lk (delR l).2 (delR l).1++Lg ((delR l).1.length-(delR l).2) noFound)) Fz))))))))))
def ZmL(h:Heap)(hw:WOk h.W)(e:(allW h).2=0):Zek prog 4 (bdyF f107) (Tg.st ⟨tm 17 [(0,h.av)],[],1⟩) (Tg.st ⟨tm 17 [(4,.ow 17008)],[(17008,.arr 212 4 ((allW h).1.map Found.dv))],20⟩):=by
 refine Z5l [((8:Nat),[Hint.call O (AV.tu [AV.ow (0:Nat),int (0:Int)]) [Blk.arr 212 (4:Nat) (Ld Found.dv (allW h).1)]])] [] [] (φ:=GP 156 [h.av] O (AV.tu [AV.ow (0:Nat),int (0:Int)]) [Blk.arr 212 (4:Nat) (Ld Found.dv (allW h).1)]) ?_ kr kr kr kr;exact(@ZlA (h) aa aa)
def Z9P(h:Heap)(hw:WOk h.W)(e:¬ (allW h).2=0):GP 107 [h.av] O (.tu [Z02 [],int (allW h).2]) []:=by
 exact gF [] func107 [] (Fc 8 (@Zhj h aa aa) (Ftb 12 ((allW h).2 != 0) (Fnl Fz)))
end Go.Proofs.YtgedmeaemofdkaaGreat
namespace Go.Proofs.YtgedmeaemofdkaaGreat
open Go.Sx Go.RowKit
def Zk2{Ow:Sx.Own}{Im0:Nat->Prop}{w0:World}{ρ:Rho}{w:World}{Im:Nat->Prop}{H:Sx.Heap}{clk:Nat}{x:AV}{v:Value}{s:Nat}{els:List (List DV)}{β:Bi}(I:Sx.Inv Ow Im0 w0 ρ w Im H clk)(hx:Rel ρ w Im x v)(h:Z1d H x=M (s,els))
  (hblk:∀ a n c,v = .slice (M a) n c->n≠0->β.g=M a.block):RelD w (λg=>Im g\/β.g=M g) (.sl s els) v:=by
 obtain⟨p,c,rfl,hbg,hc,hl,hcell⟩:=Z1T I hx h;by_cases he:els=[]
 .subst he;exact .slNil _ _ _
 rcases hcell with hcell | ⟨q,rfl,hq,hcell⟩
 .exact absurd hcell he
 have hn:els.length≠0:=by simpa using he
 refine .sl s els q els.length c (λi o=>(w.cell? ⟨q.block,q.off+(i*s+o),Lc⟩).getD undef) rfl hc hbg (hl he) hq (.inr (hblk q _ c rfl hn)) ?_ ?_
 .intro i e o y hi ho;obtain⟨u,k1,_⟩:=hcell i e o y hi ho;rw[k1];rfl
 .intro i e o y hi ho;obtain⟨u,k1,k2⟩:=hcell i e o y hi ho;rw[k1];exact k2.mono (Sx.Ext.refl _ _) (λg hg=>.inl hg)
def rho0(β:Bi):Rho:=λb=>if b=0 then M β else Lc
def Z52{β κ:Bi}{b:Nat}(h:rho0 β b=M κ):b=0/\κ=β:=by
 unfold rho0 at h;split at h
 .cases h;exact⟨aa,rfl⟩
 .cases h
def Zei{β:Bi}{g:Nat}(h:OwA (ownR (rho0 β)) g):β.g=M g:=by
 obtain⟨b,κ,h1,h2⟩:=h;rw[(Z52 h1).2]at h2;exact h2
def Zn3(l:List Found)(hl:l.length<=1048576){w:World}{Im:Nat->Prop}{β:Bi}{v:Value}(hIm:∀ g,Im g->g<w.heap.size)(hB:RelB (rho0 β) w Im β (.arr 212 4 (l.map Found.dv)))(hg:∀ g,β.g=M g->g<w.heap.size/\¬ Im g)
  (hv:Rel (rho0 β) w Im (.ow 0) v):Calls prog 158 #[v,.func (.func 159) #[] #[]] w λe w'=>∃ u,∃ Im':Nat->Prop,e = .returned u/\Kept (λg=>β.g=M g) w w' /\
   (∀ g,Im' g->(Im g\/β.g=M g\/w.heap.size<=g)/\g<w'.heap.size)/\RelD w' Im' (.sl 4 ((l.filter Z2E).map Found.dv)) u:=by
 refine calls_of_wp func158 (c:=bdyF f158) kr ?_;have I0:Sx.Inv (ownR (rho0 β)) Im w (rho0 β) w Im (hOf [(0,.arr 212 4 (l.map Found.dv))]) 1:=by
  refine⟨Kept.refl _ _,λb b' κ κ' g _ _ q1 q2 _ _=>by rw[(Z52 q1).1,(Z52 q2).1],λb κ g _ q1 q2=>?_,λb κ g q1 q2=>?_,λb κ g q1 q2=>?_,hIm,λg h=>.inl h,λb B q=>?_,λb hb _=>?_,⟨Ls _,λ_ _ _ h=>h⟩⟩
  .rw[(Z52 q1).2]at q2;exact(hg g q2).2
  .rw[(Z52 q1).2]at q2;exact(hg g q2).1
  .exact .inr ⟨b,κ,q1,q2⟩
  .simp only[hOf]at q;split at q
   .rename_i hb;cases q;subst hb;exact⟨β,rfl,hB⟩
   .cases q
  .unfold rho0;rw[if_neg oq]
 have S:Sx.Sys (ownR (rho0 β)) Im w (tm 42 [(0,.ow 0),(1,.fn 159 [])]) (hOf [(0,.arr 212 4 (l.map Found.dv))]) 1 { tmps := #[v,.func (.func 159) #[] #[]]++LF (Tryz.f158.ntmps-(#[v,.func (.func 159) #[] #[]]:Array Value).size) undef,defers:=[] } w:=by
  refine⟨_,Im,I0,⟨by kernel_rfl,λk y u hy hu=>?_,rfl⟩⟩;rw[show tm 42 [(0,.ow 0),(1,.fn 159 [])]=[.ow 0,.fn 159 []]++Lg 40 .any from by kernel_rfl,LN]at hy;rw[LD]at hu;split at hy
  .rename_i hk;have hk3:k<2:=hk;rw[if_pos (show k<(#[v,.func (.func 159) #[] #[]]:Array Value).size from hk3)]at hu;rcases k with _ | _ | k
   .cases hy;cases hu;exact hv
   .cases hy;cases hu;exact .fn rfl (λi a v h=>by simp at h)
   .omega
  .have:=Ln hy;rw[(Lv.1 this).2];exact .any _
 have fin:∀ (x:AV) (els:List (List DV)) (L:List (List DV)) (clk:Nat) (a':Act) (w':World),Sx.Sys (ownR (rho0 β)) Im w (tm 42 [(4,x)]) (hOf [(0,.arr 212 4 els)]) clk a' w'->(tm 42 [(4,x)]).getD 4 .any=x->(x = .ow 0\/∃ o n,x = .os 0 o n)->Z1d (hOf [(0,.arr 212 4 els)]) x=M (4,L)->L=(l.filter Z2E).map Found.dv ->
   bodyPost prog f158 (λe w'=>∃ u,∃ Im':Nat->Prop,e = .returned u/\Kept (λg=>β.g=M g) w w'/\(∀ g,Im' g->(Im g\/β.g=M g\/w.heap.size<=g)/\g<w'.heap.size)/\RelD w' Im' (.sl 4 ((l.filter Z2E).map Found.dv)) u) .ret a' w':=by
  rintro x els L clk a' w' ⟨ρ,Im',I,T⟩ hx4 hx hc hL;refine bodyPost_ret (results_tmp rfl _ _ _) T.defers ?_;have hr:Rel ρ w' Im' x (a'.tmps.getD 4 undef):=by
   have:=Z1v T (.tmp 4);rw[show ev (tm 42 [(4,x)]) (.tmp 4)=(tm 42 [(4,x)]).getD 4 .any from rfl,hx4]at this;exact this
  generalize a'.tmps.getD 4 undef=u at hr;obtain⟨κ,k1,k2⟩:=I.blk 0 _ rfl;have hκ:∀ g,κ.g=M g->w.heap.size<=g\/β.g=M g:=λg h=>(I.own 0 κ g k1 h).imp (·.1) Zei;refine⟨u,λg=>Im' g\/κ.g=M g,rfl,I.kept.imp λ_ q=>Zei q,λg h=>?_, ?_⟩
  .rcases h with h | h
   .refine⟨?_,I.imb g h⟩;rcases I.im0 g h with q | q | q
    .exact .inl q
    .exact .inr (.inr q)
    .exact .inr (.inl (Zei q))
   .refine⟨?_,I.bnd 0 κ g k1 h⟩;rcases hκ g h with q | q
    .exact .inr (.inr q)
    .exact .inr (.inl q)
  .rw[<- hL];refine Zk2 I hr hc λa n c hv hn=>?_;subst hv;rcases hx with rfl | ⟨o,m,rfl⟩
   .generalize hvv:Xr (M a) n c=vv at hr;cases hr with
    | ow h1 h2 h3 h4 =>
     injection hvv with e1 e2 e3;rw[k1]at h1;cases h1;rcases h4 with h4 | ⟨g,hg,e,_⟩
     .omega
     .rw[<- e1]at e;cases e;exact hg
   .generalize hvv:Xr (M a) n c=vv at hr;cases hr with
    | os h1 h2 h3 h4 h5 =>
     injection hvv with e1 e2 e3;rw[k1]at h1;cases h1;rcases h5 with h5 | ⟨g,hg,e,_⟩
     .omega
     .rw[<- e1]at e;cases e;exact hg
 by_cases h:Z0Q l<l.length
 .refine wp_mono (Zo3 l hl h _ _ _ _ _ S) ?_;rintro e a' w' ⟨rfl,S1⟩;obtain⟨d1,d2,d3⟩:=ZiX h;refine fin (.os 0 0 (delR l).2) _ _ _ a' w' S1 rfl (.inr ⟨_,_,rfl⟩) rfl ?_;have d5:(delR l).2<=(delR l).1.length:=by have:(delR l).1.length=l.length:=d2;have:(delR l).2<=l.length:=d3;omega
  rw[List.drop_zero,<- LW,List.take_append_of_le_length (by rw[List.length_take];omega),List.take_take,Nat.min_self];exact congrArg _ d1
 .refine wp_mono (ZmG l hl h _ _ _ _ _ S) ?_;rintro e a' w' ⟨rfl,S1⟩;refine fin (.ow 0) _ _ _ a' w' S1 rfl (.inl rfl) rfl ?_;rw[ZhC h]
def ZdD{P:Program}{o:Oper}{a:Act}{w:World}{x:Operand}(ho:o.op = .assign x):(execOp a.eval o).run P w = .ok (.value (a.eval x)) w:=by
 simp[execOp,ho]
def ZmZ{P:Program}{o:Oper}{a:Act}{w:World}{x:Operand}(ho:o.op = .move x):(execOp a.eval o).run P w = .ok (.value (a.eval x)) w:=by
 simp[execOp,ho]
def Zc3(h:Heap)(hw:WOk h.W)(e:(allW h).2=0):GP 107 [h.av] O (.tu [Z02 (((allW h).1.filter Z2E).map (·.addr)),int 0]) []:=by
 intro w00 Im vs hIm hsz hargs;rw[<- callsIn_wide (n:=10)];refine callsIn_of_wp func107 (c:=bdyF f107) kr trivial ?_ rfl;have hs1:vs.size=1:=hsz;have S0:Sx.Sys Z4s Im w00 (tm 17 [(0,h.av)]) (hOf []) 1 { tmps:=vs++LF (Tryz.f107.ntmps-vs.size) undef,defers:=[] } w00:=by
  refine⟨_,Im,Sx.Inv.empty hIm (Ls 1),⟨by rw[hs1];simp[hs1];kernel_rfl,λk y v hy hv=>?_,rfl⟩⟩;rw[show tm 17 [(0,h.av)]=[h.av]++Lg 16 .any from by kernel_rfl,LN]at hy;rw[LD]at hv;split at hy
  .rename_i hk;rw[if_pos (by rw[hsz];exact hk)]at hv;exact hargs k y v hy hv
  .have:=Ln hy;rw[(Lv.1 this).2];exact .any _
 generalize hR:(λe w'=>∃ v,e=Ending.returned v/\ZdQ w00 Im O (AV.tu [Z02 (((allW h).1.filter Z2E).map (·.addr)),int 0]) [] v w')=R;generalize hQ:bodyPost prog f107 R=Q;refine ZmL h hw e 10 Q _ _ _ _ _ S0 ?_;rintro a1 w1 ⟨ρ1,Im1,I1,T1⟩;obtain⟨v4,t4,r4⟩:=T1.at (t:=4) (x:=.ow 17008) rfl;obtain⟨β,m,n⟩:=I1.blk 17008 _ rfl;have hz1:a1.tmps.size=17:=T1.size;have er:rest prog 10 4 (bdyF f107) Q a1 w1=(LH 4 (rgO f107 4) Lb).wpIn Lf 10 prog (Exit.then (Xc.wpIn Lf 10 prog Q) Q) a1 w1:=by kernel_rfl
 rw[er];refine wpIn_region ?_;rw[show Lq (rgO f107 4).size=[0,1,2,3,4]from by kernel_rfl];refine Z2B (o:=(rgO f107 4).getD 0 La) kr kr (Z2Y (ro:=Lc) (by intro c h;cases h) (Z6J (ZmZ (x:=.tmp 4) kr) ?_));rw[show((rgO f107 4).getD 0 La).dst=M 14 from by kernel_rfl,Z60 t4];generalize ha2:a1.put (M 14) v4=a2;have t14:a2.tmps[14]? = M v4:=by rw[<- ha2];exact Z5Y oq
 have hz2:a2.tmps.size=17:=by rw[<- ha2];show(a1.tmps.setIfInBounds 14 v4).size=17;rw[LG];exact hz1
 have hd2:a2.defers=[]:=by rw[<- ha2];exact T1.defers
 have hcall:(execOp a2.eval ((rgO f107 4).getD 1 La)).run prog w1 = .ok (.enter 158 #[v4,.func (.func 159) #[] #[]]) w1:=by
  have hop:((rgO f107 4).getD 1 La).op = .call ⟨.value (.func 158),#[.tmp 14,.func 159],tsOf ((rgO f107 4).getD 1 La)⟩:=by kernel_rfl
  have:=Z1U (P:=prog) (f:=158) kr #[v4,.func (.func 159) #[] #[]] w1;have hev:∀ f,a2.eval (.func f) = .func (.func f) #[] #[]:=λf=>rfl;have hev2:=Z60 t14;generalize (rgO f107 4).getD 1 La=o at hop ⊢;simp[execOp,hop,resolve,hev,hev2,LI,invoke,this]
 refine Z2B (o:=(rgO f107 4).getD 1 La) kr kr (Z2Y (ro:=Lc) (by intro c h;cases h) ?_);unfold LB;rw[hcall,L7];have al:=ZlG h;refine(Zn3 (allW h).1 oq (w:=w1) (Im:=Im1) (β:=β) I1.imb (by
  obtain⟨b1,b2,b3,b4,b5⟩:=n;refine⟨b1,b2,b3,b4,b5⟩) (λg hg=>⟨I1.bnd _ _ g m hg,I1.notIm _ _ g ⟨_,rfl,by simp⟩ m hg⟩) (by
  cases r4 with
  | ow h1 h2 h3 h4=>rw[m]at h1;cases h1;exact .ow rfl h2 h3 h4)).mono ?_
 rintro e w2 ⟨u,Im2,rfl,K2,hIm2,hu⟩;rw[show((rgO f107 4).getD 1 La).dst=M 15 from by kernel_rfl];show wpOpsIn _ _ _ _ _ [2,3,4] (a2.put (M 15) u) w2;generalize ha3:a2.put (M 15) u=a3;have t15:a3.tmps[15]? = M u:=by rw[<- ha3];exact Z5Y oq
 have hz3:a3.tmps.size=17:=by rw[<- ha3];show(a2.tmps.setIfInBounds 15 u).size=17;rw[LG];exact hz2
 have hd3:a3.defers=[]:=by rw[<- ha3];exact hd2
 have hcall2:(execOp a3.eval ((rgO f107 4).getD 2 La)).run prog w2 = .ok (.enter 157 #[u]) w2:=by
  have hop:((rgO f107 4).getD 2 La).op = .call ⟨.value (.func 157),#[.tmp 15],tsOf ((rgO f107 4).getD 2 La)⟩:=by kernel_rfl
  have:=Z1U (P:=prog) (f:=157) kr #[u] w2;have hev:∀ f,a3.eval (.func f) = .func (.func f) #[] #[]:=λf=>rfl;have hev2:=Z60 t15;generalize (rgO f107 4).getD 2 La=o at hop ⊢;simp[execOp,hop,resolve,hev,hev2,LI,invoke,this]
 refine Z2B (o:=(rgO f107 4).getD 2 La) kr kr (Z2Y (ro:=Lc) (by intro c h;cases h) ?_);unfold LB;rw[hcall2,L7];refine(Zbv ((allW h).1.filter Z2E) (by have:=List.length_filter_le Z2E (allW h).1;omega) w2 Im2 #[u] (λg hg=>(hIm2 g hg).2) rfl (λi x v hx hv=>by
  rcases i with _ | i
  .cases hx;cases hv;exact .d hu
  .simp at hx)).mono ?_
 rintro e w3 ⟨v2,rfl,K3,ρ3,Im3,h31,h32,_,_,h35,_,r2⟩;rw[show((rgO f107 4).getD 2 La).dst=M 16 from by kernel_rfl];show wpOpsIn _ _ _ _ _ [3,4] (a3.put (M 16) v2) w3;have r2':RelD w3 Im3 (.sl 1 ((((allW h).1.filter Z2E).map (·.addr)).map wdv)) v2:=by
  cases r2 with | d r=>exact r
 refine Z2B (o:=(rgO f107 4).getD 3 La) kr kr (Z2Y (ro:=Lc) (by intro c h;cases h) (Z6J (ZdD (x:=.tmp 16) kr) ?_));refine Z2B (o:=(rgO f107 4).getD 4 La) kr kr (Z2Y (ro:=Lc) (by intro c h;cases h) (Z6J (ZdD (x:=.const (.int .i64 0)) kr) ?_));rw[show((rgO f107 4).getD 3 La).dst=M 2 from by kernel_rfl,show((rgO f107 4).getD 4 La).dst=M 3 from by kernel_rfl,Z60 (a:=a3.put (M 16) v2) (Z5Y oq)];have hs16:(a3.put (M 16) v2).tmps.size=17:=by show(a3.tmps.setIfInBounds 16 v2).size=17;rw[LG];exact hz3
 generalize ha4:a3.put (M 16) v2=a4 at hs16 ⊢;have hd4:a4.defers=[]:=by rw[<- ha4];exact hd3
 have t2:(a4.put (M 2) v2).tmps[2]? = M v2:=Z5Y oq;have hs2:(a4.put (M 2) v2).tmps.size=17:=by show(a4.tmps.setIfInBounds 2 v2).size=17;rw[LG];exact hs16
 refine wpIn_ret ?_;show Q .ret _ w3;rw[<- hQ];refine bodyPost_ret (results_tmp2 rfl _ _ _) (show a4.defers=[]from hd4) ?_;rw[<- hR];have q2:=Z60 (Z7x (u:=.int .i64 0) t2 (show 3≠2 by decide));have q3:=Z60 (a:=(a4.put (M 2) v2).put (M 3) (.int .i64 0)) (Z5Y (u:=.int .i64 0) oq);have s1:=I1.kept.size;have s2:=K2.size;refine⟨_,rfl,Z3F (Z3F I1.kept.no K2 (λg hg=>(I1.own _ _ g m hg).elim (·.1) (λh=>h.no.elim))) K3 (λ_ h=>h.elim),λ_=>Lc,Im3,λg hg=>.inr ?_,h32,λ_ _ _ q=>(by cases q),λ_ _ _ _ _ q=>(by cases q),λ_ _ q=>(by cases q),λk B q=>by simp at q,.tu _ _ rfl λi x v hx hv=>?_⟩
 .rcases h31 g hg with q | q
  .cases q.1
  .omega
 rcases i with _ | _ | i
 .cases hx;cases hv;show Rel (λ_=>Lc) w3 Im3 _ (((a4.put (M 2) v2).put (M 3) (.int .i64 0)).tmps.getD 2 undef);rw[show((a4.put (M 2) v2).put (M 3) (.int .i64 0)).tmps.getD 2 undef=v2 from q2];exact .d r2'
 .cases hx;cases hv;show Rel (λ_=>Lc) w3 Im3 _ (((a4.put (M 2) v2).put (M 3) (.int .i64 0)).tmps.getD 3 undef);rw[show((a4.put (M 2) v2).put (M 3) (.int .i64 0)).tmps.getD 3 undef = .int .i64 0 from q3];exact .d (.sc _ rfl)
 .simp at hx
def Znb(h:Heap)(e:(allW h).2=0):Z04 h=(((allW h).1.filter Z2E).map (·.addr),0):=by
 have e1:=ZaK h;unfold Z04;rw[e1,e];simp only[Prod.mk.injEq,and_true];rw[List.filter_map];congr 1;refine List.filter_congr λx hx=>?_;have:=(Zj7 x hx).1;simp only[Function.comp,Z3i,Z2E,this];by_cases hk:(atH h x.addr).1.K=0<;>simp[hk]
def ZkF(h:Heap)(e:¬ (allW h).2=0):Z04 h=([],(allW h).2):=by
 have e1:=ZaK h;have e8:(allW h).1=[]:=by
  unfold allW at e ⊢;split at e
  .rename_i hp;rw[if_pos hp];exact Zka h _ _ e
  .rename_i hp;rw[if_neg hp]
 unfold Z04;rw[e1,e8];rfl
def Z4j(h:Heap)(hw:WOk h.W):GP 107 [h.av] O (.tu [Z02 (Z04 h).1,int (Z04 h).2]) []:=by
 by_cases e:(allW h).2=0
 .rw[Znb h e];exact Zc3 h hw e
 .rw[ZkF h e];exact Z9P h hw e
end Go.Proofs.YtgedmeaemofdkaaGreat
