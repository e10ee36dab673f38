/-
 The statement BoundMeasures: part 10.
 Conditions: none.
-/
import Derived.RangeFuncFrom
import Derived.RangeFuncLeaves
import Derived.Test.YtgedmeaemofdkaaGreatS9
set_option maxRecDepth 100000
set_option maxHeartbeats 2000000
set_option linter.all false
open Option renaming some->M,none->Lb
open Inhabited renaming default->L
open Bool renaming true->O,false->La,and_eq_true->Lr,eq_false_or_eq_true->LG
open List renaming map->Lc,mem_cons->Lj,mem_of_getElem?->Ll,length_append->Ln,length_singleton->Lo,not_mem_nil->Lp,replicate->Lq,range->Ls,all_eq_true->Lu,mem_append->Lv,mem_replicate->LA,take->LB,getD_eq_getElem?_getD->LI,length_set->LL,mem_map->LM,mem_singleton->LN,append_nil->LV,getElem?_append->LW,getElem?_eq_some_iff->LY,getElem?_set->LZ,map_append->L0,map_cons->L1,map_drop->L2,map_set->L3,map_take->L4,mem_iff_getElem?->L5,mem_of_mem_drop->L6,mem_of_mem_take->L7,set_set->L8
open Decidable renaming decide->Ld,not_not->Xc
open Go.Fence renaming wide->Le
open Go.Exit renaming inBlock->Lf
open Int renaming toNat->Lg,fdiv_eq_ediv_of_nonneg->LH
open Go.Obj renaming loop->Lh
open Array renaming getElem?_eq_some_iff->Li,ext->LF,getElem?_append->LQ,getElem?_eq_getElem->LR,replicate->LS
open Go.World renaming putObj_heap_other->Lk,putObj_heap_same->Ly,putObj_size->LD,cell?->Xb
open Option.some renaming injEq->Lm
open Go.IntKind renaming u64->Lt,u32->Lz,i64->LU
open Nat renaming le_refl->Lw,lt_of_lt_of_le->LC,beq->LO,le_trans->L9,mul_le_mul_right->Xa
open Go.Region renaming wanted->Lx
open Go.Proofs.Tryz
namespace Go.Sx
open Go.RowKit
def Zdl{P:Program}{clk:Nat}{ops:Array Oper}{hints:List (Nat×List Hint)}{o:Oper}{t:List AV}{H:Heap}{x:Out}(h:Z92 P clk ops hints o t H=M x):∀ c,o.op≠.defer c:=by
 intro c hc;unfold Z92 Z2w Z26 act at h;rw[hc]at h;simp only at h;split at h
 .rename_i k hk;split at hk
  .cases hk
  .split at hk
   .split at hk
    .cases hk
    .cases hk
   .split at hk
    .cases hk
    .split at hk
     .cases hk
     .cases hk
 .cases h
def fen(ro:Option Nat):Fence := { Le with round:=ro }
def Z2X{P:Program}{ro:Option Nat}{n:Nat}{o:Oper}{a:Act}{w:World}{next:Act->World->Prop}{Q:Exit->Act->World->Prop}(hd:∀ c,o.op≠.defer c)(h:o.wp P a w next Q):o.wpIn (fen ro) n P a w next Q:=by
 refine⟨λ_ _=>trivial, ?_⟩;rw[Oper.semAt_eq _ _ _ hd];unfold Oper.wp at h;generalize (execOp a.eval o).run P w=r at h ⊢;cases r with
 | ok x w' =>
  cases x with
  | value v=>exact h
  | skip=>exact h
  | defer d=>exact h
  | enter f args=>exact⟨λh=>(by cases h),callsIn_wide.2 h⟩
  | row s args=>exact⟨λh=>(by cases h),λc cs _=>let ⟨v,w2,q,r⟩:=h c cs;⟨v,w2,q,stepsIn_wide.2 r⟩⟩
  | _=>exact h.elim
 | halt e w' =>
  cases e with
  | panic v=>exact h
  | _=>exact h.elim
def Z3s{P:Program}{Ow:Own}{Im0:Nat->Prop}{w0:World}{clk:Nat}{hints:List (Nat×List Hint)}{ops:Array Oper}{Q:Exit->Act->World->Prop}{ro:Option Nat}{n:Nat}{l2:List Nat}:∀ {l:List Nat} {tmps:List AV} {H:Heap} {a:Act} {w:World} {out:Out},
  Z67 P clk ops hints l tmps H=M out->Sys Ow Im0 w0 tmps H clk a w->allP out.ph->EqP out.eq->(∀ a' w',Sys Ow Im0 w0 out.tmps out.H clk a' w'->wpOpsIn (fen ro) n P ops Q l2 a' w')->wpOpsIn (fen ro) n P ops Q (l++l2) a w
 | [],tmps,H,a,w,out,h,hS,_,_,hQ=>by
  simp only[Z67,Lm]at h;subst h;exact hQ a w hS
 | i::l,tmps,H,a,w,out,h,hS,hph,heq,hQ=>by
  simp only[Z67]at h;split at h
  .cases h
  rename_i o ho;split at h
  .cases h
  rename_i x hx;split at h
  .cases h
  rename_i y hy;cases h;obtain⟨p1,p2⟩:=allP_append.1 hph;have key:=Z96 (next:=wpOpsIn (fen ro) n P ops Q (l++l2)) (Q:=Q) hx hS p1 heq.left λa' w' hS'=>Z3s hy hS' p2 heq.right hQ;simp only[List.cons_append,wpOpsIn,ho];split
  .exact Z2X (Zdl hx) (key.1 aa)
  .rename_i hw;exact⟨λ_ _=>trivial,key.2 ((Bool.not_eq_true _).mp hw)⟩
def Z5c{P:Program}{Ow:Own}{Im0:Nat->Prop}{w0:World}{clk:Nat}{hints:List (Nat×List Hint)}{ops:Array Oper}{Q:Exit->Act->World->Prop}{ro:Option Nat}{n:Nat}{l:List Nat}{tmps:List AV}{H:Heap}{a:Act}{w:World}{out:Out}
  (h:Z67 P clk ops hints l tmps H=M out) (hS:Sys Ow Im0 w0 tmps H clk a w) (hph:allP out.ph) (heq:EqP out.eq) (hQ:∀ a' w',Sys Ow Im0 w0 out.tmps out.H clk a' w'->Q .normal a' w'):wpOpsIn (fen ro) n P ops Q l a w:=by
 have:=Z3s (ro:=ro) (n:=n) (Q:=Q) (l2:=[]) h hS hph heq hQ;rwa [LV]at this
def Zbj:Code->Bool
 | .skip=>O
 | .region _ _ d=>!d
 | .seq x y=>Zbj x&&Zbj y
 | .cond _ x y=>Zbj x&&Zbj y
 | .block _ c=>Zbj c
 | .exit _=>O
 | .ret=>O
 | _=>La
def CIn(P:Program)(c:Code)(s:St)(e:Ex)(t:St):Prop :=
 ∀ (ro:Option Nat) (n:Nat) (Ow:Own) (Im0:Nat->Prop) (w0:World) (a:Act) (w:World),Sys Ow Im0 w0 s.tmps s.H s.clk a w->c.wpIn (fen ro) n P (λe' a' w'=>e'=e.exit/\Sys Ow Im0 w0 t.tmps t.H t.clk a' w') a w
def ZnE{P:Program}{hints:List (Nat×List Hint)}:∀ {c:Code} {s:St} {r:Run},Zbj c=O->runC P hints [] c s=M r->allP r.ph->EqP r.eq->CIn P c s r.e r.s:=by
 intro c;induction c with
 | skip=>intro s r _ h _ _ ro n Ow Im0 w0 a w hS;simp only[runC,Lm]at h;subst h;exact wpIn_skip ⟨rfl,hS⟩
 | region m ops dr =>
  intro s r hf h hph heq ro n Ow Im0 w0 a w hS;cases dr with
  | true=>cases hf
  | false =>
   simp only[runC]at h;split at h;rotate_left
   .cases h
   rename_i x hx;cases h;exact wpIn_region (Z5c hx hS hph heq λa' w' hS'=>⟨rfl,hS'.clk pq⟩)
 | seq x y ihx ihy =>
  intro s r hf h hph heq ro n Ow Im0 w0 a w hS;simp only[Zbj,Lr]at hf;simp only[runC]at h;split at h
  .cases h
  rename_i q hq;split at h
  .rename_i he;split at h;rotate_left
   .cases h
   rename_i q2 hq2;cases h;obtain⟨p1,p2⟩:=allP_append.1 hph;refine wpIn_seq (wpIn_mono (ihx hf.1 hq p1 heq.left ro n Ow Im0 w0 a w hS) ?_);rintro e a' w' ⟨rfl,hS'⟩;rw[he];exact ihy hf.2 hq2 p2 heq.right ro n Ow Im0 w0 a' w' hS'
  .rename_i he;cases h;refine wpIn_seq (wpIn_mono (ihx hf.1 hq hph heq ro n Ow Im0 w0 a w hS) ?_);rintro e a' w' ⟨rfl,hS'⟩;cases hqe:q.e with
   | nrm=>exact absurd hqe he
   | ext n=>exact⟨rfl,hS'⟩
   | ret=>exact⟨rfl,hS'⟩
 | cond c x y ihx ihy =>
  intro s r hf h hph heq ro n Ow Im0 w0 a w hS;simp only[Zbj,Lr]at hf;simp only[runC]at h;split at h
  .cases h
  rename_i b hb;have hv:a.eval c = .bool b:=by
   obtain⟨ρ,Im,I,T⟩:=hS;have:=Z1p T c;rw[Z7S hb]at this;exact Z0G this
  split at h
  .split at h;rotate_left
   .cases h
   rename_i q hq;cases h;obtain⟨p1,p2⟩:=allP_cons.1 hph;exact wpIn_cond_true (by rw[hv,p1]) (ihx hf.1 hq p2 heq ro n Ow Im0 w0 a w hS)
  .split at h;rotate_left
   .cases h
   rename_i q hq;cases h;obtain⟨p1,p2⟩:=allP_cons.1 hph;exact wpIn_cond_false (by rw[hv,p1]) (ihy hf.2 hq p2 heq ro n Ow Im0 w0 a w hS)
  .split at h
   .exact wpIn_cond_true hv (ihx hf.1 h hph heq ro n Ow Im0 w0 a w hS)
   .exact wpIn_cond_false hv (ihy hf.2 h hph heq ro n Ow Im0 w0 a w hS)
 | block m c ih =>
  intro s r hf h hph heq ro n Ow Im0 w0 a w hS;simp only[runC,Zhy]at h;split at h
  .cases h
  rename_i q hq;refine wpIn_block ?_;split at h
  .rename_i k hm;split at h
   .rename_i hmn;cases h;refine wpIn_mono (ih hf hq hph heq ro n Ow Im0 w0 a w hS) ?_;rintro e a' w' ⟨rfl,hS'⟩;rw[hm];simp only[Ex.exit,Lf,hmn,if_true];exact⟨by trivial,hS'⟩
   .rename_i hmn;cases h;refine wpIn_mono (ih hf hq hph heq ro n Ow Im0 w0 a w hS) ?_;rintro e a' w' ⟨rfl,hS'⟩;rw[hm];simp only[Ex.exit,Lf,hmn,if_false];exact⟨by trivial,hS'⟩
  .rename_i hne;cases h;refine wpIn_mono (ih hf hq hph heq ro n Ow Im0 w0 a w hS) ?_;rintro e a' w' ⟨rfl,hS'⟩;cases hqe:r.e with
   | nrm=>exact⟨rfl,hS'⟩
   | ext k=>exact absurd hqe (hne k)
   | ret=>exact⟨rfl,hS'⟩
 | exit n=>intro s r _ h _ _ ro n Ow Im0 w0 a w hS;simp only[runC,Lm]at h;subst h;exact wpIn_exit ⟨rfl,hS⟩
 | ret=>intro s r _ h _ _ ro n Ow Im0 w0 a w hS;simp only[runC,Lm]at h;subst h;exact wpIn_ret ⟨rfl,hS⟩
 | _=>intro s r hf;cases hf
def Zbu{P:Program}(hints:List (Nat×List Hint))(ren:List (Nat×Nat))(fl:List Bool){c:Code}{s:St}{e:Ex}{t:Tg}{φ:Prop}(hφ:φ)
  (h1:oblE fl (runToR P hints [] ren c s t)=φ) (h2:lefE fl (runToR P hints [] ren c s t)=rigE fl (runToR P hints [] ren c s t)) (h3:exO (runToR P hints [] ren c s t)=M e) (hfl:Zbj c=O):CIn P c s e t.st:=by
 rw[<- h1]at hφ;obtain⟨k1,k2⟩:=Z4F hφ h2;cases hr:runToR P hints [] ren c s t with
 | none=>rw[hr]at k1;exact k1.elim
 | some r =>
  rw[hr]at k1 k2 h3;have heq:EqP r.eq:=Z8y k2;have he:r.e=e:=by simpa[exO]using h3
  unfold runToR at hr;split at hr
  .cases hr
  rename_i q hq;split at hr
  .cases hr
  rename_i s' hs';split at hr;rotate_left
  .cases hr
  rename_i l hl;cases hr;intro ro n Ow Im0 w0 a w hS;refine wpIn_mono (ZnE hfl hq k1 heq.left ro n Ow Im0 w0 a w hS) ?_;rintro e' a' w' ⟨rfl,hS'⟩;exact⟨by rw[<- he],ZgZ hl heq.right (ZbW hs' hS')⟩
def hasR(k:Nat):Code->Bool
 | .region n _ _=>LO n k
 | .seq x y=>hasR k x||hasR k y
 | .cond _ x y=>hasR k x||hasR k y
 | .block _ c=>hasR k c
 | .loop c=>hasR k c
 | _=>La
def cutAt(k:Nat):Code->Code
 | .region _ _ _=>.exit 99999
 | .seq x y=>match hasR k x with
  | true=>cutAt k x
  | false=>.seq x (cutAt k y)
 | .cond c x y=>match hasR k x with
  | true=>.cond c (cutAt k x) .skip
  | false=>.cond c .skip (cutAt k y)
 | .block n c=>.block n (cutAt k c)
 | c=>c
def noX:Code->Bool
 | .seq x y=>noX x&&noX y
 | .cond _ x y=>noX x&&noX y
 | .block _ c=>noX c
 | .exit n=>!Nat.beq n 99999
 | _=>O
def okH(k:Nat):Code->Bool
 | .region n _ _=>LO n k
 | .seq x y=>match hasR k x with
  | true=>okH k x
  | false=>noX x&&okH k y
 | .cond _ x y=>match hasR k x with
  | true=>okH k x
  | false=>okH k y
 | .block n c=>!Nat.beq n 99999&&okH k c
 | _=>La
def rest(P:Program)(n k:Nat):Code->(Exit->Act->World->Prop)->Act->World->Prop
 | .seq x y,Q=>match hasR k x with
  | true=>rest P n k x (Exit.then (y.wpIn Le n P Q) Q)
  | false=>rest P n k y Q
 | .cond _ x y,Q=>match hasR k x with
  | true=>rest P n k x Q
  | false=>rest P n k y Q
 | .block m c,Q=>rest P n k c (Lf m Q)
 | c,Q=>c.wpIn Le n P Q
def Zn6{P:Program}{hints:List (Nat×List Hint)}:∀ {c:Code} {s:St} {r:Run},noX c=O->runC P hints [] c s=M r->r.e≠.ext 99999:=by
 intro c;induction c with
 | region m ops dr =>
  intro s r _ h;simp only[runC]at h;split at h
  .cases h;simp
  .cases h
 | seq x y ihx ihy =>
  intro s r hf h;simp only[noX,Lr]at hf;simp only[runC]at h;split at h
  .cases h
  rename_i q hq;split at h
  .split at h;rotate_left
   .cases h
   rename_i q2 hq2;cases h;have:=ihy hf.2 hq2;exact this
  .cases h;exact ihx hf.1 hq
 | cond c x y ihx ihy =>
  intro s r hf h;simp only[noX,Lr]at hf;simp only[runC]at h;split at h
  .cases h
  split at h
  .split at h;rotate_left
   .cases h
   rename_i q hq;cases h;have:=ihx hf.1 hq;exact this
  .split at h;rotate_left
   .cases h
   rename_i q hq;cases h;have:=ihy hf.2 hq;exact this
  .split at h
   .exact ihx hf.1 h
   .exact ihy hf.2 h
 | block m c ih =>
  intro s r hf h;simp only[runC,Zhy]at h;split at h
  .cases h
  rename_i q hq;have:=ih hf hq;split at h
  .split at h
   .cases h;simp
   .cases h;exact this
  .cases h;exact this
 | exit n =>
  intro s r hf h;simp only[runC,Lm]at h;subst h;intro e;cases e;cases hf
 | skip=>intro s r _ h;simp only[runC,Lm]at h;subst h;simp
 | label n=>intro s r _ h;simp only[runC,Lm]at h;subst h;simp
 | ret=>intro s r _ h;simp only[runC,Lm]at h;subst h;simp
 | _=>intro s r _ h;simp[runC]at h
def Zp3{P:Program}{hints:List (Nat×List Hint)}{k n:Nat}:∀ {c:Code} {s:St} {r:Run},okH k c=O->runC P hints [] (cutAt k c) s=M r->allP r.ph->EqP r.eq->r.e = .ext 99999 ->
  ∀ (Q:Exit->Act->World->Prop) (Ow:Own) (Im0:Nat->Prop) (w0:World) (a:Act) (w:World),Sys Ow Im0 w0 s.tmps s.H s.clk a w->(∀ a' w',Sys Ow Im0 w0 r.s.tmps r.s.H r.s.clk a' w'->rest P n k c Q a' w')->c.wpIn Le n P Q a w:=by
 intro c;induction c with
 | region m ops dr =>
  intro s r _ h _ _ _ Q Ow Im0 w0 a w hS hr;simp only[cutAt,runC,Lm]at h;subst h;exact hr a w hS
 | seq x y ihx ihy =>
  intro s r hf h hph heq he Q Ow Im0 w0 a w hS hr;simp only[okH]at hf;simp only[cutAt]at h;simp only[rest]at hr;cases hx:hasR k x with
  | true =>
   rw[hx]at hf h hr;exact wpIn_seq (ihx hf h hph heq he _ Ow Im0 w0 a w hS hr)
  | false =>
   rw[hx]at hf h hr;simp only[Lr]at hf;simp only[runC]at h;split at h
   .cases h
   rename_i q hq;split at h
   .rename_i hqe;split at h;rotate_left
    .cases h
    rename_i q2 hq2;cases h;obtain⟨p1,p2⟩:=allP_append.1 hph;refine wpIn_seq (wpIn_mono (wpIn_wide.2 (Z9s hq p1 heq.left Ow Im0 w0 a w hS)) ?_);rintro e a' w' ⟨rfl,hS'⟩;rw[hqe];exact ihy hf.2 hq2 p2 heq.right he Q Ow Im0 w0 a' w' hS' hr
   .cases h;exact absurd he (Zn6 hf.1 hq)
 | cond c x y ihx ihy =>
  intro s r hf h hph heq he Q Ow Im0 w0 a w hS hr;simp only[okH]at hf;simp only[cutAt]at h;simp only[rest]at hr;have hv:∀ {b:Bool},asB (ev s.tmps c)=M b->a.eval c = .bool b:=λhb=>by
   obtain⟨ρ,Im,I,T⟩:=hS;have:=Z1p T c;rw[Z7S hb]at this;exact Z0G this
  cases hx:hasR k x with
  | true =>
   rw[hx]at hf h hr;simp only[runC]at h;split at h
   .cases h
   rename_i b hb;split at h
   .split at h;rotate_left
    .cases h
    rename_i q hq;cases h;obtain⟨p1,p2⟩:=allP_cons.1 hph;exact wpIn_cond_true (by rw[hv hb,p1]) (ihx hf hq p2 heq he Q Ow Im0 w0 a w hS hr)
   .cases h;cases he
   .split at h
    .exact wpIn_cond_true (hv hb) (ihx hf h hph heq he Q Ow Im0 w0 a w hS hr)
    .cases h;cases he
  | false =>
   rw[hx]at hf h hr;simp only[runC]at h;split at h
   .cases h
   rename_i b hb;split at h
   .cases h;cases he
   .split at h;rotate_left
    .cases h
    rename_i q hq;cases h;obtain⟨p1,p2⟩:=allP_cons.1 hph;exact wpIn_cond_false (by rw[hv hb,p1]) (ihy hf hq p2 heq he Q Ow Im0 w0 a w hS hr)
   .split at h
    .cases h;cases he
    .exact wpIn_cond_false (hv hb) (ihy hf h hph heq he Q Ow Im0 w0 a w hS hr)
 | block m c ih =>
  intro s r hf h hph heq he Q Ow Im0 w0 a w hS hr;simp only[okH,Lr]at hf;simp only[cutAt,runC,Zhy]at h;simp only[rest]at hr;split at h
  .cases h
  rename_i q hq;refine wpIn_block ?_;split at h
  .split at h
   .cases h;cases he
   .cases h;exact ih hf.2 hq hph heq he _ Ow Im0 w0 a w hS hr
  .cases h;exact ih hf.2 hq hph heq he _ Ow Im0 w0 a w hS hr
 | _=>intro s r hf;cases hf
def Zcx(P:Program)(k:Nat)(c:Code)(s t:St):Prop :=
 ∀ (n:Nat) (Q:Exit->Act->World->Prop) (Ow:Own) (Im0:Nat->Prop) (w0:World) (a:Act) (w:World),Sys Ow Im0 w0 s.tmps s.H s.clk a w->(∀ a' w',Sys Ow Im0 w0 t.tmps t.H t.clk a' w'->rest P n k c Q a' w')->c.wpIn Le n P Q a w
def Z4u{P:Program}(hints:List (Nat×List Hint))(ren:List (Nat×Nat))(fl:List Bool){k:Nat}{c:Code}{s:St}{t:Tg}{φ:Prop}(hφ:φ)
  (h1:oblE fl (runToR P hints [] ren (cutAt k c) s t)=φ) (h2:lefE fl (runToR P hints [] ren (cutAt k c) s t)=rigE fl (runToR P hints [] ren (cutAt k c) s t)) (h3:exO (runToR P hints [] ren (cutAt k c) s t)=M (.ext 99999)) (hfl:okH k c=O):Zcx P k c s t.st:=by
 rw[<- h1]at hφ;obtain⟨k1,k2⟩:=Z4F hφ h2;cases hr:runToR P hints [] ren (cutAt k c) s t with
 | none=>rw[hr]at k1;exact k1.elim
 | some r =>
  rw[hr]at k1 k2 h3;have heq:EqP r.eq:=Z8y k2;have he:r.e = .ext 99999:=by simpa[exO]using h3
  unfold runToR at hr;split at hr
  .cases hr
  rename_i q hq;split at hr
  .cases hr
  rename_i s' hs';split at hr;rotate_left
  .cases hr
  rename_i l hl;cases hr;intro n Q Ow Im0 w0 a w hS hrr;exact Zp3 hfl hq k1 heq.left he Q Ow Im0 w0 a w hS λa' w' hS'=>hrr a' w' (ZgZ hl heq.right (ZbW hs' hS'))
def Zcs(k:Nat):Code->Option (Array Oper)
 | .region n ops _=>match LO n k with
  | true=>M ops
  | false=>Lb
 | .seq x y=>match Zcs k x with
  | some o=>M o
  | none=>Zcs k y
 | .cond _ x y=>match Zcs k x with
  | some o=>M o
  | none=>Zcs k y
 | .block _ c=>Zcs k c
 | .loop c=>Zcs k c
 | _=>Lb
def rgO(fn:Func)(k:Nat):Array Oper:=match fn.body with
 | some c=>match Zcs k c with
  | some o=>o
  | none => #[]
 | none => #[]
def ZpG{s:St}{t:Tg}(h1:(wk s t).isSome=O)(h2:((wk s t).getD []).map (·.1)=((wk s t).getD []).map (·.2)){Ow:Own}{Im0:Nat->Prop}{w0:World}{a:Act}{w:World}(S:Sys Ow Im0 w0 s.tmps s.H s.clk a w):Sys Ow Im0 w0 t.st.tmps t.st.H t.st.clk a w:=by
 cases h:wk s t with
 | none=>rw[h]at h1;cases h1
 | some l=>rw[h]at h2;exact ZgZ h (Z8y h2) S
def Z4I{ρ:Rho}{w:World}{Im Im2:Nat->Prop}{k t:Nat}{e:List DV}{v:Value}{β:Bi}(hβ:ρ k=M β)(r:RelB ρ w Im β (.box t (e.map .d)))(hv:Rel ρ w Im (.pt k 0 0) v)(hi:∀ g,Im g->Im2 g)(hg:∀ g,β.g=M g->Im2 g):Rel (λ_=>Lb) w Im2 (.rp e 0) v:=by
 obtain⟨g,s,n,k1,rfl⟩:=Z3H hv rfl;rw[hβ]at k1;cases k1;obtain⟨r1,r2,g2,cs,r3,r4,r5,r6,r7⟩:=r;cases r3;have:=@Rel.rp (λ_=>Lb) w Im2 e 0 ⟨g,0,Lb⟩ rfl (hg _ rfl) (λj y hy=>by
  have hj:j<e.length:=(LY.1 hy).1;have hc:j<cs.size:=by rw[r5];simpa using hj
  have h1:cs[j]? = M cs[j]:=LR hc;have h2:=r7 j (.d y) cs[j] (by simp[hy]) h1;refine⟨cs[j], ?_, ?_⟩
  .simp only[Xb,r4];simpa using h1
  .cases h2 with
   | d h2=>exact h2.mono (Ext.refl _ _) hi)
 simpa using this
def Kept.no{w0 w:World}(h:Kept (OwA Z3E) w0 w):Kept (λ_=>False) w0 w:=h.imp λ_ q=>q.no
def Inv.empty{w:World}{Im:Nat->Prop}{clk:Nat}(hI:∀ g,Im g->g<w.heap.size)(hc:1<=clk):Inv Z3E Im w (λ_=>Lb) w Im (hOf []) clk:=by
 refine⟨Kept.refl _ _, ?_, ?_, ?_, ?_,hI,λ_ h=>.inl h, ?_,λ_ _ _=>rfl,hc,λb β _ h=>nomatch h⟩
 .intro b b' β β' g _ _ h;cases h
 .intro b β g _ h;cases h
 .intro b β g h;cases h
 .intro b β g h;cases h
 .intro b B h;cases h
def RelT.reSet{D:List Deferred}{ρ:Rho}{w:World}{Im:Nat->Prop}{tmps:List AV}{a:Act}(T:RelT D ρ w Im tmps a)(t:Nat)(y:AV)(h:∀ v,a.tmps[t]? = M v->Rel ρ w Im y v):RelT D ρ w Im (tmps.set t y) a:=by
 refine⟨by simp[T.size],λi x v h1 h2=>?_,T.defers⟩;rw[LZ]at h1;by_cases hi:t=i
 .subst hi;simp only[if_true]at h1;split at h1
  .cases h1;exact h v h2
  .cases h1
 .simp only[hi,if_false]at h1;exact T.tmp i x v h1 h2
def RelT.pure{D:List Deferred}{ρ:Rho}{w:World}{Im:Nat->Prop}{tmps:List AV}{a:Act}(T:RelT D ρ w Im tmps a)(h:tmps.all (ZjF [])=O):RelT D (λ_=>Lb) w Im tmps a :=
 ⟨T.size,λi x v h1 h2=>Zdj (ids:=[]) (λb hb=>by simp at hb) (T.tmp i x v h1 h2) (Lu.1 h _ (Ll h1)),T.defers⟩
def Zft{P:Program}{n l:Nat}{o:Oper}{f x y:Operand}{ts:Array Nat}{a:Act}{w:World}{next:Act->World->Prop}{Q:Exit->Act->World->Prop}{args:Array Value}{R:Ending->World->Prop}(ho:o.op = .call ⟨.value f,#[x,y],ts⟩)
  (hf:a.eval f = .func (.yield l) #[] #[]) (hx : #[a.eval x,a.eval y]=args) (hY:YieldAt Le n P l args w R) (hn:∀ e w',R e w'->∃ v,e = .returned v/\next (a.put o.dst v) w'):o.wpIn Le (n+1) P a w next Q:=by
 obtain⟨fn,t,s,b,h1,h2⟩:=hY;refine⟨λ_ _=>trivial, ?_⟩;have hrun:(o.semAt Le.round a.eval).run P w = .ok (.round l fn t s b) w:=by
  rw[show Le.round=Lb from rfl,Oper.semAt_none];simp[execOp,ho,resolve,hf,Deferred.ofValue,invoke,hx,h1]
 rw[hrun,Oper.uponIn_round];refine⟨λh=>(by cases h),h2.mono ?_⟩;rintro e w' hR;obtain⟨v,rfl,hv⟩:=hn e w' hR;exact hv
end Go.Sx
namespace Go.Proofs.YtgedmeaemofdkaaGreat
open Go.Sx
def Z2y(h:Header)(hm:0<=h.map/\h.map<=4294967295):GP 120 [h.av] O (bool (Z0i h)) []:=by
 have hs:=λq=>ZoS (n:=h.length) q;have ho:0<=h.length->h.length<=32->ones h.length=2^h.length.toNat-1:=λh0 h1=>by rw[ones,Nat.min_eq_left oq]
 rcases LG (Ld (h.K<(0:Int))||Ld ((3:Int)<h.K)||Ld (h.length<(0:Int))||Ld ((255:Int)<h.length))with hc0 | hc0
 .have hc0p:=hc0;simp only[bs]at hc0p;refine gspec_ofE [((20:Nat),[Hint.br O])] [] [] dd func120 [La,La,La,La,La,La,La,La,La,O] (φ:=(Ld (h.K<(0:Int))||Ld ((3:Int)<h.K)||Ld (h.length<(0:Int))||Ld ((255:Int)<h.length))=O/\O=O/\La=Z0i h) ?_ kr kr;exact⟨aa,rfl,(by(simp[Z0i, *];omega))⟩
 .have hc0p:=hc0;simp only[bs]at hc0p;obtain⟨⟨⟨hc0paaa,hc0paab⟩,hc0pab⟩,hc0pb⟩:=hc0p;rcases LG (h.K==(1:Int))with hc1 | hc1
  .have hc1p:=hc1;simp only[bs]at hc1p;refine gspec_ofE [((20:Nat),[Hint.br La]),((23:Nat),[Hint.br O]),((30:Nat),[Hint.int h.map]),((33:Nat),[Hint.call O (u64 (ones h.length)) []])] [] [] dd func120 [La,La,La,La,La,La,La,La,La,La,La,La,La,La,La,La,O] (φ:=(Ld (h.K<(0:Int))||Ld ((3:Int)<h.K)||Ld (h.length<(0:Int))||Ld ((255:Int)<h.length))=La/\La=La/\(h.K==(1:Int))=O/\O=O/\(Ld (h.length<=(32:Int))=O->Lt.wrap h.map=h.map)/\(Ld (h.length<=(32:Int))=O->GP 170 [int h.length] O (u64 (ones h.length)) [])/\(Ld (h.length<=(32:Int))&&Ld (h.map<=ones h.length))=Z0i h) ?_ kr kr;exact⟨aa,rfl,aa,rfl,(by intro hg;(try simp only[bs]at hg);exact wrapU2 rfl oq oq),(λhg=>by(try simp only[bs]at hg);exact @Z6I (h.length)),(by grind[Z0i])⟩
  .have hc1p:=hc1;simp only[bs]at hc1p;refine gspec_ofE [((20:Nat),[Hint.br La]),((23:Nat),[Hint.br La])] [] [] dd func120 [La,La,La,La,La,La,La,La,La,O] (φ:=(Ld (h.K<(0:Int))||Ld ((3:Int)<h.K)||Ld (h.length<(0:Int))||Ld ((255:Int)<h.length))=La/\La=La/\(h.K==(1:Int))=La/\La=La/\(h.K==h.K&&(h.length==h.length&&h.map==(0:Int)))=Z0i h) ?_ kr kr;exact⟨aa,rfl,aa,rfl,(by grind[Z0i])⟩
def Z0B(h:Header)(hm:0<=h.map/\h.map<=4294967295):GP 69 [h.av] O (int (sizeH h)) []:=by
 rcases LG (!Z0i h)with hc0 | hc0
 .have hc0p:=hc0;simp only[bs]at hc0p;refine gspec_ofE [((4:Nat),[Hint.call O (Sx.bool (Z0i h)) []]),((5:Nat),[Hint.br O])] [] [] dd func69 [O] (φ:=GP 120 [h.av] O (Sx.bool (Z0i h)) []/\(!Z0i h)=O/\O=O/\(0:Int)=sizeH h) ?_ kr kr;exact⟨(@Z2y (h) aa),aa,rfl,(by simp[sizeH, *])⟩
 .have hc0p:=hc0;simp only[bs]at hc0p;have hf3:=validH_iff.1 hc0p;obtain⟨hf3a,⟨hf3ba,⟨hf3bba,⟨hf3bbba,hf3bbbb⟩⟩⟩⟩:=hf3;refine gspec_ofE [((4:Nat),[Hint.call O (Sx.bool (Z0i h)) []]),((5:Nat),[Hint.br La]),((8:Nat),[Hint.int (h.length+(1:Int))])] [] [] dd func69 [O] (φ:=GP 120 [h.av] O (Sx.bool (Z0i h)) []/\(!Z0i h)=La/\La=La/\LU.wrap (h.length+(1:Int))=h.length+(1:Int)/\h.length+(1:Int)=sizeH h) ?_ kr kr;exact⟨(@Z2y (h) aa),aa,rfl,(by exact wrapI2 rfl oq oq),(by simp[sizeH, *])⟩
def Z79(ws:List Int)(a n:Int)(hw:ws.length<=1048576)(h0:0<=a/\a<=18446744073709551615):GP 169 [Z01 ws,u64 a,int n] O (.tu [int (Z0b ws a n).1,bool (Z0b ws a n).2]) []:=by
 have Q0 {h_ c_ p_} (r_:Fq h_ c_ p_):=FvG 13 (!decide (a<4096)) (a-4096) (FlG 15 (!decide (a<4096)) wdv ws (FvG 16 (!decide (a<4096)) (↑ws.length) r_));rcases bb (Ld (a<4096)||Ld ((ws.length:Int)<a-4096))with hc0 | hc0<;>have hc0p:=hc0<;>simp only[bs]at hc0p
 .rw[show Z0b ws a n=((0:Int),La)from by(simp[Z0b, *];omega)];exact gF [] func169 [] (Q0 (Ft 18 hc0 Fz))
 .obtain⟨hc0pa,hc0pb⟩:=hc0p;rw[show Z0b ws a n=(a-(4096:Int),Ld (n<=(ws.length:Int)-(a-(4096:Int))))from by(simp[Z0b, *];omega)];exact gF [] func169 [] (Q0 (Ff 18 hc0 (Fv 20 (a-4096) (Fi 21 (a-4096) (Fl 25 wdv ws (Fi 27 ((ws.length:Int)-(a-4096)) Fz))))))
def Zah(ws:List Int)(a:Int)(hw:ws.length<=1048576)(h0:0<=a/\a<=18446744073709551615):GP 163 [Z01 ws,u64 a] O (.tu [int (Z0O ws a).1,int (Z0O ws a).2]) []:=by
 have Q0 {h_ c_ p_} (r_:Fq h_ c_ p_):=Fc 11 (@Z79 ws a (1) aa aa) r_;rcases bb (!(Z0b ws a 1).2)with hc0 | hc0<;>have hc0p:=hc0<;>simp only[bs]at hc0p
 .rw[show Z0O ws a=((0:Int),(2:Int))from by grind[Z0b,Z0O]];exact gF [] func163 [] (Q0 (Ft 15 hc0 Fz))
 .rw[show Z0O ws a=((Z0b ws a (1:Int)).1,(0:Int))from by grind[Z0b,Z0O]];exact gF [] func163 [] (Q0 (Ff 15 hc0 Fz))
def Z42(ws:List Int)(a:Int)(hw:ws.length<=1048576)(h0:0<=a/\a<=18446744073709551615):GP 111 [Z01 ws,u64 a] O (.tu [u64 (loadA ws a).1,int (loadA ws a).2]) []:=by
 rcases bb ((Z0O ws a).2 != 0)with hc0 | hc0<;>have hc0p:=hc0<;>simp only[bs]at hc0p
 .have hf3:=Zcc hc0p;obtain⟨hf3a,hf3b⟩:=hf3;rw[show loadA ws a=((0:Int),(Z0O ws a).2)from by simp[loadA, *]];exact gF [] func111 [] (Fc 11 (@Zah ws a aa aa) (Ft 15 hc0 Fz))
 .have hf5:=Zdn hc0p;obtain⟨hf5a,⟨hf5ba,hf5bb⟩⟩:=hf5;rw[show loadA ws a=(ws.getD (Z0O ws a).1.toNat L,(0:Int))from by simp[loadA, *]];refine gspec_ofE [((11:Nat),[Hint.call O (AV.tu [int (Z0O ws a).1,int (Z0O ws a).2]) []]),((15:Nat),[Hint.br La]),((19:Nat),[Hint.el (wdv (ws.getD (Z0O ws a).1.toNat L))])] [] [] dd func111 [] (φ:=GP 163 [Z01 ws,u64 a] O (AV.tu [int (Z0O ws a).1,int (Z0O ws a).2]) []/\((Z0O ws a).2 != (0:Int))=La/\La=La/\(0:Int)<=(Z0O ws a).1/\(Lc wdv ws)[(Z0O ws a).1.toNat]? = M (wdv (ws.getD (Z0O ws a).1.toNat L))) ?_ kr kr;exact⟨(@Zah (ws) (a) aa aa),aa,rfl,(by exact elI oq oq oq)⟩
def upS(w:Int):Nat->Int
 | 0=>w
 | 1=>w/4
 | 2=>w/16
 | 3=>w/65536
 | _=>w/281474976710656
def upO(w:Int):List Int:=[w%4,w/4%4,w/16%4096,w/65536%4294967296]
def upL1(w:Int)(i:Nat):Tg:=⟨tm 49 [(0,u64 w),(1,Z0K [2,2,12,32]),(4,.d (.sl 0 [])),(5,int 0),(6,int ([64,62,60,48,16].getD i 0)),(12,Z0K [2,2,12,32]),(13,int 4),(14,int i)],[],20⟩
def ZlT(w:Int)(i:Nat)(hi:i<4):CP (rndF f201 0) (upL1 w i).st .nrm (upL1 w (i+1)).st:=by
 have h:i=0\/i=1\/i=2\/i=3:=by omega
 rcases h with rfl | rfl | rfl | rfl
 .refine stretchE [((16:Nat),[Hint.el (idv (2:Int))])] [] [] [] (φ:=(0:Int)<=(↑(0:Nat):Int)/\(Lc idv [(2:Int),(2:Int),(12:Int),(32:Int)])[(↑(0:Nat):Int).toNat]? = M (idv (2:Int))) ?_ kr kr kr;exact(by simp[*])
 .refine stretchE [((16:Nat),[Hint.el (idv (2:Int))])] [] [] [] (φ:=(0:Int)<=(↑(1:Nat):Int)/\(Lc idv [(2:Int),(2:Int),(12:Int),(32:Int)])[(↑(1:Nat):Int).toNat]? = M (idv (2:Int))) ?_ kr kr kr;exact(by simp[*])
 .refine stretchE [((16:Nat),[Hint.el (idv (12:Int))])] [] [] [] (φ:=(0:Int)<=(↑(2:Nat):Int)/\(Lc idv [(2:Int),(2:Int),(12:Int),(32:Int)])[(↑(2:Nat):Int).toNat]? = M (idv (12:Int))) ?_ kr kr kr;exact(by simp[*])
 .refine stretchE [((16:Nat),[Hint.el (idv (32:Int))])] [] [] [] (φ:=(0:Int)<=(↑(3:Nat):Int)/\(Lc idv [(2:Int),(2:Int),(12:Int),(32:Int)])[(↑(3:Nat):Int).toNat]? = M (idv (32:Int))) ?_ kr kr kr;exact(by simp[*])
def Zp5(w:Int):CP (rndF f201 0) (upL1 w 4).st (.ext 0) (Tg.st ⟨tm 49 [(0,u64 w),(1,Z0K [2,2,12,32]),(4,.d (.sl 0 [])),(5,int 0)],[],60⟩):=by
 exact sF [] [] Fz
def ZjW(w:Int)  := Z08 (S:=λi=>(upL1 w i).st) 4 (by kernel_rfl) (λi hi=>ZlT w i hi) (Zp5 w)
def upL2(w:Int)(i:Nat):Tg:=⟨tm 49 [(0,u64 (upS w i)),(4,.d (.sl 0 [])),(5,int 0),(9,.ow 480009),(29,Z0K [2,2,12,32]),(30,int 4),(31,int i)],[(480009,.arr 35 1 (((upO w).take i).map wdv))],60⟩
def Zll(w:Int)(i:Nat)(h0:0<=w)(h1:w<=18446744073709551615)(hi:i<4):CP (rndF f201 2) (upL2 w i).st .nrm (upL2 w (i+1)).st:=by
 have o1:ones 2=3:=by decide
 have o2:ones 12=4095:=by decide
 have o3:ones 32=4294967295:=by decide
 have a0:bits .and .u64 w (ones 2)=w%4:=by rw[o1];exact Z3G 2 dd dd oq oq
 have a1:bits .and .u64 (w/4) (ones 2)=w/4%4:=by rw[o1];exact Z3G 2 dd dd oq oq
 have a2:bits .and .u64 (w/16) (ones 12)=w/16%4096:=by rw[o2];exact Z3G 12 dd dd oq oq
 have a3:bits .and .u64 (w/65536) (ones 32)=w/65536%4294967296:=by rw[o3];exact Z3G 32 dd dd oq oq
 have f1:(w/4).fdiv 4=w/16:=by rw[LH _ dd];omega
 have f2:(w/16).fdiv 4096=w/65536:=by rw[LH _ dd];omega
 have f3:(w/65536).fdiv 4294967296=w/281474976710656:=by rw[LH _ dd];omega
 have h:i=0\/i=1\/i=2\/i=3:=by omega
 rcases h with rfl | rfl | rfl | rfl
 .exact sF [(496041,480009)] [] (Fh 33 [.el (idv 2)] (Fa (by simp[upS,upO, *]:0<=(↑(0:Nat):Int)/\(Lc idv [2,2,12,32])[(↑(0:Nat):Int).toNat]? = M (idv 2)) (Fc 38 (@Z6I (2)) (Fg 39 (by assumption:bits BinOp.and Lt (upS w 0) (ones (2:Int))=upS w 0%4) (Fs 40 (Lc wdv [upS w 0%4]) (Fa (by simp[upS,upO, *]:(Lc wdv (LB 0 (upO w))).length+(Lc wdv [upS w 0%4]).length<=2^30) (Fs 41 (Lc wdv [upS w 0%4]) (Fg 44 (by exact Z5U rfl dd:(upS w 0).fdiv (2^min (Lg 2) 64)=upS w 0/4) (Fo ((0:Int)<=2) Fz)))))))))
 .exact sF [(496041,480009)] [O] (Fh 33 [.el (idv 2)] (Fa (by simp[upS,upO, *]:0<=(↑(1:Nat):Int)/\(Lc idv [2,2,12,32])[(↑(1:Nat):Int).toNat]? = M (idv 2)) (Fc 38 (@Z6I (2)) (Fg 39 (by assumption:bits BinOp.and Lt (upS w 1) (ones (2:Int))=upS w 1%4) (Fs 40 (Lc wdv [upS w 1%4]) (Fa (by simp[upS,upO, *]:(Lc wdv (LB 1 (upO w))).length+(Lc wdv [upS w 1%4]).length<=2^30) (Fs 41 (Lc wdv [w%4,upS w 1%4]) (Fg 44 (by exact Z5U rfl dd:(upS w 1).fdiv (2^min (Lg 2) 64)=upS w 1/4) (Fo ((0:Int)<=2) (Fa (by(simp[upS,upO, *];omega):upS w 1/4=upS w (1+1)) Fz))))))))))
 .exact sF [(496041,480009)] [O] (Fh 33 [.el (idv 12)] (Fa (by simp[upS,upO, *]:0<=(↑(2:Nat):Int)/\(Lc idv [2,2,12,32])[(↑(2:Nat):Int).toNat]? = M (idv 12)) (Fc 38 (@Z6I (12)) (Fg 39 (by assumption:bits BinOp.and Lt (upS w 2) (ones (12:Int))=upS w 2%4096) (Fs 40 (Lc wdv [upS w 2%4096]) (Fa (by simp[upS,upO, *]:(Lc wdv (LB 2 (upO w))).length+(Lc wdv [upS w 2%4096]).length<=2^30) (Fs 41 (Lc wdv [w%4,w/4%4,upS w 2%4096]) (Fg 44 (by exact Z5U rfl dd:(upS w 2).fdiv (2^min (Lg 12) 64)=upS w 2/4096) (Fo ((0:Int)<=12) (Fa (by(simp[upS,upO, *];omega):upS w 2/4096=upS w (2+1)) Fz))))))))))
 .exact sF [(496041,480009)] [O] (Fh 33 [.el (idv 32)] (Fa (by simp[upS,upO, *]:0<=(↑(3:Nat):Int)/\(Lc idv [2,2,12,32])[(↑(3:Nat):Int).toNat]? = M (idv 32)) (Fc 38 (@Z6I (32)) (Fg 39 (by assumption:bits BinOp.and Lt (upS w 3) (ones (32:Int))=upS w 3%4294967296) (Fs 40 (Lc wdv [upS w 3%4294967296]) (Fa (by simp[upS,upO, *]:(Lc wdv (LB 3 (upO w))).length+(Lc wdv [upS w 3%4294967296]).length<=2^30) (Fs 41 (Lc wdv [w%4,w/4%4,w/16%4096,upS w 3%4294967296]) (Fg 44 (by exact Z5U rfl dd:(upS w 3).fdiv (2^min (Lg 32) 64)=upS w 3/4294967296) (Fo ((0:Int)<=32) (Fa (by(simp[upS,upO, *];omega):upS w 3/4294967296=upS w (3+1)) Fz))))))))))
def ZpL(w:Int):CP (rndF f201 2) (upL2 w 4).st (.ext 2) (Tg.st ⟨tm 49 [(0,u64 (w/281474976710656)),(4,.d (.sl 0 [])),(5,int 0),(9,.ow 480009)],[(480009,.arr 35 1 ((upO w).map wdv))],60⟩):=by
 exact sF [] [] Fz
def ZiT(w:Int)(h0:0<=w)(h1:w<=18446744073709551615)  := Z08 (S:=λi=>(upL2 w i).st) 4 (by kernel_rfl) (λi hi=>Zll w i h0 h1 hi) (ZpL w)
def ZeJ(w:Int)(h0:0<=w)(h1:w<=18446744073709551615)(h:w<281474976710656):GP 201 [u64 w,Z0K [2,2,12,32]] O (.tu [Z01 (upO w),int 0]) []:=by
 exact gF [] func201 [] (Fh 9 [.own] (Fu (@ZjW w) (Fu (@ZiT w aa aa) (Ffb 47 (w/(281474976710656:Int) != 0) (Fa (by exact Z4k _:Z1s (Lc wdv (upO w))) Fz)))))
def Zkb(w:Int)(h0:0<=w)(h1:w<=18446744073709551615)(h:¬ w<281474976710656):GP 201 [u64 w,Z0K [2,2,12,32]] O (.tu [Z01 [],int 2]) []:=by
 exact gF [] func201 [] (Fh 9 [.own] (Fu (@ZjW w) (Fu (@ZiT w aa aa) (Ftb 47 (w/(281474976710656:Int) != 0) (Fnl Fz)))))
def ZcU(w:Int)(h0:0<=w):decodeH w=if w<281474976710656/\w%4=1/\Z0i (Z3b w)=O then(Z3b w,O)else(Z22,La):=by
 have k1:(Z3b w).K=w/4%4:=rfl;have k2:(Z3b w).length=w/16%4096:=rfl;have k3:(Z3b w).map=w/65536%4294967296:=rfl;by_cases hv:Z0i (Z3b w)=O
 .have e:Z0c (Z3b w)=(1+4*(Z3b w).K+16*(Z3b w).length+65536*(Z3b w).map,0):=by rw[Z0c,if_pos hv]
  by_cases hc:w<281474976710656/\w%4=1
  .rw[decodeH,e,if_pos ⟨rfl,by simp only;omega⟩,if_pos ⟨hc.1,hc.2,hv⟩]
  .rw[decodeH,e,if_neg (by simp only;omega),if_neg (λq=>hc ⟨q.1,q.2.1⟩)]
 .have e:Z0c (Z3b w)=(0,1):=by rw[Z0c,if_neg hv]
  rw[decodeH,e,if_neg pq,if_neg (λq=>hv q.2.2)]
def Z1d(w:Int)(h0:0<=w)(h1:w<=18446744073709551615):GP 161 [u64 w] O (.tu [(decodeH w).1.av,bool (decodeH w).2]) []:=by
 have hm:=Z8P w h0;rw[ZcU w h0];have u0:(upO w).getD 0 L=w%4:=rfl;have u1:(upO w).getD 1 L=w/4%4:=rfl;have u2:(upO w).getD 2 L=w/16%4096:=rfl;have u3:(upO w).getD 3 L=w/65536%4294967296:=rfl;have uL:(upO w).length=4:=rfl;have k1:(Z3b w).K=w/4%4:=rfl;have k2:(Z3b w).length=w/16%4096:=rfl;have k3:(Z3b w).map=w/65536%4294967296:=rfl;by_cases ha:w<281474976710656
 .by_cases hb:w%4=1
  .by_cases hv:Z0i (Z3b w)=O
   .rw[if_pos ⟨ha,hb,hv⟩];have hv2:Z0i ⟨w/4%4,w/16%4096,w/65536%4294967296⟩=O:=hv;exact gF [] func161 [] (Fh 17 [.el (wdv ((upO w).getD 0 L))] (Fh 23 [.el (wdv ((upO w).getD 1 L))] (Fh 27 [.el (wdv ((upO w).getD 2 L))] (Fh 31 [.el (wdv ((upO w).getD 3 L))] (Fs 9 (Lc idv [2,2,12,32]) (Fc 10 (@ZeJ w aa aa aa) (Fa (by intro hg;(try simp only[bs]at hg);exact elI oq oq oq:(!(0:Int) != 0)=O->(0:Int)<=0/\(Lc wdv (upO w))[Lg 0]? = M (wdv ((upO w).getD 0 L))) (Ffb 20 ((upO w).getD 0 L != 1) (Fa (by exact elI oq oq oq:(0:Int)<=1/\(Lc wdv (upO w))[Lg 1]? = M (wdv ((upO w).getD 1 L))) (Fi 25 ((upO w).getD 1 L) (Fa (by exact elI oq oq oq:(0:Int)<=2/\(Lc wdv (upO w))[Lg 2]? = M (wdv ((upO w).getD 2 L))) (Fi 29 ((upO w).getD 2 L) (Fa (by exact elI oq oq oq:(0:Int)<=3/\(Lc wdv (upO w))[Lg 3]? = M (wdv ((upO w).getD 3 L))) (Fg 33 (by exact ZbU oq oq:Lz.wrap ((upO w).getD 3 L)=(upO w).getD 3 L) (Fc 36 (@Z2y (Header.mk ((upO w).getD 1 L) ((upO w).getD 2 L) ((upO w).getD 3 L)) aa) (Ffs 37 (!Z0i (Header.mk ((upO w).getD 1 L) ((upO w).getD 2 L) ((upO w).getD 3 L))) Fz))))))))))))))))
   .rw[if_neg (by simp[hv])];have hv':Z0i ⟨w/4%4,w/16%4096,w/65536%4294967296⟩=La:=eq_false_of_ne_true hv;exact gF [] func161 [] (Fh 17 [.el (wdv ((upO w).getD 0 L))] (Fh 23 [.el (wdv ((upO w).getD 1 L))] (Fh 27 [.el (wdv ((upO w).getD 2 L))] (Fh 31 [.el (wdv ((upO w).getD 3 L))] (Fs 9 (Lc idv [2,2,12,32]) (Fc 10 (@ZeJ w aa aa aa) (Fa (by intro hg;(try simp only[bs]at hg);exact elI oq oq oq:(!(0:Int) != 0)=O->(0:Int)<=0/\(Lc wdv (upO w))[Lg 0]? = M (wdv ((upO w).getD 0 L))) (Ffb 20 ((upO w).getD 0 L != 1) (Fa (by exact elI oq oq oq:(0:Int)<=1/\(Lc wdv (upO w))[Lg 1]? = M (wdv ((upO w).getD 1 L))) (Fi 25 ((upO w).getD 1 L) (Fa (by exact elI oq oq oq:(0:Int)<=2/\(Lc wdv (upO w))[Lg 2]? = M (wdv ((upO w).getD 2 L))) (Fi 29 ((upO w).getD 2 L) (Fa (by exact elI oq oq oq:(0:Int)<=3/\(Lc wdv (upO w))[Lg 3]? = M (wdv ((upO w).getD 3 L))) (Fg 33 (by exact ZbU oq oq:Lz.wrap ((upO w).getD 3 L)=(upO w).getD 3 L) (Fc 36 (@Z2y (Header.mk ((upO w).getD 1 L) ((upO w).getD 2 L) ((upO w).getD 3 L)) aa) (Fts 37 (!Z0i (Header.mk ((upO w).getD 1 L) ((upO w).getD 2 L) ((upO w).getD 3 L))) Fz))))))))))))))))
  .rw[if_neg (by simp[hb])];exact gF [] func161 [] (Fh 17 [.el (wdv ((upO w).getD 0 L))] (Fs 9 (Lc idv [2,2,12,32]) (Fc 10 (@ZeJ w aa aa aa) (Fa (by intro hg;(try simp only[bs]at hg);exact elI oq oq oq:(!(0:Int) != 0)=O->(0:Int)<=0/\(Lc wdv (upO w))[Lg 0]? = M (wdv ((upO w).getD 0 L))) (Ftb 20 ((upO w).getD 0 L != 1) Fz)))))
 .rw[if_neg (by simp[ha])];exact gF [] func161 [] (Fh 17 [.el (wdv ([].getD 0 L))] (Fs 9 (Lc idv [2,2,12,32]) (Fc 10 (@Zkb w aa aa aa) (Fa (by intro hg;(try simp only[bs]at hg);exact elI oq oq oq:(!(2:Int) != 0)=O->(0:Int)<=0/\(Lc wdv [])[Lg 0]? = M (wdv ([].getD 0 L))) Fz))))
def Heap.dvs(h:Heap):List DV:=[.sc (.int .i64 h.C.pw),.sc (.int .i64 h.C.pg),.sl 1 (h.W.map wdv),.sl 4 (h.P.map Page.dv),.sc (.int .i64 h.S),.sc (.int .i64 h.B)]
def Zgw(h:Heap)(a:Int)(hl:h.W.length<=1048576)(h0:0<=a/\a<=18446744073709551615):GP 160 [.rp [.sc (.int .i64 h.C.pw),.sc (.int .i64 h.C.pg),.sl 1 (h.W.map wdv),.sl 4 (h.P.map Page.dv),.sc (.int .i64 h.S),.sc (.int .i64 h.B)] 0,.rp [.sc (.int .u64 a)] 0] O (u64 (loadA h.W a).1) []:=by
 exact gF [] func160 [] (Fc 9 (@Z42 h.W a aa aa) Fz)
def Z1V(h:Heap)(a:Int)(hl:h.W.length<=1048576)(h0:0<=a/\a<=18446744073709551615):LP 160 [.pt 0 0 0,.pt 1 0 0] [.box 28 h.cells,.box 35 [u64 a]] (u64 (loadA h.W a).1) [.box 28 h.cells,.box 35 [u64 a]] :=
 Zmg (e0:=h.dvs) (e1:=[.sc (.int .u64 a)]) rfl (Zgw h a hl h0)
def Z2M(h:Heap)(a:Int)(hw:WOk h.W)(h0:0<=a/\a<=18446744073709551615):GP 109 [h.av,u64 a] O (.tu [(atH h a).1.av,int (atH h a).2]) []:=by
 have hv:=Z0H hw a;have hm:=Z29 (loadA h.W a).1 hv.1;by_cases hp:Z02 h=O
 .have po:=Z0a hp;by_cases ho:(ofA h.C a).2.2=0
  .have oo:=Z5e po.1 ho;have hz:(decodeH (loadA h.W a).1).2=O->sizeH (decodeH (loadA h.W a).1).1=(decodeH (loadA h.W a).1).1.length+1/\0<=(decodeH (loadA h.W a).1).1.length/\(decodeH (loadA h.W a).1).1.length<=255:=λe=>by
    have hv:=Z70 e;have:=validH_iff.1 hv;rw[sizeH,if_pos hv];omega
   have pp:=Z0L hp (j:=(ofA h.C a).1.toNat) oq;by_cases c3:((h.P.getD (ofA h.C a).1.toNat L).K=1\/(h.P.getD (ofA h.C a).1.toNat L).K=2)/\(ofA h.C a).2.1<(h.P.getD (ofA h.C a).1.toNat L).U/\(decodeH (loadA h.W a).1).2=O
   .have hz':=hz c3.2.2;by_cases c4:((h.P.getD (ofA h.C a).1.toNat L).K=1/\(h.P.getD (ofA h.C a).1.toNat L).U<(ofA h.C a).2.1+sizeH (decodeH (loadA h.W a).1).1)\/((h.P.getD (ofA h.C a).1.toNat L).K=2/\((ofA h.C a).2.1≠0\/sizeH (decodeH (loadA h.W a).1).1≠(h.P.getD (ofA h.C a).1.toNat L).U))
    .have e7:atH h a=(Z22,19):=by rw[atH,if_pos hp,if_pos ho,if_pos c3,if_pos c4]
     rw[e7];have Q0 {h_ c_ p_} (r_:Fq h_ c_ p_):=Fc 15 (@Z0n h) (Ffb 16 (!Z02 h) (Fc 22 (@Z3B h.C a oq oq) (Ffb 27 ((ofA h.C a).2.2 != 0) (Fe 34 Page.dv h.P ((ofA h.C a).1) (Fbq 38 [8002,8003] (@Z1V h a oq aa) (Fc 39 (@Z1d ((loadA h.W a).1) oq oq) (Fc 43 (@Z0B ((decodeH (loadA h.W a).1).1) aa) r_)))))));rcases bb (!(decodeH (loadA h.W a).1).2||Ld ((h.P.getD (ofA h.C a).1.toNat L).U<=(ofA h.C a).2.1))with hc0 | hc0<;>have hc0p:=hc0<;>simp only[bs]at hc0p
     .exact gF [] func109 [] (Fh 44 [.br O] (Q0 (Fa hc0 Fz)))
     .obtain⟨hc0pa,hc0pb⟩:=hc0p;rcases bb ((h.P.getD (ofA h.C a).1.toNat L).K==1)with hc1 | hc1<;>have hc1p:=hc1<;>simp only[bs]at hc1p
      .let y0:=h.P.getD (ofA h.C a).1.toNat L;exact gF [] func109 [] (Fh 44 [.br La] (Fh 76 [.br O] (Q0 (Fa hc0 (Fa hc1 (Fi 61 (y0.U-(ofA h.C a).2.1) (Ftb 53 (!decide (sizeH (decodeH (loadA h.W a).1).1<=y0.U-(ofA h.C a).2.1)) Fz)))))))
      .let y1:=h.P.getD (ofA h.C a).1.toNat L;exact gF [] func109 [] (Fh 44 [.br La] (Fh 53 [.br La] (Fh 76 [.br O] (Q0 (Fa hc0 (Fa hc1 (Fb ((y1.K==2)=O) (Ftb 63 (!((ofA h.C a).2.1==0&&sizeH (decodeH (loadA h.W a).1).1==y1.U)) Fz))))))))
    .have e7:atH h a=((decodeH (loadA h.W a).1).1,0):=by rw[atH,if_pos hp,if_pos ho,if_pos c3,if_neg c4]
     rw[e7];have Q1 {h_ c_ p_} (r_:Fq h_ c_ p_):=Fc 15 (@Z0n h) (Ffb 16 (!Z02 h) (Fc 22 (@Z3B h.C a oq oq) (Ffb 27 ((ofA h.C a).2.2 != 0) (Fe 34 Page.dv h.P ((ofA h.C a).1) (Fbq 38 [8002,8003] (@Z1V h a oq aa) (Fc 39 (@Z1d ((loadA h.W a).1) oq oq) (Fc 43 (@Z0B ((decodeH (loadA h.W a).1).1) aa) r_)))))));rcases bb (!(decodeH (loadA h.W a).1).2||Ld ((h.P.getD (ofA h.C a).1.toNat L).U<=(ofA h.C a).2.1))with hc0 | hc0<;>have hc0p:=hc0<;>simp only[bs]at hc0p
     .let y2:=decodeH (loadA h.W a).1;exact gF [] func109 (fO 4) (Fh 44 [.br O] (Q1 (Fa hc0 (Fa (by grind[Z22]:0=y2.1.K) (Fa (by grind[Z22]:0=y2.1.length) (Fa (by grind[Z22]:0=y2.1.map) (Fa (by grind[Z22]:(19:Int)=0) Fz)))))))
     .obtain⟨hc0pa,hc0pb⟩:=hc0p;rcases bb ((h.P.getD (ofA h.C a).1.toNat L).K==1)with hc1 | hc1<;>have hc1p:=hc1<;>simp only[bs]at hc1p
      .let y3:=h.P.getD (ofA h.C a).1.toNat L;exact gF [] func109 [] (Fh 53 [.br O] (Fh 76 [.br La] (Q1 (Fa hc0 (Fa hc1 (Fi 61 (y3.U-(ofA h.C a).2.1) (Ffb 44 (!decide (sizeH (decodeH (loadA h.W a).1).1<=y3.U-(ofA h.C a).2.1)) Fz)))))))
      .let y4:=h.P.getD (ofA h.C a).1.toNat L;exact gF [] func109 [] (Fh 53 [.br La] (Fh 63 [.br O] (Fh 76 [.br La] (Q1 (Fa hc0 (Fa hc1 (Fb ((y4.K==2)=O) (Ffb 44 (!((ofA h.C a).2.1==0&&sizeH (decodeH (loadA h.W a).1).1==y4.U)) Fz))))))))
   .have e7:atH h a=(Z22,19):=by rw[atH,if_pos hp,if_pos ho,if_neg c3]
    rw[e7];have Q2 {h_ c_ p_} (r_:Fq h_ c_ p_):=Fc 15 (@Z0n h) (Ffb 16 (!Z02 h) (Fc 22 (@Z3B h.C a oq oq) (Ffb 27 ((ofA h.C a).2.2 != 0) (Fe 34 Page.dv h.P ((ofA h.C a).1) (Fbq 38 [8002,8003] (@Z1V h a oq aa) (Fc 39 (@Z1d ((loadA h.W a).1) oq oq) (Fc 43 (@Z0B ((decodeH (loadA h.W a).1).1) aa) r_)))))));rcases bb (!(decodeH (loadA h.W a).1).2||Ld ((h.P.getD (ofA h.C a).1.toNat L).U<=(ofA h.C a).2.1))with hc0 | hc0<;>have hc0p:=hc0<;>simp only[bs]at hc0p
    .exact gF [] func109 [] (Fh 44 [.br O] (Q2 (Fa hc0 Fz)))
    .obtain⟨hc0pa,hc0pb⟩:=hc0p;rcases bb ((h.P.getD (ofA h.C a).1.toNat L).K==1)with hc1 | hc1<;>have hc1p:=hc1<;>simp only[bs]at hc1p
     .have Q3 {h_ c_ p_} (r_:Fq h_ c_ p_):=Q2 (Fa hc0 (Fa hc1 (Fi 61 ((h.P.getD (ofA h.C a).1.toNat L).U-(ofA h.C a).2.1) r_)));rcases bb (!decide (sizeH (decodeH (loadA h.W a).1).1<=(h.P.getD (ofA h.C a).1.toNat L).U-(ofA h.C a).2.1))with hc2 | hc2<;>have hc2p:=hc2<;>simp only[bs]at hc2p
      .exact gF [] func109 [] (Fh 44 [.br La] (Fh 76 [.br O] (Q3 (Ft 53 hc2 Fz))))
      .rw[show Z22=(decodeH (loadA h.W a).1).1 from by grind[Z22]];let y5:=decodeH (loadA h.W a).1;exact gF [] func109 (fO 4) (Fh 53 [.br O] (Fh 76 [.br La] (Q3 (Ff 44 hc2 (Fr (y5.1.K) (Fr (y5.1.length) (Fr (y5.1.map) (Fa (by grind[Z22]:(0:Int)=19) Fz))))))))
     .rcases bb ((h.P.getD (ofA h.C a).1.toNat L).K==2)with hc3 | hc3<;>have hc3p:=hc3<;>simp only[bs]at hc3p
      .rcases bb (!((ofA h.C a).2.1==0&&sizeH (decodeH (loadA h.W a).1).1==(h.P.getD (ofA h.C a).1.toNat L).U))with hc4 | hc4<;>have hc4p:=hc4<;>simp only[bs]at hc4p
       .exact gF [] func109 [] (Fh 44 [.br La] (Fh 53 [.br La] (Fh 76 [.br O] (Q2 (Fa hc0 (Fa hc1 (Fa hc3 (Ft 63 hc4 Fz))))))))
       .obtain⟨hc4pa,hc4pb⟩:=hc4p;rw[show Z22=(decodeH (loadA h.W a).1).1 from by grind[Z22]];let y6:=decodeH (loadA h.W a).1;exact gF [] func109 (fO 8) (Fh 53 [.br La] (Fh 63 [.br O] (Fh 76 [.br La] (Q2 (Fa hc0 (Fa hc1 (Fa hc3 (Ff 44 hc4 (Fr (y6.1.K) (Fr (y6.1.length) (Fr (y6.1.map) (Fa (by grind[Z22]:(0:Int)=19) Fz))))))))))))
      .exact gF [] func109 [] (Fh 44 [.br La] (Fh 53 [.br La] (Fh 63 [.br La] (Q2 (Fa hc0 (Fa hc1 (Fa hc3 Fz)))))))
  .have e7:atH h a=(Z22,2):=by rw[atH,if_pos hp,if_neg ho]
   have e2:(ofA h.C a).2.2=2:=by
    unfold ofA at ho ⊢;rw[if_pos po.1]at ho ⊢;split at ho
    .simp at ho
    .rename_i q;rw[if_neg q]
   rw[e7];exact gF [] func109 [O] (Fc 15 (@Z0n h) (Ffb 16 (!Z02 h) (Fc 22 (@Z3B h.C a oq oq) (Ftb 27 ((ofA h.C a).2.2 != 0) (Fr (0:Int) (Fr (0:Int) (Fr (0:Int) (Fa ‹(ofA h.C a).2.2=2› Fz))))))))
 .have e7:atH h a=(Z22,1):=by rw[atH,if_neg hp]
  have hp':Z02 h=La:=by simpa using hp
  rw[e7];exact gF [] func109 [] (Fc 15 (@Z0n h) (Ftb 16 (!Z02 h) Fz))
structure Found where
 addr:Int
 hd:Header
 deriving DecidableEq,Inhabited
def Found.dv(f:Found):List DV:=[.sc (.int .u64 f.addr),.sc (.int .i64 f.hd.K),.sc (.int .i64 f.hd.length),.sc (.int .u32 f.hd.map)]
def Found.av(f:Found):AV:=.ag [u64 f.addr,int f.hd.K,int f.hd.length,u32 f.hd.map]
def asgF(fn:Func)(n:Nat):Code:=match blkF fn n with
 | .block _ (.rangeFunc _ _ x _)=>x
 | _=>.skip
def bodF(fn:Func)(n:Nat):Code:=match blkF fn n with
 | .block _ (.rangeFunc _ _ _ x)=>x
 | _=>.skip
def lstH(pre:List Found):List (Nat×Blk):=[(8020,.arr 212 4 (pre.map Found.dv)),(6,.box 206 [.ow 8020])]
def lst1(pre:List Found)(x:Found):Tg:=⟨tm 22 [(6,.pt 6 0 0),(12,x.av),(13,int 0)],lstH pre,20⟩
def lst2(pre:List Found)(x:Found):Tg:=⟨tm 22 [(6,.pt 6 0 0),(7,.pt 160007 0 0),(8,int 0)],(160007,.box 212 [u64 x.addr,int x.hd.K,int x.hd.length,u32 x.hd.map])::lstH pre,30⟩
def lstA(pre:List Found)(x:Found):CIn prog (asgF f183 0) (lst1 pre x).st .nrm (lst2 pre x).st:=by
 refine Zbu [] [] [] (φ:=True) ?_ kr kr kr kr;exact trivial
def lstB(pre:List Found)(x:Found)(hl:pre.length<=1000):CIn prog (bodF f183 0) (lst2 pre x).st .nrm (Tg.st ⟨tm 22 [(6,.pt 6 0 0),(20,.ow 8020)],lstH (pre++[x]),60⟩):=by
 refine Zbu [((19:Nat),[Hint.els (Lc Found.dv [x])]),((20:Nat),[Hint.els (Lc Found.dv (pre++[x]))])] [((248020:Nat),(8020:Nat))] [] (φ:=(Lq (1:Nat) [du64 (0:Int),dint (0:Int),dint (0:Int),DV.sc (Value.int Lz (0:Int))]).set ((0:Nat),Operand.tmp (18:Nat)).1 [du64 x.addr,dint x.hd.K,dint x.hd.length,DV.sc (Value.int Lz x.hd.map)]=Lc Found.dv [x]/\(Lc Found.dv pre).length+(Lc Found.dv [x]).length<=(2:Nat)^(30:Nat)/\Lc Found.dv pre++Lc Found.dv [x]=Lc Found.dv (pre++[x])) ?_ kr kr kr kr;exact⟨rfl,(by(simp[*];omega)),(by simp[L4,L2,L3,L0,wdv,idv])⟩
def Z23(l:Nat):Value:=.func (.yield l) #[] #[]
def Z1G(h:Heap)(i:Int):Nat->Int->List Found×Bool
 | 0,_=>([],O)
 | f+1,o=>if o<(pg h i).U then(if(address h.C i o).2=0/\(atH h (adr h i o)).2=0 then(⟨adr h i o,(atH h (adr h i o)).1⟩::(Z1G h i f (o+sizeH (atH h (adr h i o)).1)).1,(Z1G h i f (o+sizeH (atH h (adr h i o)).1)).2)else([],La))else([],O)
def bdyF(fn:Func):Code:=match fn.body with
 | some c=>c
 | none=>.skip
def inE(h:Heap)(l:Nat)(i:Int):Tg:=⟨tm 58 [(0,.d (.sc (Z23 l))),(1,.rp h.dvs 0),(2,.rp [dint i] 0)],[],1⟩
def inP(h:Heap)(l:Nat)(i:Int):Tg:=⟨tm 58 [(0,.d (.sc (Z23 l))),(1,.rp h.dvs 0),(2,.rp [dint i] 0),(4,.pt 8004 0 0)],[(8004,.box 86 [int (pg h i).K,int (pg h i).S,int (pg h i).U,int (pg h i).N])],20⟩
def Zpv(h:Heap)(l:Nat)(i:Int)(hi:0<=i/\i<h.P.length)(hk:(pg h i).K=1\/(pg h i).K=2):Zcx prog 2 (bdyF f234) (inE h l i).st (inP h l i).st:=by
 unfold inP inE pg;unfold pg at hk;refine Z4u [((13:Nat),[Hint.el (h.P.getD i.toNat L).dv]),((22:Nat),[Hint.br La])] [] [] (φ:=((0:Int)<=i/\(Lc Page.dv h.P)[i.toNat]? = M (h.P.getD i.toNat L).dv)/\((h.P.getD i.toNat L).K != (1:Int)&&(h.P.getD i.toNat L).K != (2:Int))=La/\La=La) ?_ kr kr kr kr;exact⟨(by exact elI oq oq oq),(by(simp only[bs];omega)),rfl⟩
def Zpk(h:Heap)(l:Nat)(i:Int)(hi:0<=i/\i<h.P.length)(hk:¬ ((pg h i).K=1\/(pg h i).K=2)):CP (bdyF f234) (inE h l i).st .ret (Tg.st ⟨tm 58 [],[],20⟩):=by
 unfold inE;unfold pg at hk;exact sF [] [] (Fe 13 Page.dv h.P i (Ftb 22 ((h.P.getD i.toNat L).K != 1&&(h.P.getD i.toNat L).K != 2) Fz))
def inS(h:Heap)(l:Nat)(i o:Int):Tg:=⟨tm 58 [(0,.d (.sc (Z23 l))),(1,.rp h.dvs 0),(2,.rp [dint i] 0),(4,.rp (pg h i).dv 0),(5,int o)],[],20⟩
def inT(h:Heap)(l:Nat)(i o:Int)(a:Int)(hd:Header):Tg:=⟨tm 58 [(0,.d (.sc (Z23 l))),(1,.rp h.dvs 0),(2,.rp [dint i] 0),(4,.rp (pg h i).dv 0),(5,int o),(6,u64 a),(8,.pt 184008 0 0)],[(184008,.box 52 [int hd.K,int hd.length,u32 hd.map])],30⟩
section
variable (h:Heap) (l:Nat) (i o:Int) (hw:WOk h.W) (hp:Z02 h=O) (ho:0<=o/\o<=1000)
include hw hp ho
theorem ZoJ(h1:o<(pg h i).U)(h2:(address h.C i o).2=0)(h3:(atH h (adr h i o)).2=0):Zcx prog 9 (rndF f234 0) (inS h l i o).st (inT h l i (o+sizeH (atH h (adr h i o)).1) (adr h i o) (atH h (adr h i o)).1).st:=by
 have po:=Z0a hp;have ar:=Z4d po.1 i o;have sz:=Z0T (atH h (adr h i o)).1;have hm:=Z27 hw (adr h i o);unfold adr at ar sz hm h3;refine Z4u [((26:Nat),[Hint.br O]),((32:Nat),[Hint.call O (Z0S h.C i o) []]),((36:Nat),[Hint.br O]),((40:Nat),[Hint.call O (AV.tu [(atH h (address h.C i o).1).1.av,int (atH h (address h.C i o).1).2]) []]),((44:Nat),[Hint.br O]),((47:Nat),[Hint.call O (int (sizeH (atH h (address h.C i o).1).1)) []]),((48:Nat),[Hint.int (o+sizeH (atH h (address h.C i o).1).1)])] [] [] (φ:=Ld (o<(pg h i).U)=O/\O=O/\GP 212 [h.C.av,int i,int o] O (Z0S h.C i o) []/\((address h.C i o).2==(0:Int))=O/\O=O/\GP 109 [h.av,u64 (address h.C i o).1] O (AV.tu [(atH h (address h.C i o).1).1.av,int (atH h (address h.C i o).1).2]) []/\((atH h (address h.C i o).1).2==(0:Int))=O/\O=O/\GP 69 [(atH h (address h.C i o).1).1.av] O (int (sizeH (atH h (address h.C i o).1).1)) []/\LU.wrap (o+sizeH (atH h (address h.C i o).1).1)=o+sizeH (atH h (address h.C i o).1).1) ?_ kr kr kr kr;exact⟨(by(simp only[bs];omega)),rfl,(@Z4e (h.C) (i) (o)),(by(simp only[bs];omega)),rfl,(@Z2M (h) ((address h.C i o).1) aa oq),(by(simp only[bs];omega)),rfl,(@Z0B ((atH h (address h.C i o).1).1) aa),(by exact wrapI2 rfl oq oq)⟩
theorem Zpo(h1:o<(pg h i).U)(h2:¬ (address h.C i o).2=0):Zcx prog 10 (rndF f234 0) (inS h l i o).st (Tg.st ⟨tm 58 [(0,.d (.sc (Z23 l)))],[],30⟩):=by
 refine Z4u [((26:Nat),[Hint.br O]),((32:Nat),[Hint.call O (Z0S h.C i o) []]),((36:Nat),[Hint.br La])] [] [] (φ:=Ld (o<(pg h i).U)=O/\O=O/\GP 212 [h.C.av,int i,int o] O (Z0S h.C i o) []/\((address h.C i o).2==(0:Int))=La/\La=La) ?_ kr kr kr kr;exact⟨(by(simp only[bs];omega)),rfl,(@Z4e (h.C) (i) (o)),(by(simp only[bs];omega)),rfl⟩
theorem ZoQ(h1:o<(pg h i).U)(h2:(address h.C i o).2=0)(h3:¬ (atH h (adr h i o)).2=0):Zcx prog 10 (rndF f234 0) (inS h l i o).st (Tg.st ⟨tm 58 [(0,.d (.sc (Z23 l)))],[],30⟩):=by
 have po:=Z0a hp;have ar:=Z4d po.1 i o;unfold adr at ar h3;refine Z4u [((26:Nat),[Hint.br O]),((32:Nat),[Hint.call O (Z0S h.C i o) []]),((36:Nat),[Hint.br O]),((40:Nat),[Hint.call O (AV.tu [(atH h (address h.C i o).1).1.av,int (atH h (address h.C i o).1).2]) []]),((44:Nat),[Hint.br La])] [] [] (φ:=Ld (o<(pg h i).U)=O/\O=O/\GP 212 [h.C.av,int i,int o] O (Z0S h.C i o) []/\((address h.C i o).2==(0:Int))=O/\O=O/\GP 109 [h.av,u64 (address h.C i o).1] O (AV.tu [(atH h (address h.C i o).1).1.av,int (atH h (address h.C i o).1).2]) []/\((atH h (address h.C i o).1).2==(0:Int))=La/\La=La) ?_ kr kr kr kr;exact⟨(by(simp only[bs];omega)),rfl,(@Z4e (h.C) (i) (o)),(by(simp only[bs];omega)),rfl,(@Z2M (h) ((address h.C i o).1) aa oq),(by(simp only[bs];omega)),rfl⟩
omit hw hp ho in
theorem Zq7(h1:(pg h i).U<=o):CP (rndF f234 0) (inS h l i o).st (.ext 0) (Tg.st ⟨tm 58 [],[],30⟩):=by
 exact sF [] [] (Ffb 26 (Ld (o<(pg h i).U)) Fz)
end
end Go.Proofs.YtgedmeaemofdkaaGreat
namespace Go.Proofs.YtgedmeaemofdkaaGreat
open Go.Sx Go.RowKit
def flt1(ids bids:List Nat):AV->Bool
 | .pt b _ _=>memN b bids
 | .ow b=>memN b ids
 | .d (.sc _)=>O
 | .any=>O
 | _=>La
def fltB(ids bids:List Nat):Blk->Bool
 | .box _ l=>l.all (flt1 ids bids)
 | .arr .. => O
 | _=>La
def Z4A:List (Nat×Blk)->List Nat
 | []=>[]
 | (b,.box ..)::l=>b::Z4A l
 | _::l=>Z4A l
def Z4b{b:Nat}:∀ {hl:List (Nat×Blk)},b∈Z4A hl->∃ ty cells,(b,Blk.box ty cells)∈hl
 | [],h=>by simp[Z4A]at h
 | (c,.box ty cells)::l,h=>by
  simp only[Z4A,Lj]at h;rcases h with rfl | h
  .exact⟨ty,cells,by simp⟩
  .obtain⟨ty,cells,h⟩:=Z4b h;exact⟨ty,cells,by simp[h]⟩
 | (c,.arr ..)::l,h=>by obtain⟨ty,cells,h⟩:=Z4b (hl:=l) h;exact⟨ty,cells,by simp[h]⟩
 | (c,.mp _)::l,h=>by obtain⟨ty,cells,h⟩:=Z4b (hl:=l) h;exact⟨ty,cells,by simp[h]⟩
 | (c,.dead)::l,h=>by obtain⟨ty,cells,h⟩:=Z4b (hl:=l) h;exact⟨ty,cells,by simp[h]⟩
def ZfH{ρ ρ':Rho}{w Y:World}{Im:Nat->Prop}{ids bids:List Nat}{x:AV}{v:Value}(h:Rel ρ w Im x v)(hx:flt1 ids bids x=O)(hρ:∀ b∈bids,∀ β,ρ b=M β->ρ' b=M β)
  (ho:∀ b∈ids,∀ β,ρ b=M β->ρ' b=M β\/(ρ' b=M ⟨Lb,β.s,β.n⟩/\∀ g,β.g=M g->rows w g<β.s)) (hr:∀ g,rows Y g=rows w g):Rel ρ' Y (λ_=>False) x v:=by
 cases h with
 | pt h1=>exact .pt (hρ _ (memN_iff.1 hx) _ h1)
 | ow h1 h2 h3 h4 =>
  rename_i b c a β;rcases ho _ (memN_iff.1 hx) _ h1 with k | ⟨k,k'⟩
  .refine .ow k h2 h3 (h4.imp id λ⟨g,k1,k2,k3⟩=>⟨g,k1,k2, ?_⟩);rw[hr g];exact k3
  .refine Rel.ow (β:=⟨Lb,β.s,β.n⟩) k h2 h3 (.inl ?_);rcases h4 with h4 | ⟨g,k1,_,k3⟩
   .exact h4
   .have:=k' g k1;rcases Nat.eq_zero_or_pos c with h | h
    .exact h
    .have:=Xa β.s h;omega
 | any=>exact .any _
 | d h =>
  cases h with
  | sc _ h=>exact .d (.sc _ h)
  | _=>cases hx
 | _=>cases hx
def ZaN{ρ:Rho}{w:World}{Im:Nat->Prop}{β:Bi}{ty g:Nat}{cells:List AV}(h:RelB ρ w Im β (.box ty cells))(hg:β.g=M g):rows w g=cells.length:=by
 obtain⟨_,_,g',cs,h1,h2,h3,_⟩:=h;rw[hg]at h1;cases h1;simp[rows,h2,h3]
def ZkZ{ρ:Rho}{w:World}{Im:Nat->Prop}{β:Bi}{ty g s:Nat}{els:List (List DV)}(h:RelB ρ w Im β (.arr ty s els))(hg:β.g=M g):els.length*s<=rows w g:=by
 obtain⟨_,_,_,_,⟨h1,_⟩ | ⟨g',cs,h1,h2,h3,_⟩⟩:=h
 .rw[hg]at h1;cases h1
 .rw[hg]at h1;cases h1;simpa[rows,h2]using h3
def ZmA{Ow:Sx.Own}{Im0:Nat->Prop}{w0 w:World}{tmps:List AV}{hl:List (Nat×Blk)}{clk clk':Nat}{a:Act}(S:Sx.Sys Ow Im0 w0 tmps (hOf hl) clk a w)(hT:tmps.all (flt1 (hl.map (·.1)) (Z4A hl))=O)(hB:hl.all (λp=>fltB (hl.map (·.1)) (Z4A hl) p.2)=O)(hN:(hl.map (·.1)).Nodup)
  (hF:∀ b ty s els,(b,Blk.arr ty s els)∈hl->Z1s els) {Y:World} {l:Nat} {r r':Loop} (hl0:w.heap[l]? = M (.loop r)) (hl1:Y.heap[l]? = M (.loop r')) (hY:Y.heap.size=w.heap.size) (hs:∀ g,g≠l->Y.heap[g]? = w.heap[g]?) (hc:1<=clk') :
  ∃ ρ:Rho,(∀ b β,ρ b=M β->b∈hl.map (·.1))/\(∀ b β g,ρ b=M β->β.g=M g->(w0.heap.size<=g/\8000<=b)\/OwA Ow g)/\(∀ b β g,ρ b=M β->β.g=M g->β.s<=rows Y g)/\Inv (ownR ρ) (λ_=>False) Y ρ Y (λ_=>False) (hOf hl) clk'/\RelT Ow.ds ρ Y (λ_=>False) tmps a/\Kept (OwA Ow) w0 w:=by
 obtain⟨ρ,Im,I,T⟩:=S;let ids:=hl.map (·.1);let ρ':Rho:=λb=>if memN b ids then(match ρ b with | Lb=>Lb | M β=>match β.g with | M g=>if rows w g<β.s then M ⟨Lb,β.s,β.n⟩else M β | Lb=>M β)else Lb;have hout:∀ b β,ρ' b=M β->b∈ids/\∃ κ,ρ b=M κ/\κ.s=β.s/\κ.n=β.n/\∀ g,β.g=M g->κ=β/\β.s<=rows w g:=by
  intro b β h;simp only[ρ']at h;split at h;rotate_left
  .cases h
  refine⟨memN_iff.1 aa, ?_⟩;split at h
  .cases h
  rename_i κ hκ;refine⟨κ,hκ, ?_⟩;split at h
  .rename_i g hg;split at h
   .cases h;exact⟨rfl,rfl,λg h=>by cases h⟩
   .cases h;exact⟨rfl,rfl,λg' h=>by rw[hg]at h;cases h;exact⟨rfl,by omega⟩⟩
  .rename_i hg;cases h;exact⟨rfl,rfl,λg' h=>by rw[hg]at h;cases h⟩
 have hin:∀ b∈ids,∀ β,ρ b=M β->ρ' b=M β\/(ρ' b=M ⟨Lb,β.s,β.n⟩/\∀ g,β.g=M g->rows w g<β.s):=by
  intro b hb β h;simp only[ρ',h];rw[if_pos (memN_iff.2 hb)];split
  .rename_i g hg;split
   .exact .inr ⟨rfl,λg' h'=>by rw[hg]at h';cases h';assumption⟩
   .exact .inl rfl
  .exact .inl rfl
 have hrow:∀ g,rows Y g=rows w g:=by
  intro g;by_cases hg:g=l
  .subst hg;simp[rows,hl0,hl1]
  .simp only[rows,hs g hg]
 have hbox:∀ b∈Z4A hl,∀ β,ρ b=M β->ρ' b=M β:=by
  intro b hb β h;obtain⟨ty,cells,hm⟩:=Z4b hb;have hbi:b∈ids:=LM.2 ⟨_,hm,rfl⟩;rcases hin b hbi β h with k | ⟨_,k⟩
  .exact k
  .cases hq:hOf hl b with
   | none=>exact absurd hbi (hOf_mem.2.1 hq)
   | some B =>
    have hB':B = .box ty cells:=by
     have h1:=hOf_mem.1 B hq;obtain⟨i,hi⟩:=L5.1 h1;obtain⟨j,hj⟩:=L5.1 hm;have:i=j:=Zom b hN (by simp[hi]) (by simp[hj]);subst this;rw[hi]at hj;cases hj;rfl
    subst hB';obtain⟨β',m1,m2⟩:=I.blk b _ hq;rw[h]at m1;cases m1;have m3:=m2;obtain⟨h0,_,g,_,h1,_⟩:=m2;have:=k g h1;rw[ZaN m3 h1]at this;omega
 have hlive:∀ b,b∈ids->live (hOf hl) b:=by
  intro b hb;cases hq:hOf hl b with
  | none=>exact absurd hb (hOf_mem.2.1 hq)
  | some B =>
   refine⟨B,hq, ?_⟩;rintro rfl;have:=Lu.1 hB _ (hOf_mem.1 _ hq);cases this
 have hsame:∀ b β g,ρ' b=M β->β.g=M g->ρ b=M β:=λb β g h h'=>by
  obtain⟨_,κ,k1,_,_,k4⟩:=hout b β h;rw[(k4 g h').1]at k1;exact k1
 refine⟨ρ',λb β h=>(hout b β h).1,λb β g h h'=>I.own b β g (hsame b β g h h') h',λb β g h h'=>by
   obtain⟨_,κ,k1,_,_,k4⟩:=hout b β h;rw[hrow];exact(k4 g h').2,⟨Kept.refl _ _,λb b' β β' g _ _ q1 q2 q3 q4=>I.inj b b' β β' g (hlive _ (hout _ _ q1).1) (hlive _ (hout _ _ q2).1) (hsame _ _ g q1 q3) (hsame _ _ g q2 q4) q3 q4,λ_ _ _ _ _ _ h=>h,λb β g q1 q2=>by rw[hY];exact I.bnd b β g (hsame _ _ g q1 q2) q2,λb β g q1 q2=>.inr ⟨b,β,q1,q2⟩,λ_ h=>h.elim,λ_ h=>h.elim,λb B q=>?_,λb _ q=>?_,⟨hc,λ_ _ _ h=>h⟩⟩,⟨T.size,λi x v h1 h2=>ZfH (T.tmp i x v h1 h2) (Lu.1 hT _ (Ll h1)) hbox hin hrow,T.defers⟩,I.kept⟩
 .have hm:=hOf_mem.1 B q;have hb:b∈ids:=LM.2 ⟨(b,B),hm,rfl⟩;obtain⟨β,m1,m2⟩:=I.blk b B q;have hfl:=Lu.1 hB _ hm;cases B with
  | dead=>cases hfl
  | mp=>cases hfl
  | box ty cells =>
   obtain⟨h0,h00,g,cs,h1,h2,h3,h3',h4⟩:=m2;have hg:g≠l:=by rintro rfl;rw[hl0]at h2;cases h2
   have:b∈Z4A hl:=by
    have:∀ {k:List (Nat×Blk)},(b,Blk.box ty cells)∈k->b∈Z4A k:=by
     intro k;induction k with
     | nil=>intro h;simp at h
     | cons p k ih =>
      obtain⟨c,C⟩:=p;intro h;rcases Lj.1 h with e | e
      .cases e;simp[Z4A]
      .cases C<;>simp[Z4A,ih e]
    exact this hm
   exact⟨β,hbox b this β m1,h0,h00,g,cs,h1,by rw[hs g hg];exact h2,h3,h3',λo x v hx hv=>ZfH (h4 o x v hx hv) (Lu.1 hfl _ (Ll hx)) hbox hin hrow⟩
  | arr ty s els =>
   have m3:=m2;obtain⟨h0,h1,hb',h2,h3⟩:=m2;rcases hin b hb β m1 with k | ⟨k,k'⟩
   .refine⟨β,k,h0,h1,hb',h2,h3.imp id λ⟨g,cs,h4,h5,h6,h7⟩=>?_⟩;have hg:g≠l:=by rintro rfl;rw[hl0]at h5;cases h5
    refine⟨g,cs,h4,by rw[hs g hg];exact h5,h6,λi e o x hx hy=>?_⟩;obtain⟨v,h8,h9⟩:=h7 i e o x hx hy;exact⟨v,h8,ZbN (hF _ _ _ _ hm) (Ll hx) (Ll hy) h9⟩
   .refine⟨_,k,h0,h1,hb',h2,.inl ⟨rfl, ?_⟩⟩;rcases h3 with⟨_,h⟩ | ⟨g,_,h4,_⟩
    .exact h
    .have e1:=k' g h4;have e2:=ZkZ m3 h4;rw[h0]at e1;cases els with
     | nil=>rfl
     | cons y ys =>
      have:1*s<=(y::ys).length*s:=Xa s pq;omega
 .have:b∉ids:=hOf_mem.2.1 q;simp only[ρ'];rw[if_neg (λh=>this (memN_iff.1 h))]
def Z5E(f:Found):Value:=.agg #[.int .u64 f.addr,.int .i64 f.hd.K,.int .i64 f.hd.length,.int .u32 f.hd.map]
def encF(f:Found)(e:Int):Array Value := #[Z5E f,.int .i64 e]
def Z9Q(ρ:Rho)(w:World)(Im:Nat->Prop)(f:Found):Rel ρ w Im f.av (Z5E f):=by
 refine .ag _ _ rfl (λi v h=>?_) (λi a v ha hv=>?_)
 .rcases i with _ | _ | _ | _ | i<;>simp at h<;>subst h<;>rfl
 .rcases i with _ | _ | _ | _ | i<;>simp at ha hv<;>subst ha<;>subst hv<;>exact .d (.sc _ rfl)
def ZlV(l:List Found):Z1s (l.map Found.dv):=by
 intro e he x hx;obtain⟨f,_,rfl⟩:=LM.1 he;simp only[Found.dv,Lj,Lp,or_false]at hx;rcases hx with rfl | rfl | rfl | rfl<;>exact⟨_,rfl⟩
def LJ(g6:Nat)(prot:List (Nat×Obj))(A:Nat->Prop)(pre:List Found)(W:World):Prop :=
 ∃ ρ:Rho,(∀ g,A g↔∃ b β,ρ b=M β/\β.g=M g)/\Inv (ownR ρ) (λ_=>False) W ρ W (λ_=>False) (hOf (lstH pre)) 20/\(∃ s n,ρ 6=M ⟨M g6,s,n⟩)/\(∀ b β,ρ b=M β->b∈[8020,6])/\(∀ b β g,ρ b=M β->β.g=M g->β.s<=rows W g)/\∀ p∈prot,W.heap[p.1]? = M p.2/\¬ A p.1
def LJ.keep{g6:Nat}{prot:List (Nat×Obj)}{A:Nat->Prop}{pre:List Found}{X Y:World}(J:LJ g6 prot A pre X)(K:Kept (λ_=>False) X Y):LJ g6 prot A pre Y:=by
 obtain⟨ρ,hA,I,h6,hs,hr,hp⟩:=J;have he:Ext (λ_=>False) X Y:=⟨K.size,λg h=>h.elim,K.rows⟩
 refine⟨ρ,hA,⟨Kept.refl _ _,I.inj,λ_ _ _ _ _ _ h=>h,λb β g q1 q2=>LC (I.bnd b β g q1 q2) K.size,λb β g q1 q2=>.inr ⟨b,β,q1,q2⟩,λ_ h=>h.elim,λ_ h=>h.elim,λb B q=>?_,I.fresh,I.one⟩,h6,hs,λb β g q1 q2=>?_,λp hpp=>⟨?_,(hp p hpp).2⟩⟩
 .obtain⟨β,m1,m2⟩:=I.blk b B q;exact⟨β,m1,m2.mono he (λ_ h=>h) (λ_ _ h=>h) I.bnd (λg hg=>K.block g (I.bnd b β g m1 hg) (λh=>h))⟩
 .rw[K.rows g (I.bnd _ _ _ q1 q2)];exact hr b β g q1 q2
 .have h1:=(hp p hpp).1;rw[K.block p.1 (Li.1 h1).1 (λh=>h)];exact h1
def Zia{fn:Nat}{a0:Array Value}{D l g6 n:Nat}{prot:List (Nat×Obj)}{A:Nat->Prop}{pre:List Found}{W:World}(hl:pre.length<=1000)(ha0:a0.size=22)(ha6:a0[6]? = M (.pointer (M ⟨g6,0,Lb⟩)))
  (hrec:(l,Lh { state:=.ready,pending:=Lb,fn:=fn,tmps:=a0,params := #[12,13],assign:=asgF f183 0,body:=bodF f183 0,defers:=D })∈prot) (J:LJ g6 prot A pre W) (x:Found) :
  YieldAt Le n prog l (encF x 0) W λe W'=>e = .returned (.bool O)/\∃ A',LJ g6 prot A' (pre++[x]) W'/\(∀ g,A' g->A g\/W.heap.size<=g)/\Kept A W W':=by
 obtain⟨ρ,hA,I,⟨s6,n6,h6⟩,hs,hr,hp⟩:=J;obtain⟨rl,nl⟩:=hp _ hrec;have hAe:OwA (ownR ρ)=A:=by funext g;exact propext (hA g).symm
 refine⟨fn,_,_,_,run_yield rl rfl,roundIn_of_wpIn trivial ?_⟩;have T0:RelT [] ρ W (λ_=>False) (tm 22 [(6,.pt 6 0 0)]) { tmps:=a0,defers:=[] }:=by
  refine⟨by rw[ha0];rfl,λi y v h1 h2=>?_,rfl⟩;by_cases h:i=6
  .subst h;rw[ha6]at h2;cases h2;cases (show(tm 22 [(6,.pt 6 0 0)])[6]? = M (.pt 6 0 0)from rfl).symm.trans h1;have:=Rel.pt (ρ:=ρ) (w:=W) (Im:=λ_=>False) (i:=0) (o:=0) h6;simpa[ptV,mpO]using this
  .have:y = .any:=by
    have hi:i<22:=(LY.1 h1).1;have e:∀ j,j<22->j≠6->(tm 22 [(6,.pt 6 0 0)])[j]? = M .any:=by
     intro j hj hj6;have:j∈[0,1,2,3,4,5,7,8,9,10,11,12,13,14,15,16,17,18,19,20,21]:=by
      simp only[Lj,Lp,or_false];omega
     simp only[Lj,Lp,or_false]at this;rcases this with rfl | rfl | rfl | rfl | rfl | rfl | rfl | rfl | rfl | rfl | rfl | rfl | rfl | rfl | rfl | rfl | rfl | rfl | rfl | rfl | rfl<;>rfl
    rw[e i hi h]at h1;cases h1;rfl
   subst this;exact .any _
 have T1:=(T0.put 12 (Z9Q ρ W (λ_=>False) x)).put 13 (Rel.d (RelD.sc (Value.int .i64 0) rfl));have S1:Sx.Sys (ownR ρ) (λ_=>False) W (lst1 pre x).st.tmps (lst1 pre x).st.H (lst1 pre x).st.clk { tmps:=(a0.setIfInBounds 12 (Z5E x)).setIfInBounds 13 (.int .i64 0),defers:=[] } W:=⟨ρ,_,I,T1⟩
 have ef:((#[12,13]:Array Nat).zip (encF x 0)).foldl (λtmps (t,a)=>tmps.setIfInBounds t a) a0=(a0.setIfInBounds 12 (Z5E x)).setIfInBounds 13 (.int .i64 0):=by simp[encF]
 show(asgF f183 0).wpIn _ n _ _ { tmps:=((#[12,13]:Array Nat).zip (encF x 0)).foldl (λtmps (t,a)=>tmps.setIfInBounds t a) a0,defers:=[] } W;rw[ef];refine wpIn_mono (lstA pre x (M l) n _ _ _ _ _ S1) ?_;rintro e a1 w1 ⟨rfl,S2⟩;have K1:Kept A W w1:=by obtain⟨_,_,I1,_⟩:=S2;exact hAe▸I1.kept
 have hlW:l<W.heap.size:=(Li.1 rl).1;have rl1:w1.heap[l]? = M (Lh { state:=.ready,pending:=Lb,fn:=fn,tmps:=a0,params := #[12,13],assign:=asgF f183 0,body:=bodF f183 0,defers:=D }):=by
  rw[K1.block l hlW nl];exact rl
 refine⟨_,run_beginRound rl1 rfl, ?_⟩;obtain⟨w2,hw2⟩:∃ w2,w1.putObj l (Lh { state:=.busy,pending:=Lb,fn:=fn,tmps:=a0,params := #[12,13],assign:=asgF f183 0,body:=bodF f183 0,defers:=D })=w2:=⟨_,rfl⟩
 have rl2:w2.heap[l]? = M (Lh { state:=.busy,pending:=Lb,fn:=fn,tmps:=a0,params := #[12,13],assign:=asgF f183 0,body:=bodF f183 0,defers:=D }):=by
  rw[<- hw2];exact Ly (Li.1 rl1).1
 have hs2:∀ g,g≠l->w2.heap[g]? = w1.heap[g]? := λg hg=>by rw[<- hw2];exact Lk hg
 have hz2:w2.heap.size=w1.heap.size:=by rw[<- hw2];exact LD
 obtain⟨ρ1,q1,q2,qr,I1,T1',_⟩:=ZmA S2 kr kr (by show([160007,8020,6]:List Nat).Nodup;decide) (by
   intro b ty s els hm;simp only[lst2,lstH,Lj,Lp,or_false,Prod.mk.injEq,reduceCtorEq,and_false,Blk.arr.injEq,false_or]at hm;obtain⟨_,_,_,rfl⟩:=hm;exact ZlV pre) rl1 rl2 hz2 hs2 (by decide:1<=30)
 show(bodF f183 0).wpIn _ _ _ _ _ _;rw[hw2];refine wpIn_mono (lstB pre x hl (M l) n _ _ _ _ _ (⟨ρ1,_,I1,T1'⟩:Sx.Sys _ _ w2 (lst2 pre x).st.tmps (lst2 pre x).st.H (lst2 pre x).st.clk a1 w2)) ?_;rintro e a3 w3 ⟨rfl,S3⟩;have K3:Kept (λg=>∃ b β,ρ1 b=M β/\β.g=M g) w2 w3:=by obtain⟨_,_,I3,_⟩:=S3;exact I3.kept
 have hrow2:∀ g,rows w2 g=rows w1 g:=by
  intro g;by_cases hg:g=l
  .subst hg;simp[rows,rl1,rl2]
  .simp only[rows,hs2 g hg]
 have hw12:W.heap.size<=w1.heap.size:=K1.size;have own1:∀ b β g,ρ1 b=M β->β.g=M g->W.heap.size<=g\/A g:=λb β g h h'=>(q2 b β g h h').imp (·.1) λh=>hAe▸h;have hl2:¬ ∃ b β,ρ1 b=M β/\β.g=M l:=by
  rintro⟨b,β,h,h'⟩;rcases own1 b β l h h' with k | k
  .omega
  .exact nl k
 have box6:∀ {ρ:Rho} {X:World} {H:List (Nat×Blk)} {t:Nat} {x:AV},Inv (ownR ρ) (λ_=>False) X ρ X (λ_=>False) (hOf H) t->hOf H 6=M (.box 206 [x])->∃ β g,ρ 6=M β/\β.g=M g/\rows X g=1:=by
  intro ρ X H t x I hH;obtain⟨β,k1,k2⟩:=I.blk 6 _ hH;have k3:=k2;obtain⟨_,_,g,_,k4,_⟩:=k2;exact⟨β,g,k1,k4,ZaN k3 k4⟩
 have arr4:∀ {ρ:Rho} {X:World} {H:List (Nat×Blk)} {t:Nat} {els:List (List DV)} {β:Bi},Inv (ownR ρ) (λ_=>False) X ρ X (λ_=>False) (hOf H) t->hOf H 8020=M (.arr 212 4 els)->ρ 8020=M β->β.s=4:=by
  intro ρ X H t els β I hH h;obtain⟨β',k1,k2⟩:=I.blk 8020 _ hH;rw[h]at k1;cases k1;exact k2.1
 have id1:∀ β g,ρ1 6=M β->β.g=M g->rows w2 g=1->g=g6:=by
  intro β g h h' h1;rcases q2 6 β g h h' with⟨_,k⟩ | k
  .omega
  obtain⟨b,κ,(k1:ρ b=M κ),k2⟩:=k;have hb:=hs b κ k1;simp only[Lj,Lp,or_false]at hb;rcases hb with rfl | rfl
  .have:=hr _ _ _ k1 k2;rw[arr4 I rfl k1,<- K1.rows g (I.bnd _ _ _ k1 k2),<- hrow2,h1]at this;omega
  .rw[h6]at k1;cases k1;cases k2;rfl
 have rl3:w3.heap[l]? = M (Lh { state:=.busy,pending:=Lb,fn:=fn,tmps:=a0,params := #[12,13],assign:=asgF f183 0,body:=bodF f183 0,defers:=D }):=by
  rw[K3.block l oq hl2];exact rl2
 refine⟨_,_,run_endRound Lb rl3,rfl, ?_⟩;obtain⟨W',hW'⟩:∃ W',w3.putObj l (Lh { state:=.ready,pending:=Lb,fn:=fn,tmps:=a0,params := #[12,13],assign:=asgF f183 0,body:=bodF f183 0,defers:=D })=W':=⟨_,rfl⟩
 have rl4:W'.heap[l]? = M (Lh { state:=.ready,pending:=Lb,fn:=fn,tmps:=a0,params := #[12,13],assign:=asgF f183 0,body:=bodF f183 0,defers:=D }):=by
  rw[<- hW'];exact Ly (Li.1 rl3).1
 have hs4:∀ g,g≠l->W'.heap[g]? = w3.heap[g]? := λg hg=>by rw[<- hW'];exact Lk hg
 have hz4:W'.heap.size=w3.heap.size:=by rw[<- hW'];exact LD
 have hrow4:∀ g,rows W' g=rows w3 g:=by
  intro g;by_cases hg:g=l
  .subst hg;simp[rows,rl3,rl4]
  .simp only[rows,hs4 g hg]
 have hosw:W'.os=w3.os/\W'.tape=w3.tape/\W'.output=w3.output:=by rw[<- hW'];exact⟨rfl,rfl,rfl⟩
 have hos2:w2.os=w1.os/\w2.tape=w1.tape/\w2.output=w1.output:=by rw[<- hw2];exact⟨rfl,rfl,rfl⟩
 suffices key:∃ A',LJ g6 prot A' (pre++[x]) W'/\(∀ g,A' g->A g\/W.heap.size<=g)/\Kept A W W' by
  rw[<- hW']at key;exact key
 obtain⟨ρ3,p1,p2,pr,I3,_,_⟩:=ZmA S3 kr kr (by show([8020,6]:List Nat).Nodup;decide) (by
   intro b ty s els hm;simp only[lstH,Lj,Lp,or_false,Prod.mk.injEq,reduceCtorEq,and_false,Blk.arr.injEq]at hm;obtain⟨_,_,_,rfl⟩:=hm;exact ZlV _) rl3 rl4 hz4 hs4 (by decide:1<=20)
 have own3:∀ b β g,ρ3 b=M β->β.g=M g->A g\/W.heap.size<=g:=by
  intro b β g h h';rcases p2 b β g h h' with⟨k,_⟩ | ⟨c,κ,k1,k2⟩
  .exact .inr oq
  .exact(own1 c κ g k1 k2).symm
 have keep:Kept A W W':=by
  refine⟨hosw.1.trans (K3.os.trans (hos2.1.trans K1.os)),hosw.2.1.trans (K3.tape.trans (hos2.2.1.trans K1.tape)),hosw.2.2.trans (K3.output.trans (hos2.2.2.trans K1.output)),by have:=K3.size;omega,λk hk hn=>?_,λk hk=>?_⟩
  .by_cases hkl:k=l
   .subst hkl;rw[rl4,rl]
   .rw[hs4 k hkl,K3.block k oq ?_,hs2 k hkl,K1.block k hk hn];rintro⟨b,β,h,h'⟩;rcases own1 b β k h h' with q | q
    .omega
    .exact hn q
  .rw[hrow4,K3.rows k oq,hrow2,K1.rows k hk]
 refine⟨λg=>∃ b β,ρ3 b=M β/\β.g=M g,⟨ρ3,λg=>Iff.rfl,I3, ?_,p1,pr,λp hpp=>?_⟩,λg ⟨b,β,h,h'⟩=>own3 b β g h h',keep⟩
 .obtain⟨β,g,k1,k2,k3⟩:=box6 I3 rfl;rcases p2 6 β g k1 k2 with⟨_,k⟩ | ⟨c,κ,m1,m2⟩
  .omega
  have hg2:g<w2.heap.size:=I1.bnd _ _ _ m1 m2;have hr2:rows w2 g=1:=by rw[<- k3,hrow4,K3.rows g hg2]
  have hc:=q1 c κ m1;have e:g=g6:=by
   simp only[lst2,lstH,L1,List.map_nil,Lj,Lp,or_false]at hc;rcases hc with rfl | rfl | rfl
   .obtain⟨κ',n1,n2⟩:=I1.blk 160007 _ rfl;rw[m1]at n1;cases n1;rw[ZaN n2 m2]at hr2;simp at hr2
   .have:=qr _ _ _ m1 m2;rw[arr4 I1 rfl m1,hr2]at this;omega
   .exact id1 κ g m1 m2 hr2
  subst e;obtain⟨βg,βs,βn⟩:=β;cases k2;exact⟨βs,βn,k1⟩
 .obtain⟨h1,h2⟩:=hp p hpp;have hpl:=(Li.1 h1).1;refine⟨by rw[keep.block p.1 hpl h2];exact h1, ?_⟩;rintro⟨b,β,h,h'⟩;rcases own3 b β p.1 h h' with q | q
  .exact h2 q
  .omega
end Go.Proofs.YtgedmeaemofdkaaGreat
namespace Go.Proofs.YtgedmeaemofdkaaGreat
open Go.Sx Go.RowKit
def Z1S(h:Heap)(i:Int):List Found×Bool:=if(pg h i).K=1\/(pg h i).K=2 then Z1G h i 256 0 else([],O)
def noFound:Found:=⟨0,⟨0,0,0⟩⟩
structure Rnd (l n:Nat) (J:(Nat->Prop)->List Found->World->Prop) (Jx:World->Prop):Prop where
 keep:∀ A pre X Y,J A pre X->Kept (λ_=>False) X Y->J A pre Y
 bnd:∀ A pre X,J A pre X->∀ g,A g->g<X.heap.size
 yes:∀ A pre X x,J A pre X->pre.length<=1000->YieldAt Le n prog l (encF x 0) X λe X'=>e = .returned (.bool O)/\∃ A',J A' (pre++[x]) X'/\(∀ g,A' g->A g\/X.heap.size<=g)/\Kept A X X'
 no:∀ A pre X,J A pre X->pre.length<=1000->YieldAt Le n prog l (encF noFound 19) X λe X'=>e = .returned (.bool La)/\Jx X'
section
variable (h:Heap) (i:Int) (l n:Nat) {J:(Nat->Prop)->List Found->World->Prop} {Jx:World->Prop} (R:Rnd l n J Jx)
def InL(J:(Nat->Prop)->List Found->World->Prop)(a:Act)(w:World):Prop :=
 ∃ (pre:List Found) (A Im:Nat->Prop) (f:Nat) (o:Int),(Z1S h i).1=pre++(Z1G h i f o).1/\(Z1S h i).2=(Z1G h i f o).2/\(pg h i).U-o<=f/\0<=o/\o<=1000/\pre.length+f<=256/\J A pre w/\RelT [] (λ_=>Lb) w Im (inS h l i o).tmps a/\∀ g,Im g->g<w.heap.size/\¬ A g
def inMu(a:Act):Nat:=match (a.tmps.getD 5 undef:Value)with
 | .int _ o=>((pg h i).U-o).toNat
 | _=>0
theorem Zi8{w:World}{Im:Nat->Prop}{a:Act}{o:Int}(T:RelT [] (λ_=>Lb) w Im (inS h l i o).tmps a):inMu h i a=((pg h i).U-o).toNat:=by
 have:a.tmps.getD 5 undef = .int .i64 o:=Z0G (Z1p T (.tmp 5));rw[inMu,this]
def Za4(Jx:World->Prop)(e:Ending)(W':World):Prop:=(∃ v,e = .returned v)/\(((Z1S h i).2=O/\∃ A,J A (Z1S h i).1 W')\/((Z1S h i).2=La/\Jx W'))
def tsOf(o:Oper):Array Nat:=match o.op with
 | .call c=>c.argTypes
 | _ => #[]
theorem found_eq{ρ:Rho}{w:World}{Im:Nat->Prop}{f:Found}{v:Value}(h:Rel ρ w Im f.av v):v=Z5E f:=by
 obtain⟨cs,h1,h2,h3,h4⟩:=Z3a h;rw[h1];have g:∀ (k:Nat) (hk:k<cs.size) (v:Value),[u64 f.addr,int f.hd.K,int f.hd.length,u32 f.hd.map][k]? = M (.d (.sc v))->cs[k]=v:=λk hk v hv=>Z0G (h4 k _ cs[k] hv (LR hk));have hs:cs.size=4:=h2;simp only[Z5E];congr 1;apply LF
 .simp[hs]
 .intro k hk _;rcases k with _ | _ | _ | _ | k
  .exact g 0 hk _ rfl
  .exact g 1 hk _ rfl
  .exact g 2 hk _ rfl
  .exact g 3 hk _ rfl
  .omega
theorem Zli(hw:WOk h.W)(hp:Z02 h=O)(hu:(pg h i).U<=256)(R:Rnd l n J Jx)(a:Act)(w:World)(hI:InL h i l J a w) :
  (rndF f234 0).wpIn Le (n+1) prog (Exit.then (λa' w'=>InL h i l J a' w'/\inMu h i a'<inMu h i a) (Lf 0 (bodyPost prog f234 (Za4 h i (J:=J) Jx)))) a w:=by
 obtain⟨pre,A,Im,f,o,e1,e2,hf,h0,h1,hl,hJ,T,hIm⟩:=hI;have S:Sx.Sys Z3E Im w (inS h l i o).st.tmps (inS h l i o).st.H (inS h l i o).st.clk a w:=⟨_,_,Inv.empty (λg hg=>(hIm g hg).1) (by decide:1<=20),T⟩
 by_cases hlt:o<(pg h i).U
 .obtain⟨f,rfl⟩:∃ k,f=k+1:=⟨f-1,by omega⟩
  unfold Z1G at e1 e2;rw[if_pos hlt]at e1 e2;have bad:¬ ((address h.C i o).2=0/\(atH h (adr h i o)).2=0)->∀ a' w',Sx.Sys Z3E Im w (Tg.st ⟨tm 58 [(0,.d (.sc (Z23 l)))],[],30⟩).tmps (Tg.st ⟨tm 58 [(0,.d (.sc (Z23 l)))],[],30⟩).H 30 a' w' ->
    rest prog (n+1) 10 (rndF f234 0) (Exit.then (λa' w'=>InL h i l J a' w'/\inMu h i a'<inMu h i a) (Lf 0 (bodyPost prog f234 (Za4 h i (J:=J) Jx)))) a' w':=by
   intro hb a' w' S1;rw[if_neg hb]at e1 e2;generalize hQ:Lf 0 (bodyPost prog f234 (Za4 h i (J:=J) Jx))=Q0;generalize (λa' w'=>InL h i l J a' w'/\inMu h i a'<inMu h i a)=nx;have er:rest prog (n+1) 10 (rndF f234 0) (Exit.then nx Q0) a' w' =
     (Code.region 10 (rgO f234 10) La).wpIn Le (n+1) prog (Exit.then (Code.ret.wpIn Le (n+1) prog (Lf 1 (Exit.then nx Q0))) (Lf 1 (Exit.then nx Q0))) a' w':=by kernel_rfl
   rw[er];refine wpIn_region ?_;rw[show Ls (rgO f234 10).size=[0,1]++[2]from by kernel_rfl];refine Z3s (ro:=Lb) (hints:=[]) (out:=⟨tm 58 [(0,.d (.sc (Z23 l))),(55,.d (.sc (Z23 l))),(56,noFound.av)],hOf [],[],[]⟩) kr S1 trivial (λp hp=>by simp at hp) ?_;intro a2 w2 S2;obtain⟨o',ho,⟨ts,hop⟩,hd,hg⟩:∃ o':Oper,(rgO f234 10)[2]? = M o'/\(∃ ts,o'.op = .call ⟨.value (.tmp 55),#[.tmp 56,.const (.int .i64 19)],ts⟩)/\o'.dst=M 57/\o'.guard=Lb:=⟨(rgO f234 10).getD 2 L,by kernel_rfl,⟨tsOf ((rgO f234 10).getD 2 L),by kernel_rfl⟩,by kernel_rfl,by kernel_rfl⟩
   have hwd:Lx o' (yielded (rgO f234 10) a2.tmps)=O:=by simp[Lx,hg]
   simp only[wpOpsIn,ho,hwd,if_true];obtain⟨ρ2,Im2,I2,T2⟩:=S2;have v1:a2.eval (.tmp 55) = .func (.yield l) #[] #[]:=Z0G (Z1p T2 (.tmp 55));have v2:a2.eval (.tmp 56)=Z5E noFound:=found_eq (Z1p T2 (.tmp 56):Rel ρ2 w2 Im2 noFound.av _);have J2:J A pre w2:=R.keep _ _ _ _ hJ I2.kept.no;refine Zft hop v1 (show #[a2.eval (.tmp 56),a2.eval (.const (.int .i64 19))]=encF noFound 19 by rw[v2];rfl) (R.no A pre w2 J2 oq) ?_;rintro e w3 ⟨rfl,hx⟩;refine⟨_,rfl,wpIn_ret ?_⟩;show Q0 .ret _ _;rw[<- hQ];exact bodyPost_ret (results_none rfl _ _ _) (by rw[hd];exact T2.defers) ⟨⟨_,rfl⟩,.inr ⟨e2,hx⟩⟩
  by_cases ha:(address h.C i o).2=0
  .by_cases hh:(atH h (adr h i o)).2=0
   .rw[if_pos ⟨ha,hh⟩]at e1 e2;have sz:=Z0T (atH h (adr h i o)).1;have sp:=Z88 hh;obtain⟨o2,ho2⟩:∃ o2,o+sizeH (atH h (adr h i o)).1=o2:=⟨_,rfl⟩
    refine ZoJ h l i o hw hp ⟨h0,h1⟩ hlt ha hh _ _ _ _ _ _ _ S ?_;intro a1 w1 S1;rw[ho2]at S1 e1 e2;generalize hQ:Lf 0 (bodyPost prog f234 (Za4 h i (J:=J) Jx))=Q0;have hmu:=Zi8 h i l T;generalize hnx:(λa' w'=>InL h i l J a' w'/\inMu h i a'<inMu h i a)=nx;obtain⟨yc,hyc⟩:∃ yc:Code,∀ a' w',rest prog (n+1) 9 (rndF f234 0) (Exit.then nx Q0) a' w' =
     (Code.region 9 (rgO f234 9) La).wpIn Le (n+1) prog (Exit.then ((Code.cond (.tmp 54) .ret .skip).wpIn Le (n+1) prog (Exit.then ((Code.exit 1).wpIn Le (n+1) prog (Exit.then (yc.wpIn Le (n+1) prog (Lf 1 (Exit.then nx Q0))) (Lf 1 (Exit.then nx Q0)))) (Exit.then (yc.wpIn Le (n+1) prog (Lf 1 (Exit.then nx Q0))) (Lf 1 (Exit.then nx Q0)))))
      (Exit.then ((Code.exit 1).wpIn Le (n+1) prog (Exit.then (yc.wpIn Le (n+1) prog (Lf 1 (Exit.then nx Q0))) (Lf 1 (Exit.then nx Q0)))) (Exit.then (yc.wpIn Le (n+1) prog (Lf 1 (Exit.then nx Q0))) (Lf 1 (Exit.then nx Q0))))) a' w':=⟨.seq (.region 10 (rgO f234 10) La) .ret,λa' w'=>by kernel_rfl⟩
    rw[hyc];refine wpIn_region ?_;rw[show Ls (rgO f234 9).size=[0,1,2,3]++([4]++[5])from by kernel_rfl];refine Z3s (ro:=Lb) (hints:=[]) (out:=⟨tm 58 [(0,.d (.sc (Z23 l))),(1,.rp h.dvs 0),(2,.rp [dint i] 0),(4,.rp (pg h i).dv 0),(5,int o2),(6,u64 (adr h i o)),(8,.pt 184008 0 0),(49,.d (.sc (Z23 l))),(50,u64 (adr h i o)),(51,(atH h (adr h i o)).1.av),(52,(Found.mk (adr h i o) (atH h (adr h i o)).1).av)],hOf [(184008,.box 52 [int (atH h (adr h i o)).1.K,int (atH h (adr h i o)).1.length,u32 (atH h (adr h i o)).1.map])],[],[]⟩) kr S1 trivial (λp hp=>by simp at hp) ?_;intro a2 w2 S2;obtain⟨o',ho,⟨ts,hop⟩,hd,hg⟩:∃ o':Oper,(rgO f234 9)[4]? = M o'/\(∃ ts,o'.op = .call ⟨.value (.tmp 49),#[.tmp 52,.const (.int .i64 0)],ts⟩)/\o'.dst=M 53/\o'.guard=Lb:=⟨(rgO f234 9).getD 4 L,by kernel_rfl,⟨tsOf ((rgO f234 9).getD 4 L),by kernel_rfl⟩,by kernel_rfl,by kernel_rfl⟩
    have hwd:Lx o' (yielded (rgO f234 9) a2.tmps)=O:=by simp[Lx,hg]
    rw[show([4]++[5]:List Nat)=4::[5]from rfl,wpOpsIn];simp only[ho];rw[if_pos hwd];have v1:a2.eval (.tmp 49) = .func (.yield l) #[] #[]:=by obtain⟨ρ2,Im2,I2,T2⟩:=S2;exact Z0G (Z1p T2 (.tmp 49))
    have v2:a2.eval (.tmp 52)=Z5E ⟨adr h i o,(atH h (adr h i o)).1⟩:=by
     obtain⟨ρ2,Im2,I2,T2⟩:=S2;exact found_eq (Z1p T2 (.tmp 52):Rel ρ2 w2 Im2 (Found.mk (adr h i o) (atH h (adr h i o)).1).av _)
    have S3:=ZpG (s:=⟨tm 58 [(0,.d (.sc (Z23 l))),(1,.rp h.dvs 0),(2,.rp [dint i] 0),(4,.rp (pg h i).dv 0),(5,int o2),(6,u64 (adr h i o)),(8,.pt 184008 0 0),(49,.d (.sc (Z23 l))),(50,u64 (adr h i o)),(51,(atH h (adr h i o)).1.av),(52,(Found.mk (adr h i o) (atH h (adr h i o)).1).av)],hOf [(184008,.box 52 [int (atH h (adr h i o)).1.K,int (atH h (adr h i o)).1.length,u32 (atH h (adr h i o)).1.map])],30⟩) (t:=inS h l i o2) kr kr S2;clear S2 S1;obtain⟨ρ2,Im2,I2,T2⟩:=S3;have J2:J A pre w2:=R.keep _ _ _ _ hJ I2.kept.no;refine Zft hop v1 (show #[a2.eval (.tmp 52),a2.eval (.const (.int .i64 0))]=encF ⟨adr h i o,(atH h (adr h i o)).1⟩ 0 by rw[v2];rfl) (R.yes A pre w2 _ J2 oq) ?_;rintro e w3 ⟨rfl,A',J3,hA',K3⟩;have hIm2:∀ g,Im2 g->¬ A g:=by
     intro g hg hA;rcases I2.im0 g hg with k | k | k
     .exact(hIm g k).2 hA
     .have:=R.bnd _ _ _ hJ g hA;omega
     .exact k.no
    refine⟨_,rfl, ?_⟩;have T3:RelT [] (λ_=>Lb) w3 Im2 (inS h l i o2).tmps a2:=(T2.pure kr).mono ⟨K3.size,λg hg=>K3.block g (I2.imb g hg) (hIm2 g hg),K3.rows⟩ (λ_ h=>h) (λ_ _ h=>h) (λ_ _ _ h=>nomatch h);have S4:Sx.Sys Z3E Im2 w3 ((inS h l i o2).tmps.set 53 (Sx.bool O)) (hOf []) 20 (a2.put o'.dst (.bool O)) w3:=by
     rw[hd];exact⟨_,Im2,Inv.empty (λg hg=>LC (I2.imb g hg) K3.size) dd,T3.put 53 (Rel.d (RelD.sc (.bool O) rfl))⟩
    refine Z5c (ro:=Lb) (hints:=[]) (out:=⟨((inS h l i o2).tmps.set 53 (Sx.bool O)).set 54 (Sx.bool (!true)),hOf [],[],[]⟩) kr S4 trivial (λp hp=>by simp at hp) ?_;intro a5 w5 S5;have v5:a5.eval (.tmp 54) = .bool La:=by obtain⟨_,_,_,T5⟩:=S5;exact Z0G (Z1p T5 (.tmp 54))
    have S6:=ZpG (s:=⟨((inS h l i o2).tmps.set 53 (Sx.bool O)).set 54 (Sx.bool (!true)),hOf [],20⟩) (t:=inS h l i o2) kr kr S5;obtain⟨ρ6,Im6,I6,T6⟩:=S6;refine wpIn_cond_false v5 (wpIn_skip ?_);refine wpIn_exit ?_;show(if 1=1 then(Exit.then nx Q0) .normal a5 w5 else Exit.then nx Q0 (.exit 1) a5 w5);rw[if_pos rfl,<- hnx];have T7:=T6.pure kr;refine⟨⟨pre++[⟨adr h i o,(atH h (adr h i o)).1⟩],A',Im6,f,o2, ?_,e2,by omega,by omega,by omega,by simp;omega,R.keep _ _ _ _ J3 I6.kept.no,T7,λg hg=>⟨I6.imb g hg,λhA=>?_⟩⟩, ?_⟩
    .rw[e1];simp
    .have hb:=R.bnd _ _ _ J3 g hA;rcases I6.im0 g hg with k | k | k
     .have:=I2.imb g k;rcases hA' g hA with q | q
      .exact hIm2 g k q
      .omega
     .omega
     .exact k.no
    .show inMu h i a5<inMu h i a;rw[Zi8 h i l T7,hmu];omega
   .exact ZoQ h l i o hw hp ⟨h0,h1⟩ hlt ha hh _ _ _ _ _ _ _ S (bad (λq=>hh q.2))
  .exact Zpo h l i o hw hp ⟨h0,h1⟩ hlt ha _ _ _ _ _ _ _ S (bad (λq=>ha q.1))
 .refine wpIn_mono (wpIn_wide.2 (Zq7 h l i o oq _ _ _ _ _ S)) ?_;rintro e a' w' ⟨rfl,S1⟩;have hz:Z1G h i f o=([],O):=by
   cases f with
   | zero=>rfl
   | succ f=>rw[Z1G,if_neg hlt]
  rw[hz]at e1 e2;obtain⟨ρ,Im1,I1,T1⟩:=S1;show bodyPost _ _ _ .normal _ _;refine bodyPost_end (results_none rfl _ _ _) T1.defers ⟨⟨_,rfl⟩,.inl ⟨e2,A, ?_⟩⟩;rw[e1,LV];exact R.keep _ _ _ _ hJ I1.kept.no
theorem Znb(hw:WOk h.W)(hp:Z02 h=O)(hi:0<=i/\i<h.P.length)(R:Rnd l n J Jx){A0 Im:Nat->Prop}{W:World}{v1 v2:Value}(him:∀ g,Im g->g<W.heap.size/\¬ A0 g)
  (h1:Rel (λ_=>Lb) W Im (.rp h.dvs 0) v1) (h2:Rel (λ_=>Lb) W Im (.rp [dint i] 0) v2) (J0:J A0 [] W):CallsIn Le (n+1) prog 234 #[Z23 l,v1,v2] W (Za4 h i (J:=J) Jx):=by
 have hu:(pg h i).U<=256:=(Z0L hp (j:=i.toNat) oq).2.2.2.2.2.2.2.1;refine callsIn_of_wp func234 (c:=bdyF f234) kr trivial ?_ rfl;have S:Sx.Sys Z3E Im W (inE h l i).st.tmps (inE h l i).st.H (inE h l i).st.clk { tmps := #[Z23 l,v1,v2]++LS (Tryz.f234.ntmps-(#[Z23 l,v1,v2]:Array Value).size) undef,defers:=[] } W:=by
  refine⟨_,Im,Inv.empty (λg hg=>(him g hg).1) (Lw 1),⟨by kernel_rfl,λk y v hy hv=>?_,rfl⟩⟩;rw[show(inE h l i).st.tmps=[.d (.sc (Z23 l)),.rp h.dvs 0,.rp [dint i] 0]++Lq 55 .any from by kernel_rfl,LW]at hy;rw[LQ]at hv;split at hy
  .rename_i hk;have hk3:k<3:=hk;rw[if_pos (show k<(#[Z23 l,v1,v2]:Array Value).size from hk3)]at hv;rcases k with _ | _ | _ | k
   .cases hy;cases hv;exact .d (.sc _ rfl)
   .cases hy;cases hv;exact h1
   .cases hy;cases hv;exact h2
   .omega
  .have:=Ll hy;rw[(LA.1 this).2];exact .any _
 by_cases hk:(pg h i).K=1\/(pg h i).K=2
 .refine Zpv h l i hi hk _ _ _ _ _ _ _ S ?_;intro a1 w1 S1;generalize hQ:bodyPost prog f234 (Za4 h i (J:=J) Jx)=Q;have er:rest prog (n+1) 2 (bdyF f234) Q a1 w1=(Code.region 2 (rgO f234 2) La).wpIn Le (n+1) prog (Exit.then ((blkF f234 0).wpIn Le (n+1) prog Q) Q) a1 w1:=by kernel_rfl
  rw[er];refine wpIn_region ?_;rw[show Ls (rgO f234 2).size=[0]from by kernel_rfl];refine Z5c (ro:=Lb) (hints:=[]) (out:=⟨tm 58 [(0,.d (.sc (Z23 l))),(1,.rp h.dvs 0),(2,.rp [dint i] 0),(4,.pt 8004 0 0),(5,int 0)],hOf [(8004,.box 86 ((pg h i).dv.map .d))],[],[]⟩) kr S1 trivial (λp hp=>by simp at hp) ?_;intro a2 w2 S2;show(blkF f234 0).wpIn Le (n+1) prog Q a2 w2;rw[Z6q kr,<- hQ];refine wpIn_block (wpIn_loop (InL h i l J) (λa _=>inMu h i a) ?_ (λa w hI=>Zli h i l n hw hp hu R a w hI));obtain⟨ρ2,Im2,I2,T2⟩:=S2;obtain⟨β,m1,m2⟩:=I2.blk 8004 _ rfl;have J2:=R.keep _ _ _ _ J0 I2.kept.no;have hlv:live (hOf [(8004,Blk.box 86 ((pg h i).dv.map .d))]) 8004:=⟨_,rfl,by simp⟩
  have T3:RelT [] ρ2 w2 (λg=>Im2 g\/β.g=M g) _ a2:=T2.mono (Ext.refl _ _) (λ_ h=>.inl h) (λ_ _ h=>h) I2.bnd;have T4:=(T3.reSet 4 .any (λv _=>.any v)).pure kr;have T5:=T4.reSet 4 (.rp (pg h i).dv 0) (λv hv=>by
   have:=T2.tmp 4 _ v rfl hv;exact Z4I m1 m2 this (λ_ h=>.inl h) (λ_ h=>.inr h))
  refine⟨[],A0,_,256,0,by rw[Z1S,if_pos hk];rfl,by rw[Z1S,if_pos hk],by omega,by omega,by omega,by simp,J2,T5,λg hg=>?_⟩;rcases hg with hg | hg
  .refine⟨I2.imb g hg,λhA=>?_⟩;rcases I2.im0 g hg with k | k | k
   .exact(him g k).2 hA
   .have:=R.bnd _ _ _ J0 g hA;omega
   .exact k.no
  .refine⟨I2.bnd _ _ _ m1 hg,λhA=>?_⟩;rcases I2.own _ _ _ m1 hg with⟨k,_⟩ | k
   .have:=R.bnd _ _ _ J0 g hA;omega
   .exact k.no
 .refine wpIn_mono (wpIn_wide.2 (Zpk h l i hi hk _ _ _ _ _ S)) ?_;rintro e a' w' ⟨rfl,S1⟩;obtain⟨ρ,Im1,I1,T1⟩:=S1;refine bodyPost_ret (results_none rfl _ _ _) T1.defers ⟨⟨_,rfl⟩,.inl ⟨by rw[Z1S,if_neg hk],A0, ?_⟩⟩;rw[Z1S,if_neg hk];exact R.keep _ _ _ _ J0 I1.kept.no
end
end Go.Proofs.YtgedmeaemofdkaaGreat
namespace Go.Proofs.YtgedmeaemofdkaaGreat
open Go.Sx
def Zo6(h:Heap)(i:Int):CP (bdyF f214) (Tg.st ⟨tm 6 [(0,h.av),(1,int i)],[],1⟩) .ret (Tg.st ⟨tm 6 [(4,.fn 234 [.pt 8002 0 0,.pt 8003 0 0])],[(8003,.box 3 [int i]),(8002,.box 28 h.cells)],30⟩):=by
 exact sF [] [] Fz
def Znm(h:Heap)(i:Int):Zcx prog 1 (bdyF f183) (Tg.st ⟨tm 22 [(0,h.av),(1,int i)],[],1⟩) (Tg.st ⟨tm 22 [(1,int i),(2,.pt 8002 0 0),(4,.pt 8004 0 0),(5,.pt 8005 0 0)],[(8005,.box 32 [int 0]),(8004,.box 206 [.d (.sl 0 [])]),(8002,.box 28 h.cells)],20⟩):=by
 refine Z4u [] [] [] (φ:=True) ?_ kr kr kr kr;exact trivial
def ptr(g:Nat):AV:=.d (.sc (.pointer (M ⟨g,0,Lb⟩)))
def lstN(g4 g5:Nat):CIn prog (asgF f183 0) (Tg.st ⟨tm 22 [(4,ptr g4),(5,ptr g5),(12,noFound.av),(13,int 19)],[],20⟩) .nrm (Tg.st ⟨tm 22 [(4,ptr g4),(5,ptr g5),(8,int 19)],[],30⟩):=by
 refine Zbu [] [] [] (φ:=True) ?_ kr kr kr kr;exact trivial
end Go.Proofs.YtgedmeaemofdkaaGreat
namespace Go.Proofs.YtgedmeaemofdkaaGreat
open Go.Sx Go.RowKit
section
variable {P:Program} {o:Oper} {a:Act} {w:World}
theorem ZnO{t g ty:Nat}{v:Value}(hw:w.heap[g]? = M (.cells #[v] ty (0,0)))(hv:v.oneCell'=O)(ht:Z6p P t=M La):(loadVar t ⟨g,0,Lb⟩).run P w = .ok v w:=by
 obtain⟨v',h1,h2⟩:=Z4a (P:=P) (w:=w) (t:=t) (g:=g) (off:=0) (l:=[.d (.sc v)]) (o:=0) (x:=.d (.sc v)) (ρ:=λ_=>Lb) (Im:=λ_=>False) (λj a ha=>by
  cases j with
  | zero=>cases ha;exact⟨v,by simp[Xb,hw],hv,.d (.sc _ hv)⟩
  | succ j=>simp at ha) (by simp[Z9L,ht])
 rw[Z0G h2]at h1;exact h1
theorem Zou{t g ty:Nat}{x:Operand}{v:Value}(ho:o.op = .load t x)(hx:a.eval x = .pointer (M ⟨g,0,Lb⟩))(hw:w.heap[g]? = M (.cells #[v] ty (0,0)))(hv:v.oneCell'=O)(ht:Z6p P t=M La):(execOp a.eval o).run P w = .ok (.value v) w:=by
 simp[execOp,ho,Instr.loadAt,Instr.sureAddr,hx,ZnO hw hv ht]
theorem Z7A{t g ty:Nat}{x y:Operand}{u v:Value}(ho:o.op = .store t x y)(hx:a.eval x = .pointer (M ⟨g,0,Lb⟩))(hy:a.eval y=v)(hw:w.heap[g]? = M (.cells #[u] ty (0,0)))(hv:v.oneCell'=O)(hs:szOf P t=1):(execOp a.eval o).run P w = .ok .skip (w.setRow g #[v]):=by
 have hc:=Z62 hv;have:=Z4B (P:=P) (t:=t) (off:=0) (v:=v) hw (by rw[hc,hs];rfl) (Z6Y oq) (by rw[hc];simp) (λi u h=>by rw[hc]at h;cases i<;>simp at h;subst h;exact hv);rw[hc]at this;simp at this;simp[execOp,ho,Instr.storeAt,Instr.sureAddr,hx,hy,this]
theorem Zmi{t:Nat}{z:Value}(ho:o.op = .alloc t)(hz:zeroOf P t=M z):(execOp a.eval o).run P w = .ok (.value (.pointer (M ⟨w.heap.size,0,Lb⟩))) (w.alloc (.cells z.cells t)):=by
 unfold zeroOf at hz;split at hz
 .rename_i i hi;simp[execOp,ho,Instr.alloc,zeroValue,typeInfo,hi,hz,newVar,newRow]
 .cases hz
theorem Z69{v:Value}{w':World}{next:Act->World->Prop}{Q:Exit->Act->World->Prop}(h:(execOp a.eval o).run P w = .ok (.value v) w')(k:next (a.put o.dst v) w'):o.wp P a w next Q:=by
 unfold Oper.wp;rw[h];exact k
theorem Z5q{w':World}{next:Act->World->Prop}{Q:Exit->Act->World->Prop}(h:(execOp a.eval o).run P w = .ok .skip w')(k:next (a.put o.dst undef) w'):o.wp P a w next Q:=by
 unfold Oper.wp;rw[h];exact k
theorem Z2u{F:Fence}{n i:Nat}{l:List Nat}{ops:Array Oper}{Q:Exit->Act->World->Prop}(ho:ops[i]? = M o)(hg:o.guard=Lb)(h:o.wpIn F n P a w (wpOpsIn F n P ops Q l) Q):wpOpsIn F n P ops Q (i::l) a w:=by
 rw[wpOpsIn];simp only[ho];rw[if_pos (by simp[Lx,hg])];exact h
theorem setRow_self{g ty:Nat}{cs cs':Array Value}(hg:w.heap[g]? = M (.cells cs ty (0,0))):(w.setRow g cs').heap[g]? = M (.cells cs' ty (0,0)):=setRow_heap w g cs cs' ty _ hg
end
def Z3m{A:Nat->Prop}{X Y Z:World}(h:Kept (λ_=>False) X Y)(k:Kept A Y Z)(hA:∀ g,A g->X.heap.size<=g):Kept (λ_=>False) X Z :=
 ⟨k.os.trans h.os,k.tape.trans h.tape,k.output.trans h.output,L9 h.size k.size,λg hg _=>by
  rw[k.block g (LC hg h.size) (λq=>by have:=hA g q;omega)];exact h.block g hg (λq=>q),λg hg=>by rw[k.rows g (LC hg h.size)];exact h.rows g hg⟩
def ZpP(h:Heap)(i:Int)(w:World)(Im:Nat->Prop)(hv iv:Value)(hIm:∀ g,Im g->g<w.heap.size)(h1:Rel (λ_=>Lb) w Im h.av hv)(h2:Rel (λ_=>Lb) w Im (int i) iv) :
  Calls prog 214 #[hv,iv] w λe w'=>∃ p1 p2,∃ Im':Nat->Prop,e = .returned (.func (.func 234) #[] #[p1,p2])/\Kept (λ_=>False) w w'/\(∀ g,Im' g->(Im g\/w.heap.size<=g)/\g<w'.heap.size) /\
   Rel (λ_=>Lb) w' Im' (.rp h.dvs 0) p1/\Rel (λ_=>Lb) w' Im' (.rp [dint i] 0) p2:=by
 refine calls_of_wp func214 (c:=bdyF f214) kr ?_;have S:Sx.Sys Z3E Im w (tm 6 [(0,h.av),(1,int i)]) (hOf []) 1 { tmps := #[hv,iv]++LS (Tryz.f214.ntmps-(#[hv,iv]:Array Value).size) undef,defers:=[] } w:=by
  refine⟨_,Im,Inv.empty hIm (Lw 1),⟨by kernel_rfl,λk y v hy hv=>?_,rfl⟩⟩;rw[show tm 6 [(0,h.av),(1,int i)]=[h.av,int i]++Lq 4 .any from by kernel_rfl,LW]at hy;rw[LQ]at hv;split at hy
  .rename_i hk;have hk3:k<2:=hk;rw[if_pos (show k<(#[_,iv]:Array Value).size from hk3)]at hv;rcases k with _ | _ | k
   .cases hy;cases hv;exact h1
   .cases hy;cases hv;exact h2
   .omega
  .have:=Ll hy;rw[(LA.1 this).2];exact .any _
 refine wp_mono (Zo6 h i _ _ _ _ _ S) ?_;rintro e a' w' ⟨rfl,ρ,Im',I,T⟩;refine bodyPost_ret (results_tmp rfl _ _ _) T.defers ?_;have hf:Rel ρ w' Im' (.fn 234 [.pt 8002 0 0,.pt 8003 0 0]) (a'.tmps.getD 4 undef):=Z1p T (.tmp 4);generalize a'.tmps.getD 4 undef=fv at hf;cases hf with
 | fn hn hr =>
  rename_i cs;have hn2:cs.size=2:=hn;obtain⟨p1,p2,rfl⟩:∃ p1 p2,cs = #[p1,p2]:=⟨cs[0],cs[1],by
   apply LF
   .simp[hn2]
   .intro k hk _;rcases k with _ | _ | k
    .rfl
    .rfl
    .omega⟩
  obtain⟨β2,m2,n2⟩:=I.blk 8002 _ rfl;obtain⟨β3,m3,n3⟩:=I.blk 8003 _ rfl;refine⟨p1,p2,λg=>Im' g\/β2.g=M g\/β3.g=M g,rfl,I.kept.no,λg hg=>?_,Z4I m2 n2 (hr 0 _ p1 rfl rfl) (λ_ h=>.inl h) (λ_ h=>.inr (.inl h)),Z4I m3 n3 (hr 1 _ p2 rfl rfl) (λ_ h=>.inl h) (λ_ h=>.inr (.inr h))⟩;rcases hg with hg | hg | hg
  .exact⟨(I.im0 g hg).imp id (λh=>h.elim id (λh=>h.no.elim)),I.imb g hg⟩
  .exact⟨.inr ((I.own _ _ g m2 hg).elim (·.1) (λh=>h.no.elim)),I.bnd _ _ g m2 hg⟩
  .exact⟨.inr ((I.own _ _ g m3 hg).elim (·.1) (λh=>h.no.elim)),I.bnd _ _ g m3 hg⟩
def rgB(fn:Func)(k:Nat):Array Oper:=match Zcs k (bodF fn 0)with
 | some o=>o
 | none => #[]
def ZdZ{tmps:Array Value}{W:World}{g4 g5:Nat}{v4 v5:Value}(h4:tmps.getD 4 undef = .pointer (M ⟨g4,0,Lb⟩))(h5:tmps.getD 5 undef = .pointer (M ⟨g5,0,Lb⟩))(c4:W.heap[g4]? = M (.cells #[v4] 206 (0,0)))(c5:W.heap[g5]? = M (.cells #[v5] 32 (0,0)))
  (o4:v4.oneCell'=O) (o5:v5.oneCell'=O):(results f183 tmps).run prog W = .ok (.tuple #[v4,v5]) W:=by
 rw[Za0,show Tryz.f183.results = #[.cell 4 206,.cell 5 32]from rfl];have l4:=ZnO (P:=prog) (t:=206) c4 o4 kr;have l5:=ZnO (P:=prog) (t:=32) c5 o5 kr;simp[ZaH,h4,h5,asAddr,l4,l5,List.mapM_toArray]
def ZdD{tmps:Array Value}{W:World}{g4 g5 D:Nat}{v4 v5:Value}{R:Ending->World->Prop}(h4:tmps.getD 4 undef = .pointer (M ⟨g4,0,Lb⟩))(h5:tmps.getD 5 undef = .pointer (M ⟨g5,0,Lb⟩))(c4:W.heap[g4]? = M (.cells #[v4] 206 (0,0)))(c5:W.heap[g5]? = M (.cells #[v5] 32 (0,0)))
  (o4:v4.oneCell'=O) (o5:v5.oneCell'=O) (hD:W.heap[D]? = M (.deferred (M []))) (hR:R (.returned (.tuple #[v4,v5])) (W.putObj D (.deferred Lb))) :
  bodyPostM Le 10 prog f183 R .ret { tmps:=tmps,defers:=[{ target:=.collected D,args := #[] }] } W:=by
 refine⟨by simp,.inl ⟨_,_,rfl,run_takeDeferred hD, ?_⟩⟩;have n4:g4≠D:=by rintro rfl;rw[c4]at hD;cases hD
 have n5:g5≠D:=by rintro rfl;rw[c5]at hD;cases hD
 exact⟨_,ZdZ h4 h5 ((Lk n4).trans c4) ((Lk n5).trans c5) o4 o5,hR⟩
def Zkq{fn:Nat}{a0:Array Value}{D l n g4 g5:Nat}{u4 u5:Value}{W:World}(ha0:a0.size=22)(ha4:a0[4]? = M (.pointer (M ⟨g4,0,Lb⟩)))(ha5:a0[5]? = M (.pointer (M ⟨g5,0,Lb⟩)))
  (rl:W.heap[l]? = M (Lh { state:=.ready,pending:=Lb,fn:=fn,tmps:=a0,params := #[12,13],assign:=asgF f183 0,body:=bodF f183 0,defers:=D }))
  (rD:W.heap[D]? = M (.deferred (M []))) (c4:W.heap[g4]? = M (.cells #[u4] 206 (0,0))) (c5:W.heap[g5]? = M (.cells #[u5] 32 (0,0))) (h45:g4≠g5) :
  YieldAt Le n prog l (encF noFound 19) W λe W'=>e = .returned (.bool La)/\W'.heap[l]? = M (Lh { state:=.done,pending:=M .ret,fn:=fn,tmps:=a0,params := #[12,13],assign:=asgF f183 0,body:=bodF f183 0,defers:=D }) /\
   W'.heap[D]? = M (.deferred (M []))/\W'.heap[g4]? = M (.cells #[.slice Lb 0 0] 206 (0,0))/\W'.heap[g5]? = M (.cells #[.int .i64 19] 32 (0,0))/\Kept (λg=>g=l\/g=g4\/g=g5) W W':=by
 refine⟨fn,_,_,_,run_yield rl rfl,roundIn_of_wpIn trivial ?_⟩;have ef:((#[12,13]:Array Nat).zip (encF noFound 19)).foldl (λtmps (t,a)=>tmps.setIfInBounds t a) a0=(a0.setIfInBounds 12 (Z5E noFound)).setIfInBounds 13 (.int .i64 19):=by simp[encF]
 show(asgF f183 0).wpIn _ n _ _ { tmps:=((#[12,13]:Array Nat).zip (encF noFound 19)).foldl (λtmps (t,a)=>tmps.setIfInBounds t a) a0,defers:=[] } W;rw[ef];have TA:RelT [] (λ_=>Lb) W (λ_=>False) (Lq 22 .any) { tmps:=a0,defers:=[] }:=by
  refine⟨by rw[ha0];rfl,λi y v h1 h2=>?_,rfl⟩;have:=Ll h1;rw[(LA.1 this).2];exact .any _
 have T1:=(((TA.reSet 4 (ptr g4) (λv hv=>by rw[ha4]at hv;cases hv;exact .d (.sc _ rfl))).reSet 5 (ptr g5) (λv hv=>by rw[ha5]at hv;cases hv;exact .d (.sc _ rfl))).put 12 (Z9Q _ W _ noFound)).put 13 (Rel.d (RelD.sc (Value.int .i64 19) rfl));have S1:Sx.Sys Z3E (λ_=>False) W (Tg.st ⟨tm 22 [(4,ptr g4),(5,ptr g5),(12,noFound.av),(13,int 19)],[],20⟩).tmps (Tg.st ⟨tm 22 [(4,ptr g4),(5,ptr g5),(12,noFound.av),(13,int 19)],[],20⟩).H 20 { tmps:=(a0.setIfInBounds 12 (Z5E noFound)).setIfInBounds 13 (.int .i64 19),defers:=[] } W :=
  ⟨_,_,Inv.empty (λ_ h=>h.elim) dd,T1⟩
 refine wpIn_mono (lstN g4 g5 (M l) n _ _ _ _ _ S1) ?_;rintro e a1 w1 ⟨rfl,ρ1,Im1,I1,T1⟩;have K1:=I1.kept.no;have same1:∀ {g:Nat} {o:Obj},W.heap[g]? = M o->w1.heap[g]? = M o:=λ{g o} h=>by
  rw[K1.block g (Li.1 h).1 (λq=>q)];exact h
 refine⟨_,run_beginRound (same1 rl) rfl, ?_⟩;obtain⟨w2,hw2⟩:∃ w2,w1.putObj l (Lh { state:=.busy,pending:=Lb,fn:=fn,tmps:=a0,params := #[12,13],assign:=asgF f183 0,body:=bodF f183 0,defers:=D })=w2:=⟨_,rfl⟩
 have rl2:w2.heap[l]? = M (Lh { state:=.busy,pending:=Lb,fn:=fn,tmps:=a0,params := #[12,13],assign:=asgF f183 0,body:=bodF f183 0,defers:=D }):=by
  rw[<- hw2];exact Ly (Li.1 (same1 rl)).1
 have hs2:∀ g,g≠l->w2.heap[g]? = w1.heap[g]? := λg hg=>by rw[<- hw2];exact Lk hg
 have hz2:w2.heap.size=w1.heap.size:=by rw[<- hw2];exact LD
 have hos2:w2.os=w1.os/\w2.tape=w1.tape/\w2.output=w1.output:=by rw[<- hw2];exact⟨rfl,rfl,rfl⟩
 have n4:g4≠l:=by rintro rfl;rw[c4]at rl;cases rl
 have n5:g5≠l:=by rintro rfl;rw[c5]at rl;cases rl
 have nD:D≠l:=by rintro rfl;rw[rD]at rl;cases rl
 have T2:RelT [] (λ_=>Lb) w2 (λ_=>False) (tm 22 [(4,ptr g4),(5,ptr g5),(8,int 19)]) a1:=by
  refine⟨T1.size,λi x v h1 h2=>?_,T1.defers⟩;have:=T1.tmp i x v h1 h2;have hx:x = .any\/∃ u,x = .d (.sc u):=by
   have hm:=Ll h1;have:∀ y∈tm 22 [(4,ptr g4),(5,ptr g5),(8,int 19)],y = .any\/∃ u,y = .d (.sc u):=by
    rw[show tm 22 [(4,ptr g4),(5,ptr g5),(8,int 19)]=Lq 4 .any++[ptr g4,ptr g5,.any,.any,int 19]++Lq 13 .any from by kernel_rfl];intro y hy;simp only[Lv,LA,Lj,Lp,or_false]at hy;rcases hy with(⟨_,rfl⟩ | rfl | rfl | rfl | rfl | rfl) | ⟨_,rfl⟩<;>first | exact .inl rfl | exact .inr ⟨_,rfl⟩
   exact this x hm
  rcases hx with rfl | ⟨u,rfl⟩
  .exact .any _
  .rw[Z0G this];have h1:(Value.oneCell' u)=O:=by
    cases this with | d h=>cases h with | sc _ h=>exact h
   exact .d (.sc _ h1)
 have S2:Sx.Sys Z3E (λ_=>False) w2 (tm 22 [(4,ptr g4),(5,ptr g5),(8,int 19)]) (hOf []) 20 a1 w2:=⟨_,_,Inv.empty (λ_ h=>h.elim) dd,T2⟩
 show(bodF f183 0).wpIn (fen (M l)) n prog _ a1 _;rw[hw2];generalize hQ:roundPost prog l _=Q;obtain⟨yc,hyc⟩:∃ yc:Code,bodF f183 0 = .block 1 (.seq (.seq (.region 5 (rgB f183 5) La) (.cond (.tmp 15) (.seq (.region 6 (rgB f183 6) La) .ret) .skip)) yc):=⟨.region 7 (rgB f183 7) La,by kernel_rfl⟩
 rw[hyc];refine wpIn_block (wpIn_seq (wpIn_seq (wpIn_region ?_)));rw[show Ls (rgB f183 5).size=[0,1]from by kernel_rfl];refine Z5c (ro:=M l) (hints:=[]) (out:=⟨tm 22 [(4,ptr g4),(5,ptr g5),(8,int 19),(14,int 19),(15,Sx.bool ((19:Int) != 0))],hOf [],[],[]⟩) kr S2 trivial (λp hp=>by simp at hp) ?_;intro a3 w3 S3;have v15:a3.eval (.tmp 15) = .bool O:=by obtain⟨_,_,_,T⟩:=S3;exact Z0G (Z1p T (.tmp 15))
 refine wpIn_cond_true v15 (wpIn_seq (wpIn_region ?_));rw[show Ls (rgB f183 6).size=[0]++[1,2]from by kernel_rfl];refine Z3s (ro:=M l) (hints:=[]) (out:=⟨tm 22 [(4,ptr g4),(5,ptr g5),(8,int 19),(14,int 19),(15,Sx.bool ((19:Int) != 0)),(16,int 19)],hOf [],[],[]⟩) kr S3 trivial (λp hp=>by simp at hp) ?_;rintro a4 w4 ⟨ρ4,Im4,I4,T4⟩;have K4:=I4.kept.no;have same4:∀ {g:Nat} {o:Obj},w2.heap[g]? = M o->w4.heap[g]? = M o:=λ{g o} h=>by
  rw[K4.block g (Li.1 h).1 (λq=>q)];exact h
 have v4:a4.eval (.tmp 4) = .pointer (M ⟨g4,0,Lb⟩):=Z0G (Z1p T4 (.tmp 4));have v5:a4.eval (.tmp 5) = .pointer (M ⟨g5,0,Lb⟩):=Z0G (Z1p T4 (.tmp 5));have v16:a4.eval (.tmp 16) = .int .i64 19:=Z0G (Z1p T4 (.tmp 16));have d4:w4.heap[g4]? = M (.cells #[u4] 206 (0,0)):=same4 (by rw[hs2 _ n4];exact same1 c4);have d5:w4.heap[g5]? = M (.cells #[u5] 32 (0,0)):=same4 (by rw[hs2 _ n5];exact same1 c5);have e4:=setRow_self (cs' := #[.slice Lb 0 0]) d4;have f5:(w4.setRow g4 #[.slice Lb 0 0]).heap[g5]? = M (.cells #[u5] 32 (0,0)):=by rw[setRow_other w4 g4 g5 _ h45.symm];exact d5
 refine Z2u (o:=(rgB f183 6).getD 1 L) kr kr (Z2X (by intro c h;cases h) (Z5q (Z7A (t:=206) (x:=.tmp 4) (y:=.const (.slice Lb 0 0)) (v:=.slice Lb 0 0) kr v4 rfl d4 rfl kr) ?_));refine Z2u (o:=(rgB f183 6).getD 2 L) kr kr (Z2X (by intro c h;cases h) (Z5q (Z7A (t:=32) (x:=.tmp 5) (y:=.tmp 16) (v:=.int .i64 19) kr v5 v16 f5 rfl kr) ?_));generalize hw5:(w4.setRow g4 #[.slice Lb 0 0]).setRow g5 #[.int .i64 19]=w5;have sm:∀ {g:Nat},g≠g4->g≠g5->w5.heap[g]? = w4.heap[g]? := λ{g} h k=>by
  rw[<- hw5,setRow_other _ g5 g _ k,setRow_other _ g4 g _ h]
 have rw5:∀ g,rows w5 g=rows w4 g:=λg=>by rw[<- hw5,Z2a _ g5 #[u5] #[.int .i64 19] _ f5 rfl,Z2a _ g4 #[u4] #[.slice Lb 0 0] _ d4 rfl]
 have z5:w5.heap.size=w4.heap.size:=by rw[<- hw5];simp[World.setRow]
 have os5:w5.os=w4.os/\w5.tape=w4.tape/\w5.output=w4.output:=by rw[<- hw5];exact⟨rfl,rfl,rfl⟩
 have rl5:w5.heap[l]? = M (Lh { state:=.busy,pending:=Lb,fn:=fn,tmps:=a0,params := #[12,13],assign:=asgF f183 0,body:=bodF f183 0,defers:=D }):=by
  rw[sm n4.symm n5.symm];exact same4 rl2
 have m4:g4≠D:=by rintro rfl;rw[c4]at rD;cases rD
 have m5:g5≠D:=by rintro rfl;rw[c5]at rD;cases rD
 refine wpIn_ret ?_;show Q .ret _ w5;rw[<- hQ];refine⟨_,_,run_endRound (M .ret) rl5,rfl,Ly (Li.1 rl5).1, ?_, ?_, ?_, ?_⟩
 .rw[Lk nD,sm m4.symm m5.symm];exact same4 (by rw[hs2 _ nD];exact same1 rD)
 .rw[Lk n4,<- hw5,setRow_other _ g5 g4 _ h45];exact e4
 .rw[Lk n5,<- hw5];exact setRow_self f5
 .have rowl:∀ (X:World) (o:Obj) (g:Nat),(∃ r,X.heap[l]? = M (.loop r))->(∃ r,o = .loop r)->rows (X.putObj l o) g=rows X g:=by
   rintro X o g ⟨r,hr⟩ ⟨r',rfl⟩;by_cases hg:g=l
   .subst hg;simp[rows,hr,Ly (Li.1 hr).1]
   .simp only[rows,Lk hg]
  refine⟨os5.1.trans (K4.os.trans (hos2.1.trans K1.os)),os5.2.1.trans (K4.tape.trans (hos2.2.1.trans K1.tape)),os5.2.2.trans (K4.output.trans (hos2.2.2.trans K1.output)), ?_,λg hg hn=>?_,λg hg=>?_⟩
  .rw[LD,z5];have:=K1.size;have:=K4.size;omega
  .have q1:g≠l:=λe=>hn (.inl e);have q2:g≠g4:=λe=>hn (.inr (.inl e));have q3:g≠g5:=λe=>hn (.inr (.inr e));have:=K1.size;rw[Lk q1,sm q2 q3,K4.block g oq (λq=>q),hs2 g q1,K1.block g hg (λq=>q)]
  .have:=K1.size;rw[rowl _ _ _ ⟨_,rl5⟩ ⟨_,rfl⟩,rw5,K4.rows g oq,<- hw2,rowl _ _ _ ⟨_,same1 rl⟩ ⟨_,rfl⟩,K1.rows g hg]
end Go.Proofs.YtgedmeaemofdkaaGreat
namespace Go.Proofs.YtgedmeaemofdkaaGreat
open Go.Sx Go.RowKit
def Z15(l:List Found):AV:=.d (.sl 4 (l.map Found.dv))
def Z0p(h:Heap)(i:Int):List Found×Int:=if(Z1S h i).2=O then((Z1S h i).1,0)else([],19)
def LK(w00:World)(g6:Nat)(prot:List (Nat×Obj))(A:Nat->Prop)(pre:List Found)(W:World):Prop:=LJ g6 prot A pre W/\Kept (λ_=>False) w00 W/\∀ g,A g->w00.heap.size<=g
def recV(F:Func)(fn:Nat)(a0:Array Value)(D:Nat)(st:LoopState)(pe:Option Code):Obj:=.loop { state:=st,pending:=pe,fn:=fn,tmps:=a0,params := #[12,13],assign:=asgF F 0,body:=bodF F 0,defers:=D }
def LX(w00:World)(fn:Nat)(a0:Array Value)(l D g4 g5:Nat)(W:World):Prop :=
 W.heap[l]? = M (recV f183 fn a0 D .done (M .ret))/\W.heap[D]? = M (.deferred (M []))/\W.heap[g4]? = M (.cells #[.slice Lb 0 0] 206 (0,0))/\W.heap[g5]? = M (.cells #[.int .i64 19] 32 (0,0))/\Kept (λ_=>False) w00 W
def Zo2{w00:World}{fn:Nat}{a0:Array Value}{D l n g4 g5 g6:Nat}{u4 u5:Value}(ha0:a0.size=22)(ha4:a0[4]? = M (.pointer (M ⟨g4,0,Lb⟩)))(ha5:a0[5]? = M (.pointer (M ⟨g5,0,Lb⟩)))(ha6:a0[6]? = M (.pointer (M ⟨g6,0,Lb⟩)))
  (h45:g4≠g5) (h4:w00.heap.size<=g4) (h5:w00.heap.size<=g5) (hl:w00.heap.size<=l) :
  Rnd l n (LK w00 g6 [(l,recV f183 fn a0 D .ready Lb),(D,.deferred (M [])),(g4,.cells #[u4] 206 (0,0)),(g5,.cells #[u5] 32 (0,0))]) (LX w00 fn a0 l D g4 g5):=by
 refine⟨λA pre X Y ⟨J,K,hA⟩ k=>⟨J.keep k,Z3m K k (λ_ h=>h.elim),hA⟩,λA pre X ⟨⟨ρ,h1,I,_⟩,_,_⟩ g hg=>?_,λA pre X x ⟨J,K,hA⟩ hlen=>?_,λA pre X ⟨J,K,hA⟩ _=>?_⟩
 .obtain⟨b,β,k1,k2⟩:=(h1 g).1 hg;exact I.bnd b β g k1 k2
 .obtain⟨fn',t,s,b,q1,q2⟩:=Zia (n:=n) (D:=D) hlen ha0 ha6 (List.mem_cons_self) J x;refine⟨fn',t,s,b,q1,q2.mono ?_⟩;rintro e W' ⟨rfl,A',J',hA',K'⟩;refine⟨rfl,A',⟨J',Z3m K K' hA,λg hg=>?_⟩,hA',K'⟩;rcases hA' g hg with h | h
  .exact hA g h
  .exact L9 K.size h
 .obtain⟨ρ,_,_,_,_,_,hp⟩:=J;have p1:=(hp (l,recV f183 fn a0 D .ready Lb) pq).1;have p2:=(hp (D,.deferred (M [])) pq).1;have p3:=(hp (g4,.cells #[u4] 206 (0,0)) pq).1;have p4:=(hp (g5,.cells #[u5] 32 (0,0)) pq).1;obtain⟨fn',t,s,b,q1,q2⟩:=Zkq (n:=n) ha0 ha4 ha5 p1 p2 p3 p4 h45;refine⟨fn',t,s,b,q1,q2.mono ?_⟩;rintro e W' ⟨rfl,m1,m2,m3,m4,K'⟩;refine⟨rfl,m1,m2,m3,m4,Z3m K K' (λg hg=>?_)⟩;rcases hg with rfl | rfl | rfl<;>assumption
def ZkX{w00 W:World}{g6:Nat}{prot:List (Nat×Obj)}{A:Nat->Prop}{pre:List Found}(J:LK w00 g6 prot A pre W):∃ sv,W.heap[g6]? = M (.cells #[sv] 206 (0,0))/\sv.oneCell'=O/\A g6/\∃ Im:Nat->Prop,(∀ g,Im g->A g/\g<W.heap.size)/\RelD W Im (.sl 4 (pre.map Found.dv)) sv:=by
 obtain⟨⟨ρ,hA,I,⟨s6,n6,h6⟩,hs,hr,hp⟩,K,hge⟩:=J;obtain⟨β,m1,m2⟩:=I.blk 6 _ rfl;rw[h6]at m1;cases m1;obtain⟨_,_,g,cs,e1,e2,e3,e4,e5⟩:=m2;cases e1;have hc:cs.size=1:=e3;obtain⟨sv,rfl⟩:∃ sv,cs = #[sv]:=⟨cs[0],by
  apply LF
  .simp[hc]
  .intro k hk _;rcases k with _ | k
   .rfl
   .omega⟩
 have hsv:Rel ρ W (λ_=>False) (.ow 8020) sv:=e5 0 _ sv rfl rfl;have hA6:A g6:=(hA g6).2 ⟨6,_,h6,rfl⟩;refine⟨sv,e2,e4 0 sv rfl,hA6, ?_⟩;obtain⟨β2,k1,k2⟩:=I.blk 8020 _ rfl;let ρ':Rho:=λb=>if b=8020 then ρ 8020 else Lb
 have hρ:∀ b β,ρ' b=M β->b=8020/\ρ 8020=M β:=by
  intro b β h;simp only[ρ']at h;split at h
  .exact⟨aa,h⟩
  .cases h
 have I2:Sx.Inv Z3E (λ_=>False) w00 ρ' W (λ_=>False) (hOf [(8020,.arr 212 4 (pre.map Found.dv))]) 20:=by
  refine⟨K.imp λ_ h=>h.elim,λb b' β β' g _ _ q1 q2 _ _=>by rw[(hρ _ _ q1).1,(hρ _ _ q2).1],λ_ _ _ _ _ _ h=>h,λb β g q1 q2=>I.bnd _ _ g (hρ _ _ q1).2 q2,λb β g q1 q2=>.inl ⟨hge g ((hA g).2 ⟨8020,β,(hρ _ _ q1).2,q2⟩),by rw[(hρ _ _ q1).1];decide⟩,λ_ h=>h.elim,λ_ h=>h.elim,λb B hB=>?_,λb hb _=>?_,⟨by decide,λb β hb q=>absurd hb (by rw[(hρ _ _ q).1];decide)⟩⟩
  .simp only[hOf]at hB;split at hB
   .cases hB;rename_i hb;subst hb;exact⟨β2,by simp only[ρ',if_true];exact k1,k2.mono (Ext.refl _ _) (λ_ h=>h) (λ_ _ h=>h) I.bnd (λ_ _=>rfl) |> λh=>by
     obtain⟨a1,a2,a3,a4,a5⟩:=h;exact⟨a1,a2,a3,a4,a5⟩⟩
   .cases hB
  .simp only[ρ'];rw[if_neg oq]
 have hx:Rel ρ' W (λ_=>False) (.ow 8020) sv:=by
  cases hsv with
  | ow q1 q2 q3 q4=>exact .ow (by simp only[ρ',if_true];exact q1) q2 q3 q4
 have:=Z5L (keep:=[]) (fr:=O) (b:=8020) (els0:=pre.map Found.dv) I2 hx rfl pq ⟨_,rfl,by simp⟩ (λe he=>he) (λ_=>ZlV pre) (λa n c hv hn=>by
  subst hv;cases hx with
  | ow q1 q2 q3 q4 =>
   rcases q4 with q4 | ⟨g,q5,q6,_⟩
   .omega
   .cases q6;exact⟨_,q1,q5⟩)
 refine⟨_,λg hg=>?_,this⟩;rcases hg with⟨h,_⟩ | ⟨b,β,_,_,q1,q2⟩
 .cases h
 .exact⟨(hA g).2 ⟨8020,β,(hρ _ _ q1).2,q2⟩,I.bnd _ _ g (hρ _ _ q1).2 q2⟩
end Go.Proofs.YtgedmeaemofdkaaGreat
namespace Go.Proofs.YtgedmeaemofdkaaGreat
open Go.Sx
structure Rep where
 copied:Int
 kept:Int
 filled:Int
 freed:Int
 cleared:Int
 steps:Int
 deriving Inhabited
def Rep.cells(r:Rep):List AV:=[int r.copied,int r.kept,int r.filled,int r.freed,int r.cleared,int r.steps]
structure Work where
 heap:Heap
 old:List Int
 T:List Int
 Q:List Int
 D:Int
 rep:Rep
 deriving Inhabited
def Work.cells(w:Work):List AV:=w.heap.cells++[Z01 w.old,Z0K w.T,Z01 w.Q,int w.D]++w.rep.cells
def Work.av(w:Work):AV:=.ag w.cells
def noWork:Work:=⟨noHeap,[],[],[],0,⟨0,0,0,0,0,0⟩⟩
def Z0u(w:Int):Int×Bool:=if w%4=2/\w/4<4294967296 then(w/4,O)else(0,La)
def Z2R(w:Int)(h0:0<=w)(h1:w<=18446744073709551615):GP 140 [u64 w] O (.tu [u64 (Z0u w).1,bool (Z0u w).2]) []:=by
 have Q0 {h_ c_ p_} (r_:Fq h_ c_ p_):=Fg 5 (by exact Int.tmod_eq_emod_of_nonneg oq:w.tmod 4=w%4) (Fa (by decide:(4:Int)≠0) (Fa (by intro hg;(try simp only[bs]at hg);exact Z5U rfl dd:(!w%(4:Int) != 2)=O->w.fdiv (2^min (Lg 2) 64)=w/4) (Fa (by intro hg;(try simp only[bs]at hg);omega:(!w%(4:Int) != 2)=O->(0:Int)<=2) r_)));rcases bb (w%(4:Int) != 2||Ld (4294967296<=w/4))with hc0 | hc0<;>have hc0p:=hc0<;>simp only[bs]at hc0p
 .rw[show Z0u w=((0:Int),La)from by(simp[Z0u, *];omega)];exact gF [] func140 [] (Fh 9 [.int (w/4)] (Q0 (Ft 11 hc0 Fz)))
 .obtain⟨hc0pa,hc0pb⟩:=hc0p;rw[show Z0u w=(w/(4:Int),O)from by simp[Z0u, *]];exact gF [] func140 [] (Fh 13 [.int (w/4)] (Q0 (Ff 11 hc0 (Fg 9 (by exact Z5U rfl dd:w.fdiv (2^min (Lg 2) 64)=w/4) (Fo ((0:Int)<=2) Fz)))))
def Zeb(a:Int)(h0:0<=a)(h1:a<4294967296):GP 188 [u64 a] O (.tu [u64 (4*a+2),int 0]) []:=by
 exact gF [] func188 [] (Ffb 5 (Ld (4294967296<=a)) (Fv 7 (4*a) (Fv 8 (4*a+2) Fz)))
def Z1L(w:Work)(i:Int):Bool:=Ld (0<=i/\i<w.heap.P.length/\(w.heap.P.getD i.toNat L).K=1/\(w.heap.P.getD i.toNat L).S≠w.heap.S/\i∉w.T)
def Work.keep(w:Work)(r:Int):Work:=⟨w.heap,w.old,w.T,w.Q++[r],w.D,⟨w.rep.copied,w.rep.kept+1,w.rep.filled,w.rep.freed,w.rep.cleared,w.rep.steps⟩⟩
def Z1g(w:Work):Int:=w.T.getD ((w.T.length:Int)-1).toNat L
def Z75(w:Work)(n:Int):Prop:=0<w.T.length/\(w.heap.P.getD (Z1g w).toNat L).U+n<=w.heap.C.pw
instance (w:Work) (n:Int):Decidable (Z75 w n):=by unfold Z75;infer_instance
def Z0W(w:Work):Int:=first w.heap.P 1
def Z3j(w:Work):List Page:=Z3L ⟨w.heap.C,w.heap.W,w.heap.P,1-w.heap.S,w.heap.B⟩
def Work.place(w:Work)(n:Int):Work×Int×Bool :=
 if Z75 w n then(⟨⟨w.heap.C,w.heap.W,Z2W w.heap.P (Z1g w).toNat n,w.heap.S,w.heap.B⟩,w.old,w.T,w.Q,w.D,w.rep⟩,4096+Z1g w*w.heap.C.pw+(w.heap.P.getD (Z1g w).toNat L).U,O)
 else if 0<=Z0W w then(⟨⟨w.heap.C,w.heap.W,Z2W (Z3j w) (Z0W w).toNat n,w.heap.S,w.heap.B⟩,w.old,w.T++[Z0W w],w.Q,w.D,w.rep⟩,4096+Z0W w*w.heap.C.pw,O)
 else(noWork,0,La)
def Zhl(s:Int)(p:Page):Page:=⟨p.K,s,p.U,p.N⟩
def Z0U(l:List Page)(i m:Nat)(s:Int):List Page:=(Ls l.length).map λj=>if i<=j/\j<=i+m then Zhl s (l.getD j L)else l.getD j L
def Z0I(l:List Page)(i:Nat):Nat:=((l.drop (i+1)).takeWhile λp=>p.K==3).length
def Work.flip(w:Work)(i:Nat):Work:=⟨⟨w.heap.C,w.heap.W,Z0U w.heap.P i (Z0I w.heap.P i) (1-w.heap.S),w.heap.S,w.heap.B⟩,w.old,w.T,w.Q,w.D,w.rep⟩
def Work.copy(w:Work)(r a n:Int):Work:=⟨⟨w.heap.C,(Z1m (moveA w.heap.W a r n).1 r (4*a+2)).1,w.heap.P,w.heap.S,w.heap.B⟩,w.old,w.T,w.Q++[a],w.D,⟨w.rep.copied+1,w.rep.kept,w.rep.filled,w.rep.freed,w.rep.cleared,w.rep.steps⟩⟩
def hdW(w:Work)(r:Int):Header:=(decodeH (loadA w.heap.W r).1).1
def Z2D(w:Work)(r:Int):Nat:=(ofA w.heap.C r).1.toNat
def Work.fwd(w:Work)(r:Int):Work×Int×Int :=
 if r=0\/r∈w.Q then(w,r,0)
 else if r∉w.old then(noWork,0,19)
 else if(Z0u (loadA w.heap.W r).1).2=O then(w,(Z0u (loadA w.heap.W r).1).1,0)
 else if(ofA w.heap.C r).2.2≠0 then(noWork,0,19)
 else if Z1L w (ofA w.heap.C r).1=O then(w.keep r,r,0)
 else if(w.heap.P.getD (Z2D w r) L).K=2 then((w.flip (Z2D w r)).keep r,r,0)
 else if(w.place (sizeH (hdW w r))).2.2=La then(noWork,0,3)
 else((w.place (sizeH (hdW w r))).1.copy r (w.place (sizeH (hdW w r))).2.1 (sizeH (hdW w r)),(w.place (sizeH (hdW w r))).2.1,0)
def Zbe(pw:Int)(p:Page):Nat:=if p.K=0 then pw.toNat else(pw-p.U).toNat
def Z8I(pw:Int)(l:List Page):Nat:=(l.map (Zbe pw)).sum
def Zdx(old q:List Int):Nat:=(old.filter λx=>Ld (x∉q)).length
def muW(w:Work):Nat:=Zdx w.old w.Q+Z8I w.heap.C.pw w.heap.P
structure WkOk (w:Work):Prop where
 W:WOk w.heap.W
 wl:w.heap.W.length<=4096
 C:Z06 w.heap.C=O
 pl:(w.heap.P.length:Int)=w.heap.C.pg
 sp:w.heap.S=0\/w.heap.S=1
 ol:w.old.length<=524288
 o:∀ x∈w.old,0<=x/\x<=8192
 tk:∀ x∈w.T,0<=x/\x<w.heap.P.length/\(w.heap.P.getD x.toNat L).K=1
 tl:w.T.length<=w.Q.length
 q:∀ x∈w.Q,0<=x/\x<=16384
 us:∀ j,j<w.heap.P.length->0<=(w.heap.P.getD j L).U/\(w.heap.P.getD j L).U<=1024
 mu:w.Q.length+muW w<=1000000
 sc:0<=w.D/\w.D<=w.Q.length
 rk:0<=w.rep.kept/\0<=w.rep.copied/\w.rep.kept+w.rep.copied<=w.Q.length
 rs:0<=w.rep.steps/\w.rep.steps<=1000*w.D
 r0:w.rep.filled=0/\w.rep.freed=0/\w.rep.cleared=0
def Zdm(pw:Int)(p:Page):∀ (l:List Page) (i:Nat),i<l.length->Z8I pw (l.set i p)+Zbe pw (l.getD i L)=Z8I pw l+Zbe pw p
 | [],i,h=>by simp at h
 | x::l,0,_=>by simp[Z8I];omega
 | x::l,i+1,h=>by
  have:=Zdm pw p l i (by simpa using h);simp only[Z8I,List.set_cons_succ,L1,List.sum_cons,List.getD_cons_succ]at this ⊢;omega
def Z83(old q:List Int)(r:Int):(old.filter λx=>Ld (x∉q++[r]))=(old.filter λx=>Ld (x∉q)).filter λx=>Ld (x≠r):=by
 rw[List.filter_filter];refine List.filter_congr λx _=>?_;by_cases h3:x∈q<;>by_cases h4:x=r<;>simp[h3,h4]
def Zm6(old q:List Int)(r:Int):Zdx old (q++[r])<=Zdx old q:=by
 unfold Zdx;rw[Z83];exact List.length_filter_le _ _
def Zl1{old q:List Int}{r:Int}(h1:r∈old)(h2:r∉q):Zdx old (q++[r])<Zdx old q:=by
 unfold Zdx;rw[Z83];exact List.length_filter_lt_length_iff_exists.2 ⟨r,List.mem_filter.2 ⟨h1,by simpa using h2⟩,by simp⟩
def Z9r{l:List Page}{i:Nat}{p q:Page}(h:i<l.length):tookP l i 1 p q=l.set i p:=by
 unfold tookP;have e:wr l (Lq 1 q) i 1=l.set i q:=by
  have:=ZbG (ws:=l) (l:=Lq 1 q) (i:=i) (k:=0) qo pq q;rw[Z8a]at this;simpa using this.symm
 rw[e,L8]
def Z1C{l:List Page}{i j:Nat}{p:Page}(h:i<l.length):(l.set i p).getD j L=if i=j then p else l.getD j L:=by
 simp only[LI,LZ,h];split
 .rename_i e;subst e;simp
 .rfl
def Z2c(l:List Page)(i m:Nat)(s:Int):(Z0U l i m s).length=l.length:=by simp[Z0U]
def Z2J{l:List Page}{i m:Nat}{s:Int}{j:Nat}(h:j<l.length):(Z0U l i m s).getD j L=if i<=j/\j<=i+m then Zhl s (l.getD j L)else l.getD j L:=by
 simp[Z0U,h,LI]
def ZgW(pw:Int)(l:List Page)(i m:Nat)(s:Int):Z8I pw (Z0U l i m s)=Z8I pw l:=by
 unfold Z8I;congr 1;refine List.ext_getElem (by simp[Z0U]) λj h1 h2=>?_;have h:j<l.length:=by simpa using h2
 simp only[Z0U,List.map_map,List.getElem_map,List.getElem_range,Function.comp];have e:l.getD j L=l[j]:=by simp[LI,h]
 rw[e];split
 .rfl
 .rfl
abbrev sZ(w:Work)(r:Int):Int:=sizeH (decodeH (loadA w.heap.W r).1).1
abbrev lT(w:Work):Int:=w.T.getD ((w.T.length:Int)-1).toNat L
def Zcm(w:Work)(r:Int)(hw:WkOk w):GP 185 [w.av,u64 r] La (w.keep r).av []:=by
 have h1:=hw.mu;have h2:=hw.rk;exact gF [] func185 [] (Fh 11 [.els (Lc wdv (w.Q++[r]))] (FAx 5 8 wdv w.Q (by(simp[Work.keep, *];omega)) (Fs 10 (Lc wdv [r]) (Fa (by(simp[Work.keep, *];omega):(Lc wdv w.Q).length+(Lc wdv [r]).length<=2^30) (Fa (by simp[Work.keep,L4,L2,L3,L0,wdv,idv]:Lc wdv w.Q++Lc wdv [r]=Lc wdv (w.Q++[r])) (Fi 16 (w.rep.kept+1) Fz))))))
def tknL(w:Work)(x:Int)(i:Nat):Tg:=⟨tm 20 [(1,int x),(2,.pt 8002 0 0),(4,bool La),(5,int i)],[(8002,.box 138 w.cells)],60⟩
def Zfi(w:Work)(x:Int)(i:Nat)(hl:w.T.length<=1048576)(hi:i<w.T.length)(hv:¬ w.T.getD i L=x):CP (rndF f191 0) (tknL w x i).st .nrm (tknL w x (i+1)).st:=by
 exact sF [] [] (FN 9 10 16 idv w.T i (Ffb 19 (w.T.getD i L==x) (Fx 12 i Fz)))
def ZlI(w:Work)(x:Int)(i:Nat)(hl:w.T.length<=1048576)(hi:i<w.T.length)(hv:w.T.getD i L=x):CP (rndF f191 0) (tknL w x i).st .ret (Tg.st ⟨tm 20 [(4,bool O)],[],60⟩):=by
 exact sF [] [] (FN 9 10 16 idv w.T i (Ftb 19 (w.T.getD i L==x) Fz))
def Zp7(w:Work)(x:Int):CP (rndF f191 0) (tknL w x w.T.length).st (.ext 0) (Tg.st ⟨tm 20 [],[],60⟩):=by
 exact sF [] [] (FO 9 10 idv w.T Fz)
def Zo4(w:Work)(x:Int)(hl:w.T.length<=1048576)(h:x∉w.T)  := Z08 (S:=λi=>(tknL w x i).st) w.T.length (by kernel_rfl) (λi hi=>Zfi w x i hl hi λe=>h (getD_mem_iff.2 ⟨i,hi,e⟩)) (Zp7 w x)
def ZlX(w:Work)(x:Int)(hl:w.T.length<=1048576)(h:x∈w.T):CP (blkF f191 0) (Tg.st ⟨tm 20 [(1,int x),(2,.pt 8002 0 0),(4,bool La),(5,int 0)],[(8002,.box 138 w.cells)],60⟩) .ret (Tg.st ⟨tm 20 [(4,bool O)],[],60⟩):=by
 obtain⟨i,h1,h2⟩:=ZiR (getD_mem_iff.1 h);exact Z0v (S:=λi=>(tknL w x i).st) i kr (λj hj=>Zfi w x j hl oq λe=>by have:=h2 j ⟨by omega,e⟩;omega) (ZlI w x i hl h1.1 h1.2)
def Zgu(w:Work)(i:Int)(hl:w.T.length<=1048576):GP 191 [w.av,int i] O (bool (Ld (i∈w.T))) []:=by
 by_cases h:i∈w.T
 .rw[decide_eq_true h];exact gF [] func191 [] (Fu (@ZlX w i aa aa) Fz)
 .rw[decide_eq_false h];exact gF [] func191 [] (Fu (@Zo4 w i aa aa) Fz)
def Z1U(w:Work)(i:Int)(hl:w.T.length<=1048576)(hp:w.heap.P.length<=1048576):GP 141 [w.av,int i] O (bool (Z1L w i)) []:=by
 rcases bb (Ld (i<0)||Ld ((w.heap.P.length:Int)<=i))with hc0 | hc0<;>have hc0p:=hc0<;>simp only[bs]at hc0p
 .exact gF [] func141 (fO 6) (FlG 13 (!decide (i<0)) Page.dv w.heap.P (Ft 15 hc0 (Fa (by(simp[Z1L, *];omega):La=Z1L w i) Fz)))
 .obtain⟨hc0pa,hc0pb⟩:=hc0p;let y0:=w.heap.P.getD i.toNat L;exact gF [] func141 (fO 16) (FlG 13 (!decide (i<0)) Page.dv w.heap.P (Ff 15 hc0 (Fe 20 Page.dv w.heap.P i (FcG 36 (y0.K==1&&y0.S != w.heap.S) (λhg=>by(try simp only[bs]at hg);exact @Zgu w i aa) (Fa (by grind[Z1L]:(y0.K==1&&y0.S != w.heap.S&&!decide (i∈w.T))=Z1L w i) Fz)))))
def Zgj(w:Work)(a:Int)(hw:WkOk w)(h0:0<=a/\a<=18446744073709551615):GP 142 [w.av,u64 a] O (hdW w a).av []:=by
 have h1:=hw.wl;have h2:=Z0H hw.W a;exact gF [] func142 [] (Fc 14 (@Z1H w.heap.W a oq aa) (Fc 19 (@Z2P ((loadA w.heap.W a).1) oq oq) Fz))
def Z6x{ws l:List Int}(h:WOk ws)(hl:WOk l)(a:Int):WOk (Z0D ws a l).1:=by
 unfold Z0D;split
 .intro x hx;simp only[spl,Lv]at hx;rcases hx with(hx | hx) | hx
  .exact h x (L7 hx)
  .exact hl x hx
  .exact h x (L6 hx)
 .exact Z6K
def Z8D(ws l:List Int)(a:Int):(Z0D ws a l).1.length<=ws.length:=by
 unfold Z0D;split
 .simp only;rw[Z50 oq];exact Lw _
 .simp
def Z8h{ws:List Int}(h:WOk ws){v:Int}(hv:0<=v/\v<=18446744073709551615)(a:Int):WOk (Z1m ws a v).1:=Z6x h (by intro x hx;simp at hx;subst hx;exact hv) a
def Zd4(ws:List Int)(a v:Int):(Z1m ws a v).1.length<=ws.length:=Z8D ws [v] a
def ZlY{ws:List Int}(h:WOk ws)(a n:Int):WOk (Z1e ws a n).1:=by
 unfold Z1e;repeat' split
 .exact Z6K
 .intro x hx;exact h x (L6 (L7 hx))
 .exact Z6K
def ZkR{ws:List Int}(h:WOk ws)(a b n:Int):WOk (moveA ws a b n).1:=by
 unfold moveA;split
 .exact Z6K
 .exact Z6x h (ZlY h b n) a
def ZfJ(ws:List Int)(a b n:Int):(moveA ws a b n).1.length<=ws.length:=by
 unfold moveA;split
 .simp
 .exact Z8D _ _ _
def WkOk.withWords{w:Work}(hw:WkOk w){l:List Int}(h:WOk l)(hl:l.length<=4096):WkOk ⟨⟨w.heap.C,l,w.heap.P,w.heap.S,w.heap.B⟩,w.old,w.T,w.Q,w.D,w.rep⟩ :=
 ⟨h,hl,hw.C,hw.pl,hw.sp,hw.ol,hw.o,hw.tk,hw.tl,hw.q,hw.us,hw.mu,hw.sc,hw.rk,hw.rs,hw.r0⟩
def Zk8{w:Work}(hw:WkOk w){r:Int}(h1:r∈w.old)(h2:r∉w.Q):WkOk (w.keep r):=by
 have hm:=hw.mu;have hl:=Zl1 h1 h2;have ho:=hw.o r h1;have hs:=hw.sc;have hk:=hw.rk;have ht:=hw.tl;unfold muW at hm;refine⟨hw.W,hw.wl,hw.C,hw.pl,hw.sp,hw.ol,hw.o,hw.tk, ?_, ?_,hw.us, ?_, ?_, ?_,hw.rs,hw.r0⟩
 .simp only[Work.keep,Ln,Lo];omega
 .intro x hx;simp only[Work.keep,Lv,LN]at hx;rcases hx with hx | rfl
  .exact hw.q x hx
  .omega
 .simp only[muW,Work.keep,Ln,Lo];omega
 .simp only[Work.keep,Ln,Lo];omega
 .simp only[Work.keep,Ln,Lo];omega
def ZhC{w:Work}(hw:WkOk w)(i:Nat):WkOk (w.flip i):=by
 refine⟨hw.W,hw.wl,hw.C, ?_,hw.sp,hw.ol,hw.o, ?_,hw.tl,hw.q, ?_, ?_,hw.sc,hw.rk,hw.rs,hw.r0⟩
 .simp only[Work.flip,Z2c];exact hw.pl
 .intro x hx;have:=hw.tk x hx;simp only[Work.flip,Z2c];refine⟨this.1,this.2.1, ?_⟩;rw[Z2J oq];split
  .exact this.2.2
  .exact this.2.2
 .intro j hj;simp only[Work.flip,Z2c]at hj ⊢;have:=hw.us j hj;rw[Z2J hj];split
  .exact this
  .exact this
 .have:=hw.mu;simp only[muW,Work.flip,ZgW]at this ⊢;exact this
def Z2d{w:Work}(h:0<w.T.length):Z1g w∈w.T:=by
 unfold Z1g;exact getD_mem_iff.2 ⟨((w.T.length:Int)-1).toNat,by omega,rfl⟩
def Z5O{w:Work}{n:Int}(hw:WkOk w)(hn:1<=n)(h:(w.place n).2.2=O) :
  ∃ (i:Nat) (p:Page) (t:List Int),i<w.heap.P.length/\p.K=1/\0<=p.U/\p.U<=1024+n/\(p.U<=64\/p.U=n)/\Zbe w.heap.C.pw p+1<=Zbe w.heap.C.pw (w.heap.P.getD i L)/\t.length<=w.T.length+1/\(∀ x∈t,x∈w.T\/x=(i:Int))/\4096<=(w.place n).2.1/\(w.place n).2.1<=12288 /\
  (w.place n).1=⟨⟨w.heap.C,w.heap.W,w.heap.P.set i p,w.heap.S,w.heap.B⟩,w.old,t,w.Q,w.D,w.rep⟩:=by
 have hb:=validB_iff.1 hw.C;have hpl:=hw.pl;by_cases hf:Z75 w n
 .have e:w.place n=(⟨⟨w.heap.C,w.heap.W,Z2W w.heap.P (Z1g w).toNat n,w.heap.S,w.heap.B⟩,w.old,w.T,w.Q,w.D,w.rep⟩,4096+Z1g w*w.heap.C.pw+(w.heap.P.getD (Z1g w).toNat L).U,O):=by rw[Work.place,if_pos hf]
  unfold Z75 at hf;have hm:=hw.tk _ (Z2d hf.1);have hu:=hw.us (Z1g w).toNat oq
  have ha:=Z2z hw.C hm.1 oq;refine⟨(Z1g w).toNat,⟨(w.heap.P.getD (Z1g w).toNat L).K,(w.heap.P.getD (Z1g w).toNat L).S,(w.heap.P.getD (Z1g w).toNat L).U+n,(w.heap.P.getD (Z1g w).toNat L).N⟩,w.T,by omega,hm.2.2,by simp only;omega,by simp only;omega,Or.inl (by simp only;omega), ?_,by omega,λx hx=>Or.inl hx, ?_, ?_, ?_⟩
  .have hk:=hm.2.2;simp only[Zbe,hk,if_neg (show ¬ (1:Int)=0 by decide)];omega
  .rw[e];simp only;omega
  .rw[e];simp only;omega
  .rw[e];rfl
 .by_cases hg:0<=Z0W w
  .have e:w.place n=(⟨⟨w.heap.C,w.heap.W,Z2W (Z3j w) (Z0W w).toNat n,w.heap.S,w.heap.B⟩,w.old,w.T++[Z0W w],w.Q,w.D,w.rep⟩,4096+Z0W w*w.heap.C.pw,O):=by rw[Work.place,if_neg hf,if_pos hg]
   obtain⟨f1,f2,f3,f4⟩:=Z3y (h:=⟨w.heap.C,w.heap.W,w.heap.P,1-w.heap.S,w.heap.B⟩) (by have:=hw.sp;simp only;omega) hg;obtain⟨g1,g2,g3⟩:=Z21 hg;simp only at f1 f2 f3 f4;have hi:(Z0W w).toNat<w.heap.P.length:=by unfold Z0W;omega
   have ha:=Z2z hw.C hg (by unfold Z0W;omega);have hk:(w.heap.P.getD (Z0W w).toNat L).K=0:=by
    have:=freeK_iff.1 g3 0 dd;simpa[Z0W]using this
   have hq:Z2W (Z3j w) (Z0W w).toNat n=w.heap.P.set (Z0W w).toNat ⟨1,1-w.heap.S,n,0⟩:=by
    unfold Z2W;have e4:(Z3j w).getD (Z0W w).toNat L=⟨1,1-w.heap.S,0,0⟩:=f4;rw[e4];have e1:Z3j w=w.heap.P.set (Z0W w).toNat ⟨1,1-w.heap.S,0,0⟩:=by
     have:Z3j w=tookP w.heap.P (Z0W w).toNat 1 ⟨1,1-w.heap.S,0,0⟩ ⟨0,0,0,0⟩:=f1;rw[this,Z9r hi]
    rw[e1,L8];simp
   refine⟨(Z0W w).toNat,⟨1,1-w.heap.S,n,0⟩,w.T++[Z0W w],hi,rfl,by simp only;omega,by simp only;omega,Or.inr rfl, ?_,by simp, ?_, ?_, ?_, ?_⟩
   .simp only[Zbe,hk];simp;omega
   .intro x hx;simp only[Lv,LN]at hx;rcases hx with hx | rfl
    .exact Or.inl hx
    .exact Or.inr oq
   .rw[e];simp only;omega
   .rw[e];simp only;omega
   .rw[e,hq]
  .rw[Work.place,if_neg hf,if_neg hg]at h;simp at h
def Zo7{w:Work}(hw:WkOk w){r n:Int}(hr:r∈w.old)(hq:r∉w.Q)(hn:1<=n/\n<=256)(h:(w.place n).2.2=O):WkOk ((w.place n).1.copy r (w.place n).2.1 n):=by
 obtain⟨i,p,t,h1,h2,h3,h4,h4',h5,h6,h7,h8,h9,e⟩:=Z5O hw hn.1 h;generalize (w.place n).2.1=a at h8 h9;rw[e];have hm:=hw.mu;have hs:=Zdm w.heap.C.pw p w.heap.P i h1;have hsc:=hw.sc;have hk:=hw.rk;have ht:=hw.tl;have hl:=Zm6 w.old w.Q a;unfold muW at hm;have w1:=ZkR hw.W a r n;have l1:=ZfJ w.heap.W a r n;have l2:=Zd4 (moveA w.heap.W a r n).1 r (4*a+2);have l0:=hw.wl;refine⟨Z8h w1 oq r, ?_,hw.C, ?_,hw.sp,hw.ol,hw.o, ?_, ?_, ?_, ?_, ?_, ?_, ?_,hw.rs,hw.r0⟩
 .simp only[Work.copy];omega
 .simp only[Work.copy,LL];exact hw.pl
 .intro x hx;simp only[Work.copy,LL]at hx ⊢;rcases h7 x hx with hx | hx
  .have:=hw.tk x hx;refine⟨this.1,this.2.1, ?_⟩;rw[Z1C h1];split
   .exact h2
   .exact this.2.2
  .subst hx;refine⟨by omega,by omega, ?_⟩;rw[Z1C h1,if_pos pq];exact h2
 .simp only[Work.copy,Ln,Lo];omega
 .intro x hx;simp only[Work.copy,Lv,LN]at hx;rcases hx with hx | rfl
  .exact hw.q x hx
  .omega
 .intro j hj;simp only[Work.copy,LL]at hj ⊢;rw[Z1C h1];split
  .omega
  .exact hw.us j hj
 .simp only[muW,Work.copy,Ln,Lo];omega
 .simp only[Work.copy,Ln,Lo];omega
 .simp only[Work.copy,Ln,Lo];omega
def Z5Z{v:Int}(h:0<=v):0<=(Z0u v).1/\(Z0u v).1<=4294967295:=by
 unfold Z0u;split<;>simp only<;>omega
def Z2h(v:Int):Z0i (decodeH v).1=O:=by
 cases e:(decodeH v).2 with
 | true=>exact Z70 e
 | false =>
  unfold decodeH at e ⊢;split
  .rename_i hc;rw[if_pos hc]at e;cases e
  .decide
def Z6E(w:Work)(r:Int):1<=sizeH (hdW w r)/\sizeH (hdW w r)<=256:=by
 have hv:Z0i (hdW w r)=O:=Z2h _;have:=validH_iff.1 hv;rw[sizeH,if_pos hv];omega
def Zjh{w:Work}(hw:WkOk w)(r:Int)(e:(w.fwd r).2.2=0):WkOk (w.fwd r).1/\0<=(w.fwd r).2.1/\(w.fwd r).2.1<=4294967296/\w.Q.length<=(w.fwd r).1.Q.length/\(w.fwd r).1.D=w.D/\(w.fwd r).1.rep.steps=w.rep.steps:=by
 have hv:=Z0H hw.W r;have ht:=Z5Z hv.1;unfold Work.fwd at e ⊢;split at e
 .rename_i c1;rw[if_pos c1];refine⟨hw, ?_, ?_,Lw _,rfl,rfl⟩
  .rcases c1 with c1 | c1
   .simp only;omega
   .exact(hw.q r c1).1
  .rcases c1 with c1 | c1
   .simp only;omega
   .have:=hw.q r c1;simp only;omega
 .rename_i c1;rw[if_neg c1];have c1':r∉w.Q:=λh=>c1 (Or.inr h);split at e
  .simp at e
  .rename_i c2;rw[if_neg c2];have c2':r∈w.old:=Xc.1 c2;have ho:=hw.o r c2';split at e
   .rename_i c3;rw[if_pos c3];exact⟨hw,ht.1,by simp only;omega,Lw _,rfl,rfl⟩
   .rename_i c3;rw[if_neg c3];split at e
    .simp at e
    .rename_i c4;rw[if_neg c4];split at e
     .rename_i c5;rw[if_pos c5];exact⟨Zk8 hw c2' c1',ho.1,by simp only;omega,by simp[Work.keep],rfl,rfl⟩
     .rename_i c5;rw[if_neg c5];split at e
      .rename_i c6;rw[if_pos c6];exact⟨Zk8 (ZhC hw _) c2' c1',ho.1,by simp only;omega,by simp[Work.keep,Work.flip],rfl,rfl⟩
      .rename_i c6;rw[if_neg c6];split at e
       .simp at e
       .rename_i c7;rw[if_neg c7];have c7':(w.place (sizeH (hdW w r))).2.2=O:=by simpa using c7
        have hz:=Z6E w r;obtain⟨i,p,t,h1,h2,h3,h4,h4',h5,h6,h7,h8,h9,ee⟩:=Z5O hw hz.1 c7';refine⟨Zo7 hw c2' c1' hz c7', ?_, ?_, ?_, ?_, ?_⟩
        .simp only;omega
        .simp only;omega
        .simp only[Work.copy];rw[ee];simp
        .simp only[Work.copy];rw[ee]
        .simp only[Work.copy];rw[ee]
def ZaF(w:Work)(n:Int)(hw:WkOk w)(hn:1<=n/\n<=256):GP 186 [w.av,int n] La (.tu [(w.place n).1.av,u64 (w.place n).2.1,bool (w.place n).2.2]) []:=by
 have o1:=hw.C;have hb:=validB_iff.1 o1;have hpl:=hw.pl;have hmu:=hw.mu;have htl:=hw.tl;have hr:=Z5J w.heap.P 1;by_cases hf:Z75 w n
 .have e7:w.place n=(⟨⟨w.heap.C,w.heap.W,Z2W w.heap.P (Z1g w).toNat n,w.heap.S,w.heap.B⟩,w.old,w.T,w.Q,w.D,w.rep⟩,4096+Z1g w*w.heap.C.pw+(w.heap.P.getD (Z1g w).toNat L).U,O):=by rw[Work.place,if_pos hf]
  unfold Z75 at hf;have hm:=hw.tk _ (Z2d hf.1);have hu:=hw.us (Z1g w).toNat oq
  have ha:=Z2z hw.C hm.1 oq;unfold Z1g at hm hu ha hf e7;rw[show w.place n=(Work.mk (Heap.mk w.heap.C w.heap.W (w.heap.P.set (w.T.getD ((w.T.length:Int)-(1:Int)).toNat L).toNat (Page.mk (w.heap.P.getD (w.T.getD ((w.T.length:Int)-(1:Int)).toNat L).toNat L).K (w.heap.P.getD (w.T.getD ((w.T.length:Int)-(1:Int)).toNat L).toNat L).S ((w.heap.P.getD (w.T.getD ((w.T.length:Int)-(1:Int)).toNat L).toNat L).U+n) (w.heap.P.getD (w.T.getD ((w.T.length:Int)-(1:Int)).toNat L).toNat L).N)) w.heap.S w.heap.B) w.old w.T w.Q w.D w.rep,(4096:Int)+w.T.getD ((w.T.length:Int)-(1:Int)).toNat L*w.heap.C.pw+(w.heap.P.getD (w.T.getD ((w.T.length:Int)-(1:Int)).toNat L).toNat L).U,O)from by rw[e7];rfl];exact gF [] func186 [] (FA 10 14 Page.dv w.heap.P (Fl 19 idv w.T (FiG 29 (Ld (0<(w.T.length:Int))) ((w.T.length:Int)-1) (FeGq 30 (Ld (0<(w.T.length:Int))) idv w.T ((w.T.length:Int)-1) (FmGq 34 (Ld (0<(w.T.length:Int))) Page.dv w.heap.P (w.T.getD ((w.T.length:Int)-1).toNat L) (FiG 36 (Ld (0<(w.T.length:Int))) ((w.heap.P.getD (w.T.getD ((w.T.length:Int)-1).toNat L).toNat L).U+n) (Ftb 42 (Ld (0<(w.T.length:Int))&&Ld ((w.heap.P.getD (w.T.getD ((w.T.length:Int)-1).toNat L).toNat L).U+n<=w.heap.C.pw)) (Fi 46 ((w.T.length:Int)-1) (Fe 47 idv w.T ((w.T.length:Int)-1) (Fi 83 (w.T.getD ((w.T.length:Int)-1).toNat L*w.heap.C.pw) (Fi 84 (4096+w.T.getD ((w.T.length:Int)-1).toNat L*w.heap.C.pw) (Fmq 91 Page.dv w.heap.P (w.T.getD ((w.T.length:Int)-1).toNat L) (Fi 92 (4096+w.T.getD ((w.T.length:Int)-1).toNat L*w.heap.C.pw+(w.heap.P.getD (w.T.getD ((w.T.length:Int)-1).toNat L).toNat L).U) (Fv 93 (4096+w.T.getD ((w.T.length:Int)-1).toNat L*w.heap.C.pw+(w.heap.P.getD (w.T.getD ((w.T.length:Int)-1).toNat L).toNat L).U) (Fmq 104 Page.dv w.heap.P (w.T.getD ((w.T.length:Int)-1).toNat L) (Fi 106 ((w.heap.P.getD (w.T.getD ((w.T.length:Int)-1).toNat L).toNat L).U+n) (Fm0q Page.dv w.heap.P (w.T.getD ((w.T.length:Int)-1).toNat L) (FS 10108 Page.dv w.heap.P ((w.T.getD ((w.T.length:Int)-1).toNat L).toNat) (Page.mk (w.heap.P.getD (w.T.getD ((w.T.length:Int)-1).toNat L).toNat L).K (w.heap.P.getD (w.T.getD ((w.T.length:Int)-1).toNat L).toNat L).S ((w.heap.P.getD (w.T.getD ((w.T.length:Int)-1).toNat L).toNat L).U+n) (w.heap.P.getD (w.T.getD ((w.T.length:Int)-1).toNat L).toNat L).N) ((w.heap.P.getD (w.T.getD ((w.T.length:Int)-1).toNat L).toNat L).dv) Fz))))))))))))))))))
 .by_cases hg:0<=first w.heap.P 1
  .have e7:w.place n=(⟨⟨w.heap.C,w.heap.W,Z2W (Z3j w) (first w.heap.P 1).toNat n,w.heap.S,w.heap.B⟩,w.old,w.T++[first w.heap.P 1],w.Q,w.D,w.rep⟩,4096+first w.heap.P 1*w.heap.C.pw,O):=by rw[Work.place,if_neg hf,if_pos (show 0<=Z0W w from hg)];rfl
   obtain⟨q1,q2,q3,q4⟩:=Z3y (h:=⟨w.heap.C,w.heap.W,w.heap.P,1-w.heap.S,w.heap.B⟩) (by have:=hw.sp;simp only;omega) hg;obtain⟨r1,r2,r3⟩:=Z21 hg;simp only at q1 q2 q3 q4;rw[q1]at q2 q4;have e8:Z3j w=_:=q1;rw[e8]at e7;have r4:Z8M w.heap.P (first w.heap.P 1).toNat 1=O:=r3;have ha:=Z2z hw.C hg oq;have q6:=congrArg Page.U q4;simp only at q6;have hs:=hw.sp;have hm:0<w.T.length->0<=Z1g w/\Z1g w<w.heap.P.length:=λh=>⟨(hw.tk _ (Z2d h)).1,(hw.tk _ (Z2d h)).2.1⟩
   have hu:=λh=>hw.us (Z1g w).toNat h;unfold Z75 at hf;unfold Z1g at hf hm hu;exact gF [] func186 (fO 19) (Fh 76 [.els (Lc idv (w.T++[first w.heap.P 1]))] (FA 10 14 Page.dv w.heap.P (Fl 19 idv w.T (FiG 29 (Ld (0<(w.T.length:Int))) ((w.T.length:Int)-1) (FeGq 30 (Ld (0<(w.T.length:Int))) idv w.T ((w.T.length:Int)-1) (FmGq 34 (Ld (0<(w.T.length:Int))) Page.dv w.heap.P (w.T.getD ((w.T.length:Int)-1).toNat L) (FiG 36 (Ld (0<(w.T.length:Int))) ((w.heap.P.getD (w.T.getD ((w.T.length:Int)-1).toNat L).toNat L).U+n) (Ffb 42 (Ld (0<(w.T.length:Int))&&Ld ((w.heap.P.getD (w.T.getD ((w.T.length:Int)-1).toNat L).toNat L).U+n<=w.heap.C.pw)) (Fc 52 (@Z5o w.heap.P (1) oq) (Ffb 54 (Ld (first w.heap.P (1:Int)<0)) (Fi 64 (1-w.heap.S) (Fc 65 (@ZaI w.heap.P (first w.heap.P 1) (1-w.heap.S) oq oq oq aa) (FA 70 73 idv w.T (Fs 75 (Lc idv [first w.heap.P 1]) (Fa (by(simp[*];omega):(Lc idv w.T).length+(Lc idv [first w.heap.P 1]).length<=2^30) (Fa (ms:Lc idv w.T++Lc idv [first w.heap.P 1]=Lc idv (w.T++[first w.heap.P 1])) (Fi 83 (first w.heap.P 1*w.heap.C.pw) (Fi 84 (4096+first w.heap.P 1*w.heap.C.pw) (Fmq 91 Page.dv (tookP w.heap.P (first w.heap.P 1).toNat 1 (Page.mk 1 (1-w.heap.S) 0 0) (Page.mk 0 0 0 0)) (first w.heap.P 1) (Fi 92 (4096+first w.heap.P 1*w.heap.C.pw+((tookP w.heap.P (first w.heap.P 1).toNat 1 (Page.mk 1 (1-w.heap.S) 0 0) (Page.mk 0 0 0 0)).getD (first w.heap.P 1).toNat L).U) (Fv 93 (4096+first w.heap.P 1*w.heap.C.pw+((tookP w.heap.P (first w.heap.P 1).toNat 1 (Page.mk 1 (1-w.heap.S) 0 0) (Page.mk 0 0 0 0)).getD (first w.heap.P 1).toNat L).U) (Fmq 104 Page.dv (tookP w.heap.P (first w.heap.P 1).toNat 1 (Page.mk 1 (1-w.heap.S) 0 0) (Page.mk 0 0 0 0)) (first w.heap.P 1) (Fi 106 (((tookP w.heap.P (first w.heap.P 1).toNat 1 (Page.mk 1 (1-w.heap.S) 0 0) (Page.mk 0 0 0 0)).getD (first w.heap.P 1).toNat L).U+n) (Fm0q Page.dv (tookP w.heap.P (first w.heap.P 1).toNat 1 (Page.mk 1 (1-w.heap.S) 0 0) (Page.mk 0 0 0 0)) (first w.heap.P 1) (FS 10108 Page.dv (tookP w.heap.P (first w.heap.P 1).toNat 1 (Page.mk 1 (1-w.heap.S) 0 0) (Page.mk 0 0 0 0)) ((first w.heap.P 1).toNat) (Page.mk ((tookP w.heap.P (first w.heap.P 1).toNat 1 (Page.mk 1 (1-w.heap.S) 0 0) (Page.mk 0 0 0 0)).getD (first w.heap.P 1).toNat L).K ((tookP w.heap.P (first w.heap.P 1).toNat 1 (Page.mk 1 (1-w.heap.S) 0 0) (Page.mk 0 0 0 0)).getD (first w.heap.P 1).toNat L).S (((tookP w.heap.P (first w.heap.P 1).toNat 1 (Page.mk 1 (1-w.heap.S) 0 0) (Page.mk 0 0 0 0)).getD (first w.heap.P 1).toNat L).U+n) ((tookP w.heap.P (first w.heap.P 1).toNat 1 (Page.mk 1 (1-w.heap.S) 0 0) (Page.mk 0 0 0 0)).getD (first w.heap.P 1).toNat L).N) (((tookP w.heap.P (first w.heap.P 1).toNat 1 (Page.mk 1 (1-w.heap.S) 0 0) (Page.mk 0 0 0 0)).getD (first w.heap.P 1).toNat L).dv) (Fa (by rw[e7]:w.heap.C.pw=(w.place n).1.heap.C.pw) (Fa (by rw[e7]:w.heap.C.pg=(w.place n).1.heap.C.pg) (Fa (by refine congrArg _ ?_;rw[e7]:Lc wdv w.heap.W=Lc wdv (w.place n).1.heap.W) (Fa (by refine congrArg _ ?_;rw[e7];rfl:Lc Page.dv ((tookP w.heap.P (first w.heap.P 1).toNat 1 (Page.mk 1 (1-w.heap.S) 0 0) (Page.mk 0 0 0 0)).set (first w.heap.P 1).toNat (Page.mk ((tookP w.heap.P (first w.heap.P 1).toNat 1 (Page.mk 1 (1-w.heap.S) 0 0) (Page.mk 0 0 0 0)).getD (first w.heap.P 1).toNat L).K ((tookP w.heap.P (first w.heap.P 1).toNat 1 (Page.mk 1 (1-w.heap.S) 0 0) (Page.mk 0 0 0 0)).getD (first w.heap.P 1).toNat L).S (((tookP w.heap.P (first w.heap.P 1).toNat 1 (Page.mk 1 (1-w.heap.S) 0 0) (Page.mk 0 0 0 0)).getD (first w.heap.P 1).toNat L).U+n) ((tookP w.heap.P (first w.heap.P 1).toNat 1 (Page.mk 1 (1-w.heap.S) 0 0) (Page.mk 0 0 0 0)).getD (first w.heap.P 1).toNat L).N))=Lc Page.dv (w.place n).1.heap.P) (Fa (by rw[e7]:w.heap.S=(w.place n).1.heap.S) (Fa (by rw[e7]:w.heap.B=(w.place n).1.heap.B) (Fa (by refine congrArg _ ?_;rw[e7]:Lc wdv w.old=Lc wdv (w.place n).1.old) (Fa (by refine congrArg _ ?_;rw[e7]:Lc idv (w.T++[first w.heap.P 1])=Lc idv (w.place n).1.T) (Fa (by refine congrArg _ ?_;rw[e7]:Lc wdv w.Q=Lc wdv (w.place n).1.Q) (Fa (by rw[e7]:w.D=(w.place n).1.D) (Fa (by rw[e7]:w.rep.copied=(w.place n).1.rep.copied) (Fa (by rw[e7]:w.rep.kept=(w.place n).1.rep.kept) (Fa (by rw[e7]:w.rep.filled=(w.place n).1.rep.filled) (Fa (by rw[e7]:w.rep.freed=(w.place n).1.rep.freed) (Fa (by rw[e7]:w.rep.cleared=(w.place n).1.rep.cleared) (Fa (by rw[e7]:w.rep.steps=(w.place n).1.rep.steps) (Fa (by grind[]:4096+first w.heap.P 1*w.heap.C.pw+((tookP w.heap.P (first w.heap.P 1).toNat 1 (Page.mk 1 (1-w.heap.S) 0 0) (Page.mk 0 0 0 0)).getD (first w.heap.P 1).toNat L).U=(w.place n).2.1) (Fa (by rw[e7]:O=(w.place n).2.2) Fz)))))))))))))))))))))))))))))))))))))))))))
  .have e7:w.place n=(noWork,0,La):=by rw[Work.place,if_neg hf,if_neg (show ¬ 0<=Z0W w from hg)]
   have hm:0<w.T.length->0<=Z1g w/\Z1g w<w.heap.P.length:=λh=>⟨(hw.tk _ (Z2d h)).1,(hw.tk _ (Z2d h)).2.1⟩
   have hu:=λh=>hw.us (Z1g w).toNat h;unfold Z75 at hf;unfold Z1g at hf hm hu;rw[e7];exact gF [] func186 [] (FAx 10 14 Page.dv w.heap.P (by(simp[noWork,noHeap, *];omega)) (Fl 19 idv w.T (FiG 29 (Ld (0<(w.T.length:Int))) ((w.T.length:Int)-1) (FeGq 30 (Ld (0<(w.T.length:Int))) idv w.T ((w.T.length:Int)-1) (FmGq 34 (Ld (0<(w.T.length:Int))) Page.dv w.heap.P (w.T.getD ((w.T.length:Int)-1).toNat L) (FiG 36 (Ld (0<(w.T.length:Int))) ((w.heap.P.getD (w.T.getD ((w.T.length:Int)-1).toNat L).toNat L).U+n) (Ffb 42 (Ld (0<(w.T.length:Int))&&Ld ((w.heap.P.getD (w.T.getD ((w.T.length:Int)-1).toNat L).toNat L).U+n<=w.heap.C.pw)) (Fc 52 (@Z5o w.heap.P (1) oq) (Ftb 54 (Ld (first w.heap.P (1:Int)<0)) (Fnl (Fnl (Fnl (Fnl (Fnl Fz))))))))))))))
end Go.Proofs.YtgedmeaemofdkaaGreat
