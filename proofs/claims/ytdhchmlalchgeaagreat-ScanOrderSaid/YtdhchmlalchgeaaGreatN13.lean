/-
 The statement ScanOrder: part 13.
 Conditions: none.
-/
import Derived.RangeFuncFrom
import Derived.RangeFuncLeaves
import Derived.Test.YtdhchmlalchgeaaGreatN12
set_option maxRecDepth 100000
set_option maxHeartbeats 2000000
set_option linter.all false
open Option renaming some->M,none->Ld
open Inhabited renaming default->O
open Bool renaming true->La,false->Lb,and_eq_true->LA
open List renaming map->Lc,replicate->Lf,mem_cons->Lj,take->Lk,getD_eq_getElem?_getD->Lm,mem_of_getElem?->Ln,not_mem_nil->Lo,length_map->Lp,getElem?_eq_getElem->Lr,mem_map->Ls,all_eq_true->Lx,map_append->Ly,drop->LB,map_take->LC,mem_replicate->LD,range->LF,append_nil->LI,getElem?_eq_some_iff->LL,map_drop->LM,map_set->LN,mem_append->LO,filter_append->L1,filter_eq_self->L2,getElem?_append->L3,getElem?_of_mem->L4,length_cons->L5,length_replicate->L6,map_cons->L7,map_nil->L8,mem_iff_getElem?->L9,mem_range->Xa,pairwise_iff_getElem->Xb,take_succ->Xc
open Decidable renaming decide->Le
open Go.World renaming putObj_heap_other->Lg,putObj_heap_same->Lq,putObj_size->Lz,cell?->Xh,setRow->Xi
open Array renaming getElem?_eq_some_iff->Lh,ext->LG,getElem?_append->LS,getElem?_eq_getElem->LU,replicate->LV
open Go.Fence renaming wide->Li
open Go.Obj renaming loop->Ll
open Nat renaming le_refl->Lt,beq->LQ,lt_of_lt_of_le->LR,le_trans->Xd,lt_or_ge->Xe,mul_le_mul_right->Xf
open Option.some renaming injEq->Lu
open Go.Value renaming int->Lv,slice->Xg
open Go.IntKind renaming u32->Lw,i64->L0
open Int renaming toNat_natCast->LH,add_mul->LW,one_mul->LY,toNat->LZ
open Go.Proofs.Tryz
namespace Go.Sx
open Go.RowKit
def Zd4{P:Program}{clk:Nat}{ops:Array Oper}{hints:List (Nat×List Hint)}{o:Oper}{t:List AV}{H:Heap}{x:Out}(h:Z8H P clk ops hints o t H=M x):∀ c,o.op≠.defer c:=by
 intro c hc;unfold Z8H Z2R Z2J act at h;rw[hc]at h;simp only at h;split at h
 .rename_i k hk;split at hk
  .cases hk
  .split at hk
   .split at hk
    .cases hk
    .cases hk
   .split at hk
    .cases hk
    .split at hk
     .cases hk
     .cases hk
 .cases h
def fen(ro:Option Nat):Fence := { Li with round:=ro }
def Z3l{P:Program}{ro:Option Nat}{n:Nat}{o:Oper}{a:Act}{w:World}{next:Act->World->Prop}{Q:Exit->Act->World->Prop}(hd:∀ c,o.op≠.defer c)(h:o.wp P a w next Q):o.wpIn (fen ro) n P a w next Q:=by
 refine⟨λ_ _=>trivial, ?_⟩;rw[Oper.semAt_eq _ _ _ hd];unfold Oper.wp at h;generalize (execOp a.eval o).run P w=r at h ⊢;cases r with
 | ok x w' =>
  cases x with
  | value v=>exact h
  | skip=>exact h
  | defer d=>exact h
  | enter f args=>exact⟨λh=>(by cases h),callsIn_wide.2 h⟩
  | row s args=>exact⟨λh=>(by cases h),λc cs _=>let ⟨v,w2,q,r⟩:=h c cs;⟨v,w2,q,stepsIn_wide.2 r⟩⟩
  | _=>exact h.elim
 | halt e w' =>
  cases e with
  | panic v=>exact h
  | _=>exact h.elim
def Z3U{P:Program}{Ow:Own}{Im0:Nat->Prop}{w0:World}{clk:Nat}{hints:List (Nat×List Hint)}{ops:Array Oper}{Q:Exit->Act->World->Prop}{ro:Option Nat}{n:Nat}{l2:List Nat}:∀ {l:List Nat} {tmps:List AV} {H:Heap} {a:Act} {w:World} {out:Out},
  Z70 P clk ops hints l tmps H=M out->Sys Ow Im0 w0 tmps H clk a w->allP out.ph->EqP out.eq->(∀ a' w',Sys Ow Im0 w0 out.tmps out.H clk a' w'->wpOpsIn (fen ro) n P ops Q l2 a' w')->wpOpsIn (fen ro) n P ops Q (l++l2) a w
 | [],tmps,H,a,w,out,h,hS,_,_,hQ=>by
  simp only[Z70,Lu]at h;subst h;exact hQ a w hS
 | i::l,tmps,H,a,w,out,h,hS,hph,heq,hQ=>by
  simp only[Z70]at h;split at h
  .cases h
  rename_i o ho;split at h
  .cases h
  rename_i x hx;split at h
  .cases h
  rename_i y hy;cases h;obtain⟨p1,p2⟩:=allP_append.1 hph;have key:=Z8z (next:=wpOpsIn (fen ro) n P ops Q (l++l2)) (Q:=Q) hx hS p1 heq.left λa' w' hS'=>Z3U hy hS' p2 heq.right hQ;simp only[List.cons_append,wpOpsIn,ho];split
  .exact Z3l (Zd4 hx) (key.1 aa)
  .rename_i hw;exact⟨λ_ _=>trivial,key.2 ((Bool.not_eq_true _).mp hw)⟩
def Z6H{P:Program}{Ow:Own}{Im0:Nat->Prop}{w0:World}{clk:Nat}{hints:List (Nat×List Hint)}{ops:Array Oper}{Q:Exit->Act->World->Prop}{ro:Option Nat}{n:Nat}{l:List Nat}{tmps:List AV}{H:Heap}{a:Act}{w:World}{out:Out}
  (h:Z70 P clk ops hints l tmps H=M out) (hS:Sys Ow Im0 w0 tmps H clk a w) (hph:allP out.ph) (heq:EqP out.eq) (hQ:∀ a' w',Sys Ow Im0 w0 out.tmps out.H clk a' w'->Q .normal a' w'):wpOpsIn (fen ro) n P ops Q l a w:=by
 have:=Z3U (ro:=ro) (n:=n) (Q:=Q) (l2:=[]) h hS hph heq hQ;rwa [LI]at this
def Zcj:Code->Bool
 | .skip=>La
 | .region _ _ d=>!d
 | .seq x y=>Zcj x&&Zcj y
 | .cond _ x y=>Zcj x&&Zcj y
 | .block _ c=>Zcj c
 | .exit _=>La
 | .ret=>La
 | _=>Lb
def CIn(P:Program)(c:Code)(s:St)(e:Ex)(t:St):Prop :=
 ∀ (ro:Option Nat) (n:Nat) (Ow:Own) (Im0:Nat->Prop) (w0:World) (a:Act) (w:World),Sys Ow Im0 w0 s.tmps s.H s.clk a w->c.wpIn (fen ro) n P (λe' a' w'=>e'=e.exit/\Sys Ow Im0 w0 t.tmps t.H t.clk a' w') a w
theorem ZnN{P:Program}{hints:List (Nat×List Hint)}:∀ {c:Code} {s:St} {r:Run},Zcj c=true→runC P hints [] c s=some r→allP r.ph→EqP r.eq→CIn P c s r.e r.s:=by
 intro c;induction c with
 | skip=>intro s r _ h _ _ ro n Ow Im0 w0 a w hS;simp only[runC,Option.some.injEq]at h;subst h;exact wpIn_skip ⟨rfl,hS⟩
 | region m ops dr =>
  intro s r hf h hph heq ro n Ow Im0 w0 a w hS;cases dr with
  | true=>cases hf
  | false =>
   simp only[runC]at h;split at h;rotate_left
   ·cases h
   rename_i x hx;cases h;exact wpIn_region (Z6H hx hS hph heq fun a' w' hS'=>⟨rfl,hS'.clk pq⟩)
 | seq x y ihx ihy =>
  intro s r hf h hph heq ro n Ow Im0 w0 a w hS;simp only[Zcj,Bool.and_eq_true]at hf;simp only[runC]at h;split at h
  ·cases h
  rename_i q hq;split at h
  ·rename_i he;split at h;rotate_left
   ·cases h
   rename_i q2 hq2;cases h;obtain⟨p1,p2⟩:=allP_append.1 hph;refine wpIn_seq (wpIn_mono (ihx hf.1 hq p1 heq.left ro n Ow Im0 w0 a w hS) ?_);rintro e a' w' ⟨rfl,hS'⟩;rw[he];exact ihy hf.2 hq2 p2 heq.right ro n Ow Im0 w0 a' w' hS'
  ·rename_i he;cases h;refine wpIn_seq (wpIn_mono (ihx hf.1 hq hph heq ro n Ow Im0 w0 a w hS) ?_);rintro e a' w' ⟨rfl,hS'⟩;cases hqe:q.e with
   | nrm=>exact absurd hqe he
   | ext n=>exact⟨rfl,hS'⟩
   | ret=>exact⟨rfl,hS'⟩
 | cond c x y ihx ihy =>
  intro s r hf h hph heq ro n Ow Im0 w0 a w hS;simp only[Zcj,Bool.and_eq_true]at hf;simp only[runC]at h;split at h
  ·cases h
  rename_i b hb;have hv:a.eval c = .bool b:=by
   obtain⟨ρ,Im,I,T⟩:=hS;have:=Z1E T c;rw[Z8s hb]at this;exact Z15 this
  split at h
  ·split at h;rotate_left
   ·cases h
   rename_i q hq;cases h;obtain⟨p1,p2⟩:=allP_cons.1 hph;exact wpIn_cond_true (by rw[hv,p1]) (ihx hf.1 hq p2 heq ro n Ow Im0 w0 a w hS)
  ·split at h;rotate_left
   ·cases h
   rename_i q hq;cases h;obtain⟨p1,p2⟩:=allP_cons.1 hph;exact wpIn_cond_false (by rw[hv,p1]) (ihy hf.2 hq p2 heq ro n Ow Im0 w0 a w hS)
  ·split at h
   ·exact wpIn_cond_true hv (ihx hf.1 h hph heq ro n Ow Im0 w0 a w hS)
   ·exact wpIn_cond_false hv (ihy hf.2 h hph heq ro n Ow Im0 w0 a w hS)
 | block m c ih =>
  intro s r hf h hph heq ro n Ow Im0 w0 a w hS;simp only[runC,Zk2]at h;split at h
  ·cases h
  rename_i q hq;refine wpIn_block ?_;split at h
  ·rename_i k hm;split at h
   ·rename_i hmn;cases h;refine wpIn_mono (ih hf hq hph heq ro n Ow Im0 w0 a w hS) ?_;rintro e a' w' ⟨rfl,hS'⟩;rw[hm];simp only[Ex.exit,Exit.inBlock,hmn,if_true];exact⟨by trivial,hS'⟩
   ·rename_i hmn;cases h;refine wpIn_mono (ih hf hq hph heq ro n Ow Im0 w0 a w hS) ?_;rintro e a' w' ⟨rfl,hS'⟩;rw[hm];simp only[Ex.exit,Exit.inBlock,hmn,if_false];exact⟨by trivial,hS'⟩
  ·rename_i hne;cases h;refine wpIn_mono (ih hf hq hph heq ro n Ow Im0 w0 a w hS) ?_;rintro e a' w' ⟨rfl,hS'⟩;cases hqe:r.e with
   | nrm=>exact⟨rfl,hS'⟩
   | ext k=>exact absurd hqe (hne k)
   | ret=>exact⟨rfl,hS'⟩
 | exit n=>intro s r _ h _ _ ro n Ow Im0 w0 a w hS;simp only[runC,Option.some.injEq]at h;subst h;exact wpIn_exit ⟨rfl,hS⟩
 | ret=>intro s r _ h _ _ ro n Ow Im0 w0 a w hS;simp only[runC,Option.some.injEq]at h;subst h;exact wpIn_ret ⟨rfl,hS⟩
 | _=>intro s r hf;cases hf
def ZbB{P:Program}(hints:List (Nat×List Hint))(ren:List (Nat×Nat))(fl:List Bool){c:Code}{s:St}{e:Ex}{t:Tg}{φ:Prop}(hφ:φ)
  (h1:oblE fl (runToR P hints [] ren c s t)=φ) (h2:lefE fl (runToR P hints [] ren c s t)=rigE fl (runToR P hints [] ren c s t)) (h3:exO (runToR P hints [] ren c s t)=M e) (hfl:Zcj c=La):CIn P c s e t.st:=by
 rw[<- h1]at hφ;obtain⟨k1,k2⟩:=Z5o hφ h2;cases hr:runToR P hints [] ren c s t with
 | none=>rw[hr]at k1;exact k1.elim
 | some r =>
  rw[hr]at k1 k2 h3;have heq:EqP r.eq:=Z9l k2;have he:r.e=e:=by simpa[exO]using h3
  unfold runToR at hr;split at hr
  .cases hr
  rename_i q hq;split at hr
  .cases hr
  rename_i s' hs';split at hr;rotate_left
  .cases hr
  rename_i l hl;cases hr;intro ro n Ow Im0 w0 a w hS;refine wpIn_mono (ZnN hfl hq k1 heq.left ro n Ow Im0 w0 a w hS) ?_;rintro e' a' w' ⟨rfl,hS'⟩;exact⟨by rw[<- he],ZgO hl heq.right (ZbP hs' hS')⟩
def hasR(k:Nat):Code->Bool
 | .region n _ _=>LQ n k
 | .seq x y=>hasR k x||hasR k y
 | .cond _ x y=>hasR k x||hasR k y
 | .block _ c=>hasR k c
 | .loop c=>hasR k c
 | _=>Lb
def cutAt(k:Nat):Code->Code
 | .region _ _ _=>.exit 99999
 | .seq x y=>match hasR k x with
  | true=>cutAt k x
  | false=>.seq x (cutAt k y)
 | .cond c x y=>match hasR k x with
  | true=>.cond c (cutAt k x) .skip
  | false=>.cond c .skip (cutAt k y)
 | .block n c=>.block n (cutAt k c)
 | c=>c
def noX:Code->Bool
 | .seq x y=>noX x&&noX y
 | .cond _ x y=>noX x&&noX y
 | .block _ c=>noX c
 | .exit n=>!Nat.beq n 99999
 | _=>La
def okH(k:Nat):Code->Bool
 | .region n _ _=>LQ n k
 | .seq x y=>match hasR k x with
  | true=>okH k x
  | false=>noX x&&okH k y
 | .cond _ x y=>match hasR k x with
  | true=>okH k x
  | false=>okH k y
 | .block n c=>!Nat.beq n 99999&&okH k c
 | _=>Lb
def rest(P:Program)(n k:Nat):Code→(Exit→Act→World→Prop)→Act→World→Prop
 | .seq x y,Q=>match hasR k x with
  | true=>rest P n k x (Exit.then (y.wpIn Fence.wide n P Q) Q)
  | false=>rest P n k y Q
 | .cond _ x y,Q=>match hasR k x with
  | true=>rest P n k x Q
  | false=>rest P n k y Q
 | .block m c,Q=>rest P n k c (Exit.inBlock m Q)
 | c,Q=>c.wpIn Fence.wide n P Q
def ZnK{P:Program}{hints:List (Nat×List Hint)}:∀ {c:Code} {s:St} {r:Run},noX c=La->runC P hints [] c s=M r->r.e≠.ext 99999:=by
 intro c;induction c with
 | region m ops dr =>
  intro s r _ h;simp only[runC]at h;split at h
  .cases h;simp
  .cases h
 | seq x y ihx ihy =>
  intro s r hf h;simp only[noX,LA]at hf;simp only[runC]at h;split at h
  .cases h
  rename_i q hq;split at h
  .split at h;rotate_left
   .cases h
   rename_i q2 hq2;cases h;have:=ihy hf.2 hq2;exact this
  .cases h;exact ihx hf.1 hq
 | cond c x y ihx ihy =>
  intro s r hf h;simp only[noX,LA]at hf;simp only[runC]at h;split at h
  .cases h
  split at h
  .split at h;rotate_left
   .cases h
   rename_i q hq;cases h;have:=ihx hf.1 hq;exact this
  .split at h;rotate_left
   .cases h
   rename_i q hq;cases h;have:=ihy hf.2 hq;exact this
  .split at h
   .exact ihx hf.1 h
   .exact ihy hf.2 h
 | block m c ih =>
  intro s r hf h;simp only[runC,Zk2]at h;split at h
  .cases h
  rename_i q hq;have:=ih hf hq;split at h
  .split at h
   .cases h;simp
   .cases h;exact this
  .cases h;exact this
 | exit n =>
  intro s r hf h;simp only[runC,Lu]at h;subst h;intro e;cases e;cases hf
 | skip=>intro s r _ h;simp only[runC,Lu]at h;subst h;simp
 | label n=>intro s r _ h;simp only[runC,Lu]at h;subst h;simp
 | ret=>intro s r _ h;simp only[runC,Lu]at h;subst h;simp
 | _=>intro s r _ h;simp[runC]at h
def ZpM{P:Program}{hints:List (Nat×List Hint)}{k n:Nat}:∀ {c:Code} {s:St} {r:Run},okH k c=La->runC P hints [] (cutAt k c) s=M r->allP r.ph->EqP r.eq->r.e = .ext 99999 ->
  ∀ (Q:Exit->Act->World->Prop) (Ow:Own) (Im0:Nat->Prop) (w0:World) (a:Act) (w:World),Sys Ow Im0 w0 s.tmps s.H s.clk a w->(∀ a' w',Sys Ow Im0 w0 r.s.tmps r.s.H r.s.clk a' w'->rest P n k c Q a' w')->c.wpIn Li n P Q a w:=by
 intro c;induction c with
 | region m ops dr =>
  intro s r _ h _ _ _ Q Ow Im0 w0 a w hS hr;simp only[cutAt,runC,Lu]at h;subst h;exact hr a w hS
 | seq x y ihx ihy =>
  intro s r hf h hph heq he Q Ow Im0 w0 a w hS hr;simp only[okH]at hf;simp only[cutAt]at h;simp only[rest]at hr;cases hx:hasR k x with
  | true =>
   rw[hx]at hf h hr;exact wpIn_seq (ihx hf h hph heq he _ Ow Im0 w0 a w hS hr)
  | false =>
   rw[hx]at hf h hr;simp only[LA]at hf;simp only[runC]at h;split at h
   .cases h
   rename_i q hq;split at h
   .rename_i hqe;split at h;rotate_left
    .cases h
    rename_i q2 hq2;cases h;obtain⟨p1,p2⟩:=allP_append.1 hph;refine wpIn_seq (wpIn_mono (wpIn_wide.2 (Z8S hq p1 heq.left Ow Im0 w0 a w hS)) ?_);rintro e a' w' ⟨rfl,hS'⟩;rw[hqe];exact ihy hf.2 hq2 p2 heq.right he Q Ow Im0 w0 a' w' hS' hr
   .cases h;exact absurd he (ZnK hf.1 hq)
 | cond c x y ihx ihy =>
  intro s r hf h hph heq he Q Ow Im0 w0 a w hS hr;simp only[okH]at hf;simp only[cutAt]at h;simp only[rest]at hr;have hv:∀ {b:Bool},asB (ev s.tmps c)=M b->a.eval c = .bool b:=λhb=>by
   obtain⟨ρ,Im,I,T⟩:=hS;have:=Z1E T c;rw[Z8s hb]at this;exact Z15 this
  cases hx:hasR k x with
  | true =>
   rw[hx]at hf h hr;simp only[runC]at h;split at h
   .cases h
   rename_i b hb;split at h
   .split at h;rotate_left
    .cases h
    rename_i q hq;cases h;obtain⟨p1,p2⟩:=allP_cons.1 hph;exact wpIn_cond_true (by rw[hv hb,p1]) (ihx hf hq p2 heq he Q Ow Im0 w0 a w hS hr)
   .cases h;cases he
   .split at h
    .exact wpIn_cond_true (hv hb) (ihx hf h hph heq he Q Ow Im0 w0 a w hS hr)
    .cases h;cases he
  | false =>
   rw[hx]at hf h hr;simp only[runC]at h;split at h
   .cases h
   rename_i b hb;split at h
   .cases h;cases he
   .split at h;rotate_left
    .cases h
    rename_i q hq;cases h;obtain⟨p1,p2⟩:=allP_cons.1 hph;exact wpIn_cond_false (by rw[hv hb,p1]) (ihy hf hq p2 heq he Q Ow Im0 w0 a w hS hr)
   .split at h
    .cases h;cases he
    .exact wpIn_cond_false (hv hb) (ihy hf h hph heq he Q Ow Im0 w0 a w hS hr)
 | block m c ih =>
  intro s r hf h hph heq he Q Ow Im0 w0 a w hS hr;simp only[okH,LA]at hf;simp only[cutAt,runC,Zk2]at h;simp only[rest]at hr;split at h
  .cases h
  rename_i q hq;refine wpIn_block ?_;split at h
  .split at h
   .cases h;cases he
   .cases h;exact ih hf.2 hq hph heq he _ Ow Im0 w0 a w hS hr
  .cases h;exact ih hf.2 hq hph heq he _ Ow Im0 w0 a w hS hr
 | _=>intro s r hf;cases hf
def ZeC(P:Program)(k:Nat)(c:Code)(s t:St):Prop :=
 ∀ (n:Nat) (Q:Exit->Act->World->Prop) (Ow:Own) (Im0:Nat->Prop) (w0:World) (a:Act) (w:World),Sys Ow Im0 w0 s.tmps s.H s.clk a w->(∀ a' w',Sys Ow Im0 w0 t.tmps t.H t.clk a' w'->rest P n k c Q a' w')->c.wpIn Li n P Q a w
def Z5W{P:Program}(hints:List (Nat×List Hint))(ren:List (Nat×Nat))(fl:List Bool){k:Nat}{c:Code}{s:St}{t:Tg}{φ:Prop}(hφ:φ)
  (h1:oblE fl (runToR P hints [] ren (cutAt k c) s t)=φ) (h2:lefE fl (runToR P hints [] ren (cutAt k c) s t)=rigE fl (runToR P hints [] ren (cutAt k c) s t)) (h3:exO (runToR P hints [] ren (cutAt k c) s t)=M (.ext 99999)) (hfl:okH k c=La):ZeC P k c s t.st:=by
 rw[<- h1]at hφ;obtain⟨k1,k2⟩:=Z5o hφ h2;cases hr:runToR P hints [] ren (cutAt k c) s t with
 | none=>rw[hr]at k1;exact k1.elim
 | some r =>
  rw[hr]at k1 k2 h3;have heq:EqP r.eq:=Z9l k2;have he:r.e = .ext 99999:=by simpa[exO]using h3
  unfold runToR at hr;split at hr
  .cases hr
  rename_i q hq;split at hr
  .cases hr
  rename_i s' hs';split at hr;rotate_left
  .cases hr
  rename_i l hl;cases hr;intro n Q Ow Im0 w0 a w hS hrr;exact ZpM hfl hq k1 heq.left he Q Ow Im0 w0 a w hS λa' w' hS'=>hrr a' w' (ZgO hl heq.right (ZbP hs' hS'))
def ZcY(k:Nat):Code->Option (Array Oper)
 | .region n ops _=>match LQ n k with
  | true=>M ops
  | false=>Ld
 | .seq x y=>match ZcY k x with
  | some o=>M o
  | none=>ZcY k y
 | .cond _ x y=>match ZcY k x with
  | some o=>M o
  | none=>ZcY k y
 | .block _ c=>ZcY k c
 | .loop c=>ZcY k c
 | _=>Ld
def rgO(fn:Func)(k:Nat):Array Oper:=match fn.body with
 | some c=>match ZcY k c with
  | some o=>o
  | none => #[]
 | none => #[]
def Zqk{s:St}{t:Tg}(h1:(wk s t).isSome=La)(h2:((wk s t).getD []).map (·.1)=((wk s t).getD []).map (·.2)){Ow:Own}{Im0:Nat->Prop}{w0:World}{a:Act}{w:World}(S:Sys Ow Im0 w0 s.tmps s.H s.clk a w):Sys Ow Im0 w0 t.st.tmps t.st.H t.st.clk a w:=by
 cases h:wk s t with
 | none=>rw[h]at h1;cases h1
 | some l=>rw[h]at h2;exact ZgO h (Z9l h2) S
def Z6O{ρ:Rho}{w:World}{Im Im2:Nat->Prop}{k t:Nat}{e:List DV}{v:Value}{β:Bi}(hβ:ρ k=M β)(r:RelB ρ w Im β (.box t (e.map .d)))(hv:Rel ρ w Im (.pt k 0 0) v)(hi:∀ g,Im g->Im2 g)(hg:∀ g,β.g=M g->Im2 g):Rel (λ_=>Ld) w Im2 (.rp e 0) v:=by
 obtain⟨g,s,n,k1,rfl⟩:=Z2U hv;rw[hβ]at k1;cases k1;obtain⟨r1,r2,g2,cs,r3,r4,r5,r6,r7⟩:=r;cases r3;have:=@Rel.rp (λ_=>Ld) w Im2 e 0 ⟨g,0,Ld⟩ rfl (hg _ rfl) (λj y hy=>by
  have hj:j<e.length:=(LL.1 hy).1;have hc:j<cs.size:=by rw[r5];simpa using hj
  have h1:cs[j]? = M cs[j]:=LU hc;have h2:=r7 j (.d y) cs[j] (by simp[hy]) h1;refine⟨cs[j], ?_, ?_⟩
  .simp only[Xh,r4];simpa using h1
  .cases h2 with
   | d h2=>exact h2.mono (Ext.refl _ _) hi)
 simpa using this
def Kept.no{w0 w:World}(h:Kept (OwA Z4z) w0 w):Kept (λ_=>False) w0 w:=h.imp λ_ q=>q.no
def Inv.empty{w:World}{Im:Nat->Prop}{clk:Nat}(hI:∀ g,Im g->g<w.heap.size)(hc:1<=clk):Inv Z4z Im w (λ_=>Ld) w Im (hOf []) clk:=by
 refine⟨Kept.refl _ _, ?_, ?_, ?_, ?_,hI,λ_ h=>.inl h, ?_,λ_ _ _=>rfl,hc,λb β _ h=>nomatch h⟩
 .intro b b' β β' g _ _ h;cases h
 .intro b β g _ h;cases h
 .intro b β g h;cases h
 .intro b β g h;cases h
 .intro b B h;cases h
def RelT.reSet{D:List Deferred}{ρ:Rho}{w:World}{Im:Nat->Prop}{tmps:List AV}{a:Act}(T:RelT D ρ w Im tmps a)(t:Nat)(y:AV)(h:∀ v,a.tmps[t]? = M v->Rel ρ w Im y v):RelT D ρ w Im (tmps.set t y) a:=by
 refine⟨by simp[T.size],λi x v h1 h2=>?_,T.defers⟩;rw[List.getElem?_set]at h1;by_cases hi:t=i
 .subst hi;simp only[if_true]at h1;split at h1
  .cases h1;exact h v h2
  .cases h1
 .simp only[hi,if_false]at h1;exact T.tmp i x v h1 h2
def RelT.pure{D:List Deferred}{ρ:Rho}{w:World}{Im:Nat->Prop}{tmps:List AV}{a:Act}(T:RelT D ρ w Im tmps a)(h:tmps.all (ZjJ [])=La):RelT D (λ_=>Ld) w Im tmps a :=
 ⟨T.size,λi x v h1 h2=>Zdc (ids:=[]) (λb hb=>by simp at hb) (T.tmp i x v h1 h2) (Lx.1 h _ (Ln h1)),T.defers⟩
def Zg4{P:Program}{n l:Nat}{o:Oper}{f x y:Operand}{ts:Array Nat}{a:Act}{w:World}{next:Act->World->Prop}{Q:Exit->Act->World->Prop}{args:Array Value}{R:Ending->World->Prop}(ho:o.op = .call ⟨.value f,#[x,y],ts⟩)
  (hf:a.eval f = .func (.yield l) #[] #[]) (hx : #[a.eval x,a.eval y]=args) (hY:YieldAt Li n P l args w R) (hn:∀ e w',R e w'->∃ v,e = .returned v/\next (a.put o.dst v) w'):o.wpIn Li (n+1) P a w next Q:=by
 obtain⟨fn,t,s,b,h1,h2⟩:=hY;refine⟨λ_ _=>trivial, ?_⟩;have hrun:(o.semAt Li.round a.eval).run P w = .ok (.round l fn t s b) w:=by
  rw[show Li.round=Ld from rfl,Oper.semAt_none];simp[execOp,ho,resolve,hf,Deferred.ofValue,invoke,hx,h1]
 rw[hrun,Oper.uponIn_round];refine⟨λh=>(by cases h),h2.mono ?_⟩;rintro e w' hR;obtain⟨v,rfl,hv⟩:=hn e w' hR;exact hv
end Go.Sx
namespace Go.Proofs.YtdhchmlalchgeaaGreat
open Go.Sx
structure Found where
 addr:Int
 hd:Header
 deriving DecidableEq,Inhabited
def Found.dv(f:Found):List DV:=[.sc (.int .u64 f.addr),.sc (.int .i64 f.hd.K),.sc (.int .i64 f.hd.length),.sc (.int .u32 f.hd.map)]
def Found.av(f:Found):AV:=.ag [u64 f.addr,int f.hd.K,int f.hd.length,u32 f.hd.map]
def asgF(fn:Func)(n:Nat):Code:=match blkF fn n with
 | .block _ (.rangeFunc _ _ x _)=>x
 | _=>.skip
def bodF(fn:Func)(n:Nat):Code:=match blkF fn n with
 | .block _ (.rangeFunc _ _ _ x)=>x
 | _=>.skip
def lstH(pre:List Found):List (Nat×Blk):=[(8020,.arr 188 4 (pre.map Found.dv)),(6,.box 182 [.ow 8020])]
def lst1(pre:List Found)(x:Found):Tg:=⟨tm 22 [(6,.pt 6 0 0),(12,x.av),(13,int 0)],lstH pre,20⟩
def lst2(pre:List Found)(x:Found):Tg:=⟨tm 22 [(6,.pt 6 0 0),(7,.pt 160007 0 0),(8,int 0)],(160007,.box 188 [u64 x.addr,int x.hd.K,int x.hd.length,u32 x.hd.map])::lstH pre,30⟩
def lstA(pre:List Found)(x:Found):CIn prog (asgF f171 0) (lst1 pre x).st .nrm (lst2 pre x).st:=by
 refine ZbB [] [] [] (φ:=True) ?_ kr kr kr kr;exact trivial
def lstB(pre:List Found)(x:Found)(hl:pre.length<=1000):CIn prog (bodF f171 0) (lst2 pre x).st .nrm (Tg.st ⟨tm 22 [(6,.pt 6 0 0),(20,.ow 8020)],lstH (pre++[x]),60⟩):=by
 refine ZbB [((19:Nat),[Hint.els (Lc Found.dv [x])]),((20:Nat),[Hint.els (Lc Found.dv (pre++[x]))])] [((248020:Nat),(8020:Nat))] [] (φ:=(Lf (1:Nat) [du64 (0:Int),dint (0:Int),dint (0:Int),DV.sc (Lv Lw (0:Int))]).set ((0:Nat),Operand.tmp (18:Nat)).1 [du64 x.addr,dint x.hd.K,dint x.hd.length,DV.sc (Lv Lw x.hd.map)]=Lc Found.dv [x]/\(Lc Found.dv pre).length+(Lc Found.dv [x]).length<=(2:Nat)^(30:Nat)/\Lc Found.dv pre++Lc Found.dv [x]=Lc Found.dv (pre++[x])) ?_ kr kr kr kr;exact⟨rfl,(by(simp[*];omega)),(by simp[LC,LM,LN,Ly,wdv,idv])⟩
def Z2p(l:Nat):Value:=.func (.yield l) #[] #[]
def Z1U(h:Heap)(i:Int):Nat->Int->List Found×Bool
 | 0,_=>([],La)
 | f+1,o=>if o<(pg h i).U then(if(address h.C i o).2=0/\(atH h (adr h i o)).2=0 then(⟨adr h i o,(atH h (adr h i o)).1⟩::(Z1U h i f (o+sizeH (atH h (adr h i o)).1)).1,(Z1U h i f (o+sizeH (atH h (adr h i o)).1)).2)else([],Lb))else([],La)
def bdyF(fn:Func):Code:=match fn.body with
 | some c=>c
 | none=>.skip
def inE(h:Heap)(l:Nat)(i:Int):Tg:=⟨tm 58 [(0,.d (.sc (Z2p l))),(1,.rp h.dvs 0),(2,.rp [dint i] 0)],[],1⟩
def inP(h:Heap)(l:Nat)(i:Int):Tg:=⟨tm 58 [(0,.d (.sc (Z2p l))),(1,.rp h.dvs 0),(2,.rp [dint i] 0),(4,.pt 8004 0 0)],[(8004,.box 84 [int (pg h i).K,int (pg h i).S,int (pg h i).U,int (pg h i).N])],20⟩
def ZpY(h:Heap)(l:Nat)(i:Int)(hi:0<=i/\i<h.P.length)(hk:(pg h i).K=1\/(pg h i).K=2):ZeC prog 2 (bdyF f205) (inE h l i).st (inP h l i).st:=by
 unfold inP inE pg;unfold pg at hk;refine Z5W [((13:Nat),[Hint.el (h.P.getD i.toNat O).dv]),((22:Nat),[Hint.br Lb])] [] [] (φ:=((0:Int)<=i/\(Lc Page.dv h.P)[i.toNat]? = M (h.P.getD i.toNat O).dv)/\((h.P.getD i.toNat O).K != (1:Int)&&(h.P.getD i.toNat O).K != (2:Int))=Lb/\Lb=Lb) ?_ kr kr kr kr;exact⟨(by exact elI oq oq oq),(by(simp only[bs];omega)),rfl⟩
def Zqn(h:Heap)(l:Nat)(i:Int)(hi:0<=i/\i<h.P.length)(hk:¬ ((pg h i).K=1\/(pg h i).K=2)):CP (bdyF f205) (inE h l i).st .ret (Tg.st ⟨tm 58 [],[],20⟩):=by
 unfold inE;unfold pg at hk;exact sF [] [] (Fe 13 Page.dv h.P i (Ftb 22 ((h.P.getD i.toNat O).K != 1&&(h.P.getD i.toNat O).K != 2) Fz))
def inS(h:Heap)(l:Nat)(i o:Int):Tg:=⟨tm 58 [(0,.d (.sc (Z2p l))),(1,.rp h.dvs 0),(2,.rp [dint i] 0),(4,.rp (pg h i).dv 0),(5,int o)],[],20⟩
def inT(h:Heap)(l:Nat)(i o:Int)(a:Int)(hd:Header):Tg:=⟨tm 58 [(0,.d (.sc (Z2p l))),(1,.rp h.dvs 0),(2,.rp [dint i] 0),(4,.rp (pg h i).dv 0),(5,int o),(6,u64 a),(8,.pt 184008 0 0)],[(184008,.box 52 [int hd.K,int hd.length,u32 hd.map])],30⟩
section
variable (h:Heap) (l:Nat) (i o:Int) (hw:WOk h.W) (hp:Z02 h=La) (ho:0<=o/\o<=1000)
include hw hp ho
theorem ZpZ(h1:o<(pg h i).U)(h2:(address h.C i o).2=0)(h3:(atH h (adr h i o)).2=0):ZeC prog 9 (rndF f205 0) (inS h l i o).st (inT h l i (o+sizeH (atH h (adr h i o)).1) (adr h i o) (atH h (adr h i o)).1).st:=by
 have po:=Z06 hp;have ar:=Z4w po.1 i o;have sz:=Z1d (atH h (adr h i o)).1;have hm:=Z3M hw (adr h i o);unfold adr at ar sz hm h3;refine Z5W [((26:Nat),[Hint.br La]),((32:Nat),[Hint.call La (Z0X h.C i o) []]),((36:Nat),[Hint.br La]),((40:Nat),[Hint.call La (AV.tu [(atH h (address h.C i o).1).1.av,int (atH h (address h.C i o).1).2]) []]),((44:Nat),[Hint.br La]),((47:Nat),[Hint.call La (int (sizeH (atH h (address h.C i o).1).1)) []]),((48:Nat),[Hint.int (o+sizeH (atH h (address h.C i o).1).1)])] [] [] (φ:=Le (o<(pg h i).U)=La/\La=La/\GP 177 [h.C.av,int i,int o] La (Z0X h.C i o) []/\((address h.C i o).2==(0:Int))=La/\La=La/\GP 111 [h.av,u64 (address h.C i o).1] La (AV.tu [(atH h (address h.C i o).1).1.av,int (atH h (address h.C i o).1).2]) []/\((atH h (address h.C i o).1).2==(0:Int))=La/\La=La/\GP 74 [(atH h (address h.C i o).1).1.av] La (int (sizeH (atH h (address h.C i o).1).1)) []/\L0.wrap (o+sizeH (atH h (address h.C i o).1).1)=o+sizeH (atH h (address h.C i o).1).1) ?_ kr kr kr kr;exact⟨(by(simp only[bs];omega)),rfl,(@Z46 (h.C) (i) (o)),(by(simp only[bs];omega)),rfl,(@Z4g (h) ((address h.C i o).1) aa oq),(by(simp only[bs];omega)),rfl,(@Z0S ((atH h (address h.C i o).1).1) aa),(by exact wrapI2 rfl oq oq)⟩
theorem Zqm(h1:o<(pg h i).U)(h2:¬ (address h.C i o).2=0):ZeC prog 10 (rndF f205 0) (inS h l i o).st (Tg.st ⟨tm 58 [(0,.d (.sc (Z2p l)))],[],30⟩):=by
 refine Z5W [((26:Nat),[Hint.br La]),((32:Nat),[Hint.call La (Z0X h.C i o) []]),((36:Nat),[Hint.br Lb])] [] [] (φ:=Le (o<(pg h i).U)=La/\La=La/\GP 177 [h.C.av,int i,int o] La (Z0X h.C i o) []/\((address h.C i o).2==(0:Int))=Lb/\Lb=Lb) ?_ kr kr kr kr;exact⟨(by(simp only[bs];omega)),rfl,(@Z46 (h.C) (i) (o)),(by(simp only[bs];omega)),rfl⟩
theorem ZqE(h1:o<(pg h i).U)(h2:(address h.C i o).2=0)(h3:¬ (atH h (adr h i o)).2=0):ZeC prog 10 (rndF f205 0) (inS h l i o).st (Tg.st ⟨tm 58 [(0,.d (.sc (Z2p l)))],[],30⟩):=by
 have po:=Z06 hp;have ar:=Z4w po.1 i o;unfold adr at ar h3;refine Z5W [((26:Nat),[Hint.br La]),((32:Nat),[Hint.call La (Z0X h.C i o) []]),((36:Nat),[Hint.br La]),((40:Nat),[Hint.call La (AV.tu [(atH h (address h.C i o).1).1.av,int (atH h (address h.C i o).1).2]) []]),((44:Nat),[Hint.br Lb])] [] [] (φ:=Le (o<(pg h i).U)=La/\La=La/\GP 177 [h.C.av,int i,int o] La (Z0X h.C i o) []/\((address h.C i o).2==(0:Int))=La/\La=La/\GP 111 [h.av,u64 (address h.C i o).1] La (AV.tu [(atH h (address h.C i o).1).1.av,int (atH h (address h.C i o).1).2]) []/\((atH h (address h.C i o).1).2==(0:Int))=Lb/\Lb=Lb) ?_ kr kr kr kr;exact⟨(by(simp only[bs];omega)),rfl,(@Z46 (h.C) (i) (o)),(by(simp only[bs];omega)),rfl,(@Z4g (h) ((address h.C i o).1) aa oq),(by(simp only[bs];omega)),rfl⟩
omit hw hp ho in
theorem Zr3(h1:(pg h i).U<=o):CP (rndF f205 0) (inS h l i o).st (.ext 0) (Tg.st ⟨tm 58 [],[],30⟩):=by
 exact sF [] [] (Ffb 26 (Le (o<(pg h i).U)) Fz)
end
end Go.Proofs.YtdhchmlalchgeaaGreat
namespace Go.Proofs.YtdhchmlalchgeaaGreat
open Go.Sx Go.RowKit
def flt1(ids bids:List Nat):AV->Bool
 | .pt b _ _=>memN b bids
 | .ow b=>memN b ids
 | .d (.sc _)=>La
 | .any=>La
 | _=>Lb
def fltB(ids bids:List Nat):Blk->Bool
 | .box _ l=>l.all (flt1 ids bids)
 | .arr .. => La
 | .dead=>Lb
def Z52:List (Nat×Blk)->List Nat
 | []=>[]
 | (b,.box ..)::l=>b::Z52 l
 | _::l=>Z52 l
def Z5L{b:Nat}:∀ {hl:List (Nat×Blk)},b∈Z52 hl->∃ ty cells,(b,Blk.box ty cells)∈hl
 | [],h=>by simp[Z52]at h
 | (c,.box ty cells)::l,h=>by
  simp only[Z52,Lj]at h;rcases h with rfl | h
  .exact⟨ty,cells,by simp⟩
  .obtain⟨ty,cells,h⟩:=Z5L h;exact⟨ty,cells,by simp[h]⟩
 | (c,.arr ..)::l,h=>by obtain⟨ty,cells,h⟩:=Z5L (hl:=l) h;exact⟨ty,cells,by simp[h]⟩
 | (c,.dead)::l,h=>by obtain⟨ty,cells,h⟩:=Z5L (hl:=l) h;exact⟨ty,cells,by simp[h]⟩
def Zgx{ρ ρ':Rho}{w Y:World}{Im:Nat->Prop}{ids bids:List Nat}{x:AV}{v:Value}(h:Rel ρ w Im x v)(hx:flt1 ids bids x=La)(hρ:∀ b∈bids,∀ β,ρ b=M β->ρ' b=M β)
  (ho:∀ b∈ids,∀ β,ρ b=M β->ρ' b=M β\/(ρ' b=M ⟨Ld,β.s,β.n⟩/\∀ g,β.g=M g->rows w g<β.s)) (hr:∀ g,rows Y g=rows w g):Rel ρ' Y (λ_=>False) x v:=by
 cases h with
 | pt h1=>exact .pt (hρ _ (memN_iff.1 hx) _ h1)
 | ow h1 h2 h3 h4 =>
  rename_i b c a β;rcases ho _ (memN_iff.1 hx) _ h1 with k | ⟨k,k'⟩
  .refine .ow k h2 h3 (h4.imp id λ⟨g,k1,k2,k3⟩=>⟨g,k1,k2, ?_⟩);rw[hr g];exact k3
  .refine Rel.ow (β:=⟨Ld,β.s,β.n⟩) k h2 h3 (.inl ?_);rcases h4 with h4 | ⟨g,k1,_,k3⟩
   .exact h4
   .have:=k' g k1;rcases Nat.eq_zero_or_pos c with h | h
    .exact h
    .have:=Xf β.s h;omega
 | any=>exact .any _
 | d h =>
  cases h with
  | sc _ h=>exact .d (.sc _ h)
  | _=>cases hx
 | _=>cases hx
def Zcb{ρ:Rho}{w:World}{Im:Nat->Prop}{β:Bi}{ty g:Nat}{cells:List AV}(h:RelB ρ w Im β (.box ty cells))(hg:β.g=M g):rows w g=cells.length:=by
 obtain⟨_,_,g',cs,h1,h2,h3,_⟩:=h;rw[hg]at h1;cases h1;simp[rows,h2,h3]
def Zle{ρ:Rho}{w:World}{Im:Nat->Prop}{β:Bi}{ty g s:Nat}{els:List (List DV)}(h:RelB ρ w Im β (.arr ty s els))(hg:β.g=M g):els.length*s<=rows w g:=by
 obtain⟨_,_,_,_,⟨h1,_⟩ | ⟨g',cs,h1,h2,h3,_⟩⟩:=h
 .rw[hg]at h1;cases h1
 .rw[hg]at h1;cases h1;simpa[rows,h2]using h3
def Znk{Ow:Sx.Own}{Im0:Nat->Prop}{w0 w:World}{tmps:List AV}{hl:List (Nat×Blk)}{clk clk':Nat}{a:Act}(S:Sx.Sys Ow Im0 w0 tmps (hOf hl) clk a w)(hT:tmps.all (flt1 (hl.map (·.1)) (Z52 hl))=La)(hB:hl.all (λp=>fltB (hl.map (·.1)) (Z52 hl) p.2)=La)(hN:(hl.map (·.1)).Nodup)
  (hF:∀ b ty s els,(b,Blk.arr ty s els)∈hl->Z0x els) {Y:World} {l:Nat} {r r':Loop} (hl0:w.heap[l]? = M (.loop r)) (hl1:Y.heap[l]? = M (.loop r')) (hY:Y.heap.size=w.heap.size) (hs:∀ g,g≠l->Y.heap[g]? = w.heap[g]?) (hc:1<=clk') :
  ∃ ρ:Rho,(∀ b β,ρ b=M β->b∈hl.map (·.1))/\(∀ b β g,ρ b=M β->β.g=M g->(w0.heap.size<=g/\8000<=b)\/OwA Ow g)/\(∀ b β g,ρ b=M β->β.g=M g->β.s<=rows Y g)/\Inv (ownR ρ) (λ_=>False) Y ρ Y (λ_=>False) (hOf hl) clk'/\RelT Ow.ds ρ Y (λ_=>False) tmps a/\Kept (OwA Ow) w0 w:=by
 obtain⟨ρ,Im,I,T⟩:=S;let ids:=hl.map (·.1);let ρ':Rho:=λb=>if memN b ids then(match ρ b with | Ld=>Ld | M β=>match β.g with | M g=>if rows w g<β.s then M ⟨Ld,β.s,β.n⟩else M β | Ld=>M β)else Ld;have hout:∀ b β,ρ' b=M β->b∈ids/\∃ κ,ρ b=M κ/\κ.s=β.s/\κ.n=β.n/\∀ g,β.g=M g->κ=β/\β.s<=rows w g:=by
  intro b β h;simp only[ρ']at h;split at h;rotate_left
  .cases h
  refine⟨memN_iff.1 aa, ?_⟩;split at h
  .cases h
  rename_i κ hκ;refine⟨κ,hκ, ?_⟩;split at h
  .rename_i g hg;split at h
   .cases h;exact⟨rfl,rfl,λg h=>by cases h⟩
   .cases h;exact⟨rfl,rfl,λg' h=>by rw[hg]at h;cases h;exact⟨rfl,by omega⟩⟩
  .rename_i hg;cases h;exact⟨rfl,rfl,λg' h=>by rw[hg]at h;cases h⟩
 have hin:∀ b∈ids,∀ β,ρ b=M β->ρ' b=M β\/(ρ' b=M ⟨Ld,β.s,β.n⟩/\∀ g,β.g=M g->rows w g<β.s):=by
  intro b hb β h;simp only[ρ',h];rw[if_pos (memN_iff.2 hb)];split
  .rename_i g hg;split
   .exact .inr ⟨rfl,λg' h'=>by rw[hg]at h';cases h';assumption⟩
   .exact .inl rfl
  .exact .inl rfl
 have hrow:∀ g,rows Y g=rows w g:=by
  intro g;by_cases hg:g=l
  .subst hg;simp[rows,hl0,hl1]
  .simp only[rows,hs g hg]
 have hbox:∀ b∈Z52 hl,∀ β,ρ b=M β->ρ' b=M β:=by
  intro b hb β h;obtain⟨ty,cells,hm⟩:=Z5L hb;have hbi:b∈ids:=Ls.2 ⟨_,hm,rfl⟩;rcases hin b hbi β h with k | ⟨_,k⟩
  .exact k
  .cases hq:hOf hl b with
   | none=>exact absurd hbi (hOf_mem.2.1 hq)
   | some B =>
    have hB':B = .box ty cells:=by
     have h1:=hOf_mem.1 B hq;obtain⟨i,hi⟩:=L9.1 h1;obtain⟨j,hj⟩:=L9.1 hm;have:i=j:=Zou b hN (by simp[hi]) (by simp[hj]);subst this;rw[hi]at hj;cases hj;rfl
    subst hB';obtain⟨β',m1,m2⟩:=I.blk b _ hq;rw[h]at m1;cases m1;have m3:=m2;obtain⟨h0,_,g,_,h1,_⟩:=m2;have:=k g h1;rw[Zcb m3 h1]at this;omega
 have hlive:∀ b,b∈ids->live (hOf hl) b:=by
  intro b hb;cases hq:hOf hl b with
  | none=>exact absurd hb (hOf_mem.2.1 hq)
  | some B =>
   refine⟨B,hq, ?_⟩;rintro rfl;have:=Lx.1 hB _ (hOf_mem.1 _ hq);cases this
 have hsame:∀ b β g,ρ' b=M β->β.g=M g->ρ b=M β:=λb β g h h'=>by
  obtain⟨_,κ,k1,_,_,k4⟩:=hout b β h;rw[(k4 g h').1]at k1;exact k1
 refine⟨ρ',λb β h=>(hout b β h).1,λb β g h h'=>I.own b β g (hsame b β g h h') h',λb β g h h'=>by
   obtain⟨_,κ,k1,_,_,k4⟩:=hout b β h;rw[hrow];exact(k4 g h').2,⟨Kept.refl _ _,λb b' β β' g _ _ q1 q2 q3 q4=>I.inj b b' β β' g (hlive _ (hout _ _ q1).1) (hlive _ (hout _ _ q2).1) (hsame _ _ g q1 q3) (hsame _ _ g q2 q4) q3 q4,λ_ _ _ _ _ _ h=>h,λb β g q1 q2=>by rw[hY];exact I.bnd b β g (hsame _ _ g q1 q2) q2,λb β g q1 q2=>.inr ⟨b,β,q1,q2⟩,λ_ h=>h.elim,λ_ h=>h.elim,λb B q=>?_,λb _ q=>?_,⟨hc,λ_ _ _ h=>h⟩⟩,⟨T.size,λi x v h1 h2=>Zgx (T.tmp i x v h1 h2) (Lx.1 hT _ (Ln h1)) hbox hin hrow,T.defers⟩,I.kept⟩
 .have hm:=hOf_mem.1 B q;have hb:b∈ids:=Ls.2 ⟨(b,B),hm,rfl⟩;obtain⟨β,m1,m2⟩:=I.blk b B q;have hfl:=Lx.1 hB _ hm;cases B with
  | dead=>cases hfl
  | box ty cells =>
   obtain⟨h0,h00,g,cs,h1,h2,h3,h3',h4⟩:=m2;have hg:g≠l:=by rintro rfl;rw[hl0]at h2;cases h2
   have:b∈Z52 hl:=by
    have:∀ {k:List (Nat×Blk)},(b,Blk.box ty cells)∈k->b∈Z52 k:=by
     intro k;induction k with
     | nil=>intro h;simp at h
     | cons p k ih =>
      obtain⟨c,C⟩:=p;intro h;rcases Lj.1 h with e | e
      .cases e;simp[Z52]
      .cases C<;>simp[Z52,ih e]
    exact this hm
   exact⟨β,hbox b this β m1,h0,h00,g,cs,h1,by rw[hs g hg];exact h2,h3,h3',λo x v hx hv=>Zgx (h4 o x v hx hv) (Lx.1 hfl _ (Ln hx)) hbox hin hrow⟩
  | arr ty s els =>
   have m3:=m2;obtain⟨h0,h1,hb',h2,h3⟩:=m2;rcases hin b hb β m1 with k | ⟨k,k'⟩
   .refine⟨β,k,h0,h1,hb',h2,h3.imp id λ⟨g,cs,h4,h5,h6,h7⟩=>?_⟩;have hg:g≠l:=by rintro rfl;rw[hl0]at h5;cases h5
    refine⟨g,cs,h4,by rw[hs g hg];exact h5,h6,λi e o x hx hy=>?_⟩;obtain⟨v,h8,h9⟩:=h7 i e o x hx hy;exact⟨v,h8,ZbC (hF _ _ _ _ hm) (Ln hx) (Ln hy) h9⟩
   .refine⟨_,k,h0,h1,hb',h2,.inl ⟨rfl, ?_⟩⟩;rcases h3 with⟨_,h⟩ | ⟨g,_,h4,_⟩
    .exact h
    .have e1:=k' g h4;have e2:=Zle m3 h4;rw[h0]at e1;cases els with
     | nil=>rfl
     | cons y ys =>
      have:1*s<=(y::ys).length*s:=Xf s pq;omega
 .have:b∉ids:=hOf_mem.2.1 q;simp only[ρ'];rw[if_neg (λh=>this (memN_iff.1 h))]
def Z6c(f:Found):Value:=.agg #[.int .u64 f.addr,.int .i64 f.hd.K,.int .i64 f.hd.length,.int .u32 f.hd.map]
def encF(f:Found)(e:Int):Array Value := #[Z6c f,.int .i64 e]
def ZaQ(ρ:Rho)(w:World)(Im:Nat->Prop)(f:Found):Rel ρ w Im f.av (Z6c f):=by
 refine .ag _ _ rfl (λi v h=>?_) (λi a v ha hv=>?_)
 .rcases i with _ | _ | _ | _ | i<;>simp at h<;>subst h<;>rfl
 .rcases i with _ | _ | _ | _ | i<;>simp at ha hv<;>subst ha<;>subst hv<;>exact .d (.sc _ rfl)
def Zme(l:List Found):Z0x (l.map Found.dv):=by
 intro e he x hx;obtain⟨f,_,rfl⟩:=Ls.1 he;simp only[Found.dv,Lj,Lo,or_false]at hx;rcases hx with rfl | rfl | rfl | rfl<;>exact⟨_,rfl⟩
def LJ(g6:Nat)(prot:List (Nat×Obj))(A:Nat->Prop)(pre:List Found)(W:World):Prop :=
 ∃ ρ:Rho,(∀ g,A g↔∃ b β,ρ b=M β/\β.g=M g)/\Inv (ownR ρ) (λ_=>False) W ρ W (λ_=>False) (hOf (lstH pre)) 20/\(∃ s n,ρ 6=M ⟨M g6,s,n⟩)/\(∀ b β,ρ b=M β->b∈[8020,6])/\(∀ b β g,ρ b=M β->β.g=M g->β.s<=rows W g)/\∀ p∈prot,W.heap[p.1]? = M p.2/\¬ A p.1
def LJ.keep{g6:Nat}{prot:List (Nat×Obj)}{A:Nat->Prop}{pre:List Found}{X Y:World}(J:LJ g6 prot A pre X)(K:Kept (λ_=>False) X Y):LJ g6 prot A pre Y:=by
 obtain⟨ρ,hA,I,h6,hs,hr,hp⟩:=J;have he:Ext (λ_=>False) X Y:=⟨K.size,λg h=>h.elim,K.rows⟩
 refine⟨ρ,hA,⟨Kept.refl _ _,I.inj,λ_ _ _ _ _ _ h=>h,λb β g q1 q2=>LR (I.bnd b β g q1 q2) K.size,λb β g q1 q2=>.inr ⟨b,β,q1,q2⟩,λ_ h=>h.elim,λ_ h=>h.elim,λb B q=>?_,I.fresh,I.one⟩,h6,hs,λb β g q1 q2=>?_,λp hpp=>⟨?_,(hp p hpp).2⟩⟩
 .obtain⟨β,m1,m2⟩:=I.blk b B q;exact⟨β,m1,m2.mono he (λ_ h=>h) (λ_ _ h=>h) I.bnd (λg hg=>K.block g (I.bnd b β g m1 hg) (λh=>h))⟩
 .rw[K.rows g (I.bnd _ _ _ q1 q2)];exact hr b β g q1 q2
 .have h1:=(hp p hpp).1;rw[K.block p.1 (Lh.1 h1).1 (λh=>h)];exact h1
def Zkx{fn:Nat}{a0:Array Value}{D l g6 n:Nat}{prot:List (Nat×Obj)}{A:Nat->Prop}{pre:List Found}{W:World}(hl:pre.length<=1000)(ha0:a0.size=22)(ha6:a0[6]? = M (.pointer (M ⟨g6,0,Ld⟩)))
  (hrec:(l,Ll { state:=.ready,pending:=Ld,fn:=fn,tmps:=a0,params := #[12,13],assign:=asgF f171 0,body:=bodF f171 0,defers:=D })∈prot) (J:LJ g6 prot A pre W) (x:Found) :
  YieldAt Li n prog l (encF x 0) W λe W'=>e = .returned (.bool La)/\∃ A',LJ g6 prot A' (pre++[x]) W'/\(∀ g,A' g->A g\/W.heap.size<=g)/\Kept A W W':=by
 obtain⟨ρ,hA,I,⟨s6,n6,h6⟩,hs,hr,hp⟩:=J;obtain⟨rl,nl⟩:=hp _ hrec;have hAe:OwA (ownR ρ)=A:=by funext g;exact propext (hA g).symm
 refine⟨fn,_,_,_,run_yield rl rfl,roundIn_of_wpIn trivial ?_⟩;have T0:RelT [] ρ W (λ_=>False) (tm 22 [(6,.pt 6 0 0)]) { tmps:=a0,defers:=[] }:=by
  refine⟨by rw[ha0];rfl,λi y v h1 h2=>?_,rfl⟩;by_cases h:i=6
  .subst h;rw[ha6]at h2;cases h2;cases (show(tm 22 [(6,.pt 6 0 0)])[6]? = M (.pt 6 0 0)from rfl).symm.trans h1;have:=Rel.pt (ρ:=ρ) (w:=W) (Im:=λ_=>False) (i:=0) (o:=0) h6;simpa using this
  .have:y = .any:=by
    have hi:i<22:=(LL.1 h1).1;have e:∀ j,j<22->j≠6->(tm 22 [(6,.pt 6 0 0)])[j]? = M .any:=by
     intro j hj hj6;have:j∈[0,1,2,3,4,5,7,8,9,10,11,12,13,14,15,16,17,18,19,20,21]:=by
      simp only[Lj,Lo,or_false];omega
     simp only[Lj,Lo,or_false]at this;rcases this with rfl | rfl | rfl | rfl | rfl | rfl | rfl | rfl | rfl | rfl | rfl | rfl | rfl | rfl | rfl | rfl | rfl | rfl | rfl | rfl | rfl<;>rfl
    rw[e i hi h]at h1;cases h1;rfl
   subst this;exact .any _
 have T1:=(T0.put 12 (ZaQ ρ W (λ_=>False) x)).put 13 (Rel.d (RelD.sc (Lv .i64 0) rfl));have S1:Sx.Sys (ownR ρ) (λ_=>False) W (lst1 pre x).st.tmps (lst1 pre x).st.H (lst1 pre x).st.clk { tmps:=(a0.setIfInBounds 12 (Z6c x)).setIfInBounds 13 (.int .i64 0),defers:=[] } W:=⟨ρ,_,I,T1⟩
 have ef:((#[12,13]:Array Nat).zip (encF x 0)).foldl (λtmps (t,a)=>tmps.setIfInBounds t a) a0=(a0.setIfInBounds 12 (Z6c x)).setIfInBounds 13 (.int .i64 0):=by simp[encF]
 show(asgF f171 0).wpIn _ n _ _ { tmps:=((#[12,13]:Array Nat).zip (encF x 0)).foldl (λtmps (t,a)=>tmps.setIfInBounds t a) a0,defers:=[] } W;rw[ef];refine wpIn_mono (lstA pre x (M l) n _ _ _ _ _ S1) ?_;rintro e a1 w1 ⟨rfl,S2⟩;have K1:Kept A W w1:=by obtain⟨_,_,I1,_⟩:=S2;exact hAe▸I1.kept
 have hlW:l<W.heap.size:=(Lh.1 rl).1;have rl1:w1.heap[l]? = M (Ll { state:=.ready,pending:=Ld,fn:=fn,tmps:=a0,params := #[12,13],assign:=asgF f171 0,body:=bodF f171 0,defers:=D }):=by
  rw[K1.block l hlW nl];exact rl
 refine⟨_,run_beginRound rl1 rfl, ?_⟩;obtain⟨w2,hw2⟩:∃ w2,w1.putObj l (Ll { state:=.busy,pending:=Ld,fn:=fn,tmps:=a0,params := #[12,13],assign:=asgF f171 0,body:=bodF f171 0,defers:=D })=w2:=⟨_,rfl⟩
 have rl2:w2.heap[l]? = M (Ll { state:=.busy,pending:=Ld,fn:=fn,tmps:=a0,params := #[12,13],assign:=asgF f171 0,body:=bodF f171 0,defers:=D }):=by
  rw[<- hw2];exact Lq (Lh.1 rl1).1
 have hs2:∀ g,g≠l->w2.heap[g]? = w1.heap[g]? := λg hg=>by rw[<- hw2];exact Lg hg
 have hz2:w2.heap.size=w1.heap.size:=by rw[<- hw2];exact Lz
 obtain⟨ρ1,q1,q2,qr,I1,T1',_⟩:=Znk S2 kr kr (by show([160007,8020,6]:List Nat).Nodup;decide) (by
   intro b ty s els hm;simp only[lst2,lstH,Lj,Lo,or_false,Prod.mk.injEq,reduceCtorEq,and_false,Blk.arr.injEq,false_or]at hm;obtain⟨_,_,_,rfl⟩:=hm;exact Zme pre) rl1 rl2 hz2 hs2 (by decide:1<=30)
 show(bodF f171 0).wpIn _ _ _ _ _ _;rw[hw2];refine wpIn_mono (lstB pre x hl (M l) n _ _ _ _ _ (⟨ρ1,_,I1,T1'⟩:Sx.Sys _ _ w2 (lst2 pre x).st.tmps (lst2 pre x).st.H (lst2 pre x).st.clk a1 w2)) ?_;rintro e a3 w3 ⟨rfl,S3⟩;have K3:Kept (λg=>∃ b β,ρ1 b=M β/\β.g=M g) w2 w3:=by obtain⟨_,_,I3,_⟩:=S3;exact I3.kept
 have hrow2:∀ g,rows w2 g=rows w1 g:=by
  intro g;by_cases hg:g=l
  .subst hg;simp[rows,rl1,rl2]
  .simp only[rows,hs2 g hg]
 have hw12:W.heap.size<=w1.heap.size:=K1.size;have own1:∀ b β g,ρ1 b=M β->β.g=M g->W.heap.size<=g\/A g:=λb β g h h'=>(q2 b β g h h').imp (·.1) λh=>hAe▸h;have hl2:¬ ∃ b β,ρ1 b=M β/\β.g=M l:=by
  rintro⟨b,β,h,h'⟩;rcases own1 b β l h h' with k | k
  .omega
  .exact nl k
 have box6:∀ {ρ:Rho} {X:World} {H:List (Nat×Blk)} {t:Nat} {x:AV},Inv (ownR ρ) (λ_=>False) X ρ X (λ_=>False) (hOf H) t->hOf H 6=M (.box 182 [x])->∃ β g,ρ 6=M β/\β.g=M g/\rows X g=1:=by
  intro ρ X H t x I hH;obtain⟨β,k1,k2⟩:=I.blk 6 _ hH;have k3:=k2;obtain⟨_,_,g,_,k4,_⟩:=k2;exact⟨β,g,k1,k4,Zcb k3 k4⟩
 have arr4:∀ {ρ:Rho} {X:World} {H:List (Nat×Blk)} {t:Nat} {els:List (List DV)} {β:Bi},Inv (ownR ρ) (λ_=>False) X ρ X (λ_=>False) (hOf H) t->hOf H 8020=M (.arr 188 4 els)->ρ 8020=M β->β.s=4:=by
  intro ρ X H t els β I hH h;obtain⟨β',k1,k2⟩:=I.blk 8020 _ hH;rw[h]at k1;cases k1;exact k2.1
 have id1:∀ β g,ρ1 6=M β->β.g=M g->rows w2 g=1->g=g6:=by
  intro β g h h' h1;rcases q2 6 β g h h' with⟨_,k⟩ | k
  .omega
  obtain⟨b,κ,(k1:ρ b=M κ),k2⟩:=k;have hb:=hs b κ k1;simp only[Lj,Lo,or_false]at hb;rcases hb with rfl | rfl
  .have:=hr _ _ _ k1 k2;rw[arr4 I rfl k1,<- K1.rows g (I.bnd _ _ _ k1 k2),<- hrow2,h1]at this;omega
  .rw[h6]at k1;cases k1;cases k2;rfl
 have rl3:w3.heap[l]? = M (Ll { state:=.busy,pending:=Ld,fn:=fn,tmps:=a0,params := #[12,13],assign:=asgF f171 0,body:=bodF f171 0,defers:=D }):=by
  rw[K3.block l oq hl2];exact rl2
 refine⟨_,_,run_endRound Ld rl3,rfl, ?_⟩;obtain⟨W',hW'⟩:∃ W',w3.putObj l (Ll { state:=.ready,pending:=Ld,fn:=fn,tmps:=a0,params := #[12,13],assign:=asgF f171 0,body:=bodF f171 0,defers:=D })=W':=⟨_,rfl⟩
 have rl4:W'.heap[l]? = M (Ll { state:=.ready,pending:=Ld,fn:=fn,tmps:=a0,params := #[12,13],assign:=asgF f171 0,body:=bodF f171 0,defers:=D }):=by
  rw[<- hW'];exact Lq (Lh.1 rl3).1
 have hs4:∀ g,g≠l->W'.heap[g]? = w3.heap[g]? := λg hg=>by rw[<- hW'];exact Lg hg
 have hz4:W'.heap.size=w3.heap.size:=by rw[<- hW'];exact Lz
 have hrow4:∀ g,rows W' g=rows w3 g:=by
  intro g;by_cases hg:g=l
  .subst hg;simp[rows,rl3,rl4]
  .simp only[rows,hs4 g hg]
 have hosw:W'.os=w3.os/\W'.tape=w3.tape/\W'.output=w3.output:=by rw[<- hW'];exact⟨rfl,rfl,rfl⟩
 have hos2:w2.os=w1.os/\w2.tape=w1.tape/\w2.output=w1.output:=by rw[<- hw2];exact⟨rfl,rfl,rfl⟩
 suffices key:∃ A',LJ g6 prot A' (pre++[x]) W'/\(∀ g,A' g->A g\/W.heap.size<=g)/\Kept A W W' by
  rw[<- hW']at key;exact key
 obtain⟨ρ3,p1,p2,pr,I3,_,_⟩:=Znk S3 kr kr (by show([8020,6]:List Nat).Nodup;decide) (by
   intro b ty s els hm;simp only[lstH,Lj,Lo,or_false,Prod.mk.injEq,reduceCtorEq,and_false,Blk.arr.injEq]at hm;obtain⟨_,_,_,rfl⟩:=hm;exact Zme _) rl3 rl4 hz4 hs4 (by decide:1<=20)
 have own3:∀ b β g,ρ3 b=M β->β.g=M g->A g\/W.heap.size<=g:=by
  intro b β g h h';rcases p2 b β g h h' with⟨k,_⟩ | ⟨c,κ,k1,k2⟩
  .exact .inr oq
  .exact(own1 c κ g k1 k2).symm
 have keep:Kept A W W':=by
  refine⟨hosw.1.trans (K3.os.trans (hos2.1.trans K1.os)),hosw.2.1.trans (K3.tape.trans (hos2.2.1.trans K1.tape)),hosw.2.2.trans (K3.output.trans (hos2.2.2.trans K1.output)),by have:=K3.size;omega,λk hk hn=>?_,λk hk=>?_⟩
  .by_cases hkl:k=l
   .subst hkl;rw[rl4,rl]
   .rw[hs4 k hkl,K3.block k oq ?_,hs2 k hkl,K1.block k hk hn];rintro⟨b,β,h,h'⟩;rcases own1 b β k h h' with q | q
    .omega
    .exact hn q
  .rw[hrow4,K3.rows k oq,hrow2,K1.rows k hk]
 refine⟨λg=>∃ b β,ρ3 b=M β/\β.g=M g,⟨ρ3,λg=>Iff.rfl,I3, ?_,p1,pr,λp hpp=>?_⟩,λg ⟨b,β,h,h'⟩=>own3 b β g h h',keep⟩
 .obtain⟨β,g,k1,k2,k3⟩:=box6 I3 rfl;rcases p2 6 β g k1 k2 with⟨_,k⟩ | ⟨c,κ,m1,m2⟩
  .omega
  have hg2:g<w2.heap.size:=I1.bnd _ _ _ m1 m2;have hr2:rows w2 g=1:=by rw[<- k3,hrow4,K3.rows g hg2]
  have hc:=q1 c κ m1;have e:g=g6:=by
   simp only[lst2,lstH,L7,L8,Lj,Lo,or_false]at hc;rcases hc with rfl | rfl | rfl
   .obtain⟨κ',n1,n2⟩:=I1.blk 160007 _ rfl;rw[m1]at n1;cases n1;rw[Zcb n2 m2]at hr2;simp at hr2
   .have:=qr _ _ _ m1 m2;rw[arr4 I1 rfl m1,hr2]at this;omega
   .exact id1 κ g m1 m2 hr2
  subst e;obtain⟨βg,βs,βn⟩:=β;cases k2;exact⟨βs,βn,k1⟩
 .obtain⟨h1,h2⟩:=hp p hpp;have hpl:=(Lh.1 h1).1;refine⟨by rw[keep.block p.1 hpl h2];exact h1, ?_⟩;rintro⟨b,β,h,h'⟩;rcases own3 b β p.1 h h' with q | q
  .exact h2 q
  .omega
end Go.Proofs.YtdhchmlalchgeaaGreat
namespace Go.Proofs.YtdhchmlalchgeaaGreat
open Go.Sx Go.RowKit
def Z29(h:Heap)(i:Int):List Found×Bool:=if(pg h i).K=1\/(pg h i).K=2 then Z1U h i 256 0 else([],La)
def noFound:Found:=⟨0,⟨0,0,0⟩⟩
structure Rnd (l n:Nat) (J:(Nat->Prop)->List Found->World->Prop) (Jx:World->Prop):Prop where
 keep:∀ A pre X Y,J A pre X->Kept (λ_=>False) X Y->J A pre Y
 bnd:∀ A pre X,J A pre X->∀ g,A g->g<X.heap.size
 yes:∀ A pre X x,J A pre X->pre.length<=1000->YieldAt Li n prog l (encF x 0) X λe X'=>e = .returned (.bool La)/\∃ A',J A' (pre++[x]) X'/\(∀ g,A' g->A g\/X.heap.size<=g)/\Kept A X X'
 no:∀ A pre X,J A pre X->pre.length<=1000->YieldAt Li n prog l (encF noFound 19) X λe X'=>e = .returned (.bool Lb)/\Jx X'
section
variable (h:Heap) (i:Int) (l n:Nat) {J:(Nat->Prop)->List Found->World->Prop} {Jx:World->Prop} (R:Rnd l n J Jx)
def InL(J:(Nat->Prop)->List Found->World->Prop)(a:Act)(w:World):Prop :=
 ∃ (pre:List Found) (A Im:Nat->Prop) (f:Nat) (o:Int),(Z29 h i).1=pre++(Z1U h i f o).1/\(Z29 h i).2=(Z1U h i f o).2/\(pg h i).U-o<=f/\0<=o/\o<=1000/\pre.length+f<=256/\J A pre w/\RelT [] (λ_=>Ld) w Im (inS h l i o).tmps a/\∀ g,Im g->g<w.heap.size/\¬ A g
def inMu(a:Act):Nat:=match (a.tmps.getD 5 undef:Value)with
 | .int _ o=>((pg h i).U-o).toNat
 | _=>0
theorem Zk3{w:World}{Im:Nat->Prop}{a:Act}{o:Int}(T:RelT [] (λ_=>Ld) w Im (inS h l i o).tmps a):inMu h i a=((pg h i).U-o).toNat:=by
 have:a.tmps.getD 5 undef = .int .i64 o:=Z15 (Z1E T (.tmp 5));rw[inMu,this]
def Zau(Jx:World->Prop)(e:Ending)(W':World):Prop:=(∃ v,e = .returned v)/\(((Z29 h i).2=La/\∃ A,J A (Z29 h i).1 W')\/((Z29 h i).2=Lb/\Jx W'))
def tsOf(o:Oper):Array Nat:=match o.op with
 | .call c=>c.argTypes
 | _ => #[]
theorem found_eq{ρ:Rho}{w:World}{Im:Nat->Prop}{f:Found}{v:Value}(h:Rel ρ w Im f.av v):v=Z6c f:=by
 obtain⟨cs,h1,h2,h3,h4⟩:=Z3D h;rw[h1];have g:∀ (k:Nat) (hk:k<cs.size) (v:Value),[u64 f.addr,int f.hd.K,int f.hd.length,u32 f.hd.map][k]? = M (.d (.sc v))->cs[k]=v:=λk hk v hv=>Z15 (h4 k _ cs[k] hv (LU hk));have hs:cs.size=4:=h2;simp only[Z6c];congr 1;apply LG
 .simp[hs]
 .intro k hk _;rcases k with _ | _ | _ | _ | k
  .exact g 0 hk _ rfl
  .exact g 1 hk _ rfl
  .exact g 2 hk _ rfl
  .exact g 3 hk _ rfl
  .omega
theorem ZkZ(hw:WOk h.W)(hp:Z02 h=true)(hu:(pg h i).U≤256)(R:Rnd l n J Jx)(a:Act)(w:World)(hI:InL h i l J a w) :
  (rndF Tryz.f205 0).wpIn Fence.wide (n+1) Tryz.prog (Exit.then (fun a' w'=>InL h i l J a' w'∧inMu h i a'<inMu h i a) (Exit.inBlock 0 (bodyPost Tryz.prog Tryz.f205 (Zau h i (J:=J) Jx)))) a w:=by
 obtain⟨pre,A,Im,f,o,e1,e2,hf,h0,h1,hl,hJ,T,hIm⟩:=hI;have S:Sx.Sys Z4z Im w (inS h l i o).st.tmps (inS h l i o).st.H (inS h l i o).st.clk a w:=⟨_,_,Inv.empty (fun g hg=>(hIm g hg).1) (by decide:1≤20),T⟩
 by_cases hlt:o<(pg h i).U
 ·obtain⟨f,rfl⟩:∃ k,f=k+1:=⟨f-1,by omega⟩
  unfold Z1U at e1 e2;rw[if_pos hlt]at e1 e2;have bad:¬ ((address h.C i o).2=0∧(atH h (adr h i o)).2=0)→∀ a' w',Sx.Sys Z4z Im w (Tg.st ⟨tm 58 [(0,.d (.sc (Z2p l)))],[],30⟩).tmps (Tg.st ⟨tm 58 [(0,.d (.sc (Z2p l)))],[],30⟩).H 30 a' w' →
    rest Tryz.prog (n+1) 10 (rndF Tryz.f205 0) (Exit.then (fun a' w'=>InL h i l J a' w'∧inMu h i a'<inMu h i a) (Exit.inBlock 0 (bodyPost Tryz.prog Tryz.f205 (Zau h i (J:=J) Jx)))) a' w':=by
   intro hb a' w' S1;rw[if_neg hb]at e1 e2;generalize hQ:Exit.inBlock 0 (bodyPost Tryz.prog Tryz.f205 (Zau h i (J:=J) Jx))=Q0;generalize (fun a' w'=>InL h i l J a' w'∧inMu h i a'<inMu h i a)=nx;have er:rest Tryz.prog (n+1) 10 (rndF Tryz.f205 0) (Exit.then nx Q0) a' w' =
     (Code.region 10 (rgO Tryz.f205 10) false).wpIn Fence.wide (n+1) Tryz.prog (Exit.then (Code.ret.wpIn Fence.wide (n+1) Tryz.prog (Exit.inBlock 1 (Exit.then nx Q0))) (Exit.inBlock 1 (Exit.then nx Q0))) a' w':=by kernel_rfl
   rw[er];refine wpIn_region ?_;rw[show List.range (rgO Tryz.f205 10).size=[0,1]++[2]from by kernel_rfl];refine Z3U (ro:=none) (hints:=[]) (out:=⟨tm 58 [(0,.d (.sc (Z2p l))),(55,.d (.sc (Z2p l))),(56,noFound.av)],hOf [],[],[]⟩) kr S1 trivial (fun p hp=>by simp at hp) ?_;intro a2 w2 S2;obtain⟨o',ho,⟨ts,hop⟩,hd,hg⟩:∃ o':Oper,(rgO Tryz.f205 10)[2]? = some o'∧(∃ ts,o'.op = .call ⟨.value (.tmp 55),#[.tmp 56,.const (.int .i64 19)],ts⟩)∧o'.dst=some 57∧o'.guard=none:=⟨(rgO Tryz.f205 10).getD 2 default,by kernel_rfl,⟨tsOf ((rgO Tryz.f205 10).getD 2 default),by kernel_rfl⟩,by kernel_rfl,by kernel_rfl⟩
   have hwd:Region.wanted o' (yielded (rgO Tryz.f205 10) a2.tmps)=true:=by simp[Region.wanted,hg]
   simp only[wpOpsIn,ho,hwd,if_true];obtain⟨ρ2,Im2,I2,T2⟩:=S2;have v1:a2.eval (.tmp 55) = .func (.yield l) #[] #[]:=Z15 (Z1E T2 (.tmp 55));have v2:a2.eval (.tmp 56)=Z6c noFound:=found_eq (Z1E T2 (.tmp 56):Rel ρ2 w2 Im2 noFound.av _);have J2:J A pre w2:=R.keep _ _ _ _ hJ I2.kept.no;refine Zg4 hop v1 (show #[a2.eval (.tmp 56),a2.eval (.const (.int .i64 19))]=encF noFound 19 by rw[v2];rfl) (R.no A pre w2 J2 oq) ?_;rintro e w3 ⟨rfl,hx⟩;refine⟨_,rfl,wpIn_ret ?_⟩;show Q0 .ret _ _;rw[← hQ];exact bodyPost_ret (results_none rfl _ _ _) (by rw[hd];exact T2.defers) ⟨⟨_,rfl⟩,.inr ⟨e2,hx⟩⟩
  by_cases ha:(address h.C i o).2=0
  ·by_cases hh:(atH h (adr h i o)).2=0
   ·rw[if_pos ⟨ha,hh⟩]at e1 e2;have sz:=Z1d (atH h (adr h i o)).1;have sp:=Z9O hh;obtain⟨o2,ho2⟩:∃ o2,o+sizeH (atH h (adr h i o)).1=o2:=⟨_,rfl⟩
    refine ZpZ h l i o hw hp ⟨h0,h1⟩ hlt ha hh _ _ _ _ _ _ _ S ?_;intro a1 w1 S1;rw[ho2]at S1 e1 e2;generalize hQ:Exit.inBlock 0 (bodyPost Tryz.prog Tryz.f205 (Zau h i (J:=J) Jx))=Q0;have hmu:=Zk3 h i l T;generalize hnx:(fun a' w'=>InL h i l J a' w'∧inMu h i a'<inMu h i a)=nx;obtain⟨yc,hyc⟩:∃ yc:Code,∀ a' w',rest Tryz.prog (n+1) 9 (rndF Tryz.f205 0) (Exit.then nx Q0) a' w' =
     (Code.region 9 (rgO Tryz.f205 9) false).wpIn Fence.wide (n+1) Tryz.prog (Exit.then ((Code.cond (.tmp 54) .ret .skip).wpIn Fence.wide (n+1) Tryz.prog (Exit.then ((Code.exit 1).wpIn Fence.wide (n+1) Tryz.prog (Exit.then (yc.wpIn Fence.wide (n+1) Tryz.prog (Exit.inBlock 1 (Exit.then nx Q0))) (Exit.inBlock 1 (Exit.then nx Q0)))) (Exit.then (yc.wpIn Fence.wide (n+1) Tryz.prog (Exit.inBlock 1 (Exit.then nx Q0))) (Exit.inBlock 1 (Exit.then nx Q0)))))
      (Exit.then ((Code.exit 1).wpIn Fence.wide (n+1) Tryz.prog (Exit.then (yc.wpIn Fence.wide (n+1) Tryz.prog (Exit.inBlock 1 (Exit.then nx Q0))) (Exit.inBlock 1 (Exit.then nx Q0)))) (Exit.then (yc.wpIn Fence.wide (n+1) Tryz.prog (Exit.inBlock 1 (Exit.then nx Q0))) (Exit.inBlock 1 (Exit.then nx Q0))))) a' w':=⟨.seq (.region 10 (rgO Tryz.f205 10) false) .ret,fun a' w'=>by kernel_rfl⟩
    rw[hyc];refine wpIn_region ?_;rw[show List.range (rgO Tryz.f205 9).size=[0,1,2,3]++([4]++[5])from by kernel_rfl];refine Z3U (ro:=none) (hints:=[]) (out:=⟨tm 58 [(0,.d (.sc (Z2p l))),(1,.rp h.dvs 0),(2,.rp [dint i] 0),(4,.rp (pg h i).dv 0),(5,int o2),(6,u64 (adr h i o)),(8,.pt 184008 0 0),(49,.d (.sc (Z2p l))),(50,u64 (adr h i o)),(51,(atH h (adr h i o)).1.av),(52,(Found.mk (adr h i o) (atH h (adr h i o)).1).av)],hOf [(184008,.box 52 [int (atH h (adr h i o)).1.K,int (atH h (adr h i o)).1.length,u32 (atH h (adr h i o)).1.map])],[],[]⟩) kr S1 trivial (fun p hp=>by simp at hp) ?_;intro a2 w2 S2;obtain⟨o',ho,⟨ts,hop⟩,hd,hg⟩:∃ o':Oper,(rgO Tryz.f205 9)[4]? = some o'∧(∃ ts,o'.op = .call ⟨.value (.tmp 49),#[.tmp 52,.const (.int .i64 0)],ts⟩)∧o'.dst=some 53∧o'.guard=none:=⟨(rgO Tryz.f205 9).getD 4 default,by kernel_rfl,⟨tsOf ((rgO Tryz.f205 9).getD 4 default),by kernel_rfl⟩,by kernel_rfl,by kernel_rfl⟩
    have hwd:Region.wanted o' (yielded (rgO Tryz.f205 9) a2.tmps)=true:=by simp[Region.wanted,hg]
    rw[show([4]++[5]:List Nat)=4::[5]from rfl,wpOpsIn];simp only[ho];rw[if_pos hwd];have v1:a2.eval (.tmp 49) = .func (.yield l) #[] #[]:=by obtain⟨ρ2,Im2,I2,T2⟩:=S2;exact Z15 (Z1E T2 (.tmp 49))
    have v2:a2.eval (.tmp 52)=Z6c ⟨adr h i o,(atH h (adr h i o)).1⟩:=by
     obtain⟨ρ2,Im2,I2,T2⟩:=S2;exact found_eq (Z1E T2 (.tmp 52):Rel ρ2 w2 Im2 (Found.mk (adr h i o) (atH h (adr h i o)).1).av _)
    have S3:=Zqk (s:=⟨tm 58 [(0,.d (.sc (Z2p l))),(1,.rp h.dvs 0),(2,.rp [dint i] 0),(4,.rp (pg h i).dv 0),(5,int o2),(6,u64 (adr h i o)),(8,.pt 184008 0 0),(49,.d (.sc (Z2p l))),(50,u64 (adr h i o)),(51,(atH h (adr h i o)).1.av),(52,(Found.mk (adr h i o) (atH h (adr h i o)).1).av)],hOf [(184008,.box 52 [int (atH h (adr h i o)).1.K,int (atH h (adr h i o)).1.length,u32 (atH h (adr h i o)).1.map])],30⟩) (t:=inS h l i o2) kr kr S2;clear S2 S1;obtain⟨ρ2,Im2,I2,T2⟩:=S3;have J2:J A pre w2:=R.keep _ _ _ _ hJ I2.kept.no;refine Zg4 hop v1 (show #[a2.eval (.tmp 52),a2.eval (.const (.int .i64 0))]=encF ⟨adr h i o,(atH h (adr h i o)).1⟩ 0 by rw[v2];rfl) (R.yes A pre w2 _ J2 oq) ?_;rintro e w3 ⟨rfl,A',J3,hA',K3⟩;have hIm2:∀ g,Im2 g→¬ A g:=by
     intro g hg hA;rcases I2.im0 g hg with k | k | k
     ·exact(hIm g k).2 hA
     ·have:=R.bnd _ _ _ hJ g hA;omega
     ·exact k.no
    refine⟨_,rfl, ?_⟩;have T3:RelT [] (fun _=>none) w3 Im2 (inS h l i o2).tmps a2:=(T2.pure kr).mono ⟨K3.size,fun g hg=>K3.block g (I2.imb g hg) (hIm2 g hg),K3.rows⟩ (fun _ h=>h) (fun _ _ h=>h) (fun _ _ _ h=>nomatch h);have S4:Sx.Sys Z4z Im2 w3 ((inS h l i o2).tmps.set 53 (Sx.bool true)) (hOf []) 20 (a2.put o'.dst (.bool true)) w3:=by
     rw[hd];exact⟨_,Im2,Inv.empty (fun g hg=>Nat.lt_of_lt_of_le (I2.imb g hg) K3.size) dd,T3.put 53 (Rel.d (RelD.sc (.bool true) rfl))⟩
    refine Z6H (ro:=none) (hints:=[]) (out:=⟨((inS h l i o2).tmps.set 53 (Sx.bool true)).set 54 (Sx.bool (!true)),hOf [],[],[]⟩) kr S4 trivial (fun p hp=>by simp at hp) ?_;intro a5 w5 S5;have v5:a5.eval (.tmp 54) = .bool false:=by obtain⟨_,_,_,T5⟩:=S5;exact Z15 (Z1E T5 (.tmp 54))
    have S6:=Zqk (s:=⟨((inS h l i o2).tmps.set 53 (Sx.bool true)).set 54 (Sx.bool (!true)),hOf [],20⟩) (t:=inS h l i o2) kr kr S5;obtain⟨ρ6,Im6,I6,T6⟩:=S6;refine wpIn_cond_false v5 (wpIn_skip ?_);refine wpIn_exit ?_;show(if 1=1 then(Exit.then nx Q0) .normal a5 w5 else Exit.then nx Q0 (.exit 1) a5 w5);rw[if_pos rfl,← hnx];have T7:=T6.pure kr;refine⟨⟨pre++[⟨adr h i o,(atH h (adr h i o)).1⟩],A',Im6,f,o2, ?_,e2,by omega,by omega,by omega,by simp;omega,R.keep _ _ _ _ J3 I6.kept.no,T7,fun g hg=>⟨I6.imb g hg,fun hA=>?_⟩⟩, ?_⟩
    ·rw[e1];simp
    ·have hb:=R.bnd _ _ _ J3 g hA;rcases I6.im0 g hg with k | k | k
     ·have:=I2.imb g k;rcases hA' g hA with q | q
      ·exact hIm2 g k q
      ·omega
     ·omega
     ·exact k.no
    ·show inMu h i a5<inMu h i a;rw[Zk3 h i l T7,hmu];omega
   ·exact ZqE h l i o hw hp ⟨h0,h1⟩ hlt ha hh _ _ _ _ _ _ _ S (bad (fun q=>hh q.2))
  ·exact Zqm h l i o hw hp ⟨h0,h1⟩ hlt ha _ _ _ _ _ _ _ S (bad (fun q=>ha q.1))
 ·refine wpIn_mono (wpIn_wide.2 (Zr3 h l i o oq _ _ _ _ _ S)) ?_;rintro e a' w' ⟨rfl,S1⟩;have hz:Z1U h i f o=([],true):=by
   cases f with
   | zero=>rfl
   | succ f=>rw[Z1U,if_neg hlt]
  rw[hz]at e1 e2;obtain⟨ρ,Im1,I1,T1⟩:=S1;show bodyPost _ _ _ .normal _ _;refine bodyPost_end (results_none rfl _ _ _) T1.defers ⟨⟨_,rfl⟩,.inl ⟨e2,A, ?_⟩⟩;rw[e1,List.append_nil];exact R.keep _ _ _ _ hJ I1.kept.no
theorem ZnG(hw:WOk h.W)(hp:Z02 h=true)(hi:0≤i∧i<h.P.length)(R:Rnd l n J Jx){A0 Im:Nat→Prop}{W:World}{v1 v2:Value}(him:∀ g,Im g→g<W.heap.size∧¬ A0 g)
  (h1:Rel (fun _=>none) W Im (.rp h.dvs 0) v1) (h2:Rel (fun _=>none) W Im (.rp [dint i] 0) v2) (J0:J A0 [] W):CallsIn Fence.wide (n+1) Tryz.prog 205 #[Z2p l,v1,v2] W (Zau h i (J:=J) Jx):=by
 have hu:(pg h i).U≤256:=(Z0J hp (j:=i.toNat) oq).2.2.2.2.2.2.2.1;refine callsIn_of_wp Tryz.func205 (c:=bdyF Tryz.f205) kr trivial ?_ rfl;have S:Sx.Sys Z4z Im W (inE h l i).st.tmps (inE h l i).st.H (inE h l i).st.clk { tmps := #[Z2p l,v1,v2]++Array.replicate (Tryz.f205.ntmps-(#[Z2p l,v1,v2]:Array Value).size) undef,defers:=[] } W:=by
  refine⟨_,Im,Inv.empty (fun g hg=>(him g hg).1) (Nat.le_refl 1),⟨by kernel_rfl,fun k y v hy hv=>?_,rfl⟩⟩;rw[show(inE h l i).st.tmps=[.d (.sc (Z2p l)),.rp h.dvs 0,.rp [dint i] 0]++List.replicate 55 .any from by kernel_rfl,List.getElem?_append]at hy;rw[Array.getElem?_append]at hv;split at hy
  ·rename_i hk;have hk3:k<3:=hk;rw[if_pos (show k<(#[Z2p l,v1,v2]:Array Value).size from hk3)]at hv;rcases k with _ | _ | _ | k
   ·cases hy;cases hv;exact .d (.sc _ rfl)
   ·cases hy;cases hv;exact h1
   ·cases hy;cases hv;exact h2
   ·omega
  ·have:=List.mem_of_getElem? hy;rw[(List.mem_replicate.1 this).2];exact .any _
 by_cases hk:(pg h i).K=1∨(pg h i).K=2
 ·refine ZpY h l i hi hk _ _ _ _ _ _ _ S ?_;intro a1 w1 S1;generalize hQ:bodyPost Tryz.prog Tryz.f205 (Zau h i (J:=J) Jx)=Q;have er:rest Tryz.prog (n+1) 2 (bdyF Tryz.f205) Q a1 w1=(Code.region 2 (rgO Tryz.f205 2) false).wpIn Fence.wide (n+1) Tryz.prog (Exit.then ((blkF Tryz.f205 0).wpIn Fence.wide (n+1) Tryz.prog Q) Q) a1 w1:=by kernel_rfl
  rw[er];refine wpIn_region ?_;rw[show List.range (rgO Tryz.f205 2).size=[0]from by kernel_rfl];refine Z6H (ro:=none) (hints:=[]) (out:=⟨tm 58 [(0,.d (.sc (Z2p l))),(1,.rp h.dvs 0),(2,.rp [dint i] 0),(4,.pt 8004 0 0),(5,int 0)],hOf [(8004,.box 84 ((pg h i).dv.map .d))],[],[]⟩) kr S1 trivial (fun p hp=>by simp at hp) ?_;intro a2 w2 S2;show(blkF Tryz.f205 0).wpIn Fence.wide (n+1) Tryz.prog Q a2 w2;rw[Z7g kr,← hQ];refine wpIn_block (wpIn_loop (InL h i l J) (fun a _=>inMu h i a) ?_ (fun a w hI=>ZkZ h i l n hw hp hu R a w hI));obtain⟨ρ2,Im2,I2,T2⟩:=S2;obtain⟨β,m1,m2⟩:=I2.blk 8004 _ rfl;have J2:=R.keep _ _ _ _ J0 I2.kept.no;have hlv:live (hOf [(8004,Blk.box 84 ((pg h i).dv.map .d))]) 8004:=⟨_,rfl,by simp⟩
  have T3:RelT [] ρ2 w2 (fun g=>Im2 g∨β.g=some g) _ a2:=T2.mono (Ext.refl _ _) (fun _ h=>.inl h) (fun _ _ h=>h) I2.bnd;have T4:=(T3.reSet 4 .any (fun v _=>.any v)).pure kr;have T5:=T4.reSet 4 (.rp (pg h i).dv 0) (fun v hv=>by
   have:=T2.tmp 4 _ v rfl hv;exact Z6O m1 m2 this (fun _ h=>.inl h) (fun _ h=>.inr h))
  refine⟨[],A0,_,256,0,by rw[Z29,if_pos hk];rfl,by rw[Z29,if_pos hk],by omega,by omega,by omega,by simp,J2,T5,fun g hg=>?_⟩;rcases hg with hg | hg
  ·refine⟨I2.imb g hg,fun hA=>?_⟩;rcases I2.im0 g hg with k | k | k
   ·exact(him g k).2 hA
   ·have:=R.bnd _ _ _ J0 g hA;omega
   ·exact k.no
  ·refine⟨I2.bnd _ _ _ m1 hg,fun hA=>?_⟩;rcases I2.own _ _ _ m1 hg with⟨k,_⟩ | k
   ·have:=R.bnd _ _ _ J0 g hA;omega
   ·exact k.no
 ·refine wpIn_mono (wpIn_wide.2 (Zqn h l i hi hk _ _ _ _ _ S)) ?_;rintro e a' w' ⟨rfl,S1⟩;obtain⟨ρ,Im1,I1,T1⟩:=S1;refine bodyPost_ret (results_none rfl _ _ _) T1.defers ⟨⟨_,rfl⟩,.inl ⟨by rw[Z29,if_neg hk],A0, ?_⟩⟩;rw[Z29,if_neg hk];exact R.keep _ _ _ _ J0 I1.kept.no
end
end Go.Proofs.YtdhchmlalchgeaaGreat
namespace Go.Proofs.YtdhchmlalchgeaaGreat
open Go.Sx
def ZoN(h:Heap)(i:Int):CP (bdyF f195) (Tg.st ⟨tm 6 [(0,h.av),(1,int i)],[],1⟩) .ret (Tg.st ⟨tm 6 [(4,.fn 205 [.pt 8002 0 0,.pt 8003 0 0])],[(8003,.box 3 [int i]),(8002,.box 28 h.cells)],30⟩):=by
 exact sF [] [] Fz
def Znt(h:Heap)(i:Int):ZeC prog 1 (bdyF f171) (Tg.st ⟨tm 22 [(0,h.av),(1,int i)],[],1⟩) (Tg.st ⟨tm 22 [(1,int i),(2,.pt 8002 0 0),(4,.pt 8004 0 0),(5,.pt 8005 0 0)],[(8005,.box 32 [int 0]),(8004,.box 182 [.d (.sl 0 [])]),(8002,.box 28 h.cells)],20⟩):=by
 refine Z5W [] [] [] (φ:=True) ?_ kr kr kr kr;exact trivial
def ptr(g:Nat):AV:=.d (.sc (.pointer (M ⟨g,0,Ld⟩)))
def lstN(g4 g5:Nat):CIn prog (asgF f171 0) (Tg.st ⟨tm 22 [(4,ptr g4),(5,ptr g5),(12,noFound.av),(13,int 19)],[],20⟩) .nrm (Tg.st ⟨tm 22 [(4,ptr g4),(5,ptr g5),(8,int 19)],[],30⟩):=by
 refine ZbB [] [] [] (φ:=True) ?_ kr kr kr kr;exact trivial
end Go.Proofs.YtdhchmlalchgeaaGreat
namespace Go.Proofs.YtdhchmlalchgeaaGreat
open Go.Sx Go.RowKit
section
variable {P:Program} {o:Oper} {a:Act} {w:World}
theorem ZnV{t g ty:Nat}{v:Value}(hw:w.heap[g]? = M (.cells #[v] ty (0,0)))(hv:v.oneCell'=La)(ht:Z6y P t=M Lb):(loadVar t ⟨g,0,Ld⟩).run P w = .ok v w:=by
 obtain⟨v',h1,h2⟩:=Z4D (P:=P) (w:=w) (t:=t) (g:=g) (off:=0) (l:=[.d (.sc v)]) (o:=0) (x:=.d (.sc v)) (ρ:=λ_=>Ld) (Im:=λ_=>False) (λj a ha=>by
  cases j with
  | zero=>cases ha;exact⟨v,by simp[Xh,hw],hv,.d (.sc _ hv)⟩
  | succ j=>simp at ha) (by simp[Zaj,ht])
 rw[Z15 h2]at h1;exact h1
theorem ZnY{t g ty:Nat}{x:Operand}{v:Value}(ho:o.op = .load t x)(hx:a.eval x = .pointer (M ⟨g,0,Ld⟩))(hw:w.heap[g]? = M (.cells #[v] ty (0,0)))(hv:v.oneCell'=La)(ht:Z6y P t=M Lb):(execOp a.eval o).run P w = .ok (.value v) w:=by
 simp[execOp,ho,Instr.loadAt,Instr.sureAddr,hx,ZnV hw hv ht]
theorem Z8o{t g ty:Nat}{x y:Operand}{u v:Value}(ho:o.op = .store t x y)(hx:a.eval x = .pointer (M ⟨g,0,Ld⟩))(hy:a.eval y=v)(hw:w.heap[g]? = M (.cells #[u] ty (0,0)))(hv:v.oneCell'=La)(hs:szOf P t=1):(execOp a.eval o).run P w = .ok .skip (w.setRow g #[v]):=by
 have hc:=Z7h hv;have:=Z51 (P:=P) (t:=t) (off:=0) (v:=v) hw (by rw[hc,hs];rfl) (Z7H oq) (by rw[hc];simp) (λi u h=>by rw[hc]at h;cases i<;>simp at h;subst h;exact hv);rw[hc]at this;simp at this;simp[execOp,ho,Instr.storeAt,Instr.sureAddr,hx,hy,this]
theorem ZmD{t:Nat}{z:Value}(ho:o.op = .alloc t)(hz:zeroOf P t=M z):(execOp a.eval o).run P w = .ok (.value (.pointer (M ⟨w.heap.size,0,Ld⟩))) (w.alloc (.cells z.cells t)):=by
 unfold zeroOf at hz;split at hz
 .rename_i i hi;simp[execOp,ho,Instr.alloc,zeroValue,typeInfo,hi,hz,newVar,newRow]
 .cases hz
theorem Z7l{v:Value}{w':World}{next:Act->World->Prop}{Q:Exit->Act->World->Prop}(h:(execOp a.eval o).run P w = .ok (.value v) w')(k:next (a.put o.dst v) w'):o.wp P a w next Q:=by
 unfold Oper.wp;rw[h];exact k
theorem Z5U{w':World}{next:Act->World->Prop}{Q:Exit->Act->World->Prop}(h:(execOp a.eval o).run P w = .ok .skip w')(k:next (a.put o.dst undef) w'):o.wp P a w next Q:=by
 unfold Oper.wp;rw[h];exact k
theorem Z2Q{F:Fence}{n i:Nat}{l:List Nat}{ops:Array Oper}{Q:Exit->Act->World->Prop}(ho:ops[i]? = M o)(hg:o.guard=Ld)(h:o.wpIn F n P a w (wpOpsIn F n P ops Q l) Q):wpOpsIn F n P ops Q (i::l) a w:=by
 rw[wpOpsIn];simp only[ho];rw[if_pos (by simp[Region.wanted,hg])];exact h
theorem setRow_self{g ty:Nat}{cs cs':Array Value}(hg:w.heap[g]? = M (.cells cs ty (0,0))):(w.setRow g cs').heap[g]? = M (.cells cs' ty (0,0)):=setRow_heap w g cs cs' ty _ hg
end
def Z4h{A:Nat->Prop}{X Y Z:World}(h:Kept (λ_=>False) X Y)(k:Kept A Y Z)(hA:∀ g,A g->X.heap.size<=g):Kept (λ_=>False) X Z :=
 ⟨k.os.trans h.os,k.tape.trans h.tape,k.output.trans h.output,Xd h.size k.size,λg hg _=>by
  rw[k.block g (LR hg h.size) (λq=>by have:=hA g q;omega)];exact h.block g hg (λq=>q),λg hg=>by rw[k.rows g (LR hg h.size)];exact h.rows g hg⟩
def ZqC(h:Heap)(i:Int)(w:World)(Im:Nat->Prop)(hv iv:Value)(hIm:∀ g,Im g->g<w.heap.size)(h1:Rel (λ_=>Ld) w Im h.av hv)(h2:Rel (λ_=>Ld) w Im (int i) iv) :
  Calls prog 195 #[hv,iv] w λe w'=>∃ p1 p2,∃ Im':Nat->Prop,e = .returned (.func (.func 205) #[] #[p1,p2])/\Kept (λ_=>False) w w'/\(∀ g,Im' g->(Im g\/w.heap.size<=g)/\g<w'.heap.size) /\
   Rel (λ_=>Ld) w' Im' (.rp h.dvs 0) p1/\Rel (λ_=>Ld) w' Im' (.rp [dint i] 0) p2:=by
 refine calls_of_wp func195 (c:=bdyF f195) kr ?_;have S:Sx.Sys Z4z Im w (tm 6 [(0,h.av),(1,int i)]) (hOf []) 1 { tmps := #[hv,iv]++LV (Tryz.f195.ntmps-(#[hv,iv]:Array Value).size) undef,defers:=[] } w:=by
  refine⟨_,Im,Inv.empty hIm (Lt 1),⟨by kernel_rfl,λk y v hy hv=>?_,rfl⟩⟩;rw[show tm 6 [(0,h.av),(1,int i)]=[h.av,int i]++Lf 4 .any from by kernel_rfl,L3]at hy;rw[LS]at hv;split at hy
  .rename_i hk;have hk3:k<2:=hk;rw[if_pos (show k<(#[_,iv]:Array Value).size from hk3)]at hv;rcases k with _ | _ | k
   .cases hy;cases hv;exact h1
   .cases hy;cases hv;exact h2
   .omega
  .have:=Ln hy;rw[(LD.1 this).2];exact .any _
 refine wp_mono (ZoN h i _ _ _ _ _ S) ?_;rintro e a' w' ⟨rfl,ρ,Im',I,T⟩;refine bodyPost_ret (results_tmp rfl _ _ _) T.defers ?_;have hf:Rel ρ w' Im' (.fn 205 [.pt 8002 0 0,.pt 8003 0 0]) (a'.tmps.getD 4 undef):=Z1E T (.tmp 4);generalize a'.tmps.getD 4 undef=fv at hf;cases hf with
 | fn hn hr =>
  rename_i cs;have hn2:cs.size=2:=hn;obtain⟨p1,p2,rfl⟩:∃ p1 p2,cs = #[p1,p2]:=⟨cs[0],cs[1],by
   apply LG
   .simp[hn2]
   .intro k hk _;rcases k with _ | _ | k
    .rfl
    .rfl
    .omega⟩
  obtain⟨β2,m2,n2⟩:=I.blk 8002 _ rfl;obtain⟨β3,m3,n3⟩:=I.blk 8003 _ rfl;refine⟨p1,p2,λg=>Im' g\/β2.g=M g\/β3.g=M g,rfl,I.kept.no,λg hg=>?_,Z6O m2 n2 (hr 0 _ p1 rfl rfl) (λ_ h=>.inl h) (λ_ h=>.inr (.inl h)),Z6O m3 n3 (hr 1 _ p2 rfl rfl) (λ_ h=>.inl h) (λ_ h=>.inr (.inr h))⟩;rcases hg with hg | hg | hg
  .exact⟨(I.im0 g hg).imp id (λh=>h.elim id (λh=>h.no.elim)),I.imb g hg⟩
  .exact⟨.inr ((I.own _ _ g m2 hg).elim (·.1) (λh=>h.no.elim)),I.bnd _ _ g m2 hg⟩
  .exact⟨.inr ((I.own _ _ g m3 hg).elim (·.1) (λh=>h.no.elim)),I.bnd _ _ g m3 hg⟩
def rgB(fn:Func)(k:Nat):Array Oper:=match ZcY k (bodF fn 0)with
 | some o=>o
 | none => #[]
def Zfk{tmps:Array Value}{W:World}{g4 g5:Nat}{v4 v5:Value}(h4:tmps.getD 4 undef = .pointer (M ⟨g4,0,Ld⟩))(h5:tmps.getD 5 undef = .pointer (M ⟨g5,0,Ld⟩))(c4:W.heap[g4]? = M (.cells #[v4] 182 (0,0)))(c5:W.heap[g5]? = M (.cells #[v5] 32 (0,0)))
  (o4:v4.oneCell'=La) (o5:v5.oneCell'=La):(results f171 tmps).run prog W = .ok (.tuple #[v4,v5]) W:=by
 rw[ZaR,show Tryz.f171.results = #[.cell 4 182,.cell 5 32]from rfl];have l4:=ZnV (P:=prog) (t:=182) c4 o4 kr;have l5:=ZnV (P:=prog) (t:=32) c5 o5 kr;simp[Zb0,h4,h5,asAddr,l4,l5,List.mapM_toArray]
def Ze5{tmps:Array Value}{W:World}{g4 g5 D:Nat}{v4 v5:Value}{R:Ending->World->Prop}(h4:tmps.getD 4 undef = .pointer (M ⟨g4,0,Ld⟩))(h5:tmps.getD 5 undef = .pointer (M ⟨g5,0,Ld⟩))(c4:W.heap[g4]? = M (.cells #[v4] 182 (0,0)))(c5:W.heap[g5]? = M (.cells #[v5] 32 (0,0)))
  (o4:v4.oneCell'=La) (o5:v5.oneCell'=La) (hD:W.heap[D]? = M (.deferred (M []))) (hR:R (.returned (.tuple #[v4,v5])) (W.putObj D (.deferred Ld))) :
  bodyPostM Li 10 prog f171 R .ret { tmps:=tmps,defers:=[{ target:=.collected D,args := #[] }] } W:=by
 refine⟨by simp,.inl ⟨_,_,rfl,run_takeDeferred hD, ?_⟩⟩;have n4:g4≠D:=by rintro rfl;rw[c4]at hD;cases hD
 have n5:g5≠D:=by rintro rfl;rw[c5]at hD;cases hD
 exact⟨_,Zfk h4 h5 ((Lg n4).trans c4) ((Lg n5).trans c5) o4 o5,hR⟩
def Zlh{fn:Nat}{a0:Array Value}{D l n g4 g5:Nat}{u4 u5:Value}{W:World}(ha0:a0.size=22)(ha4:a0[4]? = M (.pointer (M ⟨g4,0,Ld⟩)))(ha5:a0[5]? = M (.pointer (M ⟨g5,0,Ld⟩)))
  (rl:W.heap[l]? = M (Ll { state:=.ready,pending:=Ld,fn:=fn,tmps:=a0,params := #[12,13],assign:=asgF f171 0,body:=bodF f171 0,defers:=D }))
  (rD:W.heap[D]? = M (.deferred (M []))) (c4:W.heap[g4]? = M (.cells #[u4] 182 (0,0))) (c5:W.heap[g5]? = M (.cells #[u5] 32 (0,0))) (h45:g4≠g5) :
  YieldAt Li n prog l (encF noFound 19) W λe W'=>e = .returned (.bool Lb)/\W'.heap[l]? = M (Ll { state:=.done,pending:=M .ret,fn:=fn,tmps:=a0,params := #[12,13],assign:=asgF f171 0,body:=bodF f171 0,defers:=D }) /\
   W'.heap[D]? = M (.deferred (M []))/\W'.heap[g4]? = M (.cells #[.slice Ld 0 0] 182 (0,0))/\W'.heap[g5]? = M (.cells #[.int .i64 19] 32 (0,0))/\Kept (λg=>g=l\/g=g4\/g=g5) W W':=by
 refine⟨fn,_,_,_,run_yield rl rfl,roundIn_of_wpIn trivial ?_⟩;have ef:((#[12,13]:Array Nat).zip (encF noFound 19)).foldl (λtmps (t,a)=>tmps.setIfInBounds t a) a0=(a0.setIfInBounds 12 (Z6c noFound)).setIfInBounds 13 (.int .i64 19):=by simp[encF]
 show(asgF f171 0).wpIn _ n _ _ { tmps:=((#[12,13]:Array Nat).zip (encF noFound 19)).foldl (λtmps (t,a)=>tmps.setIfInBounds t a) a0,defers:=[] } W;rw[ef];have TA:RelT [] (λ_=>Ld) W (λ_=>False) (Lf 22 .any) { tmps:=a0,defers:=[] }:=by
  refine⟨by rw[ha0];rfl,λi y v h1 h2=>?_,rfl⟩;have:=Ln h1;rw[(LD.1 this).2];exact .any _
 have T1:=(((TA.reSet 4 (ptr g4) (λv hv=>by rw[ha4]at hv;cases hv;exact .d (.sc _ rfl))).reSet 5 (ptr g5) (λv hv=>by rw[ha5]at hv;cases hv;exact .d (.sc _ rfl))).put 12 (ZaQ _ W _ noFound)).put 13 (Rel.d (RelD.sc (Lv .i64 19) rfl));have S1:Sx.Sys Z4z (λ_=>False) W (Tg.st ⟨tm 22 [(4,ptr g4),(5,ptr g5),(12,noFound.av),(13,int 19)],[],20⟩).tmps (Tg.st ⟨tm 22 [(4,ptr g4),(5,ptr g5),(12,noFound.av),(13,int 19)],[],20⟩).H 20 { tmps:=(a0.setIfInBounds 12 (Z6c noFound)).setIfInBounds 13 (.int .i64 19),defers:=[] } W :=
  ⟨_,_,Inv.empty (λ_ h=>h.elim) dd,T1⟩
 refine wpIn_mono (lstN g4 g5 (M l) n _ _ _ _ _ S1) ?_;rintro e a1 w1 ⟨rfl,ρ1,Im1,I1,T1⟩;have K1:=I1.kept.no;have same1:∀ {g:Nat} {o:Obj},W.heap[g]? = M o->w1.heap[g]? = M o:=λ{g o} h=>by
  rw[K1.block g (Lh.1 h).1 (λq=>q)];exact h
 refine⟨_,run_beginRound (same1 rl) rfl, ?_⟩;obtain⟨w2,hw2⟩:∃ w2,w1.putObj l (Ll { state:=.busy,pending:=Ld,fn:=fn,tmps:=a0,params := #[12,13],assign:=asgF f171 0,body:=bodF f171 0,defers:=D })=w2:=⟨_,rfl⟩
 have rl2:w2.heap[l]? = M (Ll { state:=.busy,pending:=Ld,fn:=fn,tmps:=a0,params := #[12,13],assign:=asgF f171 0,body:=bodF f171 0,defers:=D }):=by
  rw[<- hw2];exact Lq (Lh.1 (same1 rl)).1
 have hs2:∀ g,g≠l->w2.heap[g]? = w1.heap[g]? := λg hg=>by rw[<- hw2];exact Lg hg
 have hz2:w2.heap.size=w1.heap.size:=by rw[<- hw2];exact Lz
 have hos2:w2.os=w1.os/\w2.tape=w1.tape/\w2.output=w1.output:=by rw[<- hw2];exact⟨rfl,rfl,rfl⟩
 have n4:g4≠l:=by rintro rfl;rw[c4]at rl;cases rl
 have n5:g5≠l:=by rintro rfl;rw[c5]at rl;cases rl
 have nD:D≠l:=by rintro rfl;rw[rD]at rl;cases rl
 have T2:RelT [] (λ_=>Ld) w2 (λ_=>False) (tm 22 [(4,ptr g4),(5,ptr g5),(8,int 19)]) a1:=by
  refine⟨T1.size,λi x v h1 h2=>?_,T1.defers⟩;have:=T1.tmp i x v h1 h2;have hx:x = .any\/∃ u,x = .d (.sc u):=by
   have hm:=Ln h1;have:∀ y∈tm 22 [(4,ptr g4),(5,ptr g5),(8,int 19)],y = .any\/∃ u,y = .d (.sc u):=by
    rw[show tm 22 [(4,ptr g4),(5,ptr g5),(8,int 19)]=Lf 4 .any++[ptr g4,ptr g5,.any,.any,int 19]++Lf 13 .any from by kernel_rfl];intro y hy;simp only[LO,LD,Lj,Lo,or_false]at hy;rcases hy with(⟨_,rfl⟩ | rfl | rfl | rfl | rfl | rfl) | ⟨_,rfl⟩<;>first | exact .inl rfl | exact .inr ⟨_,rfl⟩
   exact this x hm
  rcases hx with rfl | ⟨u,rfl⟩
  .exact .any _
  .rw[Z15 this];have h1:(Value.oneCell' u)=La:=by
    cases this with | d h=>cases h with | sc _ h=>exact h
   exact .d (.sc _ h1)
 have S2:Sx.Sys Z4z (λ_=>False) w2 (tm 22 [(4,ptr g4),(5,ptr g5),(8,int 19)]) (hOf []) 20 a1 w2:=⟨_,_,Inv.empty (λ_ h=>h.elim) dd,T2⟩
 show(bodF f171 0).wpIn (fen (M l)) n prog _ a1 _;rw[hw2];generalize hQ:roundPost prog l _=Q;obtain⟨yc,hyc⟩:∃ yc:Code,bodF f171 0 = .block 1 (.seq (.seq (.region 5 (rgB f171 5) Lb) (.cond (.tmp 15) (.seq (.region 6 (rgB f171 6) Lb) .ret) .skip)) yc):=⟨.region 7 (rgB f171 7) Lb,by kernel_rfl⟩
 rw[hyc];refine wpIn_block (wpIn_seq (wpIn_seq (wpIn_region ?_)));rw[show LF (rgB f171 5).size=[0,1]from by kernel_rfl];refine Z6H (ro:=M l) (hints:=[]) (out:=⟨tm 22 [(4,ptr g4),(5,ptr g5),(8,int 19),(14,int 19),(15,Sx.bool ((19:Int) != 0))],hOf [],[],[]⟩) kr S2 trivial (λp hp=>by simp at hp) ?_;intro a3 w3 S3;have v15:a3.eval (.tmp 15) = .bool La:=by obtain⟨_,_,_,T⟩:=S3;exact Z15 (Z1E T (.tmp 15))
 refine wpIn_cond_true v15 (wpIn_seq (wpIn_region ?_));rw[show LF (rgB f171 6).size=[0]++[1,2]from by kernel_rfl];refine Z3U (ro:=M l) (hints:=[]) (out:=⟨tm 22 [(4,ptr g4),(5,ptr g5),(8,int 19),(14,int 19),(15,Sx.bool ((19:Int) != 0)),(16,int 19)],hOf [],[],[]⟩) kr S3 trivial (λp hp=>by simp at hp) ?_;rintro a4 w4 ⟨ρ4,Im4,I4,T4⟩;have K4:=I4.kept.no;have same4:∀ {g:Nat} {o:Obj},w2.heap[g]? = M o->w4.heap[g]? = M o:=λ{g o} h=>by
  rw[K4.block g (Lh.1 h).1 (λq=>q)];exact h
 have v4:a4.eval (.tmp 4) = .pointer (M ⟨g4,0,Ld⟩):=Z15 (Z1E T4 (.tmp 4));have v5:a4.eval (.tmp 5) = .pointer (M ⟨g5,0,Ld⟩):=Z15 (Z1E T4 (.tmp 5));have v16:a4.eval (.tmp 16) = .int .i64 19:=Z15 (Z1E T4 (.tmp 16));have d4:w4.heap[g4]? = M (.cells #[u4] 182 (0,0)):=same4 (by rw[hs2 _ n4];exact same1 c4);have d5:w4.heap[g5]? = M (.cells #[u5] 32 (0,0)):=same4 (by rw[hs2 _ n5];exact same1 c5);have e4:=setRow_self (cs' := #[.slice Ld 0 0]) d4;have f5:(w4.setRow g4 #[.slice Ld 0 0]).heap[g5]? = M (.cells #[u5] 32 (0,0)):=by rw[setRow_other w4 g4 g5 _ h45.symm];exact d5
 refine Z2Q (o:=(rgB f171 6).getD 1 O) kr kr (Z3l (by intro c h;cases h) (Z5U (Z8o (t:=182) (x:=.tmp 4) (y:=.const (.slice Ld 0 0)) (v:=.slice Ld 0 0) kr v4 rfl d4 rfl kr) ?_));refine Z2Q (o:=(rgB f171 6).getD 2 O) kr kr (Z3l (by intro c h;cases h) (Z5U (Z8o (t:=32) (x:=.tmp 5) (y:=.tmp 16) (v:=.int .i64 19) kr v5 v16 f5 rfl kr) ?_));generalize hw5:(w4.setRow g4 #[.slice Ld 0 0]).setRow g5 #[.int .i64 19]=w5;have sm:∀ {g:Nat},g≠g4->g≠g5->w5.heap[g]? = w4.heap[g]? := λ{g} h k=>by
  rw[<- hw5,setRow_other _ g5 g _ k,setRow_other _ g4 g _ h]
 have rw5:∀ g,rows w5 g=rows w4 g:=λg=>by rw[<- hw5,Z2b _ g5 #[u5] #[.int .i64 19] _ f5 rfl,Z2b _ g4 #[u4] #[.slice Ld 0 0] _ d4 rfl]
 have z5:w5.heap.size=w4.heap.size:=by rw[<- hw5];simp[Xi]
 have os5:w5.os=w4.os/\w5.tape=w4.tape/\w5.output=w4.output:=by rw[<- hw5];exact⟨rfl,rfl,rfl⟩
 have rl5:w5.heap[l]? = M (Ll { state:=.busy,pending:=Ld,fn:=fn,tmps:=a0,params := #[12,13],assign:=asgF f171 0,body:=bodF f171 0,defers:=D }):=by
  rw[sm n4.symm n5.symm];exact same4 rl2
 have m4:g4≠D:=by rintro rfl;rw[c4]at rD;cases rD
 have m5:g5≠D:=by rintro rfl;rw[c5]at rD;cases rD
 refine wpIn_ret ?_;show Q .ret _ w5;rw[<- hQ];refine⟨_,_,run_endRound (M .ret) rl5,rfl,Lq (Lh.1 rl5).1, ?_, ?_, ?_, ?_⟩
 .rw[Lg nD,sm m4.symm m5.symm];exact same4 (by rw[hs2 _ nD];exact same1 rD)
 .rw[Lg n4,<- hw5,setRow_other _ g5 g4 _ h45];exact e4
 .rw[Lg n5,<- hw5];exact setRow_self f5
 .have rowl:∀ (X:World) (o:Obj) (g:Nat),(∃ r,X.heap[l]? = M (.loop r))->(∃ r,o = .loop r)->rows (X.putObj l o) g=rows X g:=by
   rintro X o g ⟨r,hr⟩ ⟨r',rfl⟩;by_cases hg:g=l
   .subst hg;simp[rows,hr,Lq (Lh.1 hr).1]
   .simp only[rows,Lg hg]
  refine⟨os5.1.trans (K4.os.trans (hos2.1.trans K1.os)),os5.2.1.trans (K4.tape.trans (hos2.2.1.trans K1.tape)),os5.2.2.trans (K4.output.trans (hos2.2.2.trans K1.output)), ?_,λg hg hn=>?_,λg hg=>?_⟩
  .rw[Lz,z5];have:=K1.size;have:=K4.size;omega
  .have q1:g≠l:=λe=>hn (.inl e);have q2:g≠g4:=λe=>hn (.inr (.inl e));have q3:g≠g5:=λe=>hn (.inr (.inr e));have:=K1.size;rw[Lg q1,sm q2 q3,K4.block g oq (λq=>q),hs2 g q1,K1.block g hg (λq=>q)]
  .have:=K1.size;rw[rowl _ _ _ ⟨_,rl5⟩ ⟨_,rfl⟩,rw5,K4.rows g oq,<- hw2,rowl _ _ _ ⟨_,same1 rl⟩ ⟨_,rfl⟩,K1.rows g hg]
end Go.Proofs.YtdhchmlalchgeaaGreat
namespace Go.Proofs.YtdhchmlalchgeaaGreat
open Go.Sx Go.RowKit
def Z1b(l:List Found):AV:=.d (.sl 4 (l.map Found.dv))
def Z0w(h:Heap)(i:Int):List Found×Int:=if(Z29 h i).2=La then((Z29 h i).1,0)else([],19)
def LK(w00:World)(g6:Nat)(prot:List (Nat×Obj))(A:Nat->Prop)(pre:List Found)(W:World):Prop:=LJ g6 prot A pre W/\Kept (λ_=>False) w00 W/\∀ g,A g->w00.heap.size<=g
def recV(F:Func)(fn:Nat)(a0:Array Value)(D:Nat)(st:LoopState)(pe:Option Code):Obj:=.loop { state:=st,pending:=pe,fn:=fn,tmps:=a0,params := #[12,13],assign:=asgF F 0,body:=bodF F 0,defers:=D }
def LX(w00:World)(fn:Nat)(a0:Array Value)(l D g4 g5:Nat)(W:World):Prop :=
 W.heap[l]? = M (recV f171 fn a0 D .done (M .ret))/\W.heap[D]? = M (.deferred (M []))/\W.heap[g4]? = M (.cells #[.slice Ld 0 0] 182 (0,0))/\W.heap[g5]? = M (.cells #[.int .i64 19] 32 (0,0))/\Kept (λ_=>False) w00 W
def ZoV{w00:World}{fn:Nat}{a0:Array Value}{D l n g4 g5 g6:Nat}{u4 u5:Value}(ha0:a0.size=22)(ha4:a0[4]? = M (.pointer (M ⟨g4,0,Ld⟩)))(ha5:a0[5]? = M (.pointer (M ⟨g5,0,Ld⟩)))(ha6:a0[6]? = M (.pointer (M ⟨g6,0,Ld⟩)))
  (h45:g4≠g5) (h4:w00.heap.size<=g4) (h5:w00.heap.size<=g5) (hl:w00.heap.size<=l) :
  Rnd l n (LK w00 g6 [(l,recV f171 fn a0 D .ready Ld),(D,.deferred (M [])),(g4,.cells #[u4] 182 (0,0)),(g5,.cells #[u5] 32 (0,0))]) (LX w00 fn a0 l D g4 g5):=by
 refine⟨λA pre X Y ⟨J,K,hA⟩ k=>⟨J.keep k,Z4h K k (λ_ h=>h.elim),hA⟩,λA pre X ⟨⟨ρ,h1,I,_⟩,_,_⟩ g hg=>?_,λA pre X x ⟨J,K,hA⟩ hlen=>?_,λA pre X ⟨J,K,hA⟩ _=>?_⟩
 .obtain⟨b,β,k1,k2⟩:=(h1 g).1 hg;exact I.bnd b β g k1 k2
 .obtain⟨fn',t,s,b,q1,q2⟩:=Zkx (n:=n) (D:=D) hlen ha0 ha6 (List.mem_cons_self) J x;refine⟨fn',t,s,b,q1,q2.mono ?_⟩;rintro e W' ⟨rfl,A',J',hA',K'⟩;refine⟨rfl,A',⟨J',Z4h K K' hA,λg hg=>?_⟩,hA',K'⟩;rcases hA' g hg with h | h
  .exact hA g h
  .exact Xd K.size h
 .obtain⟨ρ,_,_,_,_,_,hp⟩:=J;have p1:=(hp (l,recV f171 fn a0 D .ready Ld) pq).1;have p2:=(hp (D,.deferred (M [])) pq).1;have p3:=(hp (g4,.cells #[u4] 182 (0,0)) pq).1;have p4:=(hp (g5,.cells #[u5] 32 (0,0)) pq).1;obtain⟨fn',t,s,b,q1,q2⟩:=Zlh (n:=n) ha0 ha4 ha5 p1 p2 p3 p4 h45;refine⟨fn',t,s,b,q1,q2.mono ?_⟩;rintro e W' ⟨rfl,m1,m2,m3,m4,K'⟩;refine⟨rfl,m1,m2,m3,m4,Z4h K K' (λg hg=>?_)⟩;rcases hg with rfl | rfl | rfl<;>assumption
def Zl4{w00 W:World}{g6:Nat}{prot:List (Nat×Obj)}{A:Nat->Prop}{pre:List Found}(J:LK w00 g6 prot A pre W):∃ sv,W.heap[g6]? = M (.cells #[sv] 182 (0,0))/\sv.oneCell'=La/\A g6/\∃ Im:Nat->Prop,(∀ g,Im g->A g/\g<W.heap.size)/\RelD W Im (.sl 4 (pre.map Found.dv)) sv:=by
 obtain⟨⟨ρ,hA,I,⟨s6,n6,h6⟩,hs,hr,hp⟩,K,hge⟩:=J;obtain⟨β,m1,m2⟩:=I.blk 6 _ rfl;rw[h6]at m1;cases m1;obtain⟨_,_,g,cs,e1,e2,e3,e4,e5⟩:=m2;cases e1;have hc:cs.size=1:=e3;obtain⟨sv,rfl⟩:∃ sv,cs = #[sv]:=⟨cs[0],by
  apply LG
  .simp[hc]
  .intro k hk _;rcases k with _ | k
   .rfl
   .omega⟩
 have hsv:Rel ρ W (λ_=>False) (.ow 8020) sv:=e5 0 _ sv rfl rfl;have hA6:A g6:=(hA g6).2 ⟨6,_,h6,rfl⟩;refine⟨sv,e2,e4 0 sv rfl,hA6, ?_⟩;obtain⟨β2,k1,k2⟩:=I.blk 8020 _ rfl;let ρ':Rho:=λb=>if b=8020 then ρ 8020 else Ld
 have hρ:∀ b β,ρ' b=M β->b=8020/\ρ 8020=M β:=by
  intro b β h;simp only[ρ']at h;split at h
  .exact⟨aa,h⟩
  .cases h
 have I2:Sx.Inv Z4z (λ_=>False) w00 ρ' W (λ_=>False) (hOf [(8020,.arr 188 4 (pre.map Found.dv))]) 20:=by
  refine⟨K.imp λ_ h=>h.elim,λb b' β β' g _ _ q1 q2 _ _=>by rw[(hρ _ _ q1).1,(hρ _ _ q2).1],λ_ _ _ _ _ _ h=>h,λb β g q1 q2=>I.bnd _ _ g (hρ _ _ q1).2 q2,λb β g q1 q2=>.inl ⟨hge g ((hA g).2 ⟨8020,β,(hρ _ _ q1).2,q2⟩),by rw[(hρ _ _ q1).1];decide⟩,λ_ h=>h.elim,λ_ h=>h.elim,λb B hB=>?_,λb hb _=>?_,⟨by decide,λb β hb q=>absurd hb (by rw[(hρ _ _ q).1];decide)⟩⟩
  .simp only[hOf]at hB;split at hB
   .cases hB;rename_i hb;subst hb;exact⟨β2,by simp only[ρ',if_true];exact k1,k2.mono (Ext.refl _ _) (λ_ h=>h) (λ_ _ h=>h) I.bnd (λ_ _=>rfl) |> λh=>by
     obtain⟨a1,a2,a3,a4,a5⟩:=h;exact⟨a1,a2,a3,a4,a5⟩⟩
   .cases hB
  .simp only[ρ'];rw[if_neg oq]
 have hx:Rel ρ' W (λ_=>False) (.ow 8020) sv:=by
  cases hsv with
  | ow q1 q2 q3 q4=>exact .ow (by simp only[ρ',if_true];exact q1) q2 q3 q4
 have:=Z6r (keep:=[]) (fr:=La) (b:=8020) (els0:=pre.map Found.dv) I2 hx rfl pq ⟨_,rfl,by simp⟩ (λe he=>he) (λ_=>Zme pre) (λa n c hv hn=>by
  subst hv;cases hx with
  | ow q1 q2 q3 q4 =>
   rcases q4 with q4 | ⟨g,q5,q6,_⟩
   .omega
   .cases q6;exact⟨_,q1,q5⟩)
 refine⟨_,λg hg=>?_,this⟩;rcases hg with⟨h,_⟩ | ⟨b,β,_,_,q1,q2⟩
 .cases h
 .exact⟨(hA g).2 ⟨8020,β,(hρ _ _ q1).2,q2⟩,I.bnd _ _ g (hρ _ _ q1).2 q2⟩
end Go.Proofs.YtdhchmlalchgeaaGreat
namespace Go.Proofs.YtdhchmlalchgeaaGreat
open Go.Sx
def Zml(h:Heap):¬ (atH h 0).2=0:=by
 unfold atH;split
 .have:¬ (ofA h.C 0).2.2=0:=by
   unfold ofA;split
   .rw[if_neg oq];simp
   .simp
  rw[if_neg this];simp
 .simp
def Zqf{h:Heap}(hp:Z02 h=La){i o:Int}(hi:0<=i/\i<h.P.length)(ho:0<=o/\o<h.C.pw)(e:(atH h (adr h i o)).2=0):(pg h i).K=2->o=0/\sizeH (atH h (adr h i o)).1=(pg h i).U:=by
 have hv:=Z06 hp;have hq:=properB_iff.1 hp;have ea:adr h i o=4096+(i*h.C.pw+o):=by
  unfold adr address;rw[if_pos hv.1,if_pos (by unfold inB;simp;omega)]
 have eo:=Z8L (c:=h.C) (i:=i) (o:=o) hv.1 oq ho;rw[<- ea]at eo;unfold atH at e ⊢;rw[if_pos hp,eo]at e ⊢;simp only[if_true]at e ⊢;intro hk;have hk':(h.P.getD i.toNat O).K=2:=hk;split at e
 .rename_i h1;rw[if_pos h1];split at e
  .simp at e
  .rename_i h2;rw[if_neg h2];simp only[hk',not_or,not_and]at h2;have:=h2.2;simp only[true_and,not_or,Classical.not_not,forall_const]at this;exact⟨this.1,this.2⟩
 .simp at e
def ZaV{h:Heap}(hp:Z02 h=La){i:Int}(hi:0<=i/\i<h.P.length):∀ (f:Nat) (o:Int),0<=o->((pg h i).K=2->o=0) ->
  ((Z1U h i f o).2=La->Z3o h i f o=M ((Z1U h i f o).1.map (·.addr)))/\((Z1U h i f o).2=Lb->Z3o h i f o=Ld)
 | 0,o,_,_=>⟨λ_=>rfl,λh=>by cases h⟩
 | f+1,o,h0,hk=>by
  unfold Z1U Z3o;by_cases ho:o<(pg h i).U
  .rw[if_pos ho,if_pos ho];by_cases ha:(address h.C i o).2=0
   .by_cases hh:(atH h (adr h i o)).2=0
    .rw[if_pos ⟨ha,hh⟩,if_pos hh];have hpw:o<h.C.pw:=by
      unfold address at ha;split at ha
      .split at ha
       .rename_i hb;unfold inB at hb;simp at hb;omega
       .simp at ha
      .simp at ha
     have h2:=Zqf hp hi ⟨h0,hpw⟩ hh;by_cases hk2:(pg h i).K=2
     .rw[if_pos hk2];have e:Z1U h i f (o+sizeH (atH h (adr h i o)).1)=([],La):=by
       have:=h2 hk2;cases f with
       | zero=>rfl
       | succ f=>unfold Z1U;rw[if_neg oq]
      rw[e];exact⟨λ_=>rfl,λh=>by cases h⟩
     .rw[if_neg hk2];have sz:=Z1d (atH h (adr h i o)).1;obtain⟨i1,i2⟩:=ZaV hp hi f (o+sizeH (atH h (adr h i o)).1) oq (λh=>absurd h hk2);exact⟨λh=>by rw[i1 h];rfl,λh=>by rw[i2 h];rfl⟩
    .rw[if_neg (λq=>hh q.2),if_neg hh];exact⟨λh=>(by cases h),λ_=>rfl⟩
   .have e:adr h i o=0:=by
     unfold adr address at *;split at ha
     .rename_i hv;split at ha
      .simp at ha
      .rename_i hb;rw[if_pos hv,if_neg hb]
     .rename_i hv;rw[if_neg hv]
    rw[if_neg (λq=>ha q.1),if_neg (by rw[e];exact Zml h)];exact⟨λh=>(by cases h),λ_=>rfl⟩
  .rw[if_neg ho,if_neg ho];exact⟨λ_=>rfl,λh=>(by cases h)⟩
def ZgM{h:Heap}{i:Int}:∀ {f:Nat} {o:Int},∀ x∈(Z1U h i f o).1,x.hd=(atH h x.addr).1/\(atH h x.addr).2=0/\∃ o,x.addr=adr h i o
 | 0,o,x,hx=>by simp[Z1U]at hx
 | f+1,o,x,hx=>by
  unfold Z1U at hx;split at hx
  .split at hx
   .rename_i h1;rcases Lj.1 hx with rfl | hx
    .exact⟨rfl,h1.2,o,rfl⟩
    .exact ZgM x hx
   .simp at hx
  .simp at hx
def Zdw{h:Heap}{i:Int}:∀ {f:Nat} {o:Int},(Z1U h i f o).1.length<=f
 | 0,o=>by simp[Z1U]
 | f+1,o=>by
  unfold Z1U;split
  .split
   .have:=Zdw (h:=h) (i:=i) (f:=f) (o:=o+sizeH (atH h (adr h i o)).1);simp only[L5];omega
   .simp
  .simp
def Z7K{h:Heap}(hp:Z02 h=La){i:Int}(hi:0<=i/\i<h.P.length):Z09 h i=((Z0w h i).1.map (·.addr),(Z0w h i).2):=by
 have hk:=(Z0J hp (j:=i.toNat) oq)
 unfold Z09 Z0w Z29;rw[if_pos hp,if_pos hi];by_cases h1:(pg h i).K=0\/(pg h i).K=3
 .have e:(if(pg h i).K=1\/(pg h i).K=2 then Z1U h i 256 0 else([],La))=([],La):=if_neg oq;rw[if_pos h1,e];rfl
 .have h2:(pg h i).K=1\/(pg h i).K=2:=by
   have:0<=(pg h i).K/\(pg h i).K<=3:=⟨hk.2.2.2.2.1,hk.2.2.2.2.2.1⟩
   omega
  rw[if_neg h1,if_pos h2];obtain⟨i1,i2⟩:=ZaV hp hi 256 0 oq (λ_=>rfl);cases e:(Z1U h i 256 0).2 with
  | true=>rw[i1 e];rfl
  | false=>rw[i2 e];rfl
def Z4L(h:Heap)(i:Int):(Z0w h i).1.length<=256:=by
 unfold Z0w Z29;split
 .split
  .exact Zdw
  .simp
 .simp
def Zbb{h:Heap}{i:Int}:∀ x∈(Z0w h i).1,x.hd=(atH h x.addr).1/\(atH h x.addr).2=0/\∃ o,x.addr=adr h i o:=by
 intro x hx;unfold Z0w Z29 at hx;split at hx
 .split at hx
  .exact ZgM x hx
  .simp at hx
 .simp at hx
def allR(h:Heap):Nat->Nat->List Found×Int
 | 0,_=>([],0)
 | f+1,i=>if(Z0w h i).2=0 then(if(allR h f (i+1)).2=0 then((Z0w h i).1++(allR h f (i+1)).1,0)else([],(allR h f (i+1)).2))else([],(Z0w h i).2)
def allW(h:Heap):List Found×Int:=if Z02 h=La then allR h h.P.length 0 else([],1)
def ZkJ{h:Heap}(hp:Z02 h=La):∀ (f i:Nat),i+f<=h.P.length->Z0Q h f i=((allR h f i).1.map (·.addr),(allR h f i).2)
 | 0,i,_=>rfl
 | f+1,i,hi=>by
  unfold Z0Q allR;rw[Z7K hp (i:=i) oq,ZkJ hp f (i+1) oq];simp only;split
  .split
   .simp
   .rfl
  .rfl
def ZeP(h:Heap):Z10 h=((allW h).1.map (·.addr),(allW h).2):=by
 unfold Z10 allW;split
 .rename_i hp;exact ZkJ hp _ _ oq
 .rfl
def ZmH(h:Heap):∀ (f i:Nat),¬ (allR h f i).2=0->(allR h f i).1=[]
 | 0,i,e=>absurd rfl e
 | f+1,i,e=>by
  unfold allR at e ⊢;split at e
  .rename_i h1;rw[if_pos h1];split at e
   .exact absurd rfl e
   .rename_i h2;rw[if_neg h2]
  .rename_i h1;rw[if_neg h1]
def Zjn{h:Heap}:∀ (f i:Nat),∀ x∈(allR h f i).1,x.hd=(atH h x.addr).1/\(atH h x.addr).2=0
 | 0,i,x,hx=>by simp[allR]at hx
 | f+1,i,x,hx=>by
  unfold allR at hx;split at hx
  .split at hx
   .rcases LO.1 hx with hx | hx
    .exact⟨(Zbb x hx).1,(Zbb x hx).2.1⟩
    .exact Zjn f (i+1) x hx
   .simp at hx
  .simp at hx
def Zin{h:Heap}:∀ x∈(allW h).1,x.hd=(atH h x.addr).1/\(atH h x.addr).2=0:=by
 intro x hx;unfold allW at hx;split at hx
 .exact Zjn _ _ x hx
 .simp at hx
def Zfo(h:Heap):∀ (f i:Nat),(allR h f i).1.length<=256*f
 | 0,i=>by simp[allR]
 | f+1,i=>by
  have:=Z4L h i;have:=Zfo h f (i+1);unfold allR;split
  .split
   .simp;omega
   .simp
  .simp
def Zl9(h:Heap):(allW h).1.length<=16384:=by
 unfold allW;split
 .rename_i hp;have:=Zfo h h.P.length 0;have:=Z06 hp;omega
 .simp
end Go.Proofs.YtdhchmlalchgeaaGreat
namespace Go.Proofs.YtdhchmlalchgeaaGreat
open Go.Sx Go.RowKit
def ZkH{h:Heap}{i:Int}(e:(Z29 h i).2=La):Z0w h i=((Z29 h i).1,0):=if_pos e
def Zhw{h:Heap}{i:Int}(e:(Z29 h i).2=Lb):Z0w h i=([],19):=if_neg (by rw[e];simp)
def Z8g{w00 X:World}(K:Kept (λ_=>False) w00 X){g:Nat}{o:Obj}(hg:w00.heap.size<=g):Kept (λ_=>False) w00 (X.putObj g o):=by
 refine⟨K.os,K.tape,K.output,by rw[Lz];exact K.size,λk hk _=>by rw[Lg oq];exact K.block k hk id,λk hk=>?_⟩;have:=K.rows k hk;unfold rows at this ⊢;rw[Lg oq];exact this
def ZgH{w00 X:World}(K:Kept (λ_=>False) w00 X){g:Nat}{cs:Array Value}(hg:w00.heap.size<=g):Kept (λ_=>False) w00 (X.setRow g cs):=by
 refine⟨K.os,K.tape,K.output,by have:=K.size;simp[Xi];omega,λk hk _=>by rw[setRow_other X g k _ oq];exact K.block k hk id,λk hk=>?_⟩;have:=K.rows k hk;unfold rows at this ⊢;rw[setRow_other X g k _ oq];exact this
def kept_alloc{w00 X:World}(K:Kept (λ_=>False) w00 X)(o:Obj):Kept (λ_=>False) w00 (X.alloc o):=by
 have hs:=K.size;refine⟨K.os,K.tape,K.output,by simp;omega,λk hk _=>by rw[Below.heap_alloc _ _ _ oq];exact K.block k hk id,λk hk=>?_⟩;have:=K.rows k hk;unfold rows at this ⊢;rw[Below.heap_alloc _ _ _ oq];exact this
def Zid{X:World}{l g:Nat}{x y:Option (List Deferred)}(h:X.heap[l]? = M (.deferred x)):rows (X.putObj l (.deferred y)) g=rows X g:=by
 by_cases hg:g=l
 .subst hg;simp[rows,h,Lq (Lh.1 h).1]
 .simp only[rows,Lg hg]
def Zjk{X:World}{l g:Nat}{x y:Loop}(h:X.heap[l]? = M (.loop x)):rows (X.putObj l (.loop y)) g=rows X g:=by
 by_cases hg:g=l
 .subst hg;simp[rows,h,Lq (Lh.1 h).1]
 .simp only[rows,Lg hg]
def Z6e{a:Act}{k:Nat}{v:Value}(h:a.tmps[k]? = M v):a.eval (.tmp k)=v:=by
 show a.tmps.getD k undef=v;simp[Array.getD_eq_getD_getElem?,h]
def Z80{a:Act}{k d:Nat}{u v:Value}(h:a.tmps[k]? = M v)(hk:d≠k):(a.put (M d) u).tmps[k]? = M v:=by
 show(a.tmps.setIfInBounds d u)[k]? = M v;rw[Array.getElem?_setIfInBounds_ne hk];exact h
def Z6t{a:Act}{d:Nat}{u:Value}(h:d<a.tmps.size):(a.put (M d) u).tmps[d]? = M u:=by
 show(a.tmps.setIfInBounds d u)[d]? = M u;rw[Array.getElem?_setIfInBounds_self_of_lt h]
def ZmN{W:World}{g6:Nat}(c6:W.heap[g6]? = M (.cells #[.slice Ld 0 0] 182 (0,0)))(prot:List (Nat×Obj))(hp:∀ p∈prot,W.heap[p.1]? = M p.2/\p.1≠g6):LJ g6 prot (λg=>g=g6) [] W:=by
 have l6:g6<W.heap.size:=(Lh.1 c6).1;let ρ:Rho:=λb=>if b=6 then M ⟨M g6,1,1⟩else if b=8020 then M ⟨Ld,4,0⟩else Ld
 have hρ:∀ b β,ρ b=M β->(b=6/\β=⟨M g6,1,1⟩)\/(b=8020/\β=⟨Ld,4,0⟩):=by
  intro b β h;simp only[ρ]at h;split at h
  .cases h;exact .inl ⟨aa,rfl⟩
  .split at h
   .cases h;exact .inr ⟨aa,rfl⟩
   .cases h
 have hA:∀ g,g=g6↔∃ b β,ρ b=M β/\β.g=M g:=by
  intro g;constructor
  .rintro rfl;exact⟨6,_,rfl,rfl⟩
  .rintro⟨b,β,h,h'⟩;rcases hρ b β h with⟨_,rfl⟩ | ⟨_,rfl⟩
   .cases h';rfl
   .cases h'
 have hg:∀ b β g,ρ b=M β->β.g=M g->b=6/\g=g6:=by
  intro b β g h h';rcases hρ b β h with⟨rfl,rfl⟩ | ⟨_,rfl⟩
  .cases h';exact⟨rfl,rfl⟩
  .cases h'
 refine⟨ρ,hA,⟨Kept.refl _ _,λb b' β β' g _ _ q1 q2 q3 q4=>by rw[(hg _ _ _ q1 q3).1,(hg _ _ _ q2 q4).1],λ_ _ _ _ _ _ h=>h,λb β g q1 q2=>by rw[(hg _ _ _ q1 q2).2];exact l6,λb β g q1 q2=>.inr ⟨b,β,q1,q2⟩,λ_ h=>h.elim,λ_ h=>h.elim,λb B q=>?_,λb hb _=>?_,⟨by decide,λ_ _ _ h=>h⟩⟩,⟨1,1,rfl⟩,λb β h=>?_,λb β g q1 q2=>?_,λp hpp=>hp p hpp⟩
 .simp only[lstH,L8,hOf]at q;split at q
  .rename_i hb;cases q;subst hb;exact⟨_,rfl,rfl,rfl,by simp[big],by simp,.inl ⟨rfl,rfl⟩⟩
  .split at q
   .rename_i hb;cases q;subst hb;refine⟨_,rfl,rfl,rfl,g6,_,rfl,c6,rfl,λi v h=>?_,λo a v ha hv=>?_⟩
    .rcases i with _ | i<;>simp at h;subst h;rfl
    .rcases o with _ | o<;>simp at ha hv;subst ha;subst hv;exact .ow (β:=⟨Ld,4,0⟩) rfl (Lt _) (by simp[big]) (.inl rfl)
   .cases q
 .simp only[ρ];rw[if_neg oq,if_neg oq]
 .rcases hρ b β h with⟨rfl,_⟩ | ⟨rfl,_⟩<;>simp
 .obtain⟨rfl,rfl⟩:=hg _ _ _ q1 q2;rcases hρ _ _ q1 with⟨_,rfl⟩ | ⟨h,_⟩
  .simp[rows,c6]
  .omega
def ZiV{w00 W:World}{Im Im':Nat->Prop}{v4 v5:Value}{l:List Found}{e:Int}(K:Kept (λ_=>False) w00 W)(h1:∀ g,Im' g->w00.heap.size<=g/\g<W.heap.size)(h4:RelD W Im' (.sl 4 (l.map Found.dv)) v4)(h5:v5 = .int .i64 e) :
  Zfe w00 Im La (.tu [Z1b l,int e]) [] (.tuple #[v4,v5]) W:=by
 subst h5;refine⟨K,λ_=>Ld,Im',λg hg=>.inr (h1 g hg).1,λg hg=>(h1 g hg).2,λ_ _ _ h=>(by cases h),λ_ _ _ _ _ h=>(by cases h),λ_ _ h=>(by cases h),λk B h=>(by simp at h),.tu _ _ rfl λi a v ha hv=>?_⟩;rcases i with _ | _ | i<;>simp at ha hv
 .subst ha;subst hv;exact .d h4
 .subst ha;subst hv;exact .d (.sc _ rfl)
theorem Zm7{h:Heap}{i:Int}(hw:WOk h.W)(hp:Z02 h=true)(hi:0≤i∧i<h.P.length){w00 w4:World}{Im Im4:Nat→Prop}{a4:Act}{g4 g5 g6:Nat}{u4 u5 p1 p2:Value}
  (K:Kept (fun _=>False) w00 w4) (ha:a4.tmps.size=22) (t4:a4.tmps[4]? = some (.pointer (some ⟨g4,0,none⟩))) (t5:a4.tmps[5]? = some (.pointer (some ⟨g5,0,none⟩))) (t6:a4.tmps[6]? = some (.pointer (some ⟨g6,0,none⟩)))
  (t11:a4.tmps[11]? = some (.func (.func 205) #[] #[p1,p2])) (hd:a4.defers=[]) (l4:w00.heap.size≤g4) (l5:w00.heap.size≤g5) (n45:g4≠g5) (n46:g4≠g6) (n56:g5≠g6) (l6:w00.heap.size≤g6)
  (c4:w4.heap[g4]? = some (.cells #[u4] 182 (0,0))) (c5:w4.heap[g5]? = some (.cells #[u5] 32 (0,0))) (c6:w4.heap[g6]? = some (.cells #[.slice none 0 0] 182 (0,0)))
  (hIm:∀ g,Im4 g→g<w4.heap.size∧g≠g6) (r1:Rel (fun _=>none) w4 Im4 (.rp h.dvs 0) p1) (r2:Rel (fun _=>none) w4 Im4 (.rp [dint i] 0) p2) {Q:Exit→Act→World→Prop}
  (hQ:bodyPostM Fence.wide 10 Tryz.prog Tryz.f171 (fun e w'=>∃ v,e=Ending.returned v∧Zfe w00 Im true (AV.tu [Z1b (Z0w h i).1,int (Z0w h i).2]) [] v w')=Q) :
  (blkF Tryz.f171 0).wpIn Fence.wide 10 Tryz.prog (Exit.then ((Code.seq (.region 8 (rgO Tryz.f171 8) false) .ret).wpIn Fence.wide 10 Tryz.prog Q) Q) a4 w4:=by
 have hs4:=K.size;rw[show blkF Tryz.f171 0 = .block 0 (.rangeFunc (.tmp 11) #[12,13] (asgF Tryz.f171 0) (bodF Tryz.f171 0))from by kernel_rfl];refine wpIn_block (wpIn_rangeFunc ?_);intro fn hfn;have q4:g4<w4.heap.size:=(Array.getElem?_eq_some_iff.1 c4).1;have q5:g5<w4.heap.size:=(Array.getElem?_eq_some_iff.1 c5).1;have q6:g6<w4.heap.size:=(Array.getElem?_eq_some_iff.1 c6).1;obtain⟨D,hD⟩:∃ D,w4.heap.size=D:=⟨_,rfl⟩
 obtain⟨W1,hW1⟩:∃ W1,(w4.alloc (.deferred (some []))).alloc (recV Tryz.f171 fn a4.tmps D .ready none)=W1:=⟨_,rfl⟩
 have old:∀ {g:Nat},g<D→W1.heap[g]? = w4.heap[g]? := fun {g} hg=>by
  rw[← hW1,Below.heap_alloc _ _ _ qo,Below.heap_alloc _ _ _ oq]
 have atD:W1.heap[D]? = some (.deferred (some [])):=by
  rw[← hW1,Below.heap_alloc _ _ _ qo,← hD];exact World.alloc_heap_new _ _
 have atL:W1.heap[D+1]? = some (recV Tryz.f171 fn a4.tmps D .ready none):=by
  have:=World.alloc_heap_new (w4.alloc (.deferred (some []))) (recV Tryz.f171 fn a4.tmps D .ready none);rw[World.size_alloc,hD]at this;rw[← hW1];exact this
 have z1:W1.heap.size=D+2:=by rw[← hW1];simp;omega
 have K1:Kept (fun _=>False) w00 W1:=by rw[← hW1];exact kept_alloc (kept_alloc K _) _
 have E1:Sx.Ext Im4 w4 W1:=⟨by omega,fun g hg=>old (by have:=(hIm g hg).1;omega),fun g hg=>by unfold rows;rw[old oq]⟩
 have J0:LK w00 g6 [(D+1,recV Tryz.f171 fn a4.tmps D .ready none),(D,.deferred (some [])),(g4,.cells #[u4] 182 (0,0)),(g5,.cells #[u5] 32 (0,0))] (fun g=>g=g6) [] W1:=by
  refine⟨ZmN (by rw[old oq];exact c6) _ fun p hpp=>?_,K1,fun g hg=>by omega⟩;simp only[List.mem_cons,List.not_mem_nil,or_false]at hpp;rcases hpp with rfl | rfl | rfl | rfl
  ·exact⟨atL,by show D+1≠g6;omega⟩
  ·exact⟨atD,by show D≠g6;omega⟩
  ·exact⟨by rw[old (by show g4<D;omega)];exact c4,n46⟩
  ·exact⟨by rw[old (by show g5<D;omega)];exact c5,n56⟩
 have RR:=ZoV (w00:=w00) (fn:=fn) (a0:=a4.tmps) (D:=D) (l:=D+1) (n:=8) (g4:=g4) (g5:=g5) (g6:=g6) (u4:=u4) (u5:=u5) ha t4 t5 t6 n45 l4 l5 oq;have v11:=Z6e t11;refine⟨D+1,[{ target:=.collected D,args := #[] }],W1,{ target:=.fn (.func 205) #[p1,p2],args := #[Z2p (D+1)] },W1,205,#[Z2p (D+1)] ++ #[p1,p2],W1, ?_, ?_,fun _ _=>trivial, ?_,fun _=>by decide, ?_⟩
 ·rw[← hW1,← hD];exact run_enterLoop_outer _ _ _ _ _
 ·simp[resolve,t11,Deferred.ofValue,rangeCall,Z2p,go_sem]
 ·have:=Z24 (P:=Tryz.prog) (f:=205) kr (#[Z2p (D+1)] ++ #[p1,p2]) W1;simp[invoke,go_sem]at this ⊢ <;> exact this
 ·refine(ZnG h i (D+1) 8 hw hp hi RR (Im:=Im4) (fun g hg=>⟨by have:=(hIm g hg).1;omega,(hIm g hg).2⟩) (r1.mono E1 (fun _ h=>h) (fun _ _ h=>h) (fun _ _ _ h=>nomatch h)) (r2.mono E1 (fun _ h=>h) (fun _ _ h=>h) (fun _ _ _ h=>nomatch h)) J0).mono ?_;rintro e W2 ⟨⟨v,rfl⟩,hh⟩;rcases hh with⟨e1,A,J2⟩ | ⟨e1,x1,x2,x3,x4,x5⟩
  ·obtain⟨sv,s1,s2,s3,Im',s4,s5⟩:=Zl4 J2;obtain⟨⟨ρ,_,_,_,_,_,hpp⟩,K2,hge⟩:=J2;have pl:=hpp (D+1,recV Tryz.f171 fn a4.tmps D .ready none) pq;have pD:=hpp (D,.deferred (some [])) pq;have p4:=hpp (g4,.cells #[u4] 182 (0,0)) pq;have p5:=hpp (g5,.cells #[u5] 32 (0,0)) pq;have n6:∀ {g:Nat},¬ A g→g6≠g:=fun hg e=>hg (e▸s3);refine⟨none,_,run_endLoop pl.1 pq, ?_⟩;show(Code.seq (.region 8 (rgO Tryz.f171 8) false) .ret).wpIn Fence.wide 10 Tryz.prog Q { tmps:=a4.tmps,defers:=[{ target:=.collected D,args := #[] }]++a4.defers } _;rw[hd];generalize hW3:W2.putObj (D+1) _=W3;have o3:∀ {g:Nat},g≠D+1→W3.heap[g]? = W2.heap[g]? := fun {g} hg=>by rw[← hW3];exact World.putObj_heap_other hg
   have K3:Kept (fun _=>False) w00 W3:=by rw[← hW3];exact Z8g K2 oq
   have z3:W3.heap.size=W2.heap.size:=by rw[← hW3];exact World.putObj_size
   have d6:W3.heap[g6]? = some (.cells #[sv] 182 (0,0)):=by rw[o3 (n6 pl.2)];exact s1
   have d4:W3.heap[g4]? = some (.cells #[u4] 182 (0,0)):=by rw[o3 oq];exact p4.1
   have d5:W3.heap[g5]? = some (.cells #[u5] 32 (0,0)):=by rw[o3 oq];exact p5.1
   have dD:W3.heap[D]? = some (.deferred (some [])):=by rw[o3 oq];exact pD.1
   refine wpIn_seq (wpIn_region ?_);rw[show List.range (rgO Tryz.f171 8).size=[0,1,2]from by kernel_rfl];refine Z2Q (o:=(rgO Tryz.f171 8).getD 0 default) kr kr (Z3l (ro:=none) (by intro c h;cases h) (Z7l (ZnY (t:=182) (x:=.tmp 6) kr (Z6e t6) d6 s2 kr) ?_));have e4:(W3.setRow g4 #[sv]).heap[g4]? = some (.cells #[sv] 182 (0,0)):=setRow_self d4;have f5:(W3.setRow g4 #[sv]).heap[g5]? = some (.cells #[u5] 32 (0,0)):=by rw[setRow_other W3 g4 g5 _ n45.symm];exact d5
   refine Z2Q (o:=(rgO Tryz.f171 8).getD 1 default) kr kr (Z3l (ro:=none) (by intro c h;cases h) (Z5U (Z8o (t:=182) (x:=.tmp 4) (y:=.tmp 21) (v:=sv) kr (Z6e (Z80 t4 dd)) (Z6e (Z6t (by show 21<a4.tmps.size;omega))) d4 s2 kr) ?_));refine Z2Q (o:=(rgO Tryz.f171 8).getD 2 default) kr kr (Z3l (ro:=none) (by intro c h;cases h) (Z5U (Z8o (t:=32) (x:=.tmp 5) (y:=.const (.int .i64 0)) (v:=.int .i64 0) kr (Z6e (Z80 t5 dd)) rfl f5 rfl kr) ?_));generalize hW5:(W3.setRow g4 #[sv]).setRow g5 #[.int .i64 0]=W5;have o5:∀ {g:Nat},g≠g4→g≠g5→W5.heap[g]? = W3.heap[g]? := fun {g} h k=>by
    rw[← hW5,setRow_other _ g5 g _ k,setRow_other _ g4 g _ h]
   have m4:g4≠D:=by omega
   have m5:g5≠D:=by omega
   have K5:Kept (fun _=>False) w00 W5:=by rw[← hW5];exact ZgH (ZgH K3 l4) l5
   have z5:W5.heap.size=W2.heap.size:=by rw[← hW5,← z3];simp[World.setRow]
   refine wpIn_ret ?_;show Q .ret _ W5;rw[← hQ,ZkH e1];refine Ze5 (g4:=g4) (g5:=g5) (v4:=sv) (v5:=.int .i64 0) (Z6e (a := { tmps:=_,defers:=[] }) (Z80 t4 dd)) (Z6e (a := { tmps:=_,defers:=[] }) (Z80 t5 dd)) ?_ ?_ s2 rfl ?_ ⟨_,rfl,ZiV (Im':=Im') (Z8g K5 oq) (fun g hg=>?_) (s5.mono ⟨?_,fun g hg=>?_,fun g hg=>?_⟩ (fun _ h=>h)) rfl⟩
   ·rw[← hW5,setRow_other _ g5 g4 _ n45];exact e4
   ·rw[← hW5];exact setRow_self f5
   ·rw[o5 m4.symm m5.symm];exact dD
   ·have:=(s4 g hg).2;have:=hge g (s4 g hg).1;rw[World.putObj_size];omega
   ·rw[World.putObj_size];omega
   ·have hA:=(s4 g hg).1;have ne:∀ {k:Nat},¬ A k→g≠k:=fun hk e=>hk (e▸hA);rw[World.putObj_heap_other (ne pD.2),o5 (ne p4.2) (ne p5.2),o3 (ne pl.2)]
   ·rw[Zid (by rw[o5 m4.symm m5.symm];exact dD),← hW5,Z2b _ g5 #[u5] #[.int .i64 0] _ f5 rfl,Z2b _ g4 #[u4] #[sv] _ d4 rfl,← hW3,Zjk pl.1]
  ·refine⟨some .ret,_,run_endLoop x1 pq, ?_⟩;refine wpIn_ret ?_;show Q .ret { tmps:=a4.tmps,defers:=[{ target:=.collected D,args := #[] }]++a4.defers } _;rw[hd,← hQ,Zhw e1];refine Ze5 (g4:=g4) (g5:=g5) (v4:=.slice none 0 0) (v5:=.int .i64 19) (Z6e (a := { tmps:=_,defers:=[] }) t4) (Z6e (a := { tmps:=_,defers:=[] }) t5) ?_ ?_ rfl rfl ?_ ⟨_,rfl,ZiV (Im':=fun _=>False) (Z8g (Z8g x5 oq) oq) (fun _ h=>h.elim) (.slNil _ _ _) rfl⟩
   ·rw[World.putObj_heap_other oq];exact x3
   ·rw[World.putObj_heap_other oq];exact x4
   ·rw[World.putObj_heap_other oq];exact x2
theorem Z5F(h:Heap)(i:Int)(hw:WOk h.W)(hp:Z02 h=true)(hi:0≤i∧i<h.P.length):GP 171 [h.av,int i] true (.tu [Z1b (Z0w h i).1,int (Z0w h i).2]) []:=by
 intro w00 Im vs hIm hsz hargs;rw[← callsIn_wide (n:=10)];refine callsIn_of_wp_marks Tryz.func171 (c:=bdyF Tryz.f171) kr trivial ?_ rfl;have S0:Sx.Sys Z4z Im w00 (tm 22 [(0,h.av),(1,int i)]) (hOf []) 1 { tmps:=vs++Array.replicate (Tryz.f171.ntmps-vs.size) undef,defers:=[] } w00:=by
  have hs2:vs.size=2:=hsz;refine⟨_,Im,Sx.Inv.empty hIm (Nat.le_refl 1),⟨by rw[hs2];simp[hs2];kernel_rfl,fun k y v hy hv=>?_,rfl⟩⟩;rw[show tm 22 [(0,h.av),(1,int i)]=[h.av,int i]++List.replicate 20 .any from by kernel_rfl,List.getElem?_append]at hy;rw[Array.getElem?_append]at hv;split at hy
  ·rename_i hk;rw[if_pos (by rw[hsz];exact hk)]at hv;exact hargs k y v hy hv
  ·have:=List.mem_of_getElem? hy;rw[(List.mem_replicate.1 this).2];exact .any _
 generalize hR:(fun e w'=>∃ v,e=Ending.returned v∧Zfe w00 Im true (AV.tu [Z1b (Z0w h i).1,int (Z0w h i).2]) [] v w')=R;generalize hQ:bodyPostM Fence.wide 10 Tryz.prog Tryz.f171 R=Q;refine Znt h i 10 Q _ _ _ _ _ S0 ?_;rintro a1 w1 ⟨ρ1,Im1,I1,T1⟩;obtain⟨v2,t2,r2⟩:=T1.at (t:=2) (x:=.pt 8002 0 0) rfl;obtain⟨v4,t4,r4⟩:=T1.at (t:=4) (x:=.pt 8004 0 0) rfl;obtain⟨v5,t5,r5⟩:=T1.at (t:=5) (x:=.pt 8005 0 0) rfl;obtain⟨β2,m2,n2⟩:=I1.blk 8002 _ rfl;obtain⟨β4,m4,n4⟩:=I1.blk 8004 _ rfl;obtain⟨β5,m5,n5⟩:=I1.blk 8005 _ rfl;have rp2:Rel (fun _=>none) w1 (fun g=>Im1 g∨β2.g=some g) (.rp h.dvs 0) v2:=Z6O m2 n2 r2 (fun _ h=>.inl h) (fun _ h=>.inr h);obtain⟨g4,s4,k4,e4,rfl⟩:=Z2U r4;obtain⟨g5,s5,k5,e5,rfl⟩:=Z2U r5;rw[m4]at e4;cases e4;rw[m5]at e5;cases e5;have h45:g4≠g5:=by
  rintro rfl;have:=I1.inj 8004 8005 _ _ g4 ⟨_,rfl,by simp⟩ ⟨_,rfl,by simp⟩ m4 m5 rfl rfl;omega
 have l4:w00.heap.size≤g4:=(I1.own 8004 _ g4 m4 rfl).elim (·.1) (fun h=>h.no.elim);have l5:w00.heap.size≤g5:=(I1.own 8005 _ g5 m5 rfl).elim (·.1) (fun h=>h.no.elim);have cell:∀ {β:Bi} {ty g:Nat} {x:AV},RelB ρ1 w1 Im1 β (.box ty [x])→β.g=some g→∃ u,w1.heap[g]? = some (.cells #[u] ty (0,0)):=by
  intro β ty g x hb hg;obtain⟨_,_,g',cs,q1,q2,q3,_⟩:=hb;rw[hg]at q1;cases q1;have hc:cs.size=1:=q3;exact⟨cs[0],by
   have:cs = #[cs[0]]:=by
    apply Array.ext
    ·simp[hc]
    ·intro k hk _;rcases k with _ | k
     ·rfl
     ·omega
   rw[← this];exact q2⟩
 obtain⟨u4,c4⟩:=cell n4 rfl;obtain⟨u5,c5⟩:=cell n5 rfl;have er:rest Tryz.prog 10 1 (bdyF Tryz.f171) Q a1 w1=(Code.region 1 (rgO Tryz.f171 1) false).wpIn Fence.wide 10 Tryz.prog (Exit.then ((Code.seq (.seq (.region 2 (rgO Tryz.f171 2) false) (blkF Tryz.f171 0)) (.seq (.region 8 (rgO Tryz.f171 8) false) .ret)).wpIn Fence.wide 10 Tryz.prog Q) Q) a1 w1:=by kernel_rfl
 rw[er];refine wpIn_region ?_;rw[show List.range (rgO Tryz.f171 1).size=[0]from by kernel_rfl];refine Z2Q (o:=(rgO Tryz.f171 1).getD 0 default) kr kr (Z3l (ro:=none) (by intro c h;cases h) (Z7l (ZmD (t:=182) (z:=.slice none 0 0) kr kr) ?_));show(Code.seq (.seq (.region 2 (rgO Tryz.f171 2) false) (blkF Tryz.f171 0)) (.seq (.region 8 (rgO Tryz.f171 8) false) .ret)).wpIn Fence.wide 10 Tryz.prog Q (a1.put (some 6) (.pointer (some ⟨w1.heap.size,0,none⟩))) (w1.alloc (.cells #[.slice none 0 0] 182));obtain⟨w2,hw2⟩:∃ w2,w1.alloc (.cells #[.slice none 0 0] 182)=w2:=⟨_,rfl⟩
 rw[hw2];obtain⟨g6,hg6⟩:∃ g6,w1.heap.size=g6:=⟨_,rfl⟩
 rw[hg6];have E2:Sx.Ext (fun g=>Im1 g∨β2.g=some g) w1 w2:=by
  rw[← hw2];refine Sx.Ext.alloc _ w1 _ ?_;rintro g (hg | hg)
  ·exact I1.imb g hg
  ·exact I1.bnd _ _ g m2 hg
 have z2:w2.heap.size=w1.heap.size+1:=by rw[← hw2];simp
 have K2:Kept (fun _=>False) w1 w2:=by
  rw[← hw2];exact⟨rfl,rfl,rfl,by simp,fun k hk _=>Below.heap_alloc _ _ _ hk,fun k hk=>by simp only[rows];rw[Below.heap_alloc _ _ _ hk]⟩
 have c6:w2.heap[g6]? = some (.cells #[.slice none 0 0] 182 (0,0)):=by rw[← hw2,← hg6];exact World.alloc_heap_new _ _
 have T2:RelT [] (fun _=>none) w2 (fun g=>Im1 g∨β2.g=some g) (tm 22 [(1,int i),(2,.rp h.dvs 0),(4,ptr g4),(5,ptr g5),(6,ptr g6)]) (a1.put (some 6) (.pointer (some ⟨g6,0,none⟩))):=by
  have A1:RelT [] ρ1 w1 (fun g=>Im1 g∨β2.g=some g) _ a1:=T1.mono (Sx.Ext.refl _ _) (fun _ h=>.inl h) (fun _ _ h=>h) I1.bnd;have A2:=((((A1.reSet 2 .any (fun v _=>.any v)).reSet 4 .any (fun v _=>.any v)).reSet 5 .any (fun v _=>.any v)).pure kr)
  have A3:=((A2.reSet 2 (.rp h.dvs 0) (fun v hv=>by rw[t2]at hv;cases hv;exact rp2)).reSet 4 (ptr g4) (fun v hv=>by rw[t4]at hv;cases hv;simp only[Nat.zero_mul,Nat.add_zero];exact .d (.sc _ rfl))).reSet 5 (ptr g5) (fun v hv=>by rw[t5]at hv;cases hv;simp only[Nat.zero_mul,Nat.add_zero];exact .d (.sc _ rfl));exact(A3.mono E2 (fun _ h=>h) (fun _ _ h=>h) (fun _ _ _ h=>nomatch h)).put 6 (Rel.d (RelD.sc _ rfl))
 have S2:Sx.Sys Z4z (fun g=>Im1 g∨β2.g=some g) w2 (tm 22 [(1,int i),(2,.rp h.dvs 0),(4,ptr g4),(5,ptr g5),(6,ptr g6)]) (hOf []) 20 (a1.put (some 6) (.pointer (some ⟨g6,0,none⟩))) w2:=by
  refine⟨_,_,Sx.Inv.empty ?_ dd,T2⟩;rintro g (hg | hg)
  ·have:=I1.imb g hg;omega
  ·have:=I1.bnd _ _ g m2 hg;omega
 refine wpIn_seq (wpIn_seq (wpIn_region ?_));rw[show List.range (rgO Tryz.f171 2).size=[0,1]++[2]from by kernel_rfl];refine Z3U (ro:=none) (hints:=[]) (out:=⟨tm 22 [(1,int i),(2,.rp h.dvs 0),(4,ptr g4),(5,ptr g5),(6,ptr g6),(9,h.av),(10,int i)],hOf [],[],[]⟩) kr S2 trivial (fun p hp=>by simp at hp) ?_;rintro a3 w3 ⟨ρ3,Im3,I3,T3⟩;have T3:=T3.pure kr;have hcall:(execOp a3.eval ((rgO Tryz.f171 2).getD 2 default)).run Tryz.prog w3 = .ok (.enter 195 #[a3.eval (.tmp 9),a3.eval (.tmp 10)]) w3:=by
  have hop:((rgO Tryz.f171 2).getD 2 default).op = .call ⟨.value (.func 195),#[.tmp 9,.tmp 10],tsOf ((rgO Tryz.f171 2).getD 2 default)⟩:=by kernel_rfl
  have:=Z24 (P:=Tryz.prog) (f:=195) kr #[a3.eval (.tmp 9),a3.eval (.tmp 10)] w3;have hev:a3.eval (.func 195) = .func (.func 195) #[] #[]:=rfl;generalize (rgO Tryz.f171 2).getD 2 default=o at hop ⊢;simp[execOp,hop,resolve,hev,Deferred.ofValue,invoke,this]
 refine Z2Q (o:=(rgO Tryz.f171 2).getD 2 default) kr kr (Z3l (ro:=none) (by intro c h;cases h) ?_);unfold Oper.wp;rw[hcall,Oper.upon_enter];refine(ZqC h i w3 Im3 _ _ I3.imb (Z1E T3 (.tmp 9)) (Z1E T3 (.tmp 10))).mono ?_;rintro e w4 ⟨p1,p2,Im4,rfl,K4,hIm4,rp1,rp2'⟩;have hdst:((rgO Tryz.f171 2).getD 2 default).dst=some 11:=by kernel_rfl
 rw[hdst];have b4:g4<g6:=by rw[← hg6];exact I1.bnd _ _ _ m4 rfl
 have b5:g5<g6:=by rw[← hg6];exact I1.bnd _ _ _ m5 rfl
 have s1:=I1.kept.size;have s3:=I3.kept.size;obtain⟨x4,y4,q4⟩:=T3.at (t:=4) (x:=ptr g4) rfl;obtain⟨x5,y5,q5⟩:=T3.at (t:=5) (x:=ptr g5) rfl;obtain⟨x6,y6,q6⟩:=T3.at (t:=6) (x:=ptr g6) rfl;rw[Z15 q4]at y4;rw[Z15 q5]at y5;rw[Z15 q6]at y6;have hz:a3.tmps.size=22:=T3.size;have to4:∀ {g:Nat},g<w2.heap.size→w4.heap[g]? = w2.heap[g]? := fun {g} hg=>by
  rw[K4.block g oq id,I3.kept.no.block g hg id]
 have to2:∀ {g:Nat},g<w1.heap.size→w2.heap[g]? = w1.heap[g]? := fun {g} hg=>K2.block g hg id;refine Zm7 hw hp hi (w4:=w4) (Im4:=Im4) (g4:=g4) (g5:=g5) (g6:=g6) (u4:=u4) (u5:=u5) (p1:=p1) (p2:=p2) (Z4h (Z4h (Z4h I1.kept.no K2 (fun _ h=>h.elim)) I3.kept.no (fun _ h=>h.elim)) K4 (fun _ h=>h.elim)) ?_ (Z80 y4 dd) (Z80 y5 dd) (Z80 y6 dd) (Z6t oq) T3.defers l4 l5 h45 oq oq oq ?_ ?_ ?_ (fun g hg=>?_) rp1 rp2' (by rw[hR];exact hQ)
 ·show(a3.tmps.setIfInBounds 11 _).size=22;rw[Array.size_setIfInBounds];exact hz
 ·rw[to4 oq,to2 oq];exact c4
 ·rw[to4 oq,to2 oq];exact c5
 ·rw[to4 oq];exact c6
 ·obtain⟨h1,h2⟩:=hIm4 g hg;refine⟨h2, ?_⟩;rcases h1 with h1 | h1
  ·rcases I3.im0 g h1 with k | k | k
   ·rcases k with k | k
    ·have:=I1.imb g k;omega
    ·have:=I1.bnd _ _ g m2 k;omega
   ·omega
   ·exact k.no.elim
  ·omega
end Go.Proofs.YtdhchmlalchgeaaGreat
namespace Go.Proofs.YtdhchmlalchgeaaGreat
open Go.Sx
def Z9G{l:List Found}{i:Nat}(hi:i<l.length):l.take (i+1)=l.take i++[l.getD i O]:=by
 rw[Xc];simp[hi]
def Zmu(l:List Found)(i:Nat):Tg:=⟨tm 19 [(2,.d (.sl 0 [])),(3,.ow 16003),(6,Z1b l),(7,int l.length),(8,int i)],[(16003,.arr 35 1 (((l.take i).map (·.addr)).map wdv))],60⟩
def ZjA(l:List Found)(i:Nat)(hl:l.length<=1048576)(hi:i<l.length):CP (rndF f131 0) (Zmu l i).st .nrm (Zmu l (i+1)).st:=by
 have e:(l.take (i+1)).map (·.addr)=(l.take i).map (·.addr)++[(l.getD i O).addr]:=by rw[Z9G hi,Ly];rfl
 have en:((l.take i).map (·.addr)).length<=1048576:=by simp;omega
 let y0:=l.getD i O;exact sF [(496016,16003)] (fO 5) (Fh 16 [.els (Lc wdv (Lc (λ(x:Found)=>x.addr) (Lk i l)++[y0.addr]))] (Ftb 9 (Le ((i:Int)<(l.length:Int))) (Fek 10 Found.dv l (↑i) i (Fs 15 (Lc wdv [y0.addr]) (Fa (by(simp[*];omega):(Lc wdv (Lc (λ(x:Found)=>x.addr) (Lk i l))).length+(Lc wdv [y0.addr]).length<=2^30) (Fa (ms:Lc wdv (Lc (λ(x:Found)=>x.addr) (Lk i l))++Lc wdv [y0.addr]=Lc wdv (Lc (λ(x:Found)=>x.addr) (Lk i l)++[y0.addr])) (Fx 17 i (Fr (35:Int) (Fa (by refine congrArg _ ?_;rw[e]:Lc wdv (Lc (λ(x:Found)=>x.addr) (Lk i l)++[y0.addr])=Lc wdv (Lc (λ(x:Found)=>x.addr) (Lk (i+1) l))) Fz)))))))))
def ZoE(l:List Found):CP (rndF f131 0) (Zmu l l.length).st (.ext 0) (Tg.st ⟨tm 19 [(2,.d (.sl 0 [])),(3,.ow 16003)],[(16003,.arr 35 1 ((l.map (·.addr)).map wdv))],60⟩):=by
 exact sF [] (fO 2) (Ffb 9 (Le ((l.length:Int)<(l.length:Int))) (Fr (35:Int) (Fa (by refine congrArg _ ?_;refine congrArg _ ?_;simp[LC,LM,LN,Ly,wdv,idv]:Lc wdv (Lc (λ(x:Found)=>x.addr) (Lk l.length l))=Lc wdv (Lc (λ(x:Found)=>x.addr) l)) Fz)))
def ZmZ(l:List Found)(hl:l.length<=1048576)  := Z0a (S:=λj=>(Zmu l j).st) l.length (by kernel_rfl) (λj hj=>ZjA l j hl hj) (ZoE l)
def Z6U(l:List Found)(hl:l.length<=1048576):GP 131 [Z1b l] La (Z01 (l.map (·.addr))) []:=by
 exact gF [] func131 [] (Fh 3 [.own] (Fl 7 Found.dv l (Fu (@ZmZ l aa) (Fa (by exact Z1a _:Z0x (Lc wdv (Lc (λ(x:Found)=>x.addr) l))) Fz))))
def Z3N(h:Heap)(i:Int)(hw:WOk h.W)(hi:-9223372036854775808<=i/\i<=9223372036854775807):GP 192 [h.av,int i] Lb (.tu [Z01 (Z09 h i).1,int (Z09 h i).2]) []:=by
 cases hp:Z02 h with
 | false =>
  have e7:Z09 h i=([],1):=by unfold Z09;rw[if_neg (by rw[hp];simp)]
  rw[e7];exact gF [] func192 [] (Fh 8 [.br La] (Fc 10 (@Z0N h) (Fb ((!Z02 h)=La) (Fnl Fz))))
 | true =>
  have po:=Z06 hp;by_cases hi2:0<=i/\i<h.P.length
  .have e7:=Z7K hp hi2;have el:=Z4L h i;by_cases e:(Z0w h i).2=0
   .rw[show Z09 h i=(Lc (λ(x:Found)=>x.addr) (Z0w h i).1,(0:Int))from by rw[e7,e]];exact gF [] func192 [] (Fh 12 [.br Lb] (Fh 29 [.br Lb] (Fc 10 (@Z0N h) (Fb ((!Z02 h)=Lb) (FlG 19 (!decide (i<0)) Page.dv h.P (Fb ((Le (i<0)||Le ((h.P.length:Int)<=i))=Lb) (Fc 25 (@Z5F h i aa aa aa) (Ffb 8 ((Z0w h i).2 != 0) (Fc 32 (@Z6U ((Z0w h i).1) oq) Fz)))))))))
   .have e8:(Z0w h i).1=[]:=by
     unfold Z0w at e ⊢;split at e
     .exact absurd rfl e
     .rename_i h9;rw[if_neg h9]
    exact gF [] func192 (fO 5) (Fh 8 [.br Lb] (Fh 12 [.br Lb] (Fc 10 (@Z0N h) (Fb ((!Z02 h)=Lb) (FlG 19 (!decide (i<0)) Page.dv h.P (Fb ((Le (i<0)||Le ((h.P.length:Int)<=i))=Lb) (Fc 25 (@Z5F h i aa aa aa) (Ftb 29 ((Z0w h i).2 != 0) (Fnl (Fa (by rw[e7,e8];rfl:[]=Lc wdv (Z09 h i).1) (Fa (by rw[e7]:(Z0w h i).2=(Z09 h i).2) Fz)))))))))))
  .have e7:Z09 h i=([],2):=by unfold Z09;rw[if_pos hp,if_neg hi2]
   rw[e7];exact gF [] func192 [] (Fh 8 [.br Lb] (Fh 12 [.br La] (Fc 10 (@Z0N h) (Fb ((!Z02 h)=Lb) (FlG 19 (!decide (i<0)) Page.dv h.P (Fb ((Le (i<0)||Le ((h.P.length:Int)<=i))=La) (Fnl Fz)))))))
def Zho(h:Heap)(i:Nat)(acc:List Found):Tg:=⟨tm 31 [(1,.pt 8001 0 0),(2,.d (.sl 0 [])),(3,int 0),(4,.ow 24004),(13,int h.P.length),(14,int i)],[(24004,.arr 188 4 (acc.map Found.dv)),(8001,.box 28 h.cells)],60⟩
section
variable (h:Heap) (i:Nat) (acc:List Found) (hw:WOk h.W) (hp:Z02 h=La) (hl:h.P.length<=1048576) (ha:acc.length<=1048576)
include hw hp hl ha
theorem ZiB(hi:i<h.P.length)(e:(Z0w h i).2=0):CP (rndF f130 0) (Zho h i acc).st .nrm (Zho h (i+1) (acc++(Z0w h i).1)).st:=by
 have hn:=Z4L h i;exact sF [(512028,24004)] [] (Fh 28 [.els (Lc Found.dv (acc++(Z0w h (i:Int)).1))] (Ftb 15 (Le ((i:Int)<(h.P.length:Int))) (Fc 20 (@Z5F h ((i:Int)) aa aa oq) (Ffb 24 ((Z0w h (i:Int)).2 != 0) (Fa (by(simp only[Lp];omega):(Lc Found.dv acc).length+(Lc Found.dv (Z0w h (i:Int)).1).length<=2^30) (Fa (ms:Lc Found.dv acc++Lc Found.dv (Z0w h (i:Int)).1=Lc Found.dv (acc++(Z0w h (i:Int)).1)) (Fx 29 i Fz)))))))
theorem Zox(hi:i<h.P.length)(e:¬ (Z0w h i).2=0):CP (rndF f130 0) (Zho h i acc).st .ret (Tg.st ⟨tm 31 [(2,.d (.sl 0 [])),(3,int (Z0w h i).2)],[],60⟩):=by
 exact sF [] [] (Ftb 15 (Le ((i:Int)<(h.P.length:Int))) (Fc 20 (@Z5F h ((i:Int)) aa aa oq) (Ftb 24 ((Z0w h (i:Int)).2 != 0) Fz)))
omit hw hp hl ha in
theorem ZoM:CP (rndF f130 0) (Zho h h.P.length acc).st (.ext 0) (Tg.st ⟨tm 31 [(2,.d (.sl 0 [])),(3,int 0),(4,.ow 24004)],[(24004,.arr 188 4 (acc.map Found.dv))],60⟩):=by
 exact sF [] [] (Ffb 15 (Le ((h.P.length:Int)<(h.P.length:Int))) Fz)
end
def Znm(h:Heap)(hw:WOk h.W)(hp:Z02 h=La)(hl:h.P.length<=1048576):∀ (f i:Nat) (acc:List Found),i+f=h.P.length->acc.length+256*f<=1048576 ->
  ((allR h f i).2=0->LSpec prog f130 0 (Zho h i acc).st (.ext 0) (Tg.st ⟨tm 31 [(2,.d (.sl 0 [])),(3,int 0),(4,.ow 24004)],[(24004,.arr 188 4 ((acc++(allR h f i).1).map Found.dv))],60⟩)) /\
  (¬ (allR h f i).2=0->LSpec prog f130 0 (Zho h i acc).st .ret (Tg.st ⟨tm 31 [(2,.d (.sl 0 [])),(3,int (allR h f i).2)],[],60⟩)):=by
 intro f;induction f with
 | zero =>
  intro i acc hi _;have:i=h.P.length:=by omega
  subst this;refine⟨λ_=>?_,λe=>absurd rfl e⟩;rw[allR,LI];exact .endx (ZoM h acc)
 | succ f ih =>
  intro i acc hi hb;have hn:=Z4L h i;unfold allR;by_cases e:(Z0w h i).2=0
  .rw[if_pos e];have hr:=ZiB h i acc hw hp hl oq oq e;obtain⟨i1,i2⟩:=ih (i+1) (acc++(Z0w h i).1) oq qo;by_cases e2:(allR h f (i+1)).2=0
   .rw[if_pos e2];refine⟨λ_=>?_,λe=>absurd rfl e⟩;have:=i1 e2;rw[List.append_assoc]at this;exact .next hr this
   .rw[if_neg e2];exact⟨λe=>absurd e e2,λ_=>.next hr (i2 e2)⟩
  .rw[if_neg e];exact⟨λe'=>absurd e' e,λ_=>.endr (Zox h i acc hw hp hl oq oq e)⟩
def ZlK(h:Heap)(hw:WOk h.W)(hp:Z02 h=La)(hl:h.P.length<=64)(e:(allR h h.P.length 0).2=0):CP (blkF f130 0) (Tg.st ⟨tm 31 [(1,.pt 8001 0 0),(2,.d (.sl 0 [])),(3,int 0),(4,.ow 24004),(13,int h.P.length),(14,int 0)],[(24004,.arr 188 4 []),(8001,.box 28 h.cells)],60⟩) .nrm
  (Tg.st ⟨tm 31 [(2,.d (.sl 0 [])),(3,int 0),(4,.ow 24004)],[(24004,.arr 188 4 ((allR h h.P.length 0).1.map Found.dv))],60⟩) :=
 ((Znm h hw hp oq h.P.length 0 [] oq qo).1 e).ext kr
def Zf9(h:Heap)(hw:WOk h.W)(hp:Z02 h=La)(hl:h.P.length<=64)(e:¬ (allR h h.P.length 0).2=0):CP (blkF f130 0) (Tg.st ⟨tm 31 [(1,.pt 8001 0 0),(2,.d (.sl 0 [])),(3,int 0),(4,.ow 24004),(13,int h.P.length),(14,int 0)],[(24004,.arr 188 4 []),(8001,.box 28 h.cells)],60⟩) .ret
  (Tg.st ⟨tm 31 [(2,.d (.sl 0 [])),(3,int (allR h h.P.length 0).2)],[],60⟩) :=
 ((Znm h hw hp oq h.P.length 0 [] oq qo).2 e).ret kr
def Zmg(h:Heap)(hw:WOk h.W)(e:(allW h).2=0):GP 130 [h.av] La (.tu [.ow 0,int 0]) [.arr 188 4 ((allW h).1.map Found.dv)]:=by
 have hp:Z02 h=La:=by
  unfold allW at e;split at e
  .assumption
  .simp at e
 have po:=Z06 hp;have e7:allW h=allR h h.P.length 0:=by rw[allW,if_pos hp]
 rw[e7]at e ⊢;exact gF [24004] func130 [] (Fh 4 [.own] (Fc 9 (@Z0N h) (Ffb 10 (!Z02 h) (Fl 13 Page.dv h.P (Fu (@ZlK h aa aa oq aa) (Fa (by exact Zme _:Z0x (Lc Found.dv (allR h h.P.length 0).1)) Fz))))))
def Zhf(h:Heap)(hw:WOk h.W)(e:¬ (allW h).2=0):GP 130 [h.av] La (.tu [Z1b [],int (allW h).2]) []:=by
 cases hp:Z02 h with
 | false =>
  have e7:allW h=([],1):=by rw[allW,if_neg (by rw[hp];simp)]
  refine gspec_ofE [((9:Nat),[Hint.call La (Sx.bool (Z02 h)) []]),((10:Nat),[Hint.br La])] [] [] dd func130 [La] (φ:=GP 77 [h.av] La (Sx.bool (Z02 h)) []/\(!Z02 h)=La/\La=La/\([]:List (List DV))=[]/\[]=Lc Found.dv []/\(1:Int)=(allW h).2) ?_ kr kr;exact⟨(@Z0N (h)),(by(simp only[bs];omega)),rfl,rfl,rfl,(by rw[e7])⟩
 | true =>
  have po:=Z06 hp;have e7:allW h=allR h h.P.length 0:=by rw[allW,if_pos hp]
  rw[e7]at e ⊢;refine gspec_ofE [((9:Nat),[Hint.call La (Sx.bool (Z02 h)) []]),((10:Nat),[Hint.br Lb]),((4:Nat),[Hint.own]),((13:Nat),[Hint.int (h.P.length:Int)])] [((0:Nat),Tg.mk (tm (31:Nat) [((1:Nat),AV.pt (8001:Nat) (0:Nat) (0:Nat)),((2:Nat),AV.d (DV.sl (0:Nat) [])),((3:Nat),int (0:Int)),((4:Nat),AV.ow (24004:Nat)),((13:Nat),int (h.P.length:Int)),((14:Nat),int (0:Int))]) [((24004:Nat),Blk.arr 188 (4:Nat) []),((8001:Nat),Blk.box 28 h.cells)] (60:Nat),Ex.ret,Tg.mk (tm (31:Nat) [((2:Nat),AV.d (DV.sl (0:Nat) [])),((3:Nat),int (allR h h.P.length (0:Nat)).2)]) [] (60:Nat))] [] dd func130 [] (φ:=GP 77 [h.av] La (Sx.bool (Z02 h)) []/\(!Z02 h)=Lb/\Lb=Lb/\(↑(Lc Page.dv h.P).length:Int)=(h.P.length:Int)/\CP (blkF f130 (0:Nat)) (Tg.mk (tm (31:Nat) [((1:Nat),AV.pt (8001:Nat) (0:Nat) (0:Nat)),((2:Nat),AV.d (DV.sl (0:Nat) [])),((3:Nat),int (0:Int)),((4:Nat),AV.ow (24004:Nat)),((13:Nat),int (h.P.length:Int)),((14:Nat),int (0:Int))]) [((24004:Nat),Blk.arr 188 (4:Nat) []),((8001:Nat),Blk.box 28 h.cells)] (60:Nat)).st Ex.ret (Tg.mk (tm (31:Nat) [((2:Nat),AV.d (DV.sl (0:Nat) [])),((3:Nat),int (allR h h.P.length (0:Nat)).2)]) [] (60:Nat)).st/\([]:List (List DV))=[]) ?_ kr kr;exact⟨(@Z0N (h)),(by(simp only[bs];omega)),rfl,(by simp only[Lp]),(@Zf9 (h) aa aa oq aa),rfl⟩
def Z2O(f:Found):Bool:=!(f.hd.K==0)
def ZfO(x:Found):GP 133 [x.av] La (bool (x.hd.K==0)) []:=by
 exact gF [] func133 [] Fz
def Z12(l:List Found):Nat:=(l.takeWhile Z2O).length
def Z6G{l:List Found}{m:Nat}(h:m<Z12 l):m<l.length/\((l.getD m O).hd.K==0)=Lb:=by
 obtain⟨h1,h2⟩:=Zha _ _ _ h;refine⟨h1, ?_⟩;rw[Lm,Lr h1];simpa[Z2O]using h2
def ZaB{l:List Found}(h:Z12 l<l.length):((l.getD (Z12 l) O).hd.K==0)=La:=by
 have h2:=Zb2 Z2O l h;have h3:l.getD (Z12 l) O=l[(l.takeWhile Z2O).length]:=by
  rw[Lm,Lr h];rfl
 rw[h3];simpa[Z2O]using h2
def idxF(l:List Found):Int:=if Z12 l<l.length then Z12 l else -1
def Zhs(l:List Found)(i:Nat):Tg:=⟨tm 19 [(0,Z1b l),(1,.fn 133 []),(4,int 0),(7,int l.length),(8,int i)],[],60⟩
def Zdn(l:List Found)(i:Nat)(hl:l.length<=1048576)(hi:i<l.length)(e:((l.getD i O).hd.K==0)=Lb):CP (rndF f172 0) (Zhs l i).st .nrm (Zhs l (i+1)).st:=by
 exact sF [] [] (Fh 16 [.call La (Sx.bool ((l.getD i O).hd.K==0)) [],.br Lb] (Ftb 9 (Le ((i:Int)<(l.length:Int))) (Fek 14 Found.dv l (↑i) i (Fa (@ZfO (l.getD i O)) (Fa ‹((l.getD i O).hd.K==0)=Lb› (Fx 18 i Fz))))))
def Zkm(l:List Found)(i:Nat)(hl:l.length<=1048576)(hi:i<l.length)(e:((l.getD i O).hd.K==0)=La):CP (rndF f172 0) (Zhs l i).st .ret (Tg.st ⟨tm 19 [(4,int i)],[],60⟩):=by
 exact sF [] [] (Fh 16 [.call La (Sx.bool ((l.getD i O).hd.K==0)) [],.br La] (Ftb 9 (Le ((i:Int)<(l.length:Int))) (Fek 14 Found.dv l (↑i) i (Fa (@ZfO (l.getD i O)) (Fa ‹((l.getD i O).hd.K==0)=La› Fz)))))
def Zp7(l:List Found):CP (rndF f172 0) (Zhs l l.length).st (.ext 0) (Tg.st ⟨tm 19 [(4,int 0)],[],60⟩):=by
 exact sF [] [] (Ffb 9 (Le ((l.length:Int)<(l.length:Int))) Fz)
def ZmM(l:List Found)(hl:l.length<=1048576)(h:¬ Z12 l<l.length)  := Z0a (S:=λj=>(Zhs l j).st) l.length (by kernel_rfl) (λj hj=>Zdn l j hl hj (Z6G (by omega)).2) (Zp7 l)
def Zj2(l:List Found)(hl:l.length<=1048576)(h:Z12 l<l.length)  := Z0H (S:=λj=>(Zhs l j).st) (Z12 l) (by kernel_rfl) (λj hj=>Zdn l j hl (by omega) (Z6G hj).2) (Zkm l (Z12 l) hl h (ZaB h))
def Znr(l:List Found)(hl:l.length<=1048576):GP 172 [Z1b l,.fn 133 []] La (int (idxF l)) []:=by
 by_cases h:Z12 l<l.length
 .have e7:idxF l=Z12 l:=if_pos h;rw[e7];exact gF [] func172 [] (Fl 7 Found.dv l (Fu (@Zj2 l aa aa) Fz))
 .have e7:idxF l=-1:=if_neg h;rw[e7];exact gF [] func172 [] (Fl 7 Found.dv l (Fu (@ZmM l aa aa) Fz))
def dfS(l:List Found)(i0:Nat):Nat->List Found×Nat
 | 0=>(l,i0)
 | m+1=>if Z2O ((dfS l i0 m).1.getD (i0+1+m) O)=La then((dfS l i0 m).1.set (dfS l i0 m).2 ((dfS l i0 m).1.getD (i0+1+m) O),(dfS l i0 m).2+1)else dfS l i0 m
def Zjh{l:List Found}{i0:Nat}(h0:(l.take i0).filter Z2O=l.take i0)(h1:i0<l.length)(h2:Z2O (l.getD i0 O)=Lb):∀ m,i0+1+m<=l.length ->
  (dfS l i0 m).1.length=l.length/\(dfS l i0 m).2<=i0+m/\(∀ k,i0+1+m<=k->(dfS l i0 m).1.getD k O=l.getD k O)/\(dfS l i0 m).1.take (dfS l i0 m).2=(l.take (i0+1+m)).filter Z2O
 | 0,_=>by
  refine⟨rfl,Lt _,λ_ _=>rfl, ?_⟩;show l.take i0=(l.take (i0+1)).filter Z2O;rw[Z9G h1,L1,h0];generalize l.getD i0 O=y at h2 ⊢;simp[h2]
 | m+1,hm=>by
  obtain⟨a1,a2,a3,a4⟩:=Zjh h0 h1 h2 m oq;have e:=a3 (i0+1+m) (Lt _);have et:l.take (i0+1+(m+1))=l.take (i0+1+m)++[l.getD (i0+1+m) O]:=Z9G (l:=l) (i:=i0+1+m) (show i0+1+m<l.length by omega);unfold dfS;rw[e,et,L1];generalize hd:dfS l i0 m=d at *;by_cases hk:Z2O (l.getD (i0+1+m) O)=La
  .rw[if_pos hk];refine⟨by simp[a1],by simp only;omega,λk hk'=>?_, ?_⟩
   .simp only;rw[Lm,List.getElem?_set_ne oq,<- Lm];exact a3 k oq
   .have hlt:d.2<d.1.length:=by omega
    simp only;rw[<- a4,Xc,List.take_set_of_le oq];generalize l.getD (i0+1+m) O=y at hk ⊢;simp[hk,hlt]
  .rw[if_neg hk];refine⟨a1,by omega,λk hk'=>a3 k oq, ?_⟩;rw[a4];generalize l.getD (i0+1+m) O=y at hk ⊢;simp[hk]
def Z98(l:List Found):(l.take (Z12 l)).filter Z2O=l.take (Z12 l):=by
 rw[L2];intro x hx;obtain⟨k,hk⟩:=L4 hx;rw[List.getElem?_take]at hk;split at hk
 .rename_i hlt;have:=(Z6G hlt).2;rw[Lm,hk]at this;simpa[Z2O]using this
 .cases hk
def ZaS{l:List Found}(h:Z12 l<l.length):Z2O (l.getD (Z12 l) O)=Lb:=by
 have:=ZaB h;show(!((l.getD (Z12 l) O).hd.K==0))=Lb;rw[this];rfl
def ZiT{l:List Found}(h:Z12 l<l.length):(dfS l (Z12 l) (l.length-Z12 l-1)).1.take (dfS l (Z12 l) (l.length-Z12 l-1)).2=l.filter Z2O/\(dfS l (Z12 l) (l.length-Z12 l-1)).1.length=l.length/\(dfS l (Z12 l) (l.length-Z12 l-1)).2<=l.length:=by
 have h0:=Z98 l;have h2:=ZaS h;obtain⟨a1,a2,a3,a4⟩:=Zjh h0 h h2 (l.length-Z12 l-1) oq;refine⟨?_,a1,by omega⟩;rw[a4,show Z12 l+1+(l.length-Z12 l-1)=l.length from by omega,List.take_length]
def Zk5{l:List Found}(h:¬ Z12 l<l.length):l.filter Z2O=l:=by
 rw[L2];intro x hx;obtain⟨k,hk⟩:=L4 hx;have hlt:k<l.length:=(LL.1 hk).1;have:=(Z6G (l:=l) (m:=k) oq).2;rw[Lm,hk]at this;simpa[Z2O]using this
def Zp3(l:List Found)(hl:l.length<=1048576)(h:¬ Z12 l<l.length):CP (bdyF f132) (Tg.st ⟨tm 42 [(0,.ow 0),(1,.fn 133 [])],[(0,.arr 188 4 (l.map Found.dv))],1⟩) .ret (Tg.st ⟨tm 42 [(4,.ow 0)],[(0,.arr 188 4 (l.map Found.dv))],60⟩):=by
 have e7:idxF l=-1:=if_neg h;exact sF [] [] (Fc 10 (@Znr l aa) (Ftb 12 (idxF l==(-1:Int)) Fz))
def delL(l:List Found)(i0 m:Nat):Tg:=⟨tm 42 [(0,.ow 0),(1,.fn 133 []),(5,int (dfS l i0 m).2),(6,int (i0+1+m:Nat))],[(0,.arr 188 4 ((dfS l i0 m).1.map Found.dv))],60⟩
section
variable (l:List Found) (i0 m:Nat) (hl:l.length<=1048576) (h1:(dfS l i0 m).1.length=l.length) (h2:(dfS l i0 m).2<=i0+m)
include hl h1 h2
theorem Zp4(hm:i0+1+m<l.length)(hk:(((dfS l i0 m).1.getD (i0+1+m) O).hd.K==0)=Lb):CP (rndF f132 0) (delL l i0 m).st .nrm (delL l i0 (m+1)).st:=by
 have e7:dfS l i0 (m+1)=((dfS l i0 m).1.set (dfS l i0 m).2 ((dfS l i0 m).1.getD (i0+1+m) O),(dfS l i0 m).2+1):=by
  rw[dfS,if_pos (by unfold Z2O;rw[hk];rfl)]
 have hk2:¬ ((dfS l i0 m).1.getD ((i0+1+m:Nat):Int).toNat O).hd.K=0:=by rw[LH];simpa using hk
 exact sF [] [Lb,Lb,La,Lb,La] (Fh 10033 [.els (Lc Found.dv ((dfS l i0 m).1.set (↑(dfS l i0 m).2:Int).toNat ((dfS l i0 m).1.getD (↑(i0+1+m):Int).toNat O)))] (Fl 18 Found.dv (dfS l i0 m).1 (Ftb 19 (Le ((↑(i0+1+m):Int)<(↑(dfS l i0 m).1.length:Int))) (Fmq 25 Found.dv ((dfS l i0 m).1) (↑(i0+1+m):Int) (Fc 28 (@ZfO ((dfS l i0 m).1.getD (↑(i0+1+m):Int).toNat O)) (Ftb 29 (!((dfS l i0 m).1.getD (↑(i0+1+m):Int).toNat O).hd.K==0) (Fa (by(simp only[Lp];omega):0<=(↑(dfS l i0 m).2:Int)/\(↑(dfS l i0 m).2:Int).toNat<(Lc Found.dv (dfS l i0 m).1).length) (Fa (by(simp only[Lp];omega):(↑(dfS l i0 m).2:Int).toNat<(Lc Found.dv (dfS l i0 m).1).length) (Fa (by rw[LN];rfl:(Lc Found.dv (dfS l i0 m).1).set (↑(dfS l i0 m).2:Int).toNat [du64 ((dfS l i0 m).1.getD (↑(i0+1+m):Int).toNat O).addr,dint ((dfS l i0 m).1.getD (↑(i0+1+m):Int).toNat O).hd.K,dint ((dfS l i0 m).1.getD (↑(i0+1+m):Int).toNat O).hd.length,DV.sc (Lv Lw ((dfS l i0 m).1.getD (↑(i0+1+m):Int).toNat O).hd.map)]=Lc Found.dv ((dfS l i0 m).1.set (↑(dfS l i0 m).2:Int).toNat ((dfS l i0 m).1.getD (↑(i0+1+m):Int).toNat O))) (Fw 35 ((↑(dfS l i0 m).2:Int)+1) (↑((dfS l i0 m).2+1):Int) (Fw 21 ((↑(i0+1+m):Int)+1) (↑(i0+1+m+1):Int) (Fa (by rw[e7]:(↑((dfS l i0 m).2+1):Int)=(↑(dfS l i0 (m+1)).2:Int)) (Fr (188:Int) (Fa (by refine congrArg _ ?_;rw[e7];rfl:Lc Found.dv ((dfS l i0 m).1.set (↑(dfS l i0 m).2:Int).toNat ((dfS l i0 m).1.getD (↑(i0+1+m):Int).toNat O))=Lc Found.dv (dfS l i0 (m+1)).1) Fz))))))))))))))
theorem Zoo(hm:i0+1+m<l.length)(hk:(((dfS l i0 m).1.getD (i0+1+m) O).hd.K==0)=La):CP (rndF f132 0) (delL l i0 m).st .nrm (delL l i0 (m+1)).st:=by
 have e7:dfS l i0 (m+1)=dfS l i0 m:=by
  rw[dfS,if_neg (by unfold Z2O;rw[hk];simp)]
 have hk2:((dfS l i0 m).1.getD ((i0+1+m:Nat):Int).toNat O).hd.K=0:=by rw[LH];simpa using hk
 let y0:=(dfS l i0 m).1.getD (↑(i0+1+m):Int).toNat O;exact sF [] [Lb,Lb,La,Lb,La] (Fl 18 Found.dv (dfS l i0 m).1 (Ftb 19 (Le ((↑(i0+1+m):Int)<(↑(dfS l i0 m).1.length:Int))) (Fmq 25 Found.dv ((dfS l i0 m).1) (↑(i0+1+m):Int) (Fc 28 (@ZfO y0) (Ffb 29 (!y0.hd.K==0) (Fw 21 ((↑(i0+1+m):Int)+1) (↑(i0+1+m+1):Int) (Fa (by rw[e7]:(↑(dfS l i0 m).2:Int)=(↑(dfS l i0 (m+1)).2:Int)) (Fr (188:Int) (Fa (by refine congrArg _ ?_;rw[e7]:Lc Found.dv (dfS l i0 m).1=Lc Found.dv (dfS l i0 (m+1)).1) Fz)))))))))
theorem ZpK(hm:i0+1+m=l.length):CP (rndF f132 0) (delL l i0 m).st (.ext 0) (Tg.st ⟨tm 42 [(0,.ow 0),(5,int (dfS l i0 m).2)],[(0,.arr 188 4 ((dfS l i0 m).1.map Found.dv))],60⟩):=by
 exact sF [] [] (Fl 18 Found.dv (dfS l i0 m).1 (Ffb 19 (Le ((↑(i0+1+m):Int)<(↑(dfS l i0 m).1.length:Int))) Fz))
end
def delR(l:List Found):List Found×Nat:=dfS l (Z12 l) (l.length-Z12 l-1)
def Zo0(l:List Found)(hl:l.length<=1048576)(h:Z12 l<l.length):CP (blkF f132 0) (Tg.st ⟨tm 42 [(0,.ow 0),(1,.fn 133 []),(5,int (idxF l)),(6,int (idxF l+1))],[(0,.arr 188 4 (l.map Found.dv))],60⟩) .nrm
  (Tg.st ⟨tm 42 [(0,.ow 0),(5,int (delR l).2)],[(0,.arr 188 4 ((delR l).1.map Found.dv))],60⟩):=by
 rw[show idxF l=Z12 l from if_pos h];have h0:(l.take (Z12 l)).filter Z2O=l.take (Z12 l):=Z98 l;have h2:Z2O (l.getD (Z12 l) O)=Lb:=ZaS h;have hh:=λm hm=>Zjh h0 h h2 m hm;have:=Z0a (S:=λj=>(delL l (Z12 l) j).st) (l.length-Z12 l-1) kr (λj hj=>by
  obtain⟨a1,a2,a3,a4⟩:=hh j oq;cases hk:(((dfS l (Z12 l) j).1.getD (Z12 l+1+j) O).hd.K==0)with
  | false=>exact Zp4 l (Z12 l) j hl a1 a2 oq hk
  | true=>exact Zoo l (Z12 l) j hl a1 a2 oq hk) (ZpK l (Z12 l) _ hl (hh _ oq).1 (hh _ oq).2.1 oq)
 exact this
def ZoI(l:List Found)(hl:l.length<=1048576)(h:Z12 l<l.length):CP (bdyF f132) (Tg.st ⟨tm 42 [(0,.ow 0),(1,.fn 133 [])],[(0,.arr 188 4 (l.map Found.dv))],1⟩) .ret (Tg.st ⟨tm 42 [(4,.os 0 0 (delR l).2)],[(0,.arr 188 4 (((delR l).1.take (delR l).2++Lf ((delR l).1.length-(delR l).2) noFound).map Found.dv))],60⟩):=by
 have e7:idxF l=Z12 l:=if_pos h;obtain⟨d1,d2,d3⟩:=ZiT h;have d4:(delR l).1.length=l.length:=d2;have d5:(delR l).2<=l.length:=d3;exact sF [] (fO 6) (Fh 20000 [.els (Lc Found.dv (Lk (↑(delR l).2:Int).toNat (delR l).1++Lf ((↑(Lc Found.dv (delR l).1).length:Int).toNat-(↑(delR l).2:Int).toNat) (Found.mk 0 (Header.mk 0 0 0))++LB ((↑(delR l).2:Int).toNat+(Lf ((↑(Lc Found.dv (delR l).1).length:Int).toNat-(↑(delR l).2:Int).toNat) (Found.mk 0 (Header.mk 0 0 0))).length) (delR l).1))] (Fc 10 (@Znr l aa) (Ffb 12 (idxF l==(-1:Int)) (Fi 15 (idxF l+1) (Fu (@Zo0 l aa aa) (Fa (by(simp only[Lp];omega):0<=(↑(delR l).2:Int)/\(↑(delR l).2:Int)<=(↑(Lc Found.dv (delR l).1).length:Int)) (Fa (by simp only[Z0R,Ly,LC,LM,List.map_replicate,L6];rfl:Z0R (Lc Found.dv (delR l).1) (↑(delR l).2:Int).toNat (Lf ((↑(Lc Found.dv (delR l).1).length:Int).toNat-(↑(delR l).2:Int).toNat) [du64 0,dint 0,dint 0,DV.sc (Lv Lw 0)])=Lc Found.dv (Lk (↑(delR l).2:Int).toNat (delR l).1++Lf ((↑(Lc Found.dv (delR l).1).length:Int).toNat-(↑(delR l).2:Int).toNat) (Found.mk 0 (Header.mk 0 0 0))++LB ((↑(delR l).2:Int).toNat+(Lf ((↑(Lc Found.dv (delR l).1).length:Int).toNat-(↑(delR l).2:Int).toNat) (Found.mk 0 (Header.mk 0 0 0))).length) (delR l).1)) (Fa (by simp[*]:0<=(↑(delR l).2:Int)/\(↑(delR l).2:Int)<=(↑(Lc Found.dv (Lk (↑(delR l).2:Int).toNat (delR l).1++Lf ((↑(Lc Found.dv (delR l).1).length:Int).toNat-(↑(delR l).2:Int).toNat) (Found.mk 0 (Header.mk 0 0 0))++LB ((↑(delR l).2:Int).toNat+(Lf ((↑(Lc Found.dv (delR l).1).length:Int).toNat-(↑(delR l).2:Int).toNat) (Found.mk 0 (Header.mk 0 0 0))).length) (delR l).1)).length:Int)) (Fr (188:Int) (Fa (by refine congrArg _ ?_;simp only[LH,Lp,L6];rw[List.drop_of_length_le oq,LI];rfl:Lc Found.dv (Lk (↑(delR l).2:Int).toNat (delR l).1++Lf ((↑(Lc Found.dv (delR l).1).length:Int).toNat-(↑(delR l).2:Int).toNat) (Found.mk 0 (Header.mk 0 0 0))++LB ((↑(delR l).2:Int).toNat+(Lf ((↑(Lc Found.dv (delR l).1).length:Int).toNat-(↑(delR l).2:Int).toNat) (Found.mk 0 (Header.mk 0 0 0))).length) (delR l).1)=Lc Found.dv (Lk (delR l).2 (delR l).1++Lf ((delR l).1.length-(delR l).2) noFound)) Fz))))))))))
def ZoA(h:Heap)(hw:WOk h.W)(e:(allW h).2=0):ZeC prog 4 (bdyF f79) (Tg.st ⟨tm 17 [(0,h.av)],[],1⟩) (Tg.st ⟨tm 17 [(4,.ow 17008)],[(17008,.arr 188 4 ((allW h).1.map Found.dv))],20⟩):=by
 refine Z5W [((8:Nat),[Hint.call La (AV.tu [AV.ow (0:Nat),int (0:Int)]) [Blk.arr 188 (4:Nat) (Lc Found.dv (allW h).1)]])] [] [] (φ:=GP 130 [h.av] La (AV.tu [AV.ow (0:Nat),int (0:Int)]) [Blk.arr 188 (4:Nat) (Lc Found.dv (allW h).1)]) ?_ kr kr kr kr;exact(@Zmg (h) aa aa)
def Zah(h:Heap)(hw:WOk h.W)(e:¬ (allW h).2=0):GP 79 [h.av] La (.tu [Z01 [],int (allW h).2]) []:=by
 exact gF [] func79 [] (Fc 8 (@Zhf h aa aa) (Ftb 12 ((allW h).2 != 0) (Fnl Fz)))
end Go.Proofs.YtdhchmlalchgeaaGreat
namespace Go.Proofs.YtdhchmlalchgeaaGreat
open Go.Sx Go.RowKit
def ZlT{Ow:Sx.Own}{Im0:Nat->Prop}{w0:World}{ρ:Rho}{w:World}{Im:Nat->Prop}{H:Sx.Heap}{clk:Nat}{x:AV}{v:Value}{s:Nat}{els:List (List DV)}{β:Bi}(I:Sx.Inv Ow Im0 w0 ρ w Im H clk)(hx:Rel ρ w Im x v)(h:Z1p H x=M (s,els))
  (hblk:∀ a n c,v = .slice (M a) n c->n≠0->β.g=M a.block):RelD w (λg=>Im g\/β.g=M g) (.sl s els) v:=by
 obtain⟨p,c,rfl,hbg,hc,hl,hcell⟩:=Z25 I hx h;by_cases he:els=[]
 .subst he;exact .slNil _ _ _
 rcases hcell with hcell | ⟨q,rfl,hq,hcell⟩
 .exact absurd hcell he
 have hn:els.length≠0:=by simpa using he
 refine .sl s els q els.length c (λi o=>(w.cell? ⟨q.block,q.off+(i*s+o),Ld⟩).getD undef) rfl hc hbg (hl he) hq (.inr (hblk q _ c rfl hn)) ?_ ?_
 .intro i e o y hi ho;obtain⟨u,k1,_⟩:=hcell i e o y hi ho;rw[k1];rfl
 .intro i e o y hi ho;obtain⟨u,k1,k2⟩:=hcell i e o y hi ho;rw[k1];exact k2.mono (Sx.Ext.refl _ _) (λg hg=>.inl hg)
def rho0(β:Bi):Rho:=λb=>if b=0 then M β else Ld
def Z5c{β κ:Bi}{b:Nat}(h:rho0 β b=M κ):b=0/\κ=β:=by
 unfold rho0 at h;split at h
 .cases h;exact⟨aa,rfl⟩
 .cases h
def Zf3{β:Bi}{g:Nat}(h:OwA (ownR (rho0 β)) g):β.g=M g:=by
 obtain⟨b,κ,h1,h2⟩:=h;rw[(Z5c h1).2]at h2;exact h2
def ZnH(l:List Found)(hl:l.length<=1048576){w:World}{Im:Nat->Prop}{β:Bi}{v:Value}(hIm:∀ g,Im g->g<w.heap.size)(hB:RelB (rho0 β) w Im β (.arr 188 4 (l.map Found.dv)))(hg:∀ g,β.g=M g->g<w.heap.size/\¬ Im g)
  (hv:Rel (rho0 β) w Im (.ow 0) v):Calls prog 132 #[v,.func (.func 133) #[] #[]] w λe w'=>∃ u,∃ Im':Nat->Prop,e = .returned u/\Kept (λg=>β.g=M g) w w' /\
   (∀ g,Im' g->(Im g\/β.g=M g\/w.heap.size<=g)/\g<w'.heap.size)/\RelD w' Im' (.sl 4 ((l.filter Z2O).map Found.dv)) u:=by
 refine calls_of_wp func132 (c:=bdyF f132) kr ?_;have I0:Sx.Inv (ownR (rho0 β)) Im w (rho0 β) w Im (hOf [(0,.arr 188 4 (l.map Found.dv))]) 1:=by
  refine⟨Kept.refl _ _,λb b' κ κ' g _ _ q1 q2 _ _=>by rw[(Z5c q1).1,(Z5c q2).1],λb κ g _ q1 q2=>?_,λb κ g q1 q2=>?_,λb κ g q1 q2=>?_,hIm,λg h=>.inl h,λb B q=>?_,λb hb _=>?_,⟨Lt _,λ_ _ _ h=>h⟩⟩
  .rw[(Z5c q1).2]at q2;exact(hg g q2).2
  .rw[(Z5c q1).2]at q2;exact(hg g q2).1
  .exact .inr ⟨b,κ,q1,q2⟩
  .simp only[hOf]at q;split at q
   .rename_i hb;cases q;subst hb;exact⟨β,rfl,hB⟩
   .cases q
  .unfold rho0;rw[if_neg oq]
 have S:Sx.Sys (ownR (rho0 β)) Im w (tm 42 [(0,.ow 0),(1,.fn 133 [])]) (hOf [(0,.arr 188 4 (l.map Found.dv))]) 1 { tmps := #[v,.func (.func 133) #[] #[]]++LV (Tryz.f132.ntmps-(#[v,.func (.func 133) #[] #[]]:Array Value).size) undef,defers:=[] } w:=by
  refine⟨_,Im,I0,⟨by kernel_rfl,λk y u hy hu=>?_,rfl⟩⟩;rw[show tm 42 [(0,.ow 0),(1,.fn 133 [])]=[.ow 0,.fn 133 []]++Lf 40 .any from by kernel_rfl,L3]at hy;rw[LS]at hu;split at hy
  .rename_i hk;have hk3:k<2:=hk;rw[if_pos (show k<(#[v,.func (.func 133) #[] #[]]:Array Value).size from hk3)]at hu;rcases k with _ | _ | k
   .cases hy;cases hu;exact hv
   .cases hy;cases hu;exact .fn rfl (λi a v h=>by simp at h)
   .omega
  .have:=Ln hy;rw[(LD.1 this).2];exact .any _
 have fin:∀ (x:AV) (els:List (List DV)) (L:List (List DV)) (clk:Nat) (a':Act) (w':World),Sx.Sys (ownR (rho0 β)) Im w (tm 42 [(4,x)]) (hOf [(0,.arr 188 4 els)]) clk a' w'->(tm 42 [(4,x)]).getD 4 .any=x->(x = .ow 0\/∃ o n,x = .os 0 o n)->Z1p (hOf [(0,.arr 188 4 els)]) x=M (4,L)->L=(l.filter Z2O).map Found.dv ->
   bodyPost prog f132 (λe w'=>∃ u,∃ Im':Nat->Prop,e = .returned u/\Kept (λg=>β.g=M g) w w'/\(∀ g,Im' g->(Im g\/β.g=M g\/w.heap.size<=g)/\g<w'.heap.size)/\RelD w' Im' (.sl 4 ((l.filter Z2O).map Found.dv)) u) .ret a' w':=by
  rintro x els L clk a' w' ⟨ρ,Im',I,T⟩ hx4 hx hc hL;refine bodyPost_ret (results_tmp rfl _ _ _) T.defers ?_;have hr:Rel ρ w' Im' x (a'.tmps.getD 4 undef):=by
   have:=Z1E T (.tmp 4);rw[show ev (tm 42 [(4,x)]) (.tmp 4)=(tm 42 [(4,x)]).getD 4 .any from rfl,hx4]at this;exact this
  generalize a'.tmps.getD 4 undef=u at hr;obtain⟨κ,k1,k2⟩:=I.blk 0 _ rfl;have hκ:∀ g,κ.g=M g->w.heap.size<=g\/β.g=M g:=λg h=>(I.own 0 κ g k1 h).imp (·.1) Zf3;refine⟨u,λg=>Im' g\/κ.g=M g,rfl,I.kept.imp λ_ q=>Zf3 q,λg h=>?_, ?_⟩
  .rcases h with h | h
   .refine⟨?_,I.imb g h⟩;rcases I.im0 g h with q | q | q
    .exact .inl q
    .exact .inr (.inr q)
    .exact .inr (.inl (Zf3 q))
   .refine⟨?_,I.bnd 0 κ g k1 h⟩;rcases hκ g h with q | q
    .exact .inr (.inr q)
    .exact .inr (.inl q)
  .rw[<- hL];refine ZlT I hr hc λa n c hv hn=>?_;subst hv;rcases hx with rfl | ⟨o,m,rfl⟩
   .generalize hvv:Xg (M a) n c=vv at hr;cases hr with
    | ow h1 h2 h3 h4 =>
     injection hvv with e1 e2 e3;rw[k1]at h1;cases h1;rcases h4 with h4 | ⟨g,hg,e,_⟩
     .omega
     .rw[<- e1]at e;cases e;exact hg
   .generalize hvv:Xg (M a) n c=vv at hr;cases hr with
    | os h1 h2 h3 h4 h5 =>
     injection hvv with e1 e2 e3;rw[k1]at h1;cases h1;rcases h5 with h5 | ⟨g,hg,e,_⟩
     .omega
     .rw[<- e1]at e;cases e;exact hg
 by_cases h:Z12 l<l.length
 .refine wp_mono (ZoI l hl h _ _ _ _ _ S) ?_;rintro e a' w' ⟨rfl,S1⟩;obtain⟨d1,d2,d3⟩:=ZiT h;refine fin (.os 0 0 (delR l).2) _ _ _ a' w' S1 rfl (.inr ⟨_,_,rfl⟩) rfl ?_;have d5:(delR l).2<=(delR l).1.length:=by have:(delR l).1.length=l.length:=d2;have:(delR l).2<=l.length:=d3;omega
  rw[List.drop_zero,<- LC,List.take_append_of_le_length (by rw[List.length_take];omega),List.take_take,Nat.min_self];exact congrArg _ d1
 .refine wp_mono (Zp3 l hl h _ _ _ _ _ S) ?_;rintro e a' w' ⟨rfl,S1⟩;refine fin (.ow 0) _ _ _ a' w' S1 rfl (.inl rfl) rfl ?_;rw[Zk5 h]
def Zdj{P:Program}{o:Oper}{a:Act}{w:World}{x:Operand}(ho:o.op = .assign x):(execOp a.eval o).run P w = .ok (.value (a.eval x)) w:=by
 simp[execOp,ho]
def Zp5{P:Program}{o:Oper}{a:Act}{w:World}{x:Operand}(ho:o.op = .move x):(execOp a.eval o).run P w = .ok (.value (a.eval x)) w:=by
 simp[execOp,ho]
theorem Zbv(h:Heap)(hw:WOk h.W)(e:(allW h).2=0):GP 79 [h.av] true (.tu [Z01 (((allW h).1.filter Z2O).map (·.addr)),int 0]) []:=by
 intro w00 Im vs hIm hsz hargs;rw[← callsIn_wide (n:=10)];refine callsIn_of_wp Tryz.func79 (c:=bdyF Tryz.f79) kr trivial ?_ rfl;have hs1:vs.size=1:=hsz;have S0:Sx.Sys Z4z Im w00 (tm 17 [(0,h.av)]) (hOf []) 1 { tmps:=vs++Array.replicate (Tryz.f79.ntmps-vs.size) undef,defers:=[] } w00:=by
  refine⟨_,Im,Sx.Inv.empty hIm (Nat.le_refl 1),⟨by rw[hs1];simp[hs1];kernel_rfl,fun k y v hy hv=>?_,rfl⟩⟩;rw[show tm 17 [(0,h.av)]=[h.av]++List.replicate 16 .any from by kernel_rfl,List.getElem?_append]at hy;rw[Array.getElem?_append]at hv;split at hy
  ·rename_i hk;rw[if_pos (by rw[hsz];exact hk)]at hv;exact hargs k y v hy hv
  ·have:=List.mem_of_getElem? hy;rw[(List.mem_replicate.1 this).2];exact .any _
 generalize hR:(fun e w'=>∃ v,e=Ending.returned v∧Zfe w00 Im true (AV.tu [Z01 (((allW h).1.filter Z2O).map (·.addr)),int 0]) [] v w')=R;generalize hQ:bodyPost Tryz.prog Tryz.f79 R=Q;refine ZoA h hw e 10 Q _ _ _ _ _ S0 ?_;rintro a1 w1 ⟨ρ1,Im1,I1,T1⟩;obtain⟨v4,t4,r4⟩:=T1.at (t:=4) (x:=.ow 17008) rfl;obtain⟨β,m,n⟩:=I1.blk 17008 _ rfl;have hz1:a1.tmps.size=17:=T1.size;have er:rest Tryz.prog 10 4 (bdyF Tryz.f79) Q a1 w1=(Code.region 4 (rgO Tryz.f79 4) false).wpIn Fence.wide 10 Tryz.prog (Exit.then (Code.ret.wpIn Fence.wide 10 Tryz.prog Q) Q) a1 w1:=by kernel_rfl
 rw[er];refine wpIn_region ?_;rw[show List.range (rgO Tryz.f79 4).size=[0,1,2,3,4]from by kernel_rfl];refine Z2Q (o:=(rgO Tryz.f79 4).getD 0 default) kr kr (Z3l (ro:=none) (by intro c h;cases h) (Z7l (Zp5 (x:=.tmp 4) kr) ?_));rw[show((rgO Tryz.f79 4).getD 0 default).dst=some 14 from by kernel_rfl,Z6e t4];generalize ha2:a1.put (some 14) v4=a2;have t14:a2.tmps[14]? = some v4:=by rw[← ha2];exact Z6t oq
 have hz2:a2.tmps.size=17:=by rw[← ha2];show(a1.tmps.setIfInBounds 14 v4).size=17;rw[Array.size_setIfInBounds];exact hz1
 have hd2:a2.defers=[]:=by rw[← ha2];exact T1.defers
 have hcall:(execOp a2.eval ((rgO Tryz.f79 4).getD 1 default)).run Tryz.prog w1 = .ok (.enter 132 #[v4,.func (.func 133) #[] #[]]) w1:=by
  have hop:((rgO Tryz.f79 4).getD 1 default).op = .call ⟨.value (.func 132),#[.tmp 14,.func 133],tsOf ((rgO Tryz.f79 4).getD 1 default)⟩:=by kernel_rfl
  have:=Z24 (P:=Tryz.prog) (f:=132) kr #[v4,.func (.func 133) #[] #[]] w1;have hev:∀ f,a2.eval (.func f) = .func (.func f) #[] #[]:=fun f=>rfl;have hev2:=Z6e t14;generalize (rgO Tryz.f79 4).getD 1 default=o at hop ⊢;simp[execOp,hop,resolve,hev,hev2,Deferred.ofValue,invoke,this]
 refine Z2Q (o:=(rgO Tryz.f79 4).getD 1 default) kr kr (Z3l (ro:=none) (by intro c h;cases h) ?_);unfold Oper.wp;rw[hcall,Oper.upon_enter];have al:=Zl9 h;refine(ZnH (allW h).1 oq (w:=w1) (Im:=Im1) (β:=β) I1.imb (by
  obtain⟨b1,b2,b3,b4,b5⟩:=n;refine⟨b1,b2,b3,b4,b5⟩) (fun g hg=>⟨I1.bnd _ _ g m hg,I1.notIm _ _ g ⟨_,rfl,by simp⟩ m hg⟩) (by
  cases r4 with
  | ow h1 h2 h3 h4=>rw[m]at h1;cases h1;exact .ow rfl h2 h3 h4)).mono ?_
 rintro e w2 ⟨u,Im2,rfl,K2,hIm2,hu⟩;rw[show((rgO Tryz.f79 4).getD 1 default).dst=some 15 from by kernel_rfl];show wpOpsIn _ _ _ _ _ [2,3,4] (a2.put (some 15) u) w2;generalize ha3:a2.put (some 15) u=a3;have t15:a3.tmps[15]? = some u:=by rw[← ha3];exact Z6t oq
 have hz3:a3.tmps.size=17:=by rw[← ha3];show(a2.tmps.setIfInBounds 15 u).size=17;rw[Array.size_setIfInBounds];exact hz2
 have hd3:a3.defers=[]:=by rw[← ha3];exact hd2
 have hcall2:(execOp a3.eval ((rgO Tryz.f79 4).getD 2 default)).run Tryz.prog w2 = .ok (.enter 131 #[u]) w2:=by
  have hop:((rgO Tryz.f79 4).getD 2 default).op = .call ⟨.value (.func 131),#[.tmp 15],tsOf ((rgO Tryz.f79 4).getD 2 default)⟩:=by kernel_rfl
  have:=Z24 (P:=Tryz.prog) (f:=131) kr #[u] w2;have hev:∀ f,a3.eval (.func f) = .func (.func f) #[] #[]:=fun f=>rfl;have hev2:=Z6e t15;generalize (rgO Tryz.f79 4).getD 2 default=o at hop ⊢;simp[execOp,hop,resolve,hev,hev2,Deferred.ofValue,invoke,this]
 refine Z2Q (o:=(rgO Tryz.f79 4).getD 2 default) kr kr (Z3l (ro:=none) (by intro c h;cases h) ?_);unfold Oper.wp;rw[hcall2,Oper.upon_enter];refine(Z6U ((allW h).1.filter Z2O) (by have:=List.length_filter_le Z2O (allW h).1;omega) w2 Im2 #[u] (fun g hg=>(hIm2 g hg).2) rfl (fun i x v hx hv=>by
  rcases i with _ | i
  ·cases hx;cases hv;exact .d hu
  ·simp at hx)).mono ?_
 rintro e w3 ⟨v2,rfl,K3,ρ3,Im3,h31,h32,_,_,h35,_,r2⟩;rw[show((rgO Tryz.f79 4).getD 2 default).dst=some 16 from by kernel_rfl];show wpOpsIn _ _ _ _ _ [3,4] (a3.put (some 16) v2) w3;have r2':RelD w3 Im3 (.sl 1 ((((allW h).1.filter Z2O).map (·.addr)).map wdv)) v2:=by
  cases r2 with | d r=>exact r
 refine Z2Q (o:=(rgO Tryz.f79 4).getD 3 default) kr kr (Z3l (ro:=none) (by intro c h;cases h) (Z7l (Zdj (x:=.tmp 16) kr) ?_));refine Z2Q (o:=(rgO Tryz.f79 4).getD 4 default) kr kr (Z3l (ro:=none) (by intro c h;cases h) (Z7l (Zdj (x:=.const (.int .i64 0)) kr) ?_));rw[show((rgO Tryz.f79 4).getD 3 default).dst=some 2 from by kernel_rfl,show((rgO Tryz.f79 4).getD 4 default).dst=some 3 from by kernel_rfl,Z6e (a:=a3.put (some 16) v2) (Z6t oq)];have hs16:(a3.put (some 16) v2).tmps.size=17:=by show(a3.tmps.setIfInBounds 16 v2).size=17;rw[Array.size_setIfInBounds];exact hz3
 generalize ha4:a3.put (some 16) v2=a4 at hs16 ⊢;have hd4:a4.defers=[]:=by rw[← ha4];exact hd3
 have t2:(a4.put (some 2) v2).tmps[2]? = some v2:=Z6t oq;have hs2:(a4.put (some 2) v2).tmps.size=17:=by show(a4.tmps.setIfInBounds 2 v2).size=17;rw[Array.size_setIfInBounds];exact hs16
 refine wpIn_ret ?_;show Q .ret _ w3;rw[← hQ];refine bodyPost_ret (results_tmp2 rfl _ _ _) (show a4.defers=[]from hd4) ?_;rw[← hR];have q2:=Z6e (Z80 (u:=.int .i64 0) t2 (show 3≠2 by decide));have q3:=Z6e (a:=(a4.put (some 2) v2).put (some 3) (.int .i64 0)) (Z6t (u:=.int .i64 0) oq);have s1:=I1.kept.size;have s2:=K2.size;refine⟨_,rfl,Z4h (Z4h I1.kept.no K2 (fun g hg=>(I1.own _ _ g m hg).elim (·.1) (fun h=>h.no.elim))) K3 (fun _ h=>h.elim),fun _=>none,Im3,fun g hg=>.inr ?_,h32,fun _ _ _ q=>(by cases q),fun _ _ _ _ _ q=>(by cases q),fun _ _ q=>(by cases q),fun k B q=>by simp at q,.tu _ _ rfl fun i x v hx hv=>?_⟩
 ·rcases h31 g hg with q | q
  ·cases q.1
  ·omega
 rcases i with _ | _ | i
 ·cases hx;cases hv;show Rel (fun _=>none) w3 Im3 _ (((a4.put (some 2) v2).put (some 3) (.int .i64 0)).tmps.getD 2 undef);rw[show((a4.put (some 2) v2).put (some 3) (.int .i64 0)).tmps.getD 2 undef=v2 from q2];exact .d r2'
 ·cases hx;cases hv;show Rel (fun _=>none) w3 Im3 _ (((a4.put (some 2) v2).put (some 3) (.int .i64 0)).tmps.getD 3 undef);rw[show((a4.put (some 2) v2).put (some 3) (.int .i64 0)).tmps.getD 3 undef = .int .i64 0 from q3];exact .d (.sc _ rfl)
 ·simp at hx
def Zjd(h:Heap)(e:(allW h).2=0):Z05 h=(((allW h).1.filter Z2O).map (·.addr),0):=by
 have e1:=ZeP h;unfold Z05;rw[e1,e];simp only[Prod.mk.injEq,and_true];rw[List.filter_map];congr 1;refine List.filter_congr λx hx=>?_;have:=(Zin x hx).1;simp only[Function.comp,Z3R,Z2O,this];by_cases hk:(atH h x.addr).1.K=0<;>simp[hk]
def Zft(h:Heap)(e:¬ (allW h).2=0):Z05 h=([],(allW h).2):=by
 have e1:=ZeP h;have e8:(allW h).1=[]:=by
  unfold allW at e ⊢;split at e
  .rename_i hp;rw[if_pos hp];exact ZmH h _ _ e
  .rename_i hp;rw[if_neg hp]
 unfold Z05;rw[e1,e8];rfl
def Z6o(h:Heap)(hw:WOk h.W):GP 79 [h.av] La (.tu [Z01 (Z05 h).1,int (Z05 h).2]) []:=by
 by_cases e:(allW h).2=0
 .rw[Zjd h e];exact Zbv h hw e
 .rw[Zft h e];exact Zah h hw e
end Go.Proofs.YtdhchmlalchgeaaGreat
namespace Go.Proofs.YtdhchmlalchgeaaGreat
open Go.Sx
def Znq{h:Heap}{i o:Int}(e:(address h.C i o).2=0):adr h i o=4096+(i*h.C.pw+o)/\0<=i/\i<h.C.pg/\0<=o/\o<h.C.pw:=by
 unfold address at e;split at e
 .rename_i hv;split at e
  .rename_i hb;have hb':=hb;unfold inB at hb;simp at hb;refine⟨?_,by omega,by omega,by omega,by omega⟩;unfold adr address;rw[if_pos hv,if_pos hb']
  .simp at e
 .simp at e
def Z7G{h:Heap}{i:Int}:∀ {f:Nat} {o:Int},∀ x∈(Z1U h i f o).1,4096+(i*h.C.pw+o)<=x.addr/\x.addr<4096+(i*h.C.pw+h.C.pw)
 | 0,o,x,hx=>by simp[Z1U]at hx
 | f+1,o,x,hx=>by
  unfold Z1U at hx;split at hx
  .split at hx
   .rename_i h1;have ha:=Znq h1.1;rcases Lj.1 hx with rfl | hx
    .simp only;omega
    .have:=Z7G x hx;have:=Z1d (atH h (adr h i o)).1;omega
   .simp at hx
  .simp at hx
def ZdB{h:Heap}{i:Int}:∀ {f:Nat} {o:Int},((Z1U h i f o).1.map (·.addr)).Pairwise (· < ·)
 | 0,o=>by simp[Z1U]
 | f+1,o=>by
  unfold Z1U;split
  .split
   .rename_i h1;have ha:=Znq h1.1;have hs:=Z9O h1.2;rw[L7,List.pairwise_cons];refine⟨λy hy=>?_,ZdB⟩;obtain⟨x,hx,rfl⟩:=Ls.1 hy;have:=(Z7G x hx).1;simp only;omega
   .simp
  .simp
def Z5k{h:Heap}{i:Int}:∀ x∈(Z0w h i).1,4096+i*h.C.pw<=x.addr/\x.addr<4096+(i+1)*h.C.pw:=by
 intro x hx;have e:(i+1)*h.C.pw=i*h.C.pw+h.C.pw:=by rw[LW,LY]
 unfold Z0w Z29 at hx;split at hx
 .split at hx
  .have:=Z7G x hx;omega
  .simp at hx
 .simp at hx
def ZeD(h:Heap)(i:Int):((Z0w h i).1.map (·.addr)).Pairwise (· < ·):=by
 unfold Z0w Z29;split
 .split
  .exact ZdB
  .simp
 .simp
def Zd0{h:Heap}(hw:0<=h.C.pw):∀ (f i:Nat),∀ x∈(allR h f i).1,4096+i*h.C.pw<=x.addr
 | 0,i,x,hx=>by simp[allR]at hx
 | f+1,i,x,hx=>by
  unfold allR at hx;split at hx
  .split at hx
   .rcases LO.1 hx with hx | hx
    .exact(Z5k x hx).1
    .have:=Zd0 hw f (i+1) x hx;have e:((i+1:Nat):Int)*h.C.pw=i*h.C.pw+h.C.pw:=by push_cast;rw[LW,LY]
     omega
   .simp at hx
  .simp at hx
def ZfJ{h:Heap}(hw:0<=h.C.pw):∀ (f i:Nat),((allR h f i).1.map (·.addr)).Pairwise (· < ·)
 | 0,i=>by simp[allR]
 | f+1,i=>by
  unfold allR;split
  .split
   .rw[Ly,List.pairwise_append];refine⟨ZeD h i,ZfJ hw f (i+1),λa ha b hb=>?_⟩;obtain⟨x,hx,rfl⟩:=Ls.1 ha;obtain⟨y,hy,rfl⟩:=Ls.1 hb;have h1:=(Z5k x hx).2;have h2:=Zd0 hw f (i+1) y hy;have e:((i+1:Nat):Int)*h.C.pw=((i:Int)+1)*h.C.pw:=by push_cast;rfl
    omega
   .simp
  .simp
def ZgY(h:Heap):(Z10 h).1.Pairwise (· < ·):=by
 rw[ZeP h];unfold allW;split
 .rename_i hp;exact ZfJ (by have:=Z06 hp;omega) _ _
 .simp
def ZeV(h:Heap):(Z05 h).1.Pairwise (· < ·):=by
 unfold Z05;exact(ZgY h).filter _
def posB(l:List Int)(v:Int):Nat:=(l.takeWhile (λx=>Le (x<v))).length
def Zjw(l:List Int)(v:Int):posB l v<=l.length:=by
 unfold posB;exact(List.takeWhile_sublist _).length_le
def Zee{l:List Int}{v:Int}(hs:l.Pairwise (· < ·)){k:Nat}(hk:k<l.length):(l.getD k O<v↔k<posB l v):=by
 have e:l.getD k O=l[k]:=by rw[Lm,Lr hk];rfl
 rw[e];constructor
 .intro h;by_cases hc:k<posB l v
  .exact hc
  .exfalso;have hp:posB l v<l.length:=by omega
   have h2:=Zb2 (λx=>Le (x<v)) l hp;have h3:¬ l[posB l v]<v:=by
    have:Le (l[posB l v]<v)=Lb:=h2;simpa using this
   rcases Xe (posB l v) k with hlt | hge
   .have:=Xb.1 hs (posB l v) k hp hk hlt;omega
   .have:posB l v=k:=by omega
    simp only[this]at h3;exact h3 h
 .intro h;obtain⟨h1,h2⟩:=Zha _ _ _ h;simpa using h2
def Zlc{l:List Int}{v:Int}(hs:l.Pairwise (· < ·)):(v∈l↔posB l v<l.length/\l.getD (posB l v) O=v):=by
 constructor
 .intro h;obtain⟨k,hk,e⟩:=List.getElem_of_mem h;have e2:l.getD k O=v:=by rw[Lm,Lr hk,<- e];rfl
  have h1:¬ k<posB l v:=λq=>by have:=(Zee (v:=v) hs hk).2 q;omega
  have h2:k=posB l v:=by
   rcases Xe (posB l v) k with hlt | hge
   .have hp:posB l v<l.length:=by omega
    have h3:¬ l.getD (posB l v) O<v:=λq=>by have:=(Zee (v:=v) hs hp).1 q;omega
    have h4:=Xb.1 hs (posB l v) k hp hk hlt;have e5:l.getD (posB l v) O=l[posB l v]:=by rw[Lm,Lr hp];rfl
    omega
   .omega
  subst h2;exact⟨hk,e2⟩
 .rintro⟨h1,h2⟩;rw[<- h2,Lm,Lr h1];exact List.getElem_mem h1
def ZaC(x:Int):GP 185 [u64 x] La (bool Lb) []:=by
 exact gF [] func185 [La] (Fbs ((x != x)=Lb) Fz)
def Zno(x:Int):GP 201 [u64 x] La (bool Lb) []:=by
 exact gF [] func201 [La] (Fbs ((x != x)=Lb) Fz)
def ZjS(x y:Int):GP 184 [u64 x,u64 y] La (bool (Le (x<y))) []:=by
 exact gF [] func184 [] (Fc 6 (@Zno x) (FcG 9 Lb (λhg=>by(try simp only[bs]at hg);exact @Zno y) Fz))
def bsL(l:List Int)(v:Int)(i j:Nat):Tg:=⟨tm 54 [(0,Z01 l),(1,u64 v),(4,int 0),(5,bool Lb),(6,int l.length),(7,int i),(8,int j)],[],60⟩
section
variable (l:List Int) (v:Int) (hl:l.length<=1048576) (i j:Nat) (hij:i<j) (hj:j<=l.length)
include hl hij hj
theorem Zqo(hlt:l.getD ((i+j)/2) O<v):CP (rndF f153 0) (bsL l v i j).st .nrm (bsL l v ((i+j)/2+1) j).st:=by
 rcases bb (Le (l.getD (((i:Int)+(j:Int))/2).toNat O<v))with hc0 | hc0<;>have hc0p:=hc0<;>simp only[bs]at hc0p
 .let y0:=(i:Int)+(j:Int);exact sF [] [] (Fh 27 [.call La (Sx.bool (Le (l.getD (y0/2).toNat O<v))) [],.br La] (Ftb 15 (Le ((i:Int)<(j:Int))) (Fi 18 y0 (Fv 19 y0 (Fg 20 (by exact Z5m rfl dd:y0.fdiv (2^min (LZ 1) 64)=y0/2) (Fo ((0:Int)<=1) (Fi 21 (y0/2) (Fe 24 wdv l (y0/2) (Fa (@ZjS (l.getD (y0/2).toNat O) v) (Fa hc0 (Fi 29 (y0/(2:Int)+1) Fz)))))))))))
 .contradiction
theorem ZqD(hlt:¬ l.getD ((i+j)/2) O<v):CP (rndF f153 0) (bsL l v i j).st .nrm (bsL l v i ((i+j)/2)).st:=by
 rcases bb (Le (l.getD (((i:Int)+(j:Int))/2).toNat O<v))with hc0 | hc0<;>have hc0p:=hc0<;>simp only[bs]at hc0p
 .contradiction
 .let y0:=(i:Int)+(j:Int);exact sF [] [] (Fh 27 [.call La (Sx.bool (Le (l.getD (y0/2).toNat O<v))) [],.br Lb] (Ftb 15 (Le ((i:Int)<(j:Int))) (Fi 18 y0 (Fv 19 y0 (Fg 20 (by exact Z5m rfl dd:y0.fdiv (2^min (LZ 1) 64)=y0/2) (Fo ((0:Int)<=1) (Fi 21 (y0/2) (Fe 24 wdv l (y0/2) (Fa (@ZjS (l.getD (y0/2).toNat O) v) (Fa hc0 Fz))))))))))
end
def Zq5(l:List Int)(v:Int)(i:Nat):CP (rndF f153 0) (bsL l v i i).st (.ext 0) (Tg.st ⟨tm 54 [(0,Z01 l),(1,u64 v),(6,int l.length),(7,int i)],[],60⟩):=by
 exact sF [] [] (Ffb 15 (Le ((i:Int)<(i:Int))) Fz)
def bsGo(l:List Int)(v:Int)(hl:l.length<=1048576)(hs:l.Pairwise (· < ·)):∀ (f i j:Nat),j<=i+f->i<=posB l v->posB l v<=j->j<=l.length ->
  LSpec prog f153 0 (bsL l v i j).st (.ext 0) (Tg.st ⟨tm 54 [(0,Z01 l),(1,u64 v),(6,int l.length),(7,int (posB l v))],[],60⟩):=by
 intro f;induction f with
 | zero =>
  intro i j h1 h2 h3 h4;obtain⟨rfl,rfl⟩:i=posB l v/\j=posB l v:=by omega
  exact .endx (Zq5 l v _)
 | succ f ih =>
  intro i j h1 h2 h3 h4;by_cases hij:i<j
  .have hp:=Zee hs (v:=v) (k:=(i+j)/2) oq;by_cases hlt:l.getD ((i+j)/2) O<v
   .have:=hp.1 hlt;exact .next (Zqo l v hl i j hij h4 hlt) (ih ((i+j)/2+1) j oq oq h3 h4)
   .have:¬ (i+j)/2<posB l v:=λq=>hlt (hp.2 q);exact .next (ZqD l v hl i j hij h4 hlt) (ih i ((i+j)/2) oq h2 oq oq)
  .obtain⟨rfl,rfl⟩:i=posB l v/\j=posB l v:=by omega
   exact .endx (Zq5 l v _)
def Zio(l:List Int)(v:Int)(hl:l.length<=1048576)(hs:l.Pairwise (· < ·)):CP (blkF f153 0) (Tg.st ⟨tm 54 [(0,Z01 l),(1,u64 v),(4,int 0),(5,bool Lb),(6,int l.length),(7,int 0),(8,int l.length)],[],60⟩) .nrm
  (Tg.st ⟨tm 54 [(0,Z01 l),(1,u64 v),(6,int l.length),(7,int (posB l v))],[],60⟩) :=
 (bsGo l v hl hs l.length 0 l.length oq oq (Zjw l v) (Lt _)).ext kr
def bsearch(l:List Int)(v:Int)(hl:l.length<=1048576)(hs:l.Pairwise (· < ·)):GP 153 [Z01 l,u64 v] La (.tu [int (posB l v),bool (Le (v∈l))]) []:=by
 have hm:=Zlc (v:=v) hs;have hp:=Zjw l v;by_cases h1:posB l v<l.length
 .by_cases h2:l.getD (posB l v) O=v
  .have e:Le (v∈l)=La:=by simpa using hm.2 ⟨h1,h2⟩
   rw[e];exact gF [] func153 (fO 24) (Fl 11 wdv l (Fu (@Zio l v aa aa) (FeG 38 (Le ((↑(posB l v):Int)<(l.length:Int))) wdv l (↑(posB l v):Int) (posB l v) (FeG 45 (Le ((↑(posB l v):Int)<(l.length:Int))&&!l.getD (posB l v) O==v) wdv l (↑(posB l v):Int) (posB l v) (FcG 47 (Le ((↑(posB l v):Int)<(l.length:Int))&&!l.getD (posB l v) O==v) (λhg=>by(try simp only[bs]at hg);exact @ZaC (l.getD (posB l v) O)) (FcG 50 (Le ((↑(posB l v):Int)<(l.length:Int))&&!l.getD (posB l v) O==v&&Lb) (λhg=>by(try simp only[bs]at hg);exact @ZaC v) (Fr (↑(posB l v):Int) (Fb ((Le ((↑(posB l v):Int)<(l.length:Int))&&(l.getD (posB l v) O==v||Lb))=La) Fz))))))))
  .have e:Le (v∈l)=Lb:=by
    simp only[decide_eq_false_iff_not];exact λq=>h2 (hm.1 q).2
   rw[e];exact gF [] func153 (fO 24) (Fl 11 wdv l (Fu (@Zio l v aa aa) (FeG 38 (Le ((↑(posB l v):Int)<(l.length:Int))) wdv l (↑(posB l v):Int) (posB l v) (FeG 45 (Le ((↑(posB l v):Int)<(l.length:Int))&&!l.getD (posB l v) O==v) wdv l (↑(posB l v):Int) (posB l v) (FcG 47 (Le ((↑(posB l v):Int)<(l.length:Int))&&!l.getD (posB l v) O==v) (λhg=>by(try simp only[bs]at hg);exact @ZaC (l.getD (posB l v) O)) (FcG 50 (Le ((↑(posB l v):Int)<(l.length:Int))&&!l.getD (posB l v) O==v&&Lb) (λhg=>by(try simp only[bs]at hg);exact @ZaC v) (Fr (↑(posB l v):Int) (Fbs ((Le ((↑(posB l v):Int)<(l.length:Int))&&(l.getD (posB l v) O==v||Lb))=Lb) Fz))))))))
 .have e:Le (v∈l)=Lb:=by
   simp only[decide_eq_false_iff_not];exact λq=>h1 (hm.1 q).1
  rw[e];exact gF [] func153 (fO 24) (Fl 11 wdv l (Fu (@Zio l v aa aa) (FeG 38 (Le ((↑(posB l v):Int)<(l.length:Int))) wdv l (↑(posB l v):Int) (posB l v) (FeG 45 (Le ((↑(posB l v):Int)<(l.length:Int))&&!l.getD (posB l v) O==v) wdv l (↑(posB l v):Int) (posB l v) (FcG 47 (Le ((↑(posB l v):Int)<(l.length:Int))&&!l.getD (posB l v) O==v) (λhg=>by(try simp only[bs]at hg);exact @ZaC (l.getD (posB l v) O)) (FcG 50 (Le ((↑(posB l v):Int)<(l.length:Int))&&!l.getD (posB l v) O==v&&Lb) (λhg=>by(try simp only[bs]at hg);exact @ZaC v) (Fr (↑(posB l v):Int) (Fb ((Le ((↑(posB l v):Int)<(l.length:Int))&&(l.getD (posB l v) O==v||Lb))=Lb) Fz))))))))
def Z7d(h:Header)(i:Int)(hm:0<=h.map/\h.map<=4294967295):GP 155 [h.av,int i] La (bool (Z0f h i)) []:=by
 rcases bb (!Z0h h||Le (i<0)||Le (h.length<=i))with hc0 | hc0<;>have hc0p:=hc0<;>simp only[bs]at hc0p
 .exact gF [] func155 (fO 6) (Fc 6 (@Z3q h aa) (Ft 17 hc0 (Fa (by grind[Z0f]:Lb=Z0f h i) Fz)))
 .obtain⟨⟨hc0paa,hc0pab⟩,hc0pb⟩:=hc0p;have hf3:=validH_iff.1 hc0paa;obtain⟨hf3a,⟨hf3ba,⟨hf3bba,⟨hf3bbba,hf3bbbb⟩⟩⟩⟩:=hf3;exact gF [] func155 (fO 17) (Fc 6 (@Z3q h aa) (Ff 17 hc0 (Fa (by intro hg;(try simp only[bs]at hg);omega:(!h.K==2&&h.K==1)=La->0<=i) (Fa (by exact Znc h i hm aa oq oq:(h.K==2||h.K==1&&bits BinOp.and Lw (h.map.fdiv (2^min i.toNat 32)) (1:Int)==1)=Z0f h i) Fz))))
def hptL(h:Header)(i:Nat):Tg:=⟨tm 19 [(1,.pt 8001 0 0),(2,.d (.sl 0 [])),(3,.ow 16003),(6,int (sizeH h)),(7,int i)],[(16003,.arr 3 1 ((Z0V h i).map idv)),(8001,.box 52 [int h.K,int h.length,u32 h.map])],60⟩
def ZmP(h:Header)(i:Nat)(hm:0<=h.map/\h.map<=4294967295)(hi:(i:Int)<sizeH h):CP (rndF f112 0) (hptL h i).st .nrm (hptL h (i+1)).st:=by
 have hn:=Z4C h i;have hs:=Z1d h;by_cases hp:Z0f h (i:Int)=La
 .have e:Z0V h (i+1)=Z0V h i++[(i:Int)]:=by rw[Z0V,if_pos hp]
  exact sF [(504016,16003)] (fO 5) (Fh 12 [.call La (Sx.bool (Z0f h (i:Int))) [],.br La] (Fh 16 [.els (Lc idv (Z0V h i++[(i:Int)]))] (Ftb 8 (Le ((i:Int)<sizeH h)) (Fa (@Z7d h ((i:Int)) aa) (Fa ‹Z0f h (i:Int)=La› (Fs 15 (Lc idv [(i:Int)]) (Fa (by(simp[*];omega):(Lc idv (Z0V h i)).length+(Lc idv [(i:Int)]).length<=2^30) (Fa (ms:Lc idv (Z0V h i)++Lc idv [(i:Int)]=Lc idv (Z0V h i++[(i:Int)])) (Fx 17 i (Fr (3:Int) (Fa (by refine congrArg _ ?_;rw[e]:Lc idv (Z0V h i++[(i:Int)])=Lc idv (Z0V h (i+1))) Fz)))))))))))
 .have e:Z0V h (i+1)=Z0V h i:=by rw[Z0V,if_neg hp]
  have hp':Z0f h (i:Int)=Lb:=by simpa using hp
  exact sF [] (fO 5) (Fh 12 [.call La (Sx.bool (Z0f h (i:Int))) [],.br Lb] (Ftb 8 (Le ((i:Int)<sizeH h)) (Fa (@Z7d h ((i:Int)) aa) (Fa ‹Z0f h (i:Int)=Lb› (Fx 17 i (Fr (3:Int) (Fa (by refine congrArg _ ?_;rw[e]:Lc idv (Z0V h i)=Lc idv (Z0V h (i+1))) Fz)))))))
def Zq4(h:Header)(i:Nat)(hi:(i:Int)=sizeH h):CP (rndF f112 0) (hptL h i).st (.ext 0) (Tg.st ⟨tm 19 [(2,.d (.sl 0 [])),(3,.ow 16003)],[(16003,.arr 3 1 ((Z0V h i).map idv))],60⟩):=by
 exact sF [] [] (Ffb 8 (Le ((i:Int)<sizeH h)) Fz)
def Z7U(h:Header):Z0V h (sizeH h).toNat=Z03 h:=by
 unfold Z03 sizeH;by_cases hv:Z0h h=La
 .rw[if_pos hv,if_pos hv];have hb:=validH_iff.1 hv;rw[show(h.length+1).toNat=h.length.toNat+1 from by omega,Z0V,if_neg];unfold Z0f;simp;omega
 .rw[if_neg hv,if_neg hv];rfl
def Zof(h:Header)(hm:0<=h.map/\h.map<=4294967295):CP (blkF f112 0) (Tg.st ⟨tm 19 [(1,.pt 8001 0 0),(2,.d (.sl 0 [])),(3,.ow 16003),(6,int (sizeH h)),(7,int 0)],[(16003,.arr 3 1 []),(8001,.box 52 [int h.K,int h.length,u32 h.map])],60⟩) .nrm (Tg.st ⟨tm 19 [(2,.d (.sl 0 [])),(3,.ow 16003)],[(16003,.arr 3 1 ((Z03 h).map idv))],60⟩):=by
 have hs:=Z1d h;rw[<- Z7U];exact Z0a (S:=λi=>(hptL h i).st) (sizeH h).toNat kr (λi hi=>ZmP h i hm oq) (Zq4 h _ oq)
def Z3A(h:Header)(hm:0<=h.map/\h.map<=4294967295):GP 112 [h.av] La (.d (.sl 1 ((Z03 h).map idv))) []:=by
 exact gF [] func112 [] (Fh 3 [.own] (Fc 6 (@Z0S h aa) (Fu (@Zof h aa) (Fa (by exact Z3P _:Z0x (Lc idv (Z03 h))) Fz))))
def ahdL(h:Heap)(i:Nat):Tg:=⟨tm 19 [(1,int i),(2,.pt 8002 0 0),(4,int 0)],[(8002,.box 28 h.cells)],60⟩
def Zmw(h:Heap)(i:Nat)(hi:i+1<h.P.length)(hl:h.P.length<=1048576)(hk:(h.P.getD (i+1) O).K=3):CP (rndF f202 0) (ahdL h (i+1)).st .nrm (ahdL h i).st:=by
 have ei:((i+1:Nat):Int)-1=(i:Int):=by omega
 exact sF [] [] (FeG 11 (Le (0<(↑(i+1):Int))) Page.dv h.P (↑(i+1):Int) (i+1) (Ftb 15 (Le (0<(↑(i+1):Int))&&(h.P.getD (i+1) O).K==3) (Fg 17 (by rw[wrapI' oq oq];omega:L0.wrap ((↑(i+1):Int)-1)=(i:Int)) Fz)))
def Znn(h:Heap)(i:Nat)(hi:i<h.P.length)(hl:h.P.length<=1048576)(hk:¬ (h.P.getD i O).K=3):CP (rndF f202 0) (ahdL h i).st (.ext 0) (Tg.st ⟨tm 19 [(1,int i),(4,int 0)],[],60⟩):=by
 exact sF [] [] (FeG 11 (Le (0<(i:Int))) Page.dv h.P (↑i) i (Ffb 15 (Le (0<(i:Int))&&(h.P.getD i O).K==3) Fz))
def ZpS(h:Heap)(hp:Z02 h=La)(hl:h.P.length<=1048576):∀ i,i<h.P.length->LSpec prog f202 0 (ahdL h i).st (.ext 0) (Tg.st ⟨tm 19 [(1,int (Z0E h.P i)),(4,int 0)],[],60⟩)
 | 0,hi=>.endx (Znn h 0 hi hl (ZpT hp))
 | i+1,hi=>by
  unfold Z0E;by_cases hk:(h.P.getD (i+1) O).K=3
  .rw[if_pos hk];exact .next (Zmw h i hi hl hk) (ZpS h hp hl i oq)
  .rw[if_neg hk];exact .endx (Znn h (i+1) hi hl hk)
def Zo5(h:Heap)(i:Nat)(hp:Z02 h=La)(hi:i<h.P.length)(hl:h.P.length<=1048576):CP (blkF f202 0) (ahdL h i).st .nrm (Tg.st ⟨tm 19 [(1,int (Z0E h.P i)),(4,int 0)],[],60⟩) :=
 (ZpS h hp hl i hi).ext kr
def ZjK(h:Heap)(i:Nat)(hp:Z02 h=La)(hi:i<h.P.length):GP 202 [h.av,int i] La (int (Z0E h.P i)) []:=by
 have po:=Z06 hp;exact gF [] func202 [] (Fu (@Zo5 h i aa aa oq) Fz)
def aclL(h:Heap)(i:Int)(l:List Int)(n:Nat):Tg:=⟨tm 58 [(1,int i),(3,.pt 8003 0 0),(6,u64 0),(7,bool Lb),(13,Z01 l),(14,int l.length),(15,int n)],[(8003,.box 28 h.cells)],60⟩
section
variable (h:Heap) (i:Int) (l:List Int) (n:Nat) (hw:WOk h.W) (hl:l.length<=1048576) (hi:0<=i/\i<h.P.length) (hp:h.P.length<=1048576) (hr:∀ x∈l,0<=x/\x<=8192)
include hw hl hi hp hr
theorem Zgj(hn:n<l.length)(hb:Z1y h i (l.getD n O)=Lb):CP (rndF f193 0) (aclL h i l n).st .nrm (aclL h i l (n+1)).st:=by
 have hx:=hr (l.getD n O) (getD_mem_iff.2 ⟨n,hn,rfl⟩);have hm:=Z3M hw (l.getD n O);simp only[Z1y,bs]at hb;let y0:=atH h (l.getD n O);let y1:=h.P.getD i.toNat O;exact sF [] [] (Ftb 16 (Le ((n:Int)<(l.length:Int))) (Fek 17 wdv l (↑n) n (Fc 22 (@Z4g h (l.getD n O) aa oq) (Fc 26 (@Z0S (y0.1) aa) (Fc 29 (@Z3x h.C) (Fe 34 Page.dv h.P i (FeGq 46 (!(y1.K==1&&!decide (sizeH y0.1<=Z00 h.C))) Page.dv h.P i (Ffb 55 (y1.K==1&&!decide (sizeH y0.1<=Z00 h.C)||y1.K==2&&y0.1.K==0) (Fx 57 n Fz)))))))))
theorem Zmo(hn:n<l.length)(hb:Z1y h i (l.getD n O)=La):CP (rndF f193 0) (aclL h i l n).st .ret (Tg.st ⟨tm 58 [(6,u64 (l.getD n O)),(7,bool La)],[],60⟩):=by
 have hx:=hr (l.getD n O) (getD_mem_iff.2 ⟨n,hn,rfl⟩);have hm:=Z3M hw (l.getD n O);simp only[Z1y,bs]at hb;let y0:=atH h (l.getD n O);let y1:=h.P.getD i.toNat O;exact sF [] [] (Ftb 16 (Le ((n:Int)<(l.length:Int))) (Fek 17 wdv l (↑n) n (Fc 22 (@Z4g h (l.getD n O) aa oq) (Fc 26 (@Z0S (y0.1) aa) (Fc 29 (@Z3x h.C) (Fe 34 Page.dv h.P i (FeGq 46 (!(y1.K==1&&!decide (sizeH y0.1<=Z00 h.C))) Page.dv h.P i (Ftb 55 (y1.K==1&&!decide (sizeH y0.1<=Z00 h.C)||y1.K==2&&y0.1.K==0) Fz))))))))
omit hw hl hi hp hr in
theorem Zpn:CP (rndF f193 0) (aclL h i l l.length).st (.ext 0) (Tg.st ⟨tm 58 [(6,u64 0),(7,bool Lb)],[],60⟩):=by
 exact sF [] [] (Ffb 16 (Le ((l.length:Int)<(l.length:Int))) Fz)
end
def Zos(h:Heap)(i:Int)(l:List Int)(hw:WOk h.W)(hl:l.length<=1048576)(hi:0<=i/\i<h.P.length)(hp:h.P.length<=1048576)(hr:∀ x∈l,0<=x/\x<=8192)(hf:l.find? (Z1y h i)=Ld) :
  CP (blkF f193 0) (Tg.st ⟨tm 58 [(1,int i),(3,.pt 8003 0 0),(6,u64 0),(7,bool Lb),(13,Z01 l),(14,int l.length),(15,int 0)],[(8003,.box 28 h.cells)],60⟩) .nrm (Tg.st ⟨tm 58 [(6,u64 0),(7,bool Lb)],[],60⟩) :=
 Z0a (S:=λn=>(aclL h i l n).st) l.length kr (λn hn=>Zgj h i l n hw hl hi hp hr hn (Z7f hf n hn)) (Zpn h i l)
def ZlJ(h:Heap)(i:Int)(l:List Int)(x:Int)(hw:WOk h.W)(hl:l.length<=1048576)(hi:0<=i/\i<h.P.length)(hp:h.P.length<=1048576)(hr:∀ x∈l,0<=x/\x<=8192)(hf:l.find? (Z1y h i)=M x) :
  CP (blkF f193 0) (Tg.st ⟨tm 58 [(1,int i),(3,.pt 8003 0 0),(6,u64 0),(7,bool Lb),(13,Z01 l),(14,int l.length),(15,int 0)],[(8003,.box 28 h.cells)],60⟩) .ret (Tg.st ⟨tm 58 [(6,u64 x),(7,bool La)],[],60⟩):=by
 obtain⟨n,h1,h2,h3,h4⟩:=Z40 hf;subst h2;exact Z0H (S:=λn=>(aclL h i l n).st) n kr (λm hm=>Zgj h i l m hw hl hi hp hr oq (h4 m hm)) (Zmo h i l n hw hl hi hp hr h1 h3)
def Z26(h:Heap)(i:Int)(l:List Int):Bool:=(l.find? (Z1y h i)).isSome
def Z3T(h:Heap)(i:Int)(l:List Int)(hw:WOk h.W)(hl:l.length<=1048576)(hp:h.P.length<=1048576)(hi:0<=i/\i<h.P.length)(hr:∀ x∈l,0<=x/\x<=8192):GP 193 [h.av,int i,Z01 l] La (.tu [u64 (Z16 h i l),bool (Z26 h i l)]) []:=by
 cases hf:l.find? (Z1y h i)with
 | none =>
  have e7:Z16 h i l=0:=by rw[Z16,hf];rfl
  have e8:Z26 h i l=Lb:=by rw[Z26,hf];rfl
  rw[e7,e8];exact gF [] func193 [] (Fl 14 wdv l (Fu (@Zos h i l aa aa aa aa aa aa) Fz))
 | some x =>
  have e7:Z16 h i l=x:=by rw[Z16,hf];rfl
  have e8:Z26 h i l=La:=by rw[Z26,hf];rfl
  rw[e7,e8];exact gF [] func193 [] (Fl 14 wdv l (Fu (@ZlJ h i l x aa aa aa aa aa aa) Fz))
def Zkv(w:Work)(ln:LnOk w)(sc:0<=w.D)(hs:¬ w.D<w.Q.length):BP 98 [.pt 0 0 0] w.ckp (.tu [bool Lb,int 0]) w.ckp:=by
 obtain⟨h1,h2,h3,h4,h5⟩:=ln;exact borF [0,1,2,3,4,5] [] func98 [] (FlG 28 (!decide (w.D<0)) wdv w.Q (Ftb 30 (Le (w.D<0)||Le ((w.Q.length:Int)<=w.D)) Fz))
def Zi0{ws:List Int}{a v:Int}(h:4096<=a/\a<4096+ws.length):(Z0L ws a v).1=ws.set (a-4096).toNat v:=by
 unfold Z0L Z0F;rw[if_pos (by simp only[L5,List.length_nil];omega)];exact Zi9 oq
def stcB(w:Work):List (Nat×Blk):=[(0,w.ckB 1 8002 3 8004 8005),(1,Z0t w.heap.W),(8002,Z1V w.heap.P),(3,Z0t w.old),(8004,Z3g w.T),(8005,Z0t w.Q)]
def stcL(w:Work)(a n:Int)(l:List Int)(k:Nat):Tg:=⟨tm 116 [(0,.pt 0 0 0),(2,bool Lb),(3,int 0),(5,.os 1 (a-4096).toNat n.toNat),(9,Z0r l),(72,Z0r l),(73,int l.length),(74,int k)],stcB w,12⟩
section
variable (w:Work) (a n:Int) (l:List Int) (k:Nat) (hk:k<l.length) (hll:l.length<=255) (hx:0<=l.getD k O/\l.getD k O+1<n) (hn:n<=256) (ha:4096<=a/\a-4096+n<=w.heap.W.length) (f:FwOk w (loadA w.heap.W (a+1+l.getD k O)).1)
include hk hll hx hn ha f
theorem ZgI(e:(w.fwd (loadA w.heap.W (a+1+l.getD k O)).1).2.2=0)(hlen:(w.fwd (loadA w.heap.W (a+1+l.getD k O)).1).1.heap.W.length=w.heap.W.length):CP (rndF f98 0) (stcL w a n l k).st .nrm (stcL (w.in1 (a+1+l.getD k O)) a n l (k+1)).st:=by
 have er:(loadA w.heap.W (a+1+l.getD k O)).1=w.heap.W.getD ((a-4096).toNat+(1+l.getD k O).toNat) O:=by
  unfold loadA;rw[if_pos oq,show(a-4096).toNat+(1+l.getD k O).toNat=(a+1+l.getD k O-4096).toNat by omega];rfl
 have wl:=f.ck.ok.wl;have es:(w.in1 (a+1+l.getD k O))=⟨⟨(w.fwd (loadA w.heap.W (a+1+l.getD k O)).1).1.heap.C,(w.fwd (loadA w.heap.W (a+1+l.getD k O)).1).1.heap.W.set ((a-4096).toNat+(1+l.getD k O).toNat) (w.fwd (loadA w.heap.W (a+1+l.getD k O)).1).2.1,(w.fwd (loadA w.heap.W (a+1+l.getD k O)).1).1.heap.P,(w.fwd (loadA w.heap.W (a+1+l.getD k O)).1).1.heap.S,(w.fwd (loadA w.heap.W (a+1+l.getD k O)).1).1.heap.B⟩,(w.fwd (loadA w.heap.W (a+1+l.getD k O)).1).1.old,(w.fwd (loadA w.heap.W (a+1+l.getD k O)).1).1.T,(w.fwd (loadA w.heap.W (a+1+l.getD k O)).1).1.Q,(w.fwd (loadA w.heap.W (a+1+l.getD k O)).1).1.D,(w.fwd (loadA w.heap.W (a+1+l.getD k O)).1).1.rep⟩:=by
  unfold Work.in1;rw[Zi0 oq,show(a-4096).toNat+(1+l.getD k O).toNat=(a+1+l.getD k O-4096).toNat by omega]
 rw[es];rw[er]at e hlen f ⊢;exact sF [(113085,8002),(114085,8004),(115085,8005)] [] (Fh 84 [.el (wdv (w.heap.W.getD ((a-4096).toNat+(1+l.getD k O).toNat) O))] (Fh 10095 [.els (Lc wdv ((w.fwd (w.heap.W.getD ((a-4096).toNat+(1+l.getD k O).toNat) O)).1.heap.W.set ((a-4096).toNat+(1+l.getD k O).toNat) (w.fwd (w.heap.W.getD ((a-4096).toNat+(1+l.getD k O).toNat) O)).2.1))] (Ftb 75 (Le ((k:Int)<(l.length:Int))) (Fek 76 idv l (↑k) k (Fi 82 (1+l.getD k O) (Fo ((0:Int)<=1+l.getD k O/\(1+l.getD k O).toNat<n.toNat) (Fa (by exact Z0I oq:(Lc wdv w.heap.W)[(a-4096).toNat+(1+l.getD k O).toNat]? = M (wdv (w.heap.W.getD ((a-4096).toNat+(1+l.getD k O).toNat) O))) (Fbr 85 [0,1,8002,3,8004,8005] (@Zf4 w (w.heap.W.getD ((a-4096).toNat+(1+l.getD k O).toNat) O) aa aa) (Fi 93 (1+l.getD k O) (Fo ((0:Int)<=1+l.getD k O/\(1+l.getD k O).toNat<n.toNat) (Fa (by(simp only[Lp];omega):(a-4096).toNat+(1+l.getD k O).toNat<(Lc wdv (w.fwd (w.heap.W.getD ((a-4096).toNat+(1+l.getD k O).toNat) O)).1.heap.W).length) (Fa (ms:(Lc wdv (w.fwd (w.heap.W.getD ((a-4096).toNat+(1+l.getD k O).toNat) O)).1.heap.W).set ((a-4096).toNat+(1+l.getD k O).toNat) [du64 (w.fwd (w.heap.W.getD ((a-4096).toNat+(1+l.getD k O).toNat) O)).2.1]=Lc wdv ((w.fwd (w.heap.W.getD ((a-4096).toNat+(1+l.getD k O).toNat) O)).1.heap.W.set ((a-4096).toNat+(1+l.getD k O).toNat) (w.fwd (w.heap.W.getD ((a-4096).toNat+(1+l.getD k O).toNat) O)).2.1)) (Fx 96 k Fz)))))))))))))
theorem ZqF(e:¬ (w.fwd (loadA w.heap.W (a+1+l.getD k O)).1).2.2=0):CP (rndF f98 0) (stcL w a n l k).st .ret (Tg.st ⟨tm 116 [(2,bool Lb),(3,int (w.fwd (loadA w.heap.W (a+1+l.getD k O)).1).2.2)],stcB w,60⟩):=by
 have er:(loadA w.heap.W (a+1+l.getD k O)).1=w.heap.W.getD ((a-4096).toNat+(1+l.getD k O).toNat) O:=by
  unfold loadA;rw[if_pos oq,show(a-4096).toNat+(1+l.getD k O).toNat=(a+1+l.getD k O-4096).toNat by omega];rfl
 rw[er]at e f ⊢;let y1:=1+l.getD k O;let y0:=w.heap.W.getD ((a-4096).toNat+y1.toNat) O;exact sF [] [] (Fh 84 [.el (wdv y0)] (Ftb 75 (Le ((k:Int)<(l.length:Int))) (Fek 76 idv l (↑k) k (Fi 82 y1 (Fo ((0:Int)<=1+l.getD k O/\y1.toNat<n.toNat) (Fa (by exact Z0I oq:(Lc wdv w.heap.W)[(a-4096).toNat+y1.toNat]? = M (wdv y0)) (Fbq 85 [0,1,8002,3,8004,8005] (@ZfS w y0 aa aa) (Ftb 89 ((w.fwd y0).2.2 != 0) Fz))))))))
end
def Zpt(w:Work)(a n:Int)(l:List Int):CP (rndF f98 0) (stcL w a n l l.length).st (.ext 0) (Tg.st ⟨tm 116 [(0,.pt 0 0 0),(9,Z0r l)],stcB w,12⟩):=by
 exact sF [] [] (Ffb 75 (Le ((l.length:Int)<(l.length:Int))) Fz)
structure StpOk (w:Work) (a:Int) (l:List Int):Prop where
 f:∀ k,k<l.length->(∀ j,j<k->innE w a l j=0)->FwOk (innN w a l k) (loadA (innN w a l k).heap.W (a+1+l.getD k O)).1
 h:∀ k,k<=l.length->(∀ j,j<k->innE w a l j=0)->(innN w a l k).heap.W.length=w.heap.W.length
 m:∀ k,k<l.length->(∀ j,j<k->innE w a l j=0)->((innN w a l k).fwd (loadA (innN w a l k).heap.W (a+1+l.getD k O)).1).2.2=0->((innN w a l k).fwd (loadA (innN w a l k).heap.W (a+1+l.getD k O)).1).1.heap.W.length=w.heap.W.length
section
variable (w:Work) (a n:Int) (l:List Int) (hN:StpOk w a l) (hll:l.length<=255) (hr:∀ x∈l,0<=x/\x+1<n) (hn:n<=256) (ha:4096<=a/\a-4096+n<=w.heap.W.length)
include hN hll hr hn ha
theorem ZoS(hb:(LF l.length).find? (λk=>Le (innE w a l k≠0))=Ld):CP (blkF f98 0) (Tg.st ⟨tm 116 [(0,.pt 0 0 0),(2,bool Lb),(3,int 0),(5,.os 1 (a-4096).toNat n.toNat),(9,Z0r l),(72,Z0r l),(73,int l.length),(74,int 0)],stcB w,12⟩) .nrm (Tg.st ⟨tm 116 [(0,.pt 0 0 0),(9,Z0r l)],stcB (innN w a l l.length),12⟩):=by
 have h0:∀ j,j<l.length->innE w a l j=0:=λj hj=>by
  have:=List.find?_eq_none.1 hb j (Xa.2 hj);simpa using this
 have hq:∀ k,k<l.length->0<=l.getD k O/\l.getD k O+1<n:=λk hk=>hr _ (getD_mem_iff.2 ⟨k,hk,rfl⟩);exact Z0a (S:=λk=>(stcL (innN w a l k) a n l k).st) l.length kr (λk hk=>by
  have e0:∀ j,j<k->innE w a l j=0:=λj hj=>h0 j oq;have e1:=hN.h k oq e0;exact ZgI _ a n l k hk hll (hq k hk) hn (by rw[e1];exact ha) (hN.f k hk e0) (h0 k hk) ((hN.m k hk e0 (h0 k hk)).trans e1.symm)) (Zpt _ a n l)
theorem ZlU(i:Nat)(hb:(LF l.length).find? (λk=>Le (innE w a l k≠0))=M i):CP (blkF f98 0) (Tg.st ⟨tm 116 [(0,.pt 0 0 0),(2,bool Lb),(3,int 0),(5,.os 1 (a-4096).toNat n.toNat),(9,Z0r l),(72,Z0r l),(73,int l.length),(74,int 0)],stcB w,12⟩) .ret (Tg.st ⟨tm 116 [(2,bool Lb),(3,int (innE w a l i))],stcB (innN w a l i),60⟩):=by
 obtain⟨h1,h2,h3⟩:=List.find?_range_eq_some.1 hb;have h2:=Xa.1 h2;have h0:∀ j,j<i->innE w a l j=0:=λj hj=>by simpa using h3 j hj
 have hq:∀ k,k<l.length->0<=l.getD k O/\l.getD k O+1<n:=λk hk=>hr _ (getD_mem_iff.2 ⟨k,hk,rfl⟩);exact Z0H (S:=λk=>(stcL (innN w a l k) a n l k).st) i kr (λk hk=>by
  have e0:∀ j,j<k->innE w a l j=0:=λj hj=>h0 j oq;have e1:=hN.h k oq e0;exact ZgI _ a n l k oq hll (hq k oq) hn (by rw[e1];exact ha) (hN.f k oq e0) (h0 k hk) ((hN.m k oq e0 (h0 k hk)).trans e1.symm)) (by
  have e1:=hN.h i oq h0;exact ZqF _ a n l i h2 hll (hq i h2) hn (by rw[e1];exact ha) (hN.f i h2 h0) (of_decide_eq_true h1))
end
end Go.Proofs.YtdhchmlalchgeaaGreat
