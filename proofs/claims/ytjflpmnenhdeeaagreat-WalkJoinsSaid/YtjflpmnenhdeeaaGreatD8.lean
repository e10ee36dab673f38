/-
 The statement WalkJoins: part 8.
 Conditions: none.
-/
import Derived.RangeFuncFrom
import Derived.RangeFuncLeaves
import Derived.Test.YtjflpmnenhdeeaaGreatD7
set_option maxRecDepth 100000
set_option maxHeartbeats 2000000
set_option linter.all false
namespace Go.Sx
open Go.RowKit
theorem Zb7{P:Program}{clk:Nat}{ops:Array Oper}{hints:List (Nat×List Hint)}{o:Oper}{t:List AV}{H:Heap}{x:Out}(h:Z85 P clk ops hints o t H=some x):∀ c,o.op≠.defer c:=by
 intro c hc
 unfold Z85 Z2p Z2k act at h
 rw[hc]at h
 simp only at h
 split at h
 ·rename_i k hk
  split at hk
  ·cases hk
  ·split at hk
   ·split at hk
    ·cases hk
    ·cases hk
   ·split at hk
    ·cases hk
    ·split at hk
     ·cases hk
     ·cases hk
 ·cases h
def fen(ro:Option Nat):Fence := { Fence.wide with round:=ro }
theorem Z2J{P:Program}{ro:Option Nat}{n:Nat}{o:Oper}{a:Act}{w:World}{next:Act→World→Prop}{Q:Exit→Act→World→Prop}(hd:∀ c,o.op≠.defer c)(h:o.wp P a w next Q):o.wpIn (fen ro) n P a w next Q:=by
 refine⟨fun _ _=>trivial, ?_⟩
 rw[Oper.semAt_eq _ _ _ hd]
 unfold Oper.wp at h
 generalize (execOp a.eval o).run P w=r at h ⊢
 cases r with
 | ok x w' =>
  cases x with
  | value v=>exact h
  | skip=>exact h
  | defer d=>exact h
  | enter f args=>exact⟨fun h=>(by cases h),callsIn_wide.2 h⟩
  | row s args=>exact⟨fun h=>(by cases h),fun c cs _=>let ⟨v,w2,q,r⟩:=h c cs;⟨v,w2,q,stepsIn_wide.2 r⟩⟩
  | _=>exact h.elim
 | halt e w' =>
  cases e with
  | panic v=>exact h
  | _=>exact h.elim
theorem Z3c{P:Program}{Ow Im0:Nat→Prop}{w0:World}{clk:Nat}{hints:List (Nat×List Hint)}{ops:Array Oper}{Q:Exit→Act→World→Prop}{ro:Option Nat}{n:Nat}{l2:List Nat}:∀ {l:List Nat} {tmps:List AV} {H:Heap} {a:Act} {w:World} {out:Out},
  Z6a P clk ops hints l tmps H=some out→Sys Ow Im0 w0 tmps H clk a w→allP out.ph→EqP out.eq→(∀ a' w',Sys Ow Im0 w0 out.tmps out.H clk a' w'→wpOpsIn (fen ro) n P ops Q l2 a' w')→wpOpsIn (fen ro) n P ops Q (l++l2) a w
 | [],tmps,H,a,w,out,h,hS,_,_,hQ=>by
  simp only[Z6a,Option.some.injEq]at h
  subst h
  exact hQ a w hS
 | i::l,tmps,H,a,w,out,h,hS,hph,heq,hQ=>by
  simp only[Z6a]at h
  split at h
  ·cases h
  rename_i o ho
  split at h
  ·cases h
  rename_i x hx
  split at h
  ·cases h
  rename_i y hy
  cases h
  obtain⟨p1,p2⟩:=allP_append.1 hph
  have key:=Z8n (next:=wpOpsIn (fen ro) n P ops Q (l++l2)) (Q:=Q) hx hS p1 heq.left fun a' w' hS'=>Z3c hy hS' p2 heq.right hQ
  simp only[List.cons_append,wpOpsIn,ho]
  split
  ·exact Z2J (Zb7 hx) (key.1 ‹_›)
  ·rename_i hw;exact⟨fun _ _=>trivial,key.2 ((Bool.not_eq_true _).mp hw)⟩
theorem Z64{P:Program}{Ow Im0:Nat→Prop}{w0:World}{clk:Nat}{hints:List (Nat×List Hint)}{ops:Array Oper}{Q:Exit→Act→World→Prop}{ro:Option Nat}{n:Nat}{l:List Nat}{tmps:List AV}{H:Heap}{a:Act}{w:World}{out:Out}
  (h:Z6a P clk ops hints l tmps H=some out) (hS:Sys Ow Im0 w0 tmps H clk a w) (hph:allP out.ph) (heq:EqP out.eq) (hQ:∀ a' w',Sys Ow Im0 w0 out.tmps out.H clk a' w'→Q .normal a' w'):wpOpsIn (fen ro) n P ops Q l a w:=by
 have:=Z3c (ro:=ro) (n:=n) (Q:=Q) (l2:=[]) h hS hph heq hQ
 rwa [List.append_nil]at this
def Z9R:Code→Bool
 | .skip=>true
 | .region _ _ d=>!d
 | .seq x y=>Z9R x&&Z9R y
 | .cond _ x y=>Z9R x&&Z9R y
 | .block _ c=>Z9R c
 | .exit _=>true
 | .ret=>true
 | _=>false
def CIn(P:Program)(c:Code)(s:St)(e:Ex)(t:St):Prop :=
 ∀ (ro:Option Nat) (n:Nat) (Ow Im0:Nat→Prop) (w0:World) (a:Act) (w:World),Sys Ow Im0 w0 s.tmps s.H s.clk a w→c.wpIn (fen ro) n P (fun e' a' w'=>e'=e.exit∧Sys Ow Im0 w0 t.tmps t.H t.clk a' w') a w
theorem Zkv{P:Program}{hints:List (Nat×List Hint)}:∀ {c:Code} {s:St} {r:Run},Z9R c=true→runC P hints [] c s=some r→allP r.ph→EqP r.eq→CIn P c s r.e r.s:=by
 intro c
 induction c with
 | skip=>intro s r _ h _ _ ro n Ow Im0 w0 a w hS;simp only[runC,Option.some.injEq]at h;subst h;exact wpIn_skip ⟨rfl,hS⟩
 | region m ops dr =>
  intro s r hf h hph heq ro n Ow Im0 w0 a w hS
  cases dr with
  | true=>cases hf
  | false =>
   simp only[runC]at h
   split at h
   rotate_left
   ·cases h
   rename_i x hx
   cases h
   exact wpIn_region (Z64 hx hS hph heq fun a' w' hS'=>⟨rfl,hS'.clk (by simp)⟩)
 | seq x y ihx ihy =>
  intro s r hf h hph heq ro n Ow Im0 w0 a w hS
  simp only[Z9R,Bool.and_eq_true]at hf
  simp only[runC]at h
  split at h
  ·cases h
  rename_i q hq
  split at h
  ·rename_i he
   split at h
   rotate_left
   ·cases h
   rename_i q2 hq2
   cases h
   obtain⟨p1,p2⟩:=allP_append.1 hph
   refine wpIn_seq (wpIn_mono (ihx hf.1 hq p1 heq.left ro n Ow Im0 w0 a w hS) ?_)
   rintro e a' w' ⟨rfl,hS'⟩
   rw[he]
   exact ihy hf.2 hq2 p2 heq.right ro n Ow Im0 w0 a' w' hS'
  ·rename_i he
   cases h
   refine wpIn_seq (wpIn_mono (ihx hf.1 hq hph heq ro n Ow Im0 w0 a w hS) ?_)
   rintro e a' w' ⟨rfl,hS'⟩
   cases hqe:q.e with
   | nrm=>exact absurd hqe he
   | ext n=>exact⟨rfl,hS'⟩
   | ret=>exact⟨rfl,hS'⟩
 | cond c x y ihx ihy =>
  intro s r hf h hph heq ro n Ow Im0 w0 a w hS
  simp only[Z9R,Bool.and_eq_true]at hf
  simp only[runC]at h
  split at h
  ·cases h
  rename_i b hb
  have hv:a.eval c = .bool b:=by
   obtain⟨ρ,Im,I,T⟩:=hS
   have:=Z1u T c
   rw[Z7e hb]at this
   exact Z0D this
  split at h
  ·split at h
   rotate_left
   ·cases h
   rename_i q hq
   cases h
   obtain⟨p1,p2⟩:=allP_cons.1 hph
   exact wpIn_cond_true (by rw[hv,p1]) (ihx hf.1 hq p2 heq ro n Ow Im0 w0 a w hS)
  ·split at h
   rotate_left
   ·cases h
   rename_i q hq
   cases h
   obtain⟨p1,p2⟩:=allP_cons.1 hph
   exact wpIn_cond_false (by rw[hv,p1]) (ihy hf.2 hq p2 heq ro n Ow Im0 w0 a w hS)
  ·split at h
   ·exact wpIn_cond_true hv (ihx hf.1 h hph heq ro n Ow Im0 w0 a w hS)
   ·exact wpIn_cond_false hv (ihy hf.2 h hph heq ro n Ow Im0 w0 a w hS)
 | block m c ih =>
  intro s r hf h hph heq ro n Ow Im0 w0 a w hS
  simp only[runC,Zg8]at h
  split at h
  ·cases h
  rename_i q hq
  refine wpIn_block ?_
  split at h
  ·rename_i k hm
   split at h
   ·rename_i hmn
    cases h
    refine wpIn_mono (ih hf hq hph heq ro n Ow Im0 w0 a w hS) ?_
    rintro e a' w' ⟨rfl,hS'⟩
    rw[hm]
    simp only[Ex.exit,Exit.inBlock,hmn,if_true]
    exact⟨by trivial,hS'⟩
   ·rename_i hmn
    cases h
    refine wpIn_mono (ih hf hq hph heq ro n Ow Im0 w0 a w hS) ?_
    rintro e a' w' ⟨rfl,hS'⟩
    rw[hm]
    simp only[Ex.exit,Exit.inBlock,hmn,if_false]
    exact⟨by trivial,hS'⟩
  ·rename_i hne
   cases h
   refine wpIn_mono (ih hf hq hph heq ro n Ow Im0 w0 a w hS) ?_
   rintro e a' w' ⟨rfl,hS'⟩
   cases hqe:r.e with
   | nrm=>exact⟨rfl,hS'⟩
   | ext k=>exact absurd hqe (hne k)
   | ret=>exact⟨rfl,hS'⟩
 | exit n=>intro s r _ h _ _ ro n Ow Im0 w0 a w hS;simp only[runC,Option.some.injEq]at h;subst h;exact wpIn_exit ⟨rfl,hS⟩
 | ret=>intro s r _ h _ _ ro n Ow Im0 w0 a w hS;simp only[runC,Option.some.injEq]at h;subst h;exact wpIn_ret ⟨rfl,hS⟩
 | _=>intro s r hf;cases hf
theorem Z9P{P:Program}(hints:List (Nat×List Hint))(ren:List (Nat×Nat))(fl:List Bool){c:Code}{s:St}{e:Ex}{t:Tg}{φ:Prop}(hφ:φ)
  (h1:oblE fl (runToR P hints [] ren c s t)=φ) (h2:lefE fl (runToR P hints [] ren c s t)=rigE fl (runToR P hints [] ren c s t)) (h3:exO (runToR P hints [] ren c s t)=some e) (hfl:Z9R c=true):CIn P c s e t.st:=by
 rw[← h1]at hφ
 obtain⟨k1,k2⟩:=Z4J hφ h2
 cases hr:runToR P hints [] ren c s t with
 | none=>rw[hr]at k1;exact k1.elim
 | some r =>
  rw[hr]at k1 k2 h3
  have heq:EqP r.eq:=Z7Z k2
  have he:r.e=e:=by simpa[exO]using h3
  unfold runToR at hr
  split at hr
  ·cases hr
  rename_i q hq
  split at hr
  ·cases hr
  rename_i s' hs'
  split at hr
  rotate_left
  ·cases hr
  rename_i l hl
  cases hr
  intro ro n Ow Im0 w0 a w hS
  refine wpIn_mono (Zkv hfl hq k1 heq.left ro n Ow Im0 w0 a w hS) ?_
  rintro e' a' w' ⟨rfl,hS'⟩
  exact⟨by rw[← he],Zfm hl heq.right (ZaD hs' hS')⟩
def hasR(k:Nat):Code→Bool
 | .region n _ _=>Nat.beq n k
 | .seq x y=>hasR k x||hasR k y
 | .cond _ x y=>hasR k x||hasR k y
 | .block _ c=>hasR k c
 | .loop c=>hasR k c
 | _=>false
def cutAt(k:Nat):Code→Code
 | .region _ _ _=>.exit 99999
 | .seq x y=>match hasR k x with
  | true=>cutAt k x
  | false=>.seq x (cutAt k y)
 | .cond c x y=>match hasR k x with
  | true=>.cond c (cutAt k x) .skip
  | false=>.cond c .skip (cutAt k y)
 | .block n c=>.block n (cutAt k c)
 | c=>c
def noX:Code→Bool
 | .seq x y=>noX x&&noX y
 | .cond _ x y=>noX x&&noX y
 | .block _ c=>noX c
 | .exit n=>!Nat.beq n 99999
 | _=>true
def okH(k:Nat):Code→Bool
 | .region n _ _=>Nat.beq n k
 | .seq x y=>match hasR k x with
  | true=>okH k x
  | false=>noX x&&okH k y
 | .cond _ x y=>match hasR k x with
  | true=>okH k x
  | false=>okH k y
 | .block n c=>!Nat.beq n 99999&&okH k c
 | _=>false
def rest(P:Program)(n k:Nat):Code→(Exit→Act→World→Prop)→Act→World→Prop
 | .seq x y,Q=>match hasR k x with
  | true=>rest P n k x (Exit.then (y.wpIn Fence.wide n P Q) Q)
  | false=>rest P n k y Q
 | .cond _ x y,Q=>match hasR k x with
  | true=>rest P n k x Q
  | false=>rest P n k y Q
 | .block m c,Q=>rest P n k c (Exit.inBlock m Q)
 | c,Q=>c.wpIn Fence.wide n P Q
theorem ZkR{P:Program}{hints:List (Nat×List Hint)}:∀ {c:Code} {s:St} {r:Run},noX c=true→runC P hints [] c s=some r→r.e≠.ext 99999:=by
 intro c
 induction c with
 | region m ops dr =>
  intro s r _ h
  simp only[runC]at h
  split at h
  ·cases h;simp
  ·cases h
 | seq x y ihx ihy =>
  intro s r hf h
  simp only[noX,Bool.and_eq_true]at hf
  simp only[runC]at h
  split at h
  ·cases h
  rename_i q hq
  split at h
  ·split at h
   rotate_left
   ·cases h
   rename_i q2 hq2
   cases h
   have:=ihy hf.2 hq2
   exact this
  ·cases h
   exact ihx hf.1 hq
 | cond c x y ihx ihy =>
  intro s r hf h
  simp only[noX,Bool.and_eq_true]at hf
  simp only[runC]at h
  split at h
  ·cases h
  split at h
  ·split at h
   rotate_left
   ·cases h
   rename_i q hq
   cases h
   have:=ihx hf.1 hq
   exact this
  ·split at h
   rotate_left
   ·cases h
   rename_i q hq
   cases h
   have:=ihy hf.2 hq
   exact this
  ·split at h
   ·exact ihx hf.1 h
   ·exact ihy hf.2 h
 | block m c ih =>
  intro s r hf h
  simp only[runC,Zg8]at h
  split at h
  ·cases h
  rename_i q hq
  have:=ih hf hq
  split at h
  ·split at h
   ·cases h;simp
   ·cases h;exact this
  ·cases h;exact this
 | exit n =>
  intro s r hf h
  simp only[runC,Option.some.injEq]at h
  subst h
  intro e
  cases e
  cases hf
 | skip=>intro s r _ h;simp only[runC,Option.some.injEq]at h;subst h;simp
 | label n=>intro s r _ h;simp only[runC,Option.some.injEq]at h;subst h;simp
 | ret=>intro s r _ h;simp only[runC,Option.some.injEq]at h;subst h;simp
 | _=>intro s r _ h;simp[runC]at h
theorem Zmg{P:Program}{hints:List (Nat×List Hint)}{k n:Nat}:∀ {c:Code} {s:St} {r:Run},okH k c=true→runC P hints [] (cutAt k c) s=some r→allP r.ph→EqP r.eq→r.e = .ext 99999 →
  ∀ (Q:Exit→Act→World→Prop) (Ow Im0:Nat→Prop) (w0:World) (a:Act) (w:World),Sys Ow Im0 w0 s.tmps s.H s.clk a w→(∀ a' w',Sys Ow Im0 w0 r.s.tmps r.s.H r.s.clk a' w'→rest P n k c Q a' w')→c.wpIn Fence.wide n P Q a w:=by
 intro c
 induction c with
 | region m ops dr =>
  intro s r _ h _ _ _ Q Ow Im0 w0 a w hS hr
  simp only[cutAt,runC,Option.some.injEq]at h
  subst h
  exact hr a w hS
 | seq x y ihx ihy =>
  intro s r hf h hph heq he Q Ow Im0 w0 a w hS hr
  simp only[okH]at hf
  simp only[cutAt]at h
  simp only[rest]at hr
  cases hx:hasR k x with
  | true =>
   rw[hx]at hf h hr
   exact wpIn_seq (ihx hf h hph heq he _ Ow Im0 w0 a w hS hr)
  | false =>
   rw[hx]at hf h hr
   simp only[Bool.and_eq_true]at hf
   simp only[runC]at h
   split at h
   ·cases h
   rename_i q hq
   split at h
   ·rename_i hqe
    split at h
    rotate_left
    ·cases h
    rename_i q2 hq2
    cases h
    obtain⟨p1,p2⟩:=allP_append.1 hph
    refine wpIn_seq (wpIn_mono (wpIn_wide.2 (Z7Q hq p1 heq.left Ow Im0 w0 a w hS)) ?_)
    rintro e a' w' ⟨rfl,hS'⟩
    rw[hqe]
    exact ihy hf.2 hq2 p2 heq.right he Q Ow Im0 w0 a' w' hS' hr
   ·cases h
    exact absurd he (ZkR hf.1 hq)
 | cond c x y ihx ihy =>
  intro s r hf h hph heq he Q Ow Im0 w0 a w hS hr
  simp only[okH]at hf
  simp only[cutAt]at h
  simp only[rest]at hr
  have hv:∀ {b:Bool},asB (ev s.tmps c)=some b→a.eval c = .bool b:=fun hb=>by
   obtain⟨ρ,Im,I,T⟩:=hS
   have:=Z1u T c
   rw[Z7e hb]at this
   exact Z0D this
  cases hx:hasR k x with
  | true =>
   rw[hx]at hf h hr
   simp only[runC]at h
   split at h
   ·cases h
   rename_i b hb
   split at h
   ·split at h
    rotate_left
    ·cases h
    rename_i q hq
    cases h
    obtain⟨p1,p2⟩:=allP_cons.1 hph
    exact wpIn_cond_true (by rw[hv hb,p1]) (ihx hf hq p2 heq he Q Ow Im0 w0 a w hS hr)
   ·cases h;cases he
   ·split at h
    ·exact wpIn_cond_true (hv hb) (ihx hf h hph heq he Q Ow Im0 w0 a w hS hr)
    ·cases h;cases he
  | false =>
   rw[hx]at hf h hr
   simp only[runC]at h
   split at h
   ·cases h
   rename_i b hb
   split at h
   ·cases h;cases he
   ·split at h
    rotate_left
    ·cases h
    rename_i q hq
    cases h
    obtain⟨p1,p2⟩:=allP_cons.1 hph
    exact wpIn_cond_false (by rw[hv hb,p1]) (ihy hf hq p2 heq he Q Ow Im0 w0 a w hS hr)
   ·split at h
    ·cases h;cases he
    ·exact wpIn_cond_false (hv hb) (ihy hf h hph heq he Q Ow Im0 w0 a w hS hr)
 | block m c ih =>
  intro s r hf h hph heq he Q Ow Im0 w0 a w hS hr
  simp only[okH,Bool.and_eq_true]at hf
  simp only[cutAt,runC,Zg8]at h
  simp only[rest]at hr
  split at h
  ·cases h
  rename_i q hq
  refine wpIn_block ?_
  split at h
  ·split at h
   ·cases h;cases he
   ·cases h
    exact ih hf.2 hq hph heq he _ Ow Im0 w0 a w hS hr
  ·cases h
   exact ih hf.2 hq hph heq he _ Ow Im0 w0 a w hS hr
 | _=>intro s r hf;cases hf
def ZcG(P:Program)(k:Nat)(c:Code)(s t:St):Prop :=
 ∀ (n:Nat) (Q:Exit→Act→World→Prop) (Ow Im0:Nat→Prop) (w0:World) (a:Act) (w:World),Sys Ow Im0 w0 s.tmps s.H s.clk a w→(∀ a' w',Sys Ow Im0 w0 t.tmps t.H t.clk a' w'→rest P n k c Q a' w')→c.wpIn Fence.wide n P Q a w
theorem Z4N{P:Program}(hints:List (Nat×List Hint))(ren:List (Nat×Nat))(fl:List Bool){k:Nat}{c:Code}{s:St}{t:Tg}{φ:Prop}(hφ:φ)
  (h1:oblE fl (runToR P hints [] ren (cutAt k c) s t)=φ) (h2:lefE fl (runToR P hints [] ren (cutAt k c) s t)=rigE fl (runToR P hints [] ren (cutAt k c) s t)) (h3:exO (runToR P hints [] ren (cutAt k c) s t)=some (.ext 99999)) (hfl:okH k c=true):ZcG P k c s t.st:=by
 rw[← h1]at hφ
 obtain⟨k1,k2⟩:=Z4J hφ h2
 cases hr:runToR P hints [] ren (cutAt k c) s t with
 | none=>rw[hr]at k1;exact k1.elim
 | some r =>
  rw[hr]at k1 k2 h3
  have heq:EqP r.eq:=Z7Z k2
  have he:r.e = .ext 99999:=by simpa[exO]using h3
  unfold runToR at hr
  split at hr
  ·cases hr
  rename_i q hq
  split at hr
  ·cases hr
  rename_i s' hs'
  split at hr
  rotate_left
  ·cases hr
  rename_i l hl
  cases hr
  intro n Q Ow Im0 w0 a w hS hrr
  exact Zmg hfl hq k1 heq.left he Q Ow Im0 w0 a w hS fun a' w' hS'=>hrr a' w' (Zfm hl heq.right (ZaD hs' hS'))
def Zcd(k:Nat):Code→Option (Array Oper)
 | .region n ops _=>match Nat.beq n k with
  | true=>some ops
  | false=>none
 | .seq x y=>match Zcd k x with
  | some o=>some o
  | none=>Zcd k y
 | .cond _ x y=>match Zcd k x with
  | some o=>some o
  | none=>Zcd k y
 | .block _ c=>Zcd k c
 | .loop c=>Zcd k c
 | _=>none
def rgO(fn:Func)(k:Nat):Array Oper:=match fn.body with
 | some c=>match Zcd k c with
  | some o=>o
  | none => #[]
 | none => #[]
theorem ZlJ{s:St}{t:Tg}(h1:(wk s t).isSome=true)(h2:((wk s t).getD []).map (·.1)=((wk s t).getD []).map (·.2)){Ow Im0:Nat→Prop}{w0:World}{a:Act}{w:World}(S:Sys Ow Im0 w0 s.tmps s.H s.clk a w):Sys Ow Im0 w0 t.st.tmps t.st.H t.st.clk a w:=by
 cases h:wk s t with
 | none=>rw[h]at h1;cases h1
 | some l=>rw[h]at h2;exact Zfm h (Z7Z h2) S
theorem Z6o{ρ:Rho}{w:World}{Im Im2:Nat→Prop}{k t:Nat}{e:List DV}{v:Value}{β:Bi}(hβ:ρ k=some β)(r:RelB ρ w Im β (.box t (e.map .d)))(hv:Rel ρ w Im (.pt k 0 0) v)(hi:∀ g,Im g→Im2 g)(hg:∀ g,β.g=some g→Im2 g):Rel (fun _=>none) w Im2 (.rp e 0) v:=by
 obtain⟨g,s,n,k1,rfl⟩:=Z2K hv
 rw[hβ]at k1
 cases k1
 obtain⟨r1,r2,g2,cs,r3,r4,r5,r6,r7⟩:=r
 cases r3
 have:=@Rel.rp (fun _=>none) w Im2 e 0 ⟨g,0,none⟩ rfl (hg _ rfl) (fun j y hy=>by
  have hj:j<e.length:=(List.getElem?_eq_some_iff.1 hy).1
  have hc:j<cs.size:=by rw[r5];simpa using hj
  have h1:cs[j]? = some cs[j]:=Array.getElem?_eq_getElem hc
  have h2:=r7 j (.d y) cs[j] (by simp[hy]) h1
  refine⟨cs[j], ?_, ?_⟩
  ·simp only[World.cell?,r4]
   simpa using h1
  ·cases h2 with
   | d h2=>exact h2.mono (Ext.refl _ _) hi)
 simpa using this
theorem Inv.empty{w:World}{Im:Nat→Prop}{clk:Nat}(hI:∀ g,Im g→g<w.heap.size)(hc:1≤clk):Inv (fun _=>False) Im w (fun _=>none) w Im (hOf []) clk:=by
 refine⟨Kept.refl _ _, ?_, ?_, ?_, ?_,hI,fun _ h=>.inl h, ?_,fun _ _ _=>rfl,hc⟩
 ·intro b b' β β' g _ _ h;cases h
 ·intro b β g _ h;cases h
 ·intro b β g h;cases h
 ·intro b β g h;cases h
 ·intro b B h;cases h
theorem RelT.reSet{ρ:Rho}{w:World}{Im:Nat→Prop}{tmps:List AV}{a:Act}(T:RelT ρ w Im tmps a)(t:Nat)(y:AV)(h:∀ v,a.tmps[t]? = some v→Rel ρ w Im y v):RelT ρ w Im (tmps.set t y) a:=by
 refine⟨by simp[T.size],fun i x v h1 h2=>?_,T.defers⟩
 rw[List.getElem?_set]at h1
 by_cases hi:t=i
 ·subst hi
  simp only[if_true]at h1
  split at h1
  ·cases h1;exact h v h2
  ·cases h1
 ·simp only[hi,if_false]at h1
  exact T.tmp i x v h1 h2
theorem RelT.pure{ρ:Rho}{w:World}{Im:Nat→Prop}{tmps:List AV}{a:Act}(T:RelT ρ w Im tmps a)(h:tmps.all (Zgv [])=true):RelT (fun _=>none) w Im tmps a :=
 ⟨T.size,fun i x v h1 h2=>Zct (ids:=[]) (fun b hb=>by simp at hb) (T.tmp i x v h1 h2) (List.all_eq_true.1 h _ (List.mem_of_getElem? h1)),T.defers⟩
theorem ZdA{P:Program}{n l:Nat}{o:Oper}{f x y:Operand}{ts:Array Nat}{a:Act}{w:World}{next:Act→World→Prop}{Q:Exit→Act→World→Prop}{args:Array Value}{R:Ending→World→Prop}(ho:o.op = .call ⟨.value f,#[x,y],ts⟩)
  (hf:a.eval f = .func (.yield l) #[] #[]) (hx : #[a.eval x,a.eval y]=args) (hY:YieldAt Fence.wide n P l args w R) (hn:∀ e w',R e w'→∃ v,e = .returned v∧next (a.put o.dst v) w'):o.wpIn Fence.wide (n+1) P a w next Q:=by
 obtain⟨fn,t,s,b,h1,h2⟩:=hY
 refine⟨fun _ _=>trivial, ?_⟩
 have hrun:(o.semAt Fence.wide.round a.eval).run P w = .ok (.round l fn t s b) w:=by
  rw[show Fence.wide.round=none from rfl,Oper.semAt_none]
  simp[execOp,ho,resolve,hf,Deferred.ofValue,invoke,hx,h1]
 rw[hrun,Oper.uponIn_round]
 refine⟨fun h=>(by cases h),h2.mono ?_⟩
 rintro e w' hR
 obtain⟨v,rfl,hv⟩:=hn e w' hR
 exact hv
end Go.Sx
namespace Go.Proofs.YtjflpmnenhdeeaaGreat
open Go.Sx
theorem Z6A{w:Int}(h:(decodeH w).2=true):Z0i (decodeH w).1=true:=by
 unfold decodeH at h ⊢
 split at h
 ·rename_i hc
  rw[if_pos hc]
  have:=hc.1
  unfold Z06 at this
  split at this
  ·assumption
  ·simp at this
 ·cases h
theorem Ze3{h:Heap}{a:Int}(e:(atH h a).2=0):Z03 h=true∧(ofA h.conf a).2.2=0∧4096≤a∧a<8192∧Z0i (atH h a).1=true∧0≤(atH h a).1.kind∧(atH h a).1.kind≤3∧0≤(atH h a).1.length∧(atH h a).1.length≤255:=by
 have key:Z03 h=true∧(ofA h.conf a).2.2=0∧Z0i (atH h a).1=true:=by
  unfold atH at e ⊢
  split at e
  ·rename_i h1
   split at e
   ·rename_i h2
    split at e
    ·rename_i h3
     split at e
     ·simp at e
     ·rename_i h4
      rw[if_pos h1,if_pos h2,if_pos h3,if_neg h4]
      exact⟨h1,h2,Z6A h3.2.2⟩
    ·simp at e
   ·simp at e
  ·simp at e
 obtain⟨k1,k2,k3⟩:=key
 have p:=Z09 k1
 have o:=Z3w p.1 k2
 have v:=validH_iff.1 k3
 have ar:=area p.1
 exact⟨k1,k2,o.2.2.2.2.1,by omega,k3,v.1,v.2.1,v.2.2.1,v.2.2.2.1⟩
theorem Z3A{h:Heap}(hw:WOk h.words)(a:Int):0≤(atH h a).1.map∧(atH h a).1.map≤4294967295:=by
 have hr:=Z0P hw a
 have hd:=Z2c (loadA h.words a).1 hr.1
 unfold atH
 repeat' split
 all_goals first | exact hd | simp[Z0S]
def getH(h:Heap)(a:Int):Header×Int:=if Z03 h=true then(if a=0 then(Z0S,5)else if(atH h a).2=0∧(atH h a).1.kind=0 then(Z0S,4)else atH h a)else(Z0S,1)
theorem ZaP{h:Heap}(hw:WOk h.words)(a:Int):0≤(getH h a).1.map∧(getH h a).1.map≤4294967295:=by
 have:=Z3A hw a
 unfold getH
 repeat' split
 all_goals first | exact this | simp[Z0S]
theorem Z3Y{h:Heap}{a:Int}(e:(getH h a).2=0):getH h a=atH h a∧(atH h a).2=0∧Z03 h=true∧(ofA h.conf a).2.2=0∧4096≤a∧a<8192∧Z0i (getH h a).1=true∧1≤(getH h a).1.kind∧(getH h a).1.kind≤3∧0≤(getH h a).1.length∧(getH h a).1.length≤255:=by
 have key:getH h a=atH h a∧(atH h a).2=0∧(atH h a).1.kind≠0:=by
  unfold getH at e ⊢
  split at e
  ·rename_i h1
   split at e
   ·simp at e
   ·rename_i h2
    split at e
    ·simp at e
    ·rename_i h3
     rw[if_pos h1,if_neg h2,if_neg h3]
     exact⟨rfl,e,fun h=>h3 ⟨e,h⟩⟩
  ·simp at e
 obtain⟨k1,k2,k3⟩:=key
 have k:=Ze3 k2
 rw[k1]
 exact⟨rfl,k2,k.1,k.2.1,k.2.2.1,k.2.2.2.1,k.2.2.2.2.1,by omega,k.2.2.2.2.2.2.1,k.2.2.2.2.2.2.2.1,k.2.2.2.2.2.2.2.2⟩
theorem Z3z(h:Heap)(a:Int)(hw:WOk h.words)(h0:0≤a∧a≤18446744073709551615):GSpec Tryz.prog 16 [h.av,u64 a] true (.tu [(getH h a).1.av,int (getH h a).2]) []:=by
 rcases bb (!Z03 h)with hc0 | hc0<;>have hc0p:=hc0<;>simp only[bs]at hc0p
 ·exact gF [] Tryz.func16 [true] (Fc 9 (@Z0l h) (Ft 10 hc0 (Fa (by simp[getH,Z0S, *]:0=(getH h a).fst.kind) (Fa (by simp[getH,Z0S, *]:0=(getH h a).fst.length) (Fa (by simp[getH,Z0S, *]:0=(getH h a).fst.map) (Fa (by simp[getH,Z0S, *]:1=(getH h a).snd) Fz))))))
 ·rcases bb (a==0)with hc1 | hc1<;>have hc1p:=hc1<;>simp only[bs]at hc1p
  ·exact gF [] Tryz.func16 [true] (Fc 9 (@Z0l h) (Ff 10 hc0 (Ft 13 hc1 (Fa (by simp[getH,Z0S, *]:0=(getH h a).fst.kind) (Fa (by simp[getH,Z0S, *]:0=(getH h a).fst.length) (Fa (by simp[getH,Z0S, *]:0=(getH h a).fst.map) (Fa (by simp[getH,Z0S, *]:5=(getH h a).snd) Fz)))))))
  ·have Q0 {h_ c_ p_} (r_:Fq h_ c_ p_):=Fc 9 (@Z0l h) (Ff 10 hc0 (Ff 13 hc1 (Fc 18 (@Z3d h a ‹_› ‹_›) r_)))
   rcases bb ((atH h a).snd==0&&(atH h a).fst.kind==0)with hc2 | hc2<;>have hc2p:=hc2<;>simp only[bs]at hc2p
   ·obtain⟨hc2pa,hc2pb⟩:=hc2p
    exact gF [] Tryz.func16 [false,false,false,true] (Q0 (Ft 27 hc2 (Fa (by simp[getH,Z0S, *]:0=(getH h a).fst.kind) (Fa (by simp[getH,Z0S, *]:0=(getH h a).fst.length) (Fa (by simp[getH,Z0S, *]:0=(getH h a).fst.map) (Fa (by simp[getH,Z0S, *]:4=(getH h a).snd) Fz))))))
   ·exact gF [] Tryz.func16 [false,false,false,true] (Q0 (Ff 27 hc2 (Fa (by grind[getH,Z0S]:(atH h a).fst.kind=(getH h a).fst.kind) (Fa (by grind[getH,Z0S]:(atH h a).fst.length=(getH h a).fst.length) (Fa (by grind[getH,Z0S]:(atH h a).fst.map=(getH h a).fst.map) (Fa (by grind[getH,Z0S]:(atH h a).snd=(getH h a).snd) Fz))))))
def Z1r(h:Heap)(a i:Int):Int×Int:=if(getH h a).2=0 then(if 0≤i∧i<(getH h a).1.length then loadA h.words (a+1+i)else(0,2))else(0,(getH h a).2)
theorem Zbp(h:Heap)(a i:Int)(hw:WOk h.words)(h0:0≤a∧a≤18446744073709551615):GSpec Tryz.prog 136 [h.av,u64 a,int i] true (.tu [u64 (Z1r h a i).1,int (Z1r h a i).2]) []:=by
 have Q0 {h_ c_ p_} (r_:Fq h_ c_ p_):=Fc 13 (@Z3z h a ‹_› ‹_›) r_
 rcases bb ((getH h a).snd != 0)with hc0 | hc0<;>have hc0p:=hc0<;>simp only[bs]at hc0p
 ·exact gF [] Tryz.func136 [true] (Q0 (Ft 17 hc0 (Fa (by simp[Z1r, *]:0=(Z1r h a i).fst) (Fa (by simp[Z1r, *]:(getH h a).snd=(Z1r h a i).snd) Fz))))
 ·have hf5:=Z3Y hc0p
  obtain⟨hf5a,⟨hf5ba,⟨hf5bba,⟨hf5bbba,⟨hf5bbbba,⟨hf5bbbbba,⟨hf5bbbbbba,⟨hf5bbbbbbba,⟨hf5bbbbbbbba,⟨hf5bbbbbbbbba,hf5bbbbbbbbbb⟩⟩⟩⟩⟩⟩⟩⟩⟩⟩:=hf5
  have hf11:=Z09 hf5bba
  obtain⟨hf11a,⟨hf11ba,⟨hf11bba,⟨hf11bbba,⟨hf11bbbba,⟨hf11bbbbba,⟨hf11bbbbbba,⟨hf11bbbbbbba,hf11bbbbbbbb⟩⟩⟩⟩⟩⟩⟩⟩:=hf11
  rcases bb (decide (i<0)||decide ((getH h a).fst.length≤i))with hc20 | hc20<;>have hc20p:=hc20<;>simp only[bs]at hc20p
  ·exact gF [] Tryz.func136 [false,false,false,false,true] (Q0 (Ff 17 hc0 (Ft 26 hc20 (Fa (by grind[Z1r]:0=(Z1r h a i).fst) (Fa (by grind[Z1r]:2=(Z1r h a i).snd) Fz)))))
  ·obtain⟨hc20pa,hc20pb⟩:=hc20p
   exact gF [] Tryz.func136 [false,false,false,false,true] (Q0 (Ff 17 hc0 (Ff 26 hc20 (Fv 30 (a+1) (Fv 32 i (Fv 33 (a+1+i) (Fc 34 (@Z1K h.words (a+1+i) (by omega) (by omega)) (Fa (by grind[Z1r]:(loadA h.words (a+1+i)).fst=(Z1r h a i).fst) (Fa (by grind[Z1r]:(loadA h.words (a+1+i)).snd=(Z1r h a i).snd) Fz)))))))))
theorem Zhm{h:Heap}{a i:Int}(e:(Z1r h a i).2=0):(getH h a).2=0∧0≤i∧i<(getH h a).1.length:=by
 unfold Z1r at e
 split at e
 ·split at e
  ·exact⟨‹_›,‹_›⟩
  ·simp at e
 ·exact absurd e ‹_›
def Z0f(h:Heap)(a i v:Int):Heap×Int:=if(Z1r h a i).2=0 then({ h with words:=(Z0E h.words (a+1+i) v).1 },0)else(noHeap,(Z1r h a i).2)
theorem Z6M(h:Heap)(a i v:Int)(hw:WOk h.words)(h0:0≤a∧a≤18446744073709551615):GSpec Tryz.prog 104 [h.av,u64 a,int i,u64 v] false (.tu [(Z0f h a i v).1.av,int (Z0f h a i v).2]) []:=by
 have Q0 {h_ c_ p_} (r_:Fq h_ c_ p_):=Fc 16 (@Zbp h a i ‹_› ‹_›) r_
 rcases bb ((Z1r h a i).snd != 0)with hc0 | hc0<;>have hc0p:=hc0<;>simp only[bs]at hc0p
 ·exact gF [] Tryz.func104 [true] (Q0 (Ft 20 hc0 (Fnl (Fnl (Fa (by simp[Z0f,noHeap, *]:0=(Z0f h a i v).fst.conf.pw) (Fa (by simp[Z0f,noHeap, *]:0=(Z0f h a i v).fst.conf.pg) (Fa (by simp[Z0f,noHeap, *]:[]=List.map wdv (Z0f h a i v).fst.words) (Fa (by simp[Z0f,noHeap, *]:[]=List.map Page.dv (Z0f h a i v).fst.pages) (Fa (by simp[Z0f,noHeap, *]:0=(Z0f h a i v).fst.space) (Fa (by simp[Z0f,noHeap, *]:0=(Z0f h a i v).fst.bump) (Fa (by simp[Z0f,noHeap, *]:(Z1r h a i).snd=(Z0f h a i v).snd) Fz)))))))))))
 ·have hf7:=Zhm hc0p
  obtain⟨hf7a,⟨hf7ba,hf7bb⟩⟩:=hf7
  have hf11:=Z3Y hf7a
  obtain⟨hf11a,⟨hf11ba,⟨hf11bba,⟨hf11bbba,⟨hf11bbbba,⟨hf11bbbbba,⟨hf11bbbbbba,⟨hf11bbbbbbba,⟨hf11bbbbbbbba,⟨hf11bbbbbbbbba,hf11bbbbbbbbbb⟩⟩⟩⟩⟩⟩⟩⟩⟩⟩:=hf11
  have hf21:=Z09 hf11bba
  obtain⟨hf21a,⟨hf21ba,⟨hf21bba,⟨hf21bbba,⟨hf21bbbba,⟨hf21bbbbba,⟨hf21bbbbbba,⟨hf21bbbbbbba,hf21bbbbbbbb⟩⟩⟩⟩⟩⟩⟩⟩:=hf21
  exact gF [] Tryz.func104 [true] (Q0 (Ff 20 hc0 (Fv 27 (a+1) (Fv 29 i (Fv 30 (a+1+i) (Fc 32 (@Z8k h.words (a+1+i) v (by omega) (by omega)) (Fa (by simp[Z0f,noHeap, *]:h.conf.pw=(Z0f h a i v).fst.conf.pw) (Fa (by simp[Z0f,noHeap, *]:h.conf.pg=(Z0f h a i v).fst.conf.pg) (Fa (by refine congrArg _ ?_;simp[Z0f,noHeap, *]:List.map wdv (Z0E h.words (a+1+i) v).fst=List.map wdv (Z0f h a i v).fst.words) (Fa (by refine congrArg _ ?_;simp[Z0f,noHeap, *]:List.map Page.dv h.pages=List.map Page.dv (Z0f h a i v).fst.pages) (Fa (by simp[Z0f,noHeap, *]:h.space=(Z0f h a i v).fst.space) (Fa (by simp[Z0f,noHeap, *]:h.bump=(Z0f h a i v).fst.bump) (Fa (by simp[Z0f,noHeap, *]:0=(Z0f h a i v).snd) Fz)))))))))))))
def Z0W(h:Heap)(a:Int):List Int×Int:=if(getH h a).2=0 then Z1c h.words (a+1) (getH h a).1.length else([],(getH h a).2)
theorem Z9b(h:Heap)(a:Int)(hw:WOk h.words)(h0:0≤a∧a≤18446744073709551615):GSpec Tryz.prog 15 [h.av,u64 a] false (.tu [Z02 (Z0W h a).1,int (Z0W h a).2]) []:=by
 have Q0 {h_ c_ p_} (r_:Fq h_ c_ p_):=Fc 11 (@Z3z h a ‹_› ‹_›) r_
 rcases bb ((getH h a).snd != 0)with hc0 | hc0<;>have hc0p:=hc0<;>simp only[bs]at hc0p
 ·exact gF [] Tryz.func15 [true] (Q0 (Ft 15 hc0 (Fnl (Fa (by simp[Z0W, *]:[]=List.map wdv (Z0W h a).fst) (Fa (by simp[Z0W, *]:(getH h a).snd=(Z0W h a).snd) Fz)))))
 ·have hf5:=Z3Y hc0p
  obtain⟨hf5a,⟨hf5ba,⟨hf5bba,⟨hf5bbba,⟨hf5bbbba,⟨hf5bbbbba,⟨hf5bbbbbba,⟨hf5bbbbbbba,⟨hf5bbbbbbbba,⟨hf5bbbbbbbbba,hf5bbbbbbbbbb⟩⟩⟩⟩⟩⟩⟩⟩⟩⟩:=hf5
  have hf11:=Z09 hf5bba
  obtain⟨hf11a,⟨hf11ba,⟨hf11bba,⟨hf11bbba,⟨hf11bbbba,⟨hf11bbbbba,⟨hf11bbbbbba,⟨hf11bbbbbbba,hf11bbbbbbbb⟩⟩⟩⟩⟩⟩⟩⟩:=hf11
  exact gF [] Tryz.func15 [true] (Q0 (Ff 15 hc0 (Fv 20 (a+1) (Fc 23 (@Zan h.words (a+1) ((getH h a).fst.length) (by omega) (by omega)) (Fa (by refine congrArg _ ?_;simp[Z0W, *]:List.map wdv (Z1c h.words (a+1) (getH h a).fst.length).fst=List.map wdv (Z0W h a).fst) (Fa (by simp[Z0W, *]:(Z1c h.words (a+1) (getH h a).fst.length).snd=(Z0W h a).snd) Fz))))))
def objW(hd:Header):List Int:=(Z06 hd).1::List.replicate hd.length.toNat 0
def Z0y(h:Heap)(a:Int)(hd:Header):Heap×Int:=if Z03 h=true∧Z0i hd=true then(if(Z0b h.words a (objW hd)).2=0 then({ h with words:=(Z0b h.words a (objW hd)).1 },0)else(noHeap,(Z0b h.words a (objW hd)).2))else(noHeap,1)
theorem Z8V{hd:Header}(h:(Z06 hd).2=0):Z0i hd=true∧0≤hd.length∧hd.length≤255:=by
 unfold Z06 at h
 split at h
 ·rename_i hv
  have:=validH_iff.1 hv
  exact⟨hv,this.2.2.1,this.2.2.2.1⟩
 ·simp at h
theorem Zda{hd:Header}(h:Z0i hd=true):(Z06 hd).2=0:=by simp[Z06,h]
theorem ZaT{h:Heap}{a:Int}{hd:Header}(e:Z03 h=false∨¬ (Z06 hd).2=0):Z0y h a hd=(noHeap,1):=by
 unfold Z0y
 rw[if_neg]
 rintro⟨h1,h2⟩
 rcases e with e | e
 ·rw[h1]at e;cases e
 ·exact e (Zda h2)
theorem ZdE(h:Heap)(a:Int)(hd:Header)(hw:WOk h.words)(h0:0≤a∧a≤18446744073709551615)(hm:0≤hd.map∧hd.map≤4294967295):GSpec Tryz.prog 135 [h.av,u64 a,hd.av] false (.tu [(Z0y h a hd).1.av,int (Z0y h a hd).2]) []:=by
 have Q0 {h_ c_ p_} (r_:Fq h_ c_ p_):=Fc 13 (@Z39 hd ‹_›) (Fc 17 (@Z0l h) r_)
 rcases bb (!Z03 h||(Z06 hd).snd != 0)with hc0 | hc0<;>have hc0p:=hc0<;>simp only[bs]at hc0p
 ·have hf5:=ZaT (a:=a) hc0p
  exact gF [] Tryz.func135 [false,false,true] (Q0 (Ft 22 hc0 (Fnl (Fnl (Fa (by grind[Z0y,noHeap,objW]:0=(Z0y h a hd).fst.conf.pw) (Fa (by grind[Z0y,noHeap,objW]:0=(Z0y h a hd).fst.conf.pg) (Fa (by grind[Z0y,noHeap,objW]:[]=List.map wdv (Z0y h a hd).fst.words) (Fa (by grind[Z0y,noHeap,objW]:[]=List.map Page.dv (Z0y h a hd).fst.pages) (Fa (by grind[Z0y,noHeap,objW]:0=(Z0y h a hd).fst.space) (Fa (by grind[Z0y,noHeap,objW]:0=(Z0y h a hd).fst.bump) (Fa (by grind[Z0y,noHeap,objW]:1=(Z0y h a hd).snd) Fz)))))))))))
 ·obtain⟨hc0pa,hc0pb⟩:=hc0p
  have hf7:=Z09 hc0pa
  obtain⟨hf7a,⟨hf7ba,⟨hf7bba,⟨hf7bbba,⟨hf7bbbba,⟨hf7bbbbba,⟨hf7bbbbbba,⟨hf7bbbbbbba,hf7bbbbbbbb⟩⟩⟩⟩⟩⟩⟩⟩:=hf7
  have hf11:=Z8V hc0pb
  obtain⟨hf11a,⟨hf11ba,hf11bb⟩⟩:=hf11
  have Q1 {h_ c_ p_} (r_:Fq h_ c_ p_):=Q0 (Ff 22 hc0 (Fs 29 (List.map wdv [(Z06 hd).fst]) (Fa (by(simp[Z0y,noHeap,objW, *];omega):0≤hd.length∧(↑(List.map wdv [(Z06 hd).fst]).length:Int)+hd.length≤2^30) (Fa (by simp[Z0y,noHeap,objW,List.map_take,List.map_drop,List.map_set,List.map_append,wdv,idv]:List.map wdv [(Z06 hd).fst]++List.replicate hd.length.toNat [du64 0]=List.map wdv ([(Z06 hd).fst]++List.replicate hd.length.toNat 0)) (Fc 33 (@Z4F h.words ([(Z06 hd).fst]++List.replicate hd.length.toNat 0) a (by omega) ‹_› (by(simp[Z0y,noHeap,objW, *];omega))) r_)))))
  rcases bb ((Z0b h.words a ([(Z06 hd).fst]++List.replicate hd.length.toNat 0)).snd != 0)with hc37 | hc37<;>have hc37p:=hc37<;>simp only[bs]at hc37p
  ·exact gF [] Tryz.func135 [false,false,true] (Fh 32 [.els (List.map wdv ([(Z06 hd).fst]++List.replicate hd.length.toNat 0))] (Q1 (Ft 37 hc37 (Fnl (Fnl (Fa (by grind[Z0y,noHeap,objW]:0=(Z0y h a hd).fst.conf.pw) (Fa (by grind[Z0y,noHeap,objW]:0=(Z0y h a hd).fst.conf.pg) (Fa (by grind[Z0y,noHeap,objW]:[]=List.map wdv (Z0y h a hd).fst.words) (Fa (by grind[Z0y,noHeap,objW]:[]=List.map Page.dv (Z0y h a hd).fst.pages) (Fa (by grind[Z0y,noHeap,objW]:0=(Z0y h a hd).fst.space) (Fa (by grind[Z0y,noHeap,objW]:0=(Z0y h a hd).fst.bump) (Fa (by grind[Z0y,noHeap,objW]:(Z0b h.words a ([(Z06 hd).fst]++List.replicate hd.length.toNat 0)).snd=(Z0y h a hd).snd) Fz))))))))))))
  ·exact gF [] Tryz.func135 [false,false,true] (Fh 32 [.els (List.map wdv ([(Z06 hd).fst]++List.replicate hd.length.toNat 0))] (Q1 (Ff 37 hc37 (Fa (by grind[Z0y,noHeap,objW]:h.conf.pw=(Z0y h a hd).fst.conf.pw) (Fa (by grind[Z0y,noHeap,objW]:h.conf.pg=(Z0y h a hd).fst.conf.pg) (Fa (by refine congrArg _ ?_;grind[Z0y,noHeap,objW]:List.map wdv (Z0b h.words a ([(Z06 hd).fst]++List.replicate hd.length.toNat 0)).fst=List.map wdv (Z0y h a hd).fst.words) (Fa (by refine congrArg _ ?_;grind[Z0y,noHeap,objW]:List.map Page.dv h.pages=List.map Page.dv (Z0y h a hd).fst.pages) (Fa (by grind[Z0y,noHeap,objW]:h.space=(Z0y h a hd).fst.space) (Fa (by grind[Z0y,noHeap,objW]:h.bump=(Z0y h a hd).fst.bump) (Fa (by grind[Z0y,noHeap,objW]:0=(Z0y h a hd).snd) Fz))))))))))
def Z7R(l:List Page)(i k:Nat):Bool:=(List.range k).all fun j=>(l.getD (i+j) default).kind==0
theorem freeK_iff{l:List Page}{i k:Nat}:Z7R l i k=true↔∀ j,j<k→(l.getD (i+j) default).kind=0:=by
 simp[Z7R]
def tookP(l:List Page)(i k:Nat)(p q:Page):List Page:=(wr l (List.replicate k q) i k).set i p
def Z2l(l:List Page)(i:Int)(k:Int)(p q:Page):List Page×Int:=if 0≤i∧i<l.length∧k≤l.length-i then(if Z7R l i.toNat k.toNat=true then(tookP l i.toNat k.toNat p q,0)else([],20))else([],2)
theorem Z3H(l:List Page):Z1n (l.map Page.dv):=by
 intro e he x hx
 obtain⟨y,_,rfl⟩:=List.mem_map.1 he
 simp[Page.dv]at hx
 rcases hx with rfl | rfl | rfl | rfl<;>exact⟨_,rfl⟩
theorem Z9G{α:Type}{l m:List α}{i j:Nat}{d:α}(h:l[i]? = m[j]?):l.getD i d=m.getD j d:=by
 rw[List.getD_eq_getElem?_getD,List.getD_eq_getElem?_getD,h]
def Zco(l:List Page)(i:Int)(k:Int)(p q:Page)(n:Nat):Tg:=⟨tm 57 [(1,int i),(2,int k),(8,.pt 8008 0 0),(9,.pt 8009 0 0),(10,.d (.sl 0 [])),(11,int 0),(12,.ow 24032),(13,int n)],
 [(24032,.arr 56 4 ((wr l (List.replicate k.toNat q) i.toNat n).map Page.dv)),(8008,.box 56 [int p.kind,int p.space,int p.used,int p.pins]),(8009,.box 56 [int q.kind,int q.space,int q.used,int q.pins])],60⟩
section
variable (l:List Page) (i:Int) (k:Int) (p q:Page) (n:Nat) (hl:l.length≤1048576) (hi:0≤i) (hk0:0≤k) (hk:i.toNat+k.toNat≤l.length)
include hl hi hk0 hk
theorem Zk9(hn:n<k.toNat):(wr l (List.replicate k.toNat q) i.toNat n).getD (i.toNat+n) default=l.getD (i.toNat+n) default:=by
 refine Z9G ?_
 rw[Z9u (by simpa using hk) (by simp;omega),if_neg (by omega),if_neg (by omega)]
theorem Zbs(hn:n<k.toNat)(hf:(l.getD (i.toNat+n) default).kind=0):CSpec Tryz.prog (rndF Tryz.f166 0) (Zco l i k p q n).st .nrm (Zco l i k p q (n+1)).st:=by
 have hlen:=Z4D (ws:=l) (l:=List.replicate k.toNat q) (i:=i.toNat) (k:=n) (by simpa using hk) (by simp;omega)
 have ha:=Zk9 l i k q n hl hi hk0 hk hn
 have hs:=ZaO (ws:=l) (l:=List.replicate k.toNat q) (i:=i.toNat) (k:=n) (by simpa using hk) (by simp;omega) default
 have hd:(List.replicate k.toNat q).getD n default=q:=by simp[List.getD,hn]
 rw[hd]at hs
 have ei:i+n=((i.toNat+n:Nat):Int):=by omega
 rw[← ha]at hf
 rcases bb (((wr l (List.replicate k.toNat q) i.toNat n).getD (↑(i.toNat+n):Int).toNat default).kind != 0)with hc0 | hc0<;>have hc0p:=hc0<;>simp only[bs]at hc0p
 ·contradiction
 ·exact sF [] [false,false,false,false,false,false,false,false,true] (Fh 10051 [.els (List.map Page.dv ((wr l (List.replicate k.toNat q) i.toNat n).set (↑(i.toNat+n):Int).toNat q))] (Ftb 35 (decide ((↑n:Int)<k)) (Fg 41 (by rw[wrapI' (by omega) (by omega)];omega:IntKind.i64.wrap (i+(↑n:Int))=(↑(i.toNat+n):Int)) (Fm 44 Page.dv (wr l (List.replicate k.toNat q) i.toNat n) (↑(i.toNat+n):Int) ((↑(i.toNat+n):Int).toNat) (Ff 45 hc0 (Fg 49 (by rw[wrapI' (by omega) (by omega)];omega:IntKind.i64.wrap (i+(↑n:Int))=(↑(i.toNat+n):Int)) (Fa (by(simp only[List.length_map];omega):0≤(↑(i.toNat+n):Int)∧(↑(i.toNat+n):Int).toNat<(List.map Page.dv (wr l (List.replicate k.toNat q) i.toNat n)).length) (Fa (by(simp only[List.length_map];omega):(↑(i.toNat+n):Int).toNat<(List.map Page.dv (wr l (List.replicate k.toNat q) i.toNat n)).length) (Fa (by rw[List.map_set];rfl:(List.map Page.dv (wr l (List.replicate k.toNat q) i.toNat n)).set (↑(i.toNat+n):Int).toNat [dint q.kind,dint q.space,dint q.used,dint q.pins]=List.map Page.dv ((wr l (List.replicate k.toNat q) i.toNat n).set (↑(i.toNat+n):Int).toNat q)) (Fx 37 n (Fr (56:Int) (Fa (by refine congrArg _ ?_;exact hs:List.map Page.dv ((wr l (List.replicate k.toNat q) i.toNat n).set (↑(i.toNat+n):Int).toNat q)=List.map Page.dv (wr l (List.replicate k.toNat q) i.toNat (n+1))) Fz))))))))))))
theorem Zkn(hn:n<k.toNat)(hf:¬ (l.getD (i.toNat+n) default).kind=0):CSpec Tryz.prog (rndF Tryz.f166 0) (Zco l i k p q n).st .ret (Tg.st ⟨tm 57 [(10,.d (.sl 0 [])),(11,int 20)],[],60⟩):=by
 have hlen:=Z4D (ws:=l) (l:=List.replicate k.toNat q) (i:=i.toNat) (k:=n) (by simpa using hk) (by simp;omega)
 have ha:=Zk9 l i k q n hl hi hk0 hk hn
 have ei:i+n=((i.toNat+n:Nat):Int):=by omega
 rw[← ha]at hf
 rcases bb (((wr l (List.replicate k.toNat q) i.toNat n).getD (↑(i.toNat+n):Int).toNat default).kind != 0)with hc0 | hc0<;>have hc0p:=hc0<;>simp only[bs]at hc0p
 ·exact sF [] [] (Ftb 35 (decide ((↑n:Int)<k)) (Fg 41 (by rw[wrapI' (by omega) (by omega)];omega:IntKind.i64.wrap (i+(↑n:Int))=(↑(i.toNat+n):Int)) (Fm 44 Page.dv (wr l (List.replicate k.toNat q) i.toNat n) (↑(i.toNat+n):Int) ((↑(i.toNat+n):Int).toNat) (Ft 45 hc0 Fz))))
 ·contradiction
omit hl hi hk in
theorem Zkb:CSpec Tryz.prog (rndF Tryz.f166 0) (Zco l i k p q k.toNat).st (.ext 0) (Tg.st ⟨tm 57 [(1,int i),(8,.pt 8008 0 0),(12,.ow 24032)],[(24032,.arr 56 4 ((wr l (List.replicate k.toNat q) i.toNat k.toNat).map Page.dv)),(8008,.box 56 [int p.kind,int p.space,int p.used,int p.pins])],60⟩):=by
 exact sF [] [] (Ffb 35 (decide ((↑k.toNat:Int)<k)) Fz)
theorem ZdX(hf:Z7R l i.toNat k.toNat=true):CSpec Tryz.prog (blkF Tryz.f166 0) (Tg.st ⟨tm 57 [(1,int i),(2,int k),(8,.pt 8008 0 0),(9,.pt 8009 0 0),(10,.d (.sl 0 [])),(11,int 0),(12,.ow 24032),(13,int 0)],
 [(24032,.arr 56 4 (l.map Page.dv)),(8008,.box 56 [int p.kind,int p.space,int p.used,int p.pins]),(8009,.box 56 [int q.kind,int q.space,int q.used,int q.pins])],60⟩) .nrm
 (Tg.st ⟨tm 57 [(1,int i),(8,.pt 8008 0 0),(12,.ow 24032)],[(24032,.arr 56 4 ((wr l (List.replicate k.toNat q) i.toNat k.toNat).map Page.dv)),(8008,.box 56 [int p.kind,int p.space,int p.used,int p.pins])],60⟩):=by
 have:=Z0c (S:=fun n=>(Zco l i k p q n).st) k.toNat (by kernel_rfl) (fun n hn=>Zbs l i k p q n hl hi hk0 hk hn (freeK_iff.1 hf n hn)) (Zkb l i k p q hk0)
 simp only[Zco,Z8t]at this
 exact this
theorem ZcC(hf:Z7R l i.toNat k.toNat=false):CSpec Tryz.prog (blkF Tryz.f166 0) (Tg.st ⟨tm 57 [(1,int i),(2,int k),(8,.pt 8008 0 0),(9,.pt 8009 0 0),(10,.d (.sl 0 [])),(11,int 0),(12,.ow 24032),(13,int 0)],
 [(24032,.arr 56 4 (l.map Page.dv)),(8008,.box 56 [int p.kind,int p.space,int p.used,int p.pins]),(8009,.box 56 [int q.kind,int q.space,int q.used,int q.pins])],60⟩) .ret
 (Tg.st ⟨tm 57 [(10,.d (.sl 0 [])),(11,int 20)],[],60⟩):=by
 obtain⟨n,x,h1,h2,h3⟩:=Z4M hf
 have hn:n<k.toNat:=by have:=(List.getElem?_eq_some_iff.1 h1).1;simpa using this
 have hx:x=n:=by simp[List.getElem?_range,hn]at h1;exact h1.symm
 subst hx
 have:=Z0Q (S:=fun n=>(Zco l i k p q n).st) x (by kernel_rfl) (fun m hm=>?_) (Zkn l i k p q x hl hi hk0 hk hn (by simpa using h2))
 ·simp only[Zco,Z8t]at this
  exact this
 ·obtain⟨y,h4,h5⟩:=h3 m hm
  have hy:y=m:=by simp[List.getElem?_range,show m<k.toNat from by omega]at h4;exact h4.symm
  subst hy
  exact Zbs l i k p q y hl hi hk0 hk (by omega) (by simpa using h5)
end
theorem Zji(l:List Page)(i:Int)(k:Int)(p q:Page)(hl:l.length≤1048576)(hk:1≤k∧k≤5):GSpec Tryz.prog 166 [Z0z l,int i,int k,p.av,q.av] true (.tu [Z0z (Z2l l i k p q).1,int (Z2l l i k p q).2]) []:=by
  cases hf:Z7R l i.toNat k.toNat with
  | true =>
    have hw:i.toNat+k.toNat≤l.length→(wr l (List.replicate k.toNat q) i.toNat k.toNat).length=l.length:=fun h=>Z4D (by simpa using h) (by simp)
    rcases bb (decide (i<0)||decide ((↑l.length:Int)≤i)||decide ((↑l.length:Int)-i<k))with hc0 | hc0<;>have hc0p:=hc0<;>simp only[bs]at hc0p
    · exact gF [] Tryz.func166 [false,false,false,false,false,false,false,false,false,false,true] (FlG 19 (!decide (i<0)) Page.dv l (FlG 25 (!(decide (i<0)||decide ((↑l.length:Int)≤i))) Page.dv l (FiG 27 (!(decide (i<0)||decide ((↑l.length:Int)≤i))) ((↑l.length:Int)-i) (Ft 29 hc0 (Fnl (Fa (by(simp only[Z2l,hf,tookP];(repeat' split)<;>first | rfl | omega | (exfalso;omega) | simp_all):[]=List.map Page.dv (Z2l l i k p q).fst) (Fa (by(simp only[Z2l,hf,tookP];(repeat' split)<;>first | rfl | omega | (exfalso;omega) | simp_all):2=(Z2l l i k p q).snd) Fz)))))))
    · obtain⟨⟨hc0paa,hc0pab⟩,hc0pb⟩:=hc0p
      exact gF [] Tryz.func166 [false,false,false,false,false,false,false,false,false,false,false,false,false,false,false,false,false,false,false,false,false,true] (Fh 10055 [.els (List.map Page.dv ((wr l (List.replicate k.toNat q) i.toNat k.toNat).set i.toNat p))] (FlG 19 (!decide (i<0)) Page.dv l (FlG 25 (!(decide (i<0)||decide ((↑l.length:Int)≤i))) Page.dv l (FiG 27 (!(decide (i<0)||decide ((↑l.length:Int)≤i))) ((↑l.length:Int)-i) (Ff 29 hc0 (Fs 30 (List.map Page.dv []) (Fa (by(simp[Z2l,hf,tookP, *];omega):(List.map Page.dv []).length+(List.map Page.dv l).length≤2^30) (Fs 32 (List.map Page.dv l) (Fu (@ZdX l i k p q ‹_› (by omega) (by omega) (by omega) ‹_›) (Fa (by(simp only[List.length_map];omega):0≤i∧i.toNat<(List.map Page.dv (wr l (List.replicate k.toNat q) i.toNat k.toNat)).length) (Fa (by(simp only[List.length_map];omega):i.toNat<(List.map Page.dv (wr l (List.replicate k.toNat q) i.toNat k.toNat)).length) (Fa (by rw[List.map_set];rfl:(List.map Page.dv (wr l (List.replicate k.toNat q) i.toNat k.toNat)).set i.toNat [dint p.kind,dint p.space,dint p.used,dint p.pins]=List.map Page.dv ((wr l (List.replicate k.toNat q) i.toNat k.toNat).set i.toNat p)) (Fa (by exact Z3H _:Z1n (List.map Page.dv ((wr l (List.replicate k.toNat q) i.toNat k.toNat).set i.toNat p))) (Fa (by refine congrArg _ ?_;(simp only[Z2l,hf,tookP];(repeat' split)<;>first | rfl | omega | (exfalso;omega) | simp_all):List.map Page.dv ((wr l (List.replicate k.toNat q) i.toNat k.toNat).set i.toNat p)=List.map Page.dv (Z2l l i k p q).fst) (Fa (by(simp only[Z2l,hf,tookP];(repeat' split)<;>first | rfl | omega | (exfalso;omega) | simp_all):0=(Z2l l i k p q).snd) Fz)))))))))))))))
  | false => rcases Bool.eq_false_or_eq_true (decide (i<(0:Int))||decide ((↑l.length:Int)≤i)||decide ((↑l.length:Int)-i<k))with hc0 | hc0
             · have hc0p:=hc0
               simp only[bs]at hc0p
               exact gF [] Tryz.func166 [false,false,false,false,false,false,false,false,false,false,true] (FlG 19 (!decide (i<0)) Page.dv l (FlG 25 (!(decide (i<0)||decide ((↑l.length:Int)≤i))) Page.dv l (FiG 27 (!(decide (i<0)||decide ((↑l.length:Int)≤i))) ((↑l.length:Int)-i) (Ft 29 ‹(decide (i<0)||decide ((↑l.length:Int)≤i)||decide ((↑l.length:Int)-i<k))=true› (Fnl (Fa (by(simp only[Z2l,hf];(repeat' split)<;>first | rfl | omega | (exfalso;omega) | simp_all):[]=List.map Page.dv (Z2l l i k p q).fst) (Fa (by(simp only[Z2l,hf];(repeat' split)<;>first | rfl | omega | (exfalso;omega) | simp_all):2=(Z2l l i k p q).snd) Fz)))))))
             · have hc0p:=hc0
               simp only[bs]at hc0p
               obtain⟨⟨hc0paa,hc0pab⟩,hc0pb⟩:=hc0p
               exact gF [] Tryz.func166 [false,false,false,false,false,false,false,false,false,false,false,false,false,false,false,false,false,false,false,false,false,true] (FlG 19 (!decide (i<0)) Page.dv l (FlG 25 (!(decide (i<0)||decide ((↑l.length:Int)≤i))) Page.dv l (FiG 27 (!(decide (i<0)||decide ((↑l.length:Int)≤i))) ((↑l.length:Int)-i) (Ff 29 ‹(decide (i<0)||decide ((↑l.length:Int)≤i)||decide ((↑l.length:Int)-i<k))=false› (Fs 30 (List.map Page.dv []) (Fa (by(simp[Z2l,hf, *];omega):(List.map Page.dv []).length+(List.map Page.dv l).length≤2^30) (Fs 32 (List.map Page.dv l) (Fu (@ZcC l i k p q ‹_› (by omega) (by omega) (by omega) ‹_›) (Fnl (Fa (by(simp only[Z2l,hf];(repeat' split)<;>first | rfl | omega | (exfalso;omega) | simp_all):[]=List.map Page.dv (Z2l l i k p q).fst) (Fa (by(simp only[Z2l,hf];(repeat' split)<;>first | rfl | omega | (exfalso;omega) | simp_all):20=(Z2l l i k p q).snd) Fz)))))))))))
theorem ZfS(l:List Page)(i:Int)(k:Int)(p q:Page)(hl:l.length≤1048576)(hk:1≤k∧k≤5)(hi:0≤i∧i+k≤l.length)(hf:Z7R l i.toNat k.toNat=true):GSpec Tryz.prog 166 [Z0z l,int i,int k,p.av,q.av] true (.tu [.ow 0,int 0]) [.arr 56 4 ((tookP l i.toNat k.toNat p q).map Page.dv)]:=by
 have hw:(wr l (List.replicate k.toNat q) i.toNat k.toNat).length=l.length:=Z4D (by simp;omega) (by simp)
 exact gF [24032] Tryz.func166 [] (Fh 10055 [.els (List.map Page.dv ((wr l (List.replicate k.toNat q) i.toNat k.toNat).set i.toNat p))] (FlG 19 (!decide (i<0)) Page.dv l (FlG 25 (!(decide (i<0)||decide ((↑l.length:Int)≤i))) Page.dv l (FiG 27 (!(decide (i<0)||decide ((↑l.length:Int)≤i))) ((↑l.length:Int)-i) (Ffb 29 (decide (i<0)||decide ((↑l.length:Int)≤i)||decide ((↑l.length:Int)-i<k)) (Fs 30 (List.map Page.dv []) (Fa (by(simp[tookP, *];omega):(List.map Page.dv []).length+(List.map Page.dv l).length≤2^30) (Fs 32 (List.map Page.dv l) (Fu (@ZdX l i k p q ‹_› (by omega) (by omega) (by omega) ‹_›) (Fa (by(simp only[List.length_map];omega):0≤i∧i.toNat<(List.map Page.dv (wr l (List.replicate k.toNat q) i.toNat k.toNat)).length) (Fa (by(simp only[List.length_map];omega):i.toNat<(List.map Page.dv (wr l (List.replicate k.toNat q) i.toNat k.toNat)).length) (Fa (by rw[List.map_set];rfl:(List.map Page.dv (wr l (List.replicate k.toNat q) i.toNat k.toNat)).set i.toNat [dint p.kind,dint p.space,dint p.used,dint p.pins]=List.map Page.dv ((wr l (List.replicate k.toNat q) i.toNat k.toNat).set i.toNat p)) (Fa (by exact Z3H _:Z1n (List.map Page.dv ((wr l (List.replicate k.toNat q) i.toNat k.toNat).set i.toNat p))) Fz)))))))))))))
def Zk4(l:List Page)(i sp:Int):List Page×Int:=if 0≤sp∧sp≤1 then Z2l l i 1 ⟨1,sp,0,0⟩ ⟨0,0,0,0⟩else([],1)
def Z28(c:Conf)(l:List Page)(i sp n:Int):List Page×Int:=if 1≤need c n∧0≤sp∧sp≤1 then Z2l l i (need c n) ⟨2,sp,n,0⟩ ⟨3,sp,0,0⟩else([],1)
theorem Zhe(c:Conf)(l:List Page)(i sp n:Int)(hl:l.length≤1048576):GSpec Tryz.prog 157 [c.av,Z0z l,int i,int sp,int n] false (.tu [Z0z (Z28 c l i sp n).1,int (Z28 c l i sp n).2]) []:=by
 have hn:=Z38 c n
 rcases bb (decide (need c n<1)||decide (sp<0)||decide (1<sp))with hc0 | hc0<;>have hc0p:=hc0<;>simp only[bs]at hc0p
 ·exact gF [] Tryz.func157 [false,false,false,false,true] (Fc 15 (@Z3T c n) (Ft 25 hc0 (Fnl (Fa (by(simp only[Z28];(repeat' split)<;>first | rfl | omega | (exfalso;omega) | simp_all):[]=List.map Page.dv (Z28 c l i sp n).fst) (Fa (by(simp only[Z28];(repeat' split)<;>first | rfl | omega | (exfalso;omega) | simp_all):1=(Z28 c l i sp n).snd) Fz)))))
 ·obtain⟨⟨hc0paa,hc0pab⟩,hc0pb⟩:=hc0p
  exact gF [] Tryz.func157 [false,false,false,false,true] (Fc 15 (@Z3T c n) (Ff 25 hc0 (Fc 34 (@Zji l i (need c n) (Page.mk 2 sp n 0) (Page.mk 3 sp 0 0) ‹_› (by omega)) (Fa (by refine congrArg _ ?_;(simp only[Z28];(repeat' split)<;>first | rfl | omega | (exfalso;omega) | simp_all):List.map Page.dv (Z2l l i (need c n) (Page.mk 2 sp n 0) (Page.mk 3 sp 0 0)).fst=List.map Page.dv (Z28 c l i sp n).fst) (Fa (by(simp only[Z28];(repeat' split)<;>first | rfl | omega | (exfalso;omega) | simp_all):(Z2l l i (need c n) (Page.mk 2 sp n 0) (Page.mk 3 sp 0 0)).snd=(Z28 c l i sp n).snd) Fz)))))
theorem Z93(l:List Page)(i sp:Int)(hl:l.length≤1048576)(hs:0≤sp∧sp≤1)(hi:0≤i∧i+1≤l.length)(hf:Z7R l i.toNat 1=true):GSpec Tryz.prog 156 [Z0z l,int i,int sp] true (.tu [.ow 0,int 0]) [.arr 56 4 ((tookP l i.toNat 1 ⟨1,sp,0,0⟩ ⟨0,0,0,0⟩).map Page.dv)]:=by
 exact gF [25019] Tryz.func156 [] (Ffb 13 (decide (sp<0)||decide (1<sp)) (Fc 19 (@ZfS l i (1) (Page.mk 1 sp 0 0) (Page.mk 0 0 0 0) ‹_› (by omega) ‹_› ‹_›) (Fa (by exact Z3H _:Z1n (List.map Page.dv (tookP l i.toNat (Int.toNat 1) (Page.mk 1 sp 0 0) (Page.mk 0 0 0 0)))) Fz)))
structure Run where
 frm:Int
 len:Int
 deriving DecidableEq,Inhabited
def Run.dv(r:Run):List DV:=[dint r.frm,dint r.len]
def Z5Q(l:List Run):AV:=.d (.sl 2 (l.map Run.dv))
def Z0o(out:List Run):Run:=out.getLast?.getD ⟨0,0⟩
def Z35(out:List Run)(i:Int)(p:Page):List Run :=
 if p.kind=0 then(if out≠[]∧(Z0o out).frm+(Z0o out).len=i then out.dropLast++[⟨(Z0o out).frm,(Z0o out).len+1⟩]else out++[⟨i,1⟩])else out
def Z05(l:List Page):Nat→List Run
 | 0=>[]
 | i+1=>Z35 (Z05 l i) i (Z1f l i)
theorem Z1Z{out:List Run}(h:out≠[]):out[out.length-1]? = some (Z0o out):=by
 rw[← List.getLast?_eq_getElem?,Z0o,List.getLast?_eq_some_getLast h]
 rfl
theorem Z2n(l:List Page):∀ i,(Z05 l i).length≤i∧∀ r∈Z05 l i,0≤r.frm∧1≤r.len∧r.frm+r.len≤i
 | 0=>⟨by simp[Z05],by simp[Z05]⟩
 | i+1=>by
  obtain⟨h1,h2⟩:=Z2n l i
  simp only[Z05,Z35]
  split
  ·split
   ·rename_i hc
    have hl:=h2 _ (List.mem_of_getElem? (Z1Z hc.1))
    have hp:0<(Z05 l i).length:=List.length_pos_iff.2 hc.1
    refine⟨by simp;omega,fun r hr=>?_⟩
    rcases List.mem_append.1 hr with hr | hr
    ·have:=h2 r (List.dropLast_subset _ hr)
     omega
    ·simp at hr;subst hr;simp only;omega
   ·refine⟨by simp;omega,fun r hr=>?_⟩
    rcases List.mem_append.1 hr with hr | hr
    ·have:=h2 r hr;omega
    ·simp at hr;subst hr;simp only;omega
  ·refine⟨by omega,fun r hr=>?_⟩
   have:=h2 r hr
   omega
theorem ZdY{out:List Run}{i:Nat}{r:Run}(h:out[i]? = some r):(out.map Run.dv)[i]? = some r.dv:=by simp[h]
theorem ZdT{out:List Run}(h:out≠[])(r:Run):(out.map Run.dv).set (out.length-1) r.dv=(out.dropLast++[r]).map Run.dv:=by
 obtain⟨a,b,rfl⟩:∃ a b,out=a++[b]:=⟨out.dropLast,out.getLast h,(List.dropLast_concat_getLast h).symm⟩
 simp
def Z6i(l:List Page)(i:Nat):Tg:=⟨tm 54 [(3,.ow 16003),(7,Z0z l),(8,int l.length),(9,int i)],[(16003,.arr 187 2 ((Z05 l i).map Run.dv))],20⟩
theorem Z8x(l:List Page)(hl:l.length≤1048576)(i:Nat)(p:Page)(hp:l[i]? = some p)(hk:p.kind≠0):CSpec Tryz.prog (rndF Tryz.f146 0) (Z6i l i).st .nrm (Z6i l (i+1)).st:=by
 have hi:i<l.length:=(List.getElem?_eq_some_iff.1 hp).1
 obtain⟨o1,o2⟩:=Z2n l i
 have e:Z6i l (i+1)=⟨tm 54 [(3,.ow 16003),(7,Z0z l),(8,int l.length),(9,int ((i+1:Nat):Int))],[(16003,.arr 187 2 ((Z05 l i).map Run.dv))],20⟩:=by
  have hpa:Z1f l i=p:=by simp[Z1f,hp]
  rw[Z6i,Z05,Z35,hpa,if_neg hk]
 rw[e]
 refine Z3S [(10,[.br true]),(12,[.el p.dv]),(15,[.int (Z05 l i).length]),(16,[.int ((Z05 l i).length-1:Int)]),(25,[.br true]),(52,[.int ((i+1:Nat):Int)])] [] [] (φ:=decide ((↑i:Int)<(↑l.length:Int))=true∧true=true∧((0:Int)≤(↑i:Int)∧(List.map Page.dv l)[(↑i:Int).toNat]? = some p.dv)∧(↑(List.map Run.dv (Z05 l i)).length:Int)=(↑(Z05 l i).length:Int)∧IntKind.i64.wrap ((↑(Z05 l i).length:Int)-(1:Int))=(↑(Z05 l i).length:Int)-(1:Int)∧(p.kind != (0:Int))=true∧IntKind.i64.wrap ((↑i:Int)+(1:Int))=(↑(i+(1:Nat)):Int)) ?_ (by kernel_rfl) (by kernel_rfl) (by kernel_rfl)
 exact⟨decide_eq_true (by omega),rfl,⟨by omega,Z1g hp⟩,by rw[List.length_map],Z10 (by omega) (by omega),by simp[hk],Z10 (by omega) (by omega)⟩
theorem Z8F(l:List Page)(hl:l.length≤1048576)(i:Nat)(p:Page)(hp:l[i]? = some p)(hk:p.kind=0)(ho:Z05 l i≠[])(hm:(Z0o (Z05 l i)).frm+(Z0o (Z05 l i)).len=i):CSpec Tryz.prog (rndF Tryz.f146 0) (Z6i l i).st .nrm (Z6i l (i+1)).st:=by
 have hi:i<l.length:=(List.getElem?_eq_some_iff.1 hp).1
 obtain⟨o1,o2⟩:=Z2n l i
 have hlast:=o2 _ (List.mem_of_getElem? (Z1Z ho))
 have hpos:0<(Z05 l i).length:=List.length_pos_iff.2 ho
 have e:Z05 l (i+1)=(Z05 l i).dropLast++[⟨(Z0o (Z05 l i)).frm,(Z0o (Z05 l i)).len+1⟩]:=by
  have hpa:Z1f l i=p:=by simp[Z1f,hp]
  rw[Z05,Z35,hpa,if_pos hk,if_pos ⟨ho,hm⟩]
 refine Z3S [(10,[.br true]),(12,[.el p.dv]),(15,[.int (Z05 l i).length]),(16,[.int ((Z05 l i).length-1:Int)]),(25,[.br false]),(34,[.el (Z0o (Z05 l i)).dv]),(39,[.el (Z0o (Z05 l i)).dv]),(40,[.int i]),(43,[.br true]),(48,[.el (Z0o (Z05 l i)).dv]),(49,[.int ((Z0o (Z05 l i)).len+1)]),(10051,[.el (Z0o (Z05 l i)).dv,.els ((Z05 l (i+1)).map Run.dv)]),(52,[.int ((i+1:Nat):Int)])] [] [] (φ:=decide ((↑i:Int)<(↑l.length:Int))=true∧true=true∧((0:Int)≤(↑i:Int)∧(List.map Page.dv l)[(↑i:Int).toNat]? = some p.dv)∧(↑(List.map Run.dv (Z05 l i)).length:Int)=(↑(Z05 l i).length:Int)∧IntKind.i64.wrap ((↑(Z05 l i).length:Int)-(1:Int))=(↑(Z05 l i).length:Int)-(1:Int)∧(p.kind != (0:Int))=false∧(decide ((0:Int)≤(↑(Z05 l i).length:Int)-(1:Int))=true→(0:Int)≤(↑(Z05 l i).length:Int)-(1:Int)∧((↑(Z05 l i).length:Int)-(1:Int)).toNat<(List.map Run.dv (Z05 l i)).length)∧(decide ((0:Int)≤(↑(Z05 l i).length:Int)-(1:Int))=true→(List.map Run.dv (Z05 l i))[((↑(Z05 l i).length:Int)-(1:Int)).toNat]? = some (Z0o (Z05 l i)).dv)∧(decide ((0:Int)≤(↑(Z05 l i).length:Int)-(1:Int))=true→(0:Int)≤(↑(Z05 l i).length:Int)-(1:Int)∧((↑(Z05 l i).length:Int)-(1:Int)).toNat<(List.map Run.dv (Z05 l i)).length)∧(decide ((0:Int)≤(↑(Z05 l i).length:Int)-(1:Int))=true→(List.map Run.dv (Z05 l i))[((↑(Z05 l i).length:Int)-(1:Int)).toNat]? = some (Z0o (Z05 l i)).dv)∧(decide ((0:Int)≤(↑(Z05 l i).length:Int)-(1:Int))=true→IntKind.i64.wrap ((Z0o (Z05 l i)).frm+(Z0o (Z05 l i)).len)=(↑i:Int))∧(decide ((0:Int)≤(↑(Z05 l i).length:Int)-(1:Int))&&(↑i:Int)==(↑i:Int))=true∧((0:Int)≤(↑(Z05 l i).length:Int)-(1:Int)∧((↑(Z05 l i).length:Int)-(1:Int)).toNat<(List.map Run.dv (Z05 l i)).length)∧(List.map Run.dv (Z05 l i))[((↑(Z05 l i).length:Int)-(1:Int)).toNat]? = some (Z0o (Z05 l i)).dv∧IntKind.i64.wrap ((Z0o (Z05 l i)).len+(1:Int))=(Z0o (Z05 l i)).len+(1:Int)∧((0:Int)≤(↑(Z05 l i).length:Int)-(1:Int)∧((↑(Z05 l i).length:Int)-(1:Int)).toNat<(List.map Run.dv (Z05 l i)).length)∧(List.map Run.dv (Z05 l i))[((↑(Z05 l i).length:Int)-(1:Int)).toNat]? = some (Z0o (Z05 l i)).dv∧(List.map Run.dv (Z05 l i)).set ((↑(Z05 l i).length:Int)-(1:Int)).toNat (Z1S (Z0o (Z05 l i)).dv ((0:Nat) + #[Field.mk "From" (3:Nat) (0:Nat) false "" "" (0:Nat),Field.mk "Len" (3:Nat) (1:Nat) false "" "" (8:Nat)][(1:Nat)].3) [dint ((Z0o (Z05 l i)).len+(1:Int))])=List.map Run.dv (Z05 l (i+(1:Nat)))∧IntKind.i64.wrap ((↑i:Int)+(1:Int))=(↑(i+(1:Nat)):Int)) ?_ (by kernel_rfl) (by kernel_rfl) (by kernel_rfl)
 have hidx:0≤((Z05 l i).length:Int)-1∧(((Z05 l i).length:Int)-1).toNat<(List.map Run.dv (Z05 l i)).length:=by rw[List.length_map];omega
 have hat:(List.map Run.dv (Z05 l i))[(((Z05 l i).length:Int)-1).toNat]? = some (Z0o (Z05 l i)).dv:=by
  rw[show(((Z05 l i).length:Int)-1).toNat=(Z05 l i).length-1 from by omega]
  exact ZdY (Z1Z ho)
 refine⟨decide_eq_true (by omega),rfl,⟨by omega,Z1g hp⟩,by rw[List.length_map],Z10 (by omega) (by omega),by simp[hk],fun _=>hidx,fun _=>hat,fun _=>hidx,fun _=>hat,fun _=>by rw[hm];exact Z10 (by omega) (by omega),by simp;omega,hidx,hat,Z10 (by omega) (by omega),hidx,hat, ?_,Z10 (by omega) (by omega)⟩
 rw[e,← ZdT ho,show(((Z05 l i).length:Int)-1).toNat=(Z05 l i).length-1 from by omega]
 rfl
theorem ZaI(l:List Page)(hl:l.length≤1048576)(i:Nat)(p:Page)(hp:l[i]? = some p)(hk:p.kind=0)(ho:¬ (Z05 l i≠[]∧(Z0o (Z05 l i)).frm+(Z0o (Z05 l i)).len=i)):CSpec Tryz.prog (rndF Tryz.f146 0) (Z6i l i).st .nrm (Z6i l (i+1)).st:=by
 have hi:i<l.length:=(List.getElem?_eq_some_iff.1 hp).1
 obtain⟨o1,o2⟩:=Z2n l i
 have e:Z05 l (i+1)=Z05 l i++[⟨i,1⟩]:=by
  have hpa:Z1f l i=p:=by simp[Z1f,hp]
  rw[Z05,Z35,hpa,if_pos hk,if_neg ho]
 refine Z3S [(10,[.br true]),(12,[.el p.dv]),(15,[.int (Z05 l i).length]),(16,[.int ((Z05 l i).length-1:Int)]),(25,[.br false]),(34,[.el (Z0o (Z05 l i)).dv]),(39,[.el (Z0o (Z05 l i)).dv]),(43,[.br false]),(21,[.els ((Z05 l (i+1)).map Run.dv)]),(52,[.int ((i+1:Nat):Int)])] [] [(200021,16003)] (φ:=decide ((↑i:Int)<(↑l.length:Int))=true∧true=true∧((0:Int)≤(↑i:Int)∧(List.map Page.dv l)[(↑i:Int).toNat]? = some p.dv)∧(↑(List.map Run.dv (Z05 l i)).length:Int)=(↑(Z05 l i).length:Int)∧IntKind.i64.wrap ((↑(Z05 l i).length:Int)-(1:Int))=(↑(Z05 l i).length:Int)-(1:Int)∧(p.kind != (0:Int))=false∧(decide ((0:Int)≤(↑(Z05 l i).length:Int)-(1:Int))=true→(0:Int)≤(↑(Z05 l i).length:Int)-(1:Int)∧((↑(Z05 l i).length:Int)-(1:Int)).toNat<(List.map Run.dv (Z05 l i)).length)∧(decide ((0:Int)≤(↑(Z05 l i).length:Int)-(1:Int))=true→(List.map Run.dv (Z05 l i))[((↑(Z05 l i).length:Int)-(1:Int)).toNat]? = some (Z0o (Z05 l i)).dv)∧(decide ((0:Int)≤(↑(Z05 l i).length:Int)-(1:Int))=true→(0:Int)≤(↑(Z05 l i).length:Int)-(1:Int)∧((↑(Z05 l i).length:Int)-(1:Int)).toNat<(List.map Run.dv (Z05 l i)).length)∧(decide ((0:Int)≤(↑(Z05 l i).length:Int)-(1:Int))=true→(List.map Run.dv (Z05 l i))[((↑(Z05 l i).length:Int)-(1:Int)).toNat]? = some (Z0o (Z05 l i)).dv)∧(decide ((0:Int)≤(↑(Z05 l i).length:Int)-(1:Int))&&IntKind.i64.wrap ((Z0o (Z05 l i)).frm+(Z0o (Z05 l i)).len)==(↑i:Int))=false∧(List.map Run.dv (Z05 l i)).length+((List.replicate (1:Nat) [dint (0:Int),dint (0:Int)]).set (0:Nat) [dint (↑i:Int),dint (1:Int)]).length≤(2:Nat)^(30:Nat)∧List.map Run.dv (Z05 l i)++(List.replicate (1:Nat) [dint (0:Int),dint (0:Int)]).set (0:Nat) [dint (↑i:Int),dint (1:Int)]=List.map Run.dv (Z05 l (i+(1:Nat)))∧IntKind.i64.wrap ((↑i:Int)+(1:Int))=(↑(i+(1:Nat)):Int)) ?_ (by kernel_rfl) (by kernel_rfl) (by kernel_rfl)
 have hne:decide (0≤((Z05 l i).length:Int)-1)=true→Z05 l i≠[]:=by
  intro hd h0
  rw[h0]at hd
  simp at hd
 have hidx:decide (0≤((Z05 l i).length:Int)-1)=true→0≤((Z05 l i).length:Int)-1∧(((Z05 l i).length:Int)-1).toNat<(List.map Run.dv (Z05 l i)).length:=by
  intro hd
  have:=of_decide_eq_true hd
  rw[List.length_map];omega
 have hat:decide (0≤((Z05 l i).length:Int)-1)=true→(List.map Run.dv (Z05 l i))[(((Z05 l i).length:Int)-1).toNat]? = some (Z0o (Z05 l i)).dv:=by
  intro hd
  rw[show(((Z05 l i).length:Int)-1).toNat=(Z05 l i).length-1 from by omega]
  exact ZdY (Z1Z (hne hd))
 refine⟨decide_eq_true (by omega),rfl,⟨by omega,Z1g hp⟩,by rw[List.length_map],Z10 (by omega) (by omega),by simp[hk],hidx,hat,hidx,hat, ?_,by rw[List.length_map];simp;omega,by rw[e];simp[Run.dv],Z10 (by omega) (by omega)⟩
 cases hd:decide (0≤((Z05 l i).length:Int)-1)with
 | false=>simp
 | true =>
  have h1:=hne hd
  have hlast:=o2 _ (List.mem_of_getElem? (Z1Z h1))
  rw[Z10 (by omega) (by omega)]
  simp
  intro hh
  exact ho ⟨h1,hh⟩
theorem ZfL(l:List Page)(hl:l.length≤1048576)(i:Nat)(hi:i<l.length):CSpec Tryz.prog (rndF Tryz.f146 0) (Z6i l i).st .nrm (Z6i l (i+1)).st:=by
 have hp:=List.getElem?_eq_getElem hi
 by_cases hk:l[i].kind=0
 ·by_cases ho:Z05 l i≠[]∧(Z0o (Z05 l i)).frm+(Z0o (Z05 l i)).len=i
  ·exact Z8F l hl i _ hp hk ho.1 ho.2
  ·exact ZaI l hl i _ hp hk ho
 ·exact Z8x l hl i _ hp hk
theorem ZkS(l:List Page):CSpec Tryz.prog (rndF Tryz.f146 0) (Z6i l l.length).st (.ext 0) (Tg.st ⟨tm 54 [(3,.ow 16003)],[(16003,.arr 187 2 ((Z05 l l.length).map Run.dv))],60⟩):=by
 refine Z1y [(10,[.br false])] [] (φ:=decide ((↑l.length:Int)<(↑l.length:Int))=false∧false=false) ?_ (by kernel_rfl) (by kernel_rfl) (by kernel_rfl)
 exact⟨decide_eq_false (by omega),rfl⟩
def runs(l:List Page):List Run:=Z05 l l.length
theorem ZeB(l:List Page)(hl:l.length≤1048576):GSpec Tryz.prog 146 [Z0z l] false (Z5Q (runs l)) []:=by
 refine Z0j [(3,[.own]),(8,[.int l.length])] [(0,Z6i l 0,.nrm,⟨tm 54 [(3,.ow 16003)],[(16003,.arr 187 2 ((Z05 l l.length).map Run.dv))],60⟩)] [] (by decide) Tryz.func146 (φ:=(↑(List.map Page.dv l).length:Int)=(↑l.length:Int)∧CSpec Tryz.prog (blkF Tryz.f146 (0:Nat)) (Z6i l (0:Nat)).st Ex.nrm (Tg.mk (tm (54:Nat) [((3:Nat),AV.ow (16003:Nat))]) [((16003:Nat),Blk.arr 187 (2:Nat) (List.map Run.dv (Z05 l l.length)))] (60:Nat)).st) ?_ (by kernel_rfl) (by kernel_rfl)
 exact⟨by rw[List.length_map],Z0c (S:=fun i=>(Z6i l i).st) l.length (by kernel_rfl) (fun i hi=>ZfL l hl i hi) (ZkS l)⟩
def Z3y(l:List Page)(i:Nat):Tg:=⟨tm 54 [(0,Z0z l),(3,.ow 16003),(4,int i)],[(16003,.arr 187 2 ((Z05 l i).map Run.dv))],20⟩
theorem Z7p(l:List Page)(hl:l.length≤1048576)(i:Nat)(p:Page)(hp:l[i]? = some p)(hk:p.kind≠0):CSpec Tryz.prog (rndF Tryz.f165 0) (Z3y l i).st .nrm (Z3y l (i+1)).st:=by
 have hi:i<l.length:=(List.getElem?_eq_some_iff.1 hp).1
 have e:Z3y l (i+1)=⟨tm 54 [(0,Z0z l),(3,.ow 16003),(4,int ((i+1:Nat):Int))],[(16003,.arr 187 2 ((Z05 l i).map Run.dv))],20⟩:=by
  have hpa:Z1f l i=p:=by simp[Z1f,hp]
  rw[Z3y,Z05,Z35,hpa,if_neg hk]
 rw[e]
 refine Z3S [(8,[.int l.length]),(9,[.br true]),(14,[.el p.dv]),(17,[.br true]),(11,[.int ((i+1:Nat):Int)])] [] [] (φ:=(↑(List.map Page.dv l).length:Int)=(↑l.length:Int)∧decide ((↑i:Int)<(↑l.length:Int))=true∧true=true∧((0:Int)≤(↑i:Int)∧(List.map Page.dv l)[(↑i:Int).toNat]? = some p.dv)∧(p.kind != (0:Int))=true∧true=true∧IntKind.i64.wrap ((↑i:Int)+(1:Int))=(↑(i+(1:Nat)):Int)) ?_ (by kernel_rfl) (by kernel_rfl) (by kernel_rfl)
 exact⟨by rw[List.length_map],decide_eq_true (by omega),rfl,⟨by omega,Z1g hp⟩,by simp[hk],rfl,Z10 (by omega) (by omega)⟩
theorem Z8b(l:List Page)(hl:l.length≤1048576)(i:Nat)(p:Page)(hp:l[i]? = some p)(hk:p.kind=0)(ho:Z05 l i≠[])(hm:(Z0o (Z05 l i)).frm+(Z0o (Z05 l i)).len=i):CSpec Tryz.prog (rndF Tryz.f165 0) (Z3y l i).st .nrm (Z3y l (i+1)).st:=by
 have hi:i<l.length:=(List.getElem?_eq_some_iff.1 hp).1
 obtain⟨o1,o2⟩:=Z2n l i
 have hlast:=o2 _ (List.mem_of_getElem? (Z1Z ho))
 have hpos:0<(Z05 l i).length:=List.length_pos_iff.2 ho
 have e:Z05 l (i+1)=(Z05 l i).dropLast++[⟨(Z0o (Z05 l i)).frm,(Z0o (Z05 l i)).len+1⟩]:=by
  have hpa:Z1f l i=p:=by simp[Z1f,hp]
  rw[Z05,Z35,hpa,if_pos hk,if_pos ⟨ho,hm⟩]
 have hidx:0≤((Z05 l i).length:Int)-1∧(((Z05 l i).length:Int)-1).toNat<(List.map Run.dv (Z05 l i)).length:=by rw[List.length_map];omega
 have hat:(List.map Run.dv (Z05 l i))[(((Z05 l i).length:Int)-1).toNat]? = some (Z0o (Z05 l i)).dv:=by
  rw[show(((Z05 l i).length:Int)-1).toNat=(Z05 l i).length-1 from by omega]
  exact ZdY (Z1Z ho)
 have hset:(List.map Run.dv (Z05 l i)).set (((Z05 l i).length:Int)-1).toNat [dint (Z0o (Z05 l i)).frm,dint ((Z0o (Z05 l i)).len+1)]=List.map Run.dv (Z05 l (i+1)):=by
  rw[e,← ZdT ho,show(((Z05 l i).length:Int)-1).toNat=(Z05 l i).length-1 from by omega]
  rfl
 have hw:IntKind.i64.wrap (((Z05 l i).length:Int)-1)=((Z05 l i).length:Int)-1:=Z10 (by omega) (by omega)
 refine Z3S [(8,[.int l.length]),(9,[.br true]),(14,[.el p.dv]),(17,[.br false]),(19,[.int (Z05 l i).length]),(25,[.int ((Z05 l i).length-1:Int)]),(28,[.el (Z0o (Z05 l i)).dv]),(31,[.int ((Z05 l i).length-1:Int)]),(34,[.el (Z0o (Z05 l i)).dv]),(35,[.int i]),(38,[.br true]),(41,[.int ((Z05 l i).length-1:Int)]),(44,[.el (Z0o (Z05 l i)).dv]),(45,[.int ((Z0o (Z05 l i)).len+1)]),(10047,[.el (Z0o (Z05 l i)).dv,.els ((Z05 l (i+1)).map Run.dv)]),(11,[.int ((i+1:Nat):Int)])] [] [] (φ:=(↑(List.map Page.dv l).length:Int)=(↑l.length:Int)∧decide ((↑i:Int)<(↑l.length:Int))=true∧true=true∧((0:Int)≤(↑i:Int)∧(List.map Page.dv l)[(↑i:Int).toNat]? = some p.dv)∧(p.kind != (0:Int))=false∧false=false∧(↑(List.map Run.dv (Z05 l i)).length:Int)=(↑(Z05 l i).length:Int)∧(decide ((0:Int)<(↑(Z05 l i).length:Int))=true→IntKind.i64.wrap ((↑(Z05 l i).length:Int)-(1:Int))=(↑(Z05 l i).length:Int)-(1:Int))∧(decide ((0:Int)<(↑(Z05 l i).length:Int))=true→(0:Int)≤(↑(Z05 l i).length:Int)-(1:Int)∧((↑(Z05 l i).length:Int)-(1:Int)).toNat<(List.map Run.dv (Z05 l i)).length)∧(decide ((0:Int)<(↑(Z05 l i).length:Int))=true→(List.map Run.dv (Z05 l i))[((↑(Z05 l i).length:Int)-(1:Int)).toNat]? = some (Z0o (Z05 l i)).dv)∧(decide ((0:Int)<(↑(Z05 l i).length:Int))=true→IntKind.i64.wrap ((↑(Z05 l i).length:Int)-(1:Int))=(↑(Z05 l i).length:Int)-(1:Int))∧(decide ((0:Int)<(↑(Z05 l i).length:Int))=true→(0:Int)≤(↑(Z05 l i).length:Int)-(1:Int)∧((↑(Z05 l i).length:Int)-(1:Int)).toNat<(List.map Run.dv (Z05 l i)).length)∧(decide ((0:Int)<(↑(Z05 l i).length:Int))=true→(List.map Run.dv (Z05 l i))[((↑(Z05 l i).length:Int)-(1:Int)).toNat]? = some (Z0o (Z05 l i)).dv)∧(decide ((0:Int)<(↑(Z05 l i).length:Int))=true→IntKind.i64.wrap ((Z0o (Z05 l i)).frm+(Z0o (Z05 l i)).len)=(↑i:Int))∧(decide ((0:Int)<(↑(Z05 l i).length:Int))&&(↑i:Int)==(↑i:Int))=true∧true=true∧IntKind.i64.wrap ((↑(Z05 l i).length:Int)-(1:Int))=(↑(Z05 l i).length:Int)-(1:Int)∧((0:Int)≤(↑(Z05 l i).length:Int)-(1:Int)∧((↑(Z05 l i).length:Int)-(1:Int)).toNat<(List.map Run.dv (Z05 l i)).length)∧(List.map Run.dv (Z05 l i))[((↑(Z05 l i).length:Int)-(1:Int)).toNat]? = some (Z0o (Z05 l i)).dv∧IntKind.i64.wrap ((Z0o (Z05 l i)).len+(1:Int))=(Z0o (Z05 l i)).len+(1:Int)∧((0:Int)≤(↑(Z05 l i).length:Int)-(1:Int)∧((↑(Z05 l i).length:Int)-(1:Int)).toNat<(List.map Run.dv (Z05 l i)).length)∧(List.map Run.dv (Z05 l i))[((↑(Z05 l i).length:Int)-(1:Int)).toNat]? = some (Z0o (Z05 l i)).dv∧(List.map Run.dv (Z05 l i)).set ((↑(Z05 l i).length:Int)-(1:Int)).toNat (Z1S (Z0o (Z05 l i)).dv ((0:Nat) + #[Field.mk "From" (3:Nat) (0:Nat) false "" "" (0:Nat),Field.mk "Len" (3:Nat) (1:Nat) false "" "" (8:Nat)][(1:Nat)].3) [dint ((Z0o (Z05 l i)).len+(1:Int))])=List.map Run.dv (Z05 l (i+(1:Nat)))∧IntKind.i64.wrap ((↑i:Int)+(1:Int))=(↑(i+(1:Nat)):Int)) ?_ (by kernel_rfl) (by kernel_rfl) (by kernel_rfl)
 exact⟨by rw[List.length_map],decide_eq_true (by omega),rfl,⟨by omega,Z1g hp⟩,by simp[hk],rfl,by rw[List.length_map],fun _=>hw,fun _=>hidx,fun _=>hat,fun _=>hw,fun _=>hidx,fun _=>hat,fun _=>by rw[hm];exact Z10 (by omega) (by omega),by simp;omega,rfl,hw,hidx,hat,Z10 (by omega) (by omega),hidx,hat,hset,Z10 (by omega) (by omega)⟩
theorem Z8N(l:List Page)(hl:l.length≤1048576)(i:Nat)(p:Page)(hp:l[i]? = some p)(hk:p.kind=0)(ho:¬ (Z05 l i≠[]∧(Z0o (Z05 l i)).frm+(Z0o (Z05 l i)).len=i)):CSpec Tryz.prog (rndF Tryz.f165 0) (Z3y l i).st .nrm (Z3y l (i+1)).st:=by
 have hi:i<l.length:=(List.getElem?_eq_some_iff.1 hp).1
 obtain⟨o1,o2⟩:=Z2n l i
 have e:Z05 l (i+1)=Z05 l i++[⟨i,1⟩]:=by
  have hpa:Z1f l i=p:=by simp[Z1f,hp]
  rw[Z05,Z35,hpa,if_pos hk,if_neg ho]
 have hne:decide (0<((Z05 l i).length:Int))=true→Z05 l i≠[]:=by
  intro hd h0
  rw[h0]at hd
  simp at hd
 have hidx:decide (0<((Z05 l i).length:Int))=true→0≤((Z05 l i).length:Int)-1∧(((Z05 l i).length:Int)-1).toNat<(List.map Run.dv (Z05 l i)).length:=by
  intro hd
  have:=of_decide_eq_true hd
  rw[List.length_map];omega
 have hat:decide (0<((Z05 l i).length:Int))=true→(List.map Run.dv (Z05 l i))[(((Z05 l i).length:Int)-1).toNat]? = some (Z0o (Z05 l i)).dv:=by
  intro hd
  rw[show(((Z05 l i).length:Int)-1).toNat=(Z05 l i).length-1 from by omega]
  exact ZdY (Z1Z (hne hd))
 have hw:IntKind.i64.wrap (((Z05 l i).length:Int)-1)=((Z05 l i).length:Int)-1:=Z10 (by omega) (by omega)
 refine Z3S [(8,[.int l.length]),(9,[.br true]),(14,[.el p.dv]),(17,[.br false]),(19,[.int (Z05 l i).length]),(25,[.int ((Z05 l i).length-1:Int)]),(28,[.el (Z0o (Z05 l i)).dv]),(31,[.int ((Z05 l i).length-1:Int)]),(34,[.el (Z0o (Z05 l i)).dv]),(38,[.br false]),(52,[.els ((Z05 l (i+1)).map Run.dv)]),(11,[.int ((i+1:Nat):Int)])] [] [(192052,16003)] (φ:=(↑(List.map Page.dv l).length:Int)=(↑l.length:Int)∧decide ((↑i:Int)<(↑l.length:Int))=true∧true=true∧((0:Int)≤(↑i:Int)∧(List.map Page.dv l)[(↑i:Int).toNat]? = some p.dv)∧(p.kind != (0:Int))=false∧false=false∧(↑(List.map Run.dv (Z05 l i)).length:Int)=(↑(Z05 l i).length:Int)∧(decide ((0:Int)<(↑(Z05 l i).length:Int))=true→IntKind.i64.wrap ((↑(Z05 l i).length:Int)-(1:Int))=(↑(Z05 l i).length:Int)-(1:Int))∧(decide ((0:Int)<(↑(Z05 l i).length:Int))=true→(0:Int)≤(↑(Z05 l i).length:Int)-(1:Int)∧((↑(Z05 l i).length:Int)-(1:Int)).toNat<(List.map Run.dv (Z05 l i)).length)∧(decide ((0:Int)<(↑(Z05 l i).length:Int))=true→(List.map Run.dv (Z05 l i))[((↑(Z05 l i).length:Int)-(1:Int)).toNat]? = some (Z0o (Z05 l i)).dv)∧(decide ((0:Int)<(↑(Z05 l i).length:Int))=true→IntKind.i64.wrap ((↑(Z05 l i).length:Int)-(1:Int))=(↑(Z05 l i).length:Int)-(1:Int))∧(decide ((0:Int)<(↑(Z05 l i).length:Int))=true→(0:Int)≤(↑(Z05 l i).length:Int)-(1:Int)∧((↑(Z05 l i).length:Int)-(1:Int)).toNat<(List.map Run.dv (Z05 l i)).length)∧(decide ((0:Int)<(↑(Z05 l i).length:Int))=true→(List.map Run.dv (Z05 l i))[((↑(Z05 l i).length:Int)-(1:Int)).toNat]? = some (Z0o (Z05 l i)).dv)∧(decide ((0:Int)<(↑(Z05 l i).length:Int))&&IntKind.i64.wrap ((Z0o (Z05 l i)).frm+(Z0o (Z05 l i)).len)==(↑i:Int))=false∧false=false∧(List.map Run.dv (Z05 l i)).length+((List.replicate (1:Nat) [dint (0:Int),dint (0:Int)]).set (0:Nat) [dint (↑i:Int),dint (1:Int)]).length≤(2:Nat)^(30:Nat)∧List.map Run.dv (Z05 l i)++(List.replicate (1:Nat) [dint (0:Int),dint (0:Int)]).set (0:Nat) [dint (↑i:Int),dint (1:Int)]=List.map Run.dv (Z05 l (i+(1:Nat)))∧IntKind.i64.wrap ((↑i:Int)+(1:Int))=(↑(i+(1:Nat)):Int)) ?_ (by kernel_rfl) (by kernel_rfl) (by kernel_rfl)
 refine⟨by rw[List.length_map],decide_eq_true (by omega),rfl,⟨by omega,Z1g hp⟩,by simp[hk],rfl,by rw[List.length_map],fun _=>hw,hidx,hat,fun _=>hw,hidx,hat, ?_,rfl,by rw[List.length_map];simp;omega,by rw[e];simp[Run.dv],Z10 (by omega) (by omega)⟩
 cases hd:decide (0<((Z05 l i).length:Int))with
 | false=>simp
 | true =>
  have h1:=hne hd
  have hlast:=o2 _ (List.mem_of_getElem? (Z1Z h1))
  rw[Z10 (by omega) (by omega)]
  simp
  intro hh
  exact ho ⟨h1,hh⟩
theorem ZfA(l:List Page)(hl:l.length≤1048576)(i:Nat)(hi:i<l.length):CSpec Tryz.prog (rndF Tryz.f165 0) (Z3y l i).st .nrm (Z3y l (i+1)).st:=by
 have hp:=List.getElem?_eq_getElem hi
 by_cases hk:l[i].kind=0
 ·by_cases ho:Z05 l i≠[]∧(Z0o (Z05 l i)).frm+(Z0o (Z05 l i)).len=i
  ·exact Z8b l hl i _ hp hk ho.1 ho.2
  ·exact Z8N l hl i _ hp hk ho
 ·exact Z7p l hl i _ hp hk
theorem Zi1(l:List Page):CSpec Tryz.prog (rndF Tryz.f165 0) (Z3y l l.length).st (.ext 0) (Tg.st ⟨tm 54 [(3,.ow 16003)],[(16003,.arr 187 2 ((Z05 l l.length).map Run.dv))],60⟩):=by
 refine Z1y [(8,[.int l.length]),(9,[.br false])] [] (φ:=(↑(List.map Page.dv l).length:Int)=(↑l.length:Int)∧decide ((↑l.length:Int)<(↑l.length:Int))=false∧false=false) ?_ (by kernel_rfl) (by kernel_rfl) (by kernel_rfl)
 exact⟨by rw[List.length_map],decide_eq_false (by omega),rfl⟩
theorem Zdp(l:List Page)(hl:l.length≤1048576):GSpec Tryz.prog 165 [Z0z l] false (Z5Q (runs l)) []:=by
 refine Z0j [(3,[.own])] [(0,Z3y l 0,.nrm,⟨tm 54 [(3,.ow 16003)],[(16003,.arr 187 2 ((Z05 l l.length).map Run.dv))],60⟩)] [] (by decide) Tryz.func165 (φ:=CSpec Tryz.prog (blkF Tryz.f165 (0:Nat)) (Z3y l (0:Nat)).st Ex.nrm (Tg.mk (tm (54:Nat) [((3:Nat),AV.ow (16003:Nat))]) [((16003:Nat),Blk.arr 187 (2:Nat) (List.map Run.dv (Z05 l l.length)))] (60:Nat)).st) ?_ (by kernel_rfl) (by kernel_rfl)
 exact Z0c (S:=fun i=>(Z3y l i).st) l.length (by kernel_rfl) (fun i hi=>ZfA l hl i hi) (Zi1 l)
theorem Z8w{l:List Run}{i:Nat}{p:Run}(h:l[i]? = some p):(l.map Run.dv)[((i:Nat):Int).toNat]? = some p.dv:=by simp[h]
def Z1R(l:List Page):Nat→Nat
 | 0=>0
 | i+1=>Z1R l i+(if(Z1f l i).kind=0 then 0 else 1)
theorem Z5S(l:List Page):∀ i,Z1R l i≤i
 | 0=>Nat.le_refl _
 | i+1=>by
  have:=Z5S l i
  simp only[Z1R]
  split<;>omega
def Z1e(l:List Page):Nat:=Z1R l l.length
def Z6V(l:List Page)(i:Nat):Tg:=⟨tm 19 [(3,int (Z1R l i)),(6,Z0z l),(7,int l.length),(8,int i)],[],20⟩
theorem Zf6(l:List Page)(hl:l.length≤1048576)(i:Nat)(hi:i<l.length):CSpec Tryz.prog (rndF Tryz.f92 0) (Z6V l i).st .nrm (Z6V l (i+1)).st:=by
 have hp:=List.getElem?_eq_getElem hi
 have hle:=Z5S l i
 have hpa:Z1f l i=l[i]:=by simp[Z1f,hp]
 by_cases hk:l[i].kind=0
 ·have e:Z1R l (i+1)=Z1R l i:=by rw[Z1R,hpa,if_pos hk];rfl
  rw[show Z6V l (i+1)=⟨tm 19 [(3,int (Z1R l i)),(6,Z0z l),(7,int l.length),(8,int ((i+1:Nat):Int))],[],20⟩from by rw[Z6V,e]]
  refine Z1y [(9,[.br true]),(10,[.el l[i].dv]),(14,[.br false]),(17,[.int ((i+1:Nat):Int)])] [] (φ:=decide ((↑i:Int)<(↑l.length:Int))=true∧true=true∧((0:Int)≤(↑i:Int)∧(List.map Page.dv l)[(↑i:Int).toNat]? = some (l.get (Fin.mk i hi)).dv)∧((l.get (Fin.mk i hi)).kind != (0:Int))=false∧false=false∧IntKind.i64.wrap ((↑i:Int)+(1:Int))=(↑(i+(1:Nat)):Int)) ?_ (by kernel_rfl) (by kernel_rfl) (by kernel_rfl)
  exact⟨decide_eq_true (by omega),rfl,⟨by omega,Z1g hp⟩,by simp[hk],rfl,Z10 (by omega) (by omega)⟩
 ·have e:Z1R l (i+1)=Z1R l i+1:=by rw[Z1R,hpa,if_neg hk]
  refine Z1y [(9,[.br true]),(10,[.el l[i].dv]),(14,[.br true]),(16,[.int (Z1R l (i+1))]),(17,[.int ((i+1:Nat):Int)])] [] (φ:=decide ((↑i:Int)<(↑l.length:Int))=true∧true=true∧((0:Int)≤(↑i:Int)∧(List.map Page.dv l)[(↑i:Int).toNat]? = some (l.get (Fin.mk i hi)).dv)∧((l.get (Fin.mk i hi)).kind != (0:Int))=true∧true=true∧IntKind.i64.wrap ((↑(Z1R l i):Int)+(1:Int))=(↑(Z1R l (i+(1:Nat))):Int)∧IntKind.i64.wrap ((↑i:Int)+(1:Int))=(↑(i+(1:Nat)):Int)) ?_ (by kernel_rfl) (by kernel_rfl) (by kernel_rfl)
  exact⟨decide_eq_true (by omega),rfl,⟨by omega,Z1g hp⟩,by simp[hk],rfl,by rw[e];exact Z10 (by omega) (by omega),Z10 (by omega) (by omega)⟩
theorem Zje(l:List Page):CSpec Tryz.prog (rndF Tryz.f92 0) (Z6V l l.length).st (.ext 0) (Tg.st ⟨tm 19 [(3,int (Z1e l))],[],60⟩):=by
 refine Z1y [(9,[.br false])] [] (φ:=decide ((↑l.length:Int)<(↑l.length:Int))=false∧false=false) ?_ (by kernel_rfl) (by kernel_rfl) (by kernel_rfl)
 exact⟨decide_eq_false (by omega),rfl⟩
theorem ZgA(l:List Page)(hl:l.length≤1048576):GSpec Tryz.prog 92 [Z0z l] true (int (Z1e l)) []:=by
 refine Z0j [(7,[.int l.length])] [(0,Z6V l 0,.nrm,⟨tm 19 [(3,int (Z1e l))],[],60⟩)] [] (by decide) Tryz.func92 (φ:=(↑(List.map Page.dv l).length:Int)=(↑l.length:Int)∧CSpec Tryz.prog (blkF Tryz.f92 (0:Nat)) (Z6V l (0:Nat)).st Ex.nrm (Tg.mk (tm (19:Nat) [((3:Nat),int (↑(Z1e l):Int))]) [] (60:Nat)).st) ?_ (by kernel_rfl) (by kernel_rfl)
 exact⟨by rw[List.length_map],Z0c (S:=fun i=>(Z6V l i).st) l.length (by kernel_rfl) (fun i hi=>Zf6 l hl i hi) (Zje l)⟩
def Z4h(l:List Page)(i:Nat):Tg:=⟨tm 20 [(0,Z0z l),(3,int (Z1R l i)),(4,int i)],[],20⟩
theorem ZcI(l:List Page)(hl:l.length≤1048576)(i:Nat)(hi:i<l.length):CSpec Tryz.prog (rndF Tryz.f154 0) (Z4h l i).st .nrm (Z4h l (i+1)).st:=by
 have hp:=List.getElem?_eq_getElem hi
 have hle:=Z5S l i
 have hpa:Z1f l i=l[i]:=by simp[Z1f,hp]
 by_cases hk:l[i].kind=0
 ·have e:Z1R l (i+1)=Z1R l i:=by rw[Z1R,hpa,if_pos hk];rfl
  rw[show Z4h l (i+1)=⟨tm 20 [(0,Z0z l),(3,int (Z1R l i)),(4,int ((i+1:Nat):Int))],[],20⟩from by rw[Z4h,e]]
  refine Z1y [(7,[.int l.length]),(8,[.br true]),(13,[.el l[i].dv]),(16,[.br false]),(10,[.int ((i+1:Nat):Int)])] [] (φ:=(↑(List.map Page.dv l).length:Int)=(↑l.length:Int)∧decide ((↑i:Int)<(↑l.length:Int))=true∧true=true∧((0:Int)≤(↑i:Int)∧(List.map Page.dv l)[(↑i:Int).toNat]? = some (l.get (Fin.mk i hi)).dv)∧((l.get (Fin.mk i hi)).kind != (0:Int))=false∧false=false∧IntKind.i64.wrap ((↑i:Int)+(1:Int))=(↑(i+(1:Nat)):Int)) ?_ (by kernel_rfl) (by kernel_rfl) (by kernel_rfl)
  exact⟨by rw[List.length_map],decide_eq_true (by omega),rfl,⟨by omega,Z1g hp⟩,by simp[hk],rfl,Z10 (by omega) (by omega)⟩
 ·have e:Z1R l (i+1)=Z1R l i+1:=by rw[Z1R,hpa,if_neg hk]
  refine Z1y [(7,[.int l.length]),(8,[.br true]),(13,[.el l[i].dv]),(16,[.br true]),(18,[.int (Z1R l (i+1))]),(10,[.int ((i+1:Nat):Int)])] [] (φ:=(↑(List.map Page.dv l).length:Int)=(↑l.length:Int)∧decide ((↑i:Int)<(↑l.length:Int))=true∧true=true∧((0:Int)≤(↑i:Int)∧(List.map Page.dv l)[(↑i:Int).toNat]? = some (l.get (Fin.mk i hi)).dv)∧((l.get (Fin.mk i hi)).kind != (0:Int))=true∧true=true∧IntKind.i64.wrap ((↑(Z1R l i):Int)+(1:Int))=(↑(Z1R l (i+(1:Nat))):Int)∧IntKind.i64.wrap ((↑i:Int)+(1:Int))=(↑(i+(1:Nat)):Int)) ?_ (by kernel_rfl) (by kernel_rfl) (by kernel_rfl)
  exact⟨by rw[List.length_map],decide_eq_true (by omega),rfl,⟨by omega,Z1g hp⟩,by simp[hk],rfl,by rw[e];exact Z10 (by omega) (by omega),Z10 (by omega) (by omega)⟩
theorem Zgg(l:List Page):CSpec Tryz.prog (rndF Tryz.f154 0) (Z4h l l.length).st (.ext 0) (Tg.st ⟨tm 20 [(3,int (Z1e l))],[],60⟩):=by
 refine Z1y [(7,[.int l.length]),(8,[.br false])] [] (φ:=(↑(List.map Page.dv l).length:Int)=(↑l.length:Int)∧decide ((↑l.length:Int)<(↑l.length:Int))=false∧false=false) ?_ (by kernel_rfl) (by kernel_rfl) (by kernel_rfl)
 exact⟨by rw[List.length_map],decide_eq_false (by omega),rfl⟩
theorem Z60(l:List Page)(hl:l.length≤1048576):GSpec Tryz.prog 154 [Z0z l] true (int (Z1e l)) []:=by
 refine Z0j [] [(0,Z4h l 0,.nrm,⟨tm 20 [(3,int (Z1e l))],[],60⟩)] [] (by decide) Tryz.func154 (φ:=CSpec Tryz.prog (blkF Tryz.f154 (0:Nat)) (Z4h l (0:Nat)).st Ex.nrm (Tg.mk (tm (20:Nat) [((3:Nat),int (↑(Z1e l):Int))]) [] (60:Nat)).st) ?_ (by kernel_rfl) (by kernel_rfl)
 exact Z0c (S:=fun i=>(Z4h l i).st) l.length (by kernel_rfl) (fun i hi=>ZcI l hl i hi) (Zgg l)
def Z2v:List Run→Int→Int
 | [],_=>-1
 | r::l,k=>if k≤r.len then r.frm else Z2v l k
def first(l:List Page)(k:Int):Int:=if k<1 then -1 else Z2v (runs l) k
theorem Z4B:∀ {l:List Run} {k:Int},(l.all fun r=>decide (r.len<k))=true→Z2v l k=-1
 | [],_,_=>rfl
 | r::l,k,h=>by
  simp only[List.all_cons,Bool.and_eq_true,decide_eq_true_eq]at h
  rw[Z2v,if_neg (by omega),Z4B h.2]
theorem Z4k:∀ {l:List Run} {k:Int} {j:Nat} {r:Run},l[j]? = some r→k≤r.len→(∀ i:Nat,i<j→∃ y,l[i]? = some y∧decide (y.len<k)=true)→Z2v l k=r.frm
 | [],_,_,_,h,_,_=>by simp at h
 | x::l,k,0,r,h,hr,_=>by
  simp at h;subst h
  rw[Z2v,if_pos hr]
 | x::l,k,j+1,r,h,hr,hb=>by
  obtain⟨y,h1,h2⟩:=hb 0 (by omega)
  simp at h1 h2;subst h1
  rw[Z2v,if_neg (by omega)]
  exact Z4k (by simpa using h) hr fun i hi=>by
   obtain⟨z,h3,h4⟩:=hb (i+1) (by omega)
   exact⟨z,by simpa using h3,h4⟩
theorem ZdQ{l:List Page}:(runs l).length≤l.length:=(Z2n l l.length).1
def Z5k(rs:List Run)(k:Int)(i:Nat):Tg:=⟨tm 23 [(1,int k),(4,int 0),(10,Z5Q rs),(11,int rs.length),(12,int i)],[],20⟩
theorem Z9y(rs:List Run)(k:Int)(i:Nat)(r:Run)(hl:rs.length≤1048576)(hr:rs[i]? = some r)(hk:r.len<k):CSpec Tryz.prog (rndF Tryz.f114 0) (Z5k rs k i).st .nrm (Z5k rs k (i+1)).st:=by
 have hi:i<rs.length:=(List.getElem?_eq_some_iff.1 hr).1
 refine Z1y [(13,[.br true]),(14,[.el r.dv]),(19,[.br false]),(22,[.int ((i+1:Nat):Int)])] [] (φ:=decide ((↑i:Int)<(↑rs.length:Int))=true∧true=true∧((0:Int)≤(↑i:Int)∧(List.map Run.dv rs)[(↑i:Int).toNat]? = some r.dv)∧decide (k≤r.len)=false∧false=false∧IntKind.i64.wrap ((↑i:Int)+(1:Int))=(↑(i+(1:Nat)):Int)) ?_ (by kernel_rfl) (by kernel_rfl) (by kernel_rfl)
 exact⟨decide_eq_true (by omega),rfl,⟨by omega,Z8w hr⟩,decide_eq_false (by omega),rfl,Z10 (by omega) (by omega)⟩
theorem ZfB(rs:List Run)(k:Int)(i:Nat)(r:Run)(hr:rs[i]? = some r)(hk:k≤r.len):CSpec Tryz.prog (rndF Tryz.f114 0) (Z5k rs k i).st .ret (Tg.st ⟨tm 23 [(4,int r.frm)],[],60⟩):=by
 have hi:i<rs.length:=(List.getElem?_eq_some_iff.1 hr).1
 refine Z1y [(13,[.br true]),(14,[.el r.dv]),(19,[.br true])] [] (φ:=decide ((↑i:Int)<(↑rs.length:Int))=true∧true=true∧((0:Int)≤(↑i:Int)∧(List.map Run.dv rs)[(↑i:Int).toNat]? = some r.dv)∧decide (k≤r.len)=true∧true=true) ?_ (by kernel_rfl) (by kernel_rfl) (by kernel_rfl)
 exact⟨decide_eq_true (by omega),rfl,⟨by omega,Z8w hr⟩,decide_eq_true (by omega),rfl⟩
theorem Zir(rs:List Run)(k:Int):CSpec Tryz.prog (rndF Tryz.f114 0) (Z5k rs k rs.length).st (.ext 0) (Tg.st ⟨tm 23 [],[],60⟩):=by
 refine Z1y [(13,[.br false])] [] (φ:=decide ((↑rs.length:Int)<(↑rs.length:Int))=false∧false=false) ?_ (by kernel_rfl) (by kernel_rfl) (by kernel_rfl)
 exact⟨decide_eq_false (by omega),rfl⟩
theorem Zmd(l:List Page)(k:Int)(hl:l.length≤1048576):GSpec Tryz.prog 114 [Z0z l,int k] true (int (first l k)) []:=by
 by_cases hk:k<1
 ·rw[first,if_pos hk]
  refine Z0j [(8,[.br true])] [] [] (by decide) Tryz.func114 (φ:=decide (k<(1:Int))=true∧true=true) ?_ (by kernel_rfl) (by kernel_rfl)
  exact⟨decide_eq_true hk,rfl⟩
 ·rw[first,if_neg hk]
  have hrl:=ZdQ (l:=l)
  cases ha:(runs l).all fun r=>decide (r.len<k)with
  | true =>
   rw[Z4B ha]
   refine Z0j [(8,[.br false]),(10,[.call false (Z5Q (runs l)) []]),(11,[.int (runs l).length])] [(0,Z5k (runs l) k 0,.nrm,⟨tm 23 [],[],60⟩)] [] (by decide) Tryz.func114 (φ:=decide (k<(1:Int))=false∧false=false∧GSpec Tryz.prog 146 [AV.d (DV.sl (4:Nat) (List.map Page.dv l))] false (Z5Q (runs l)) []∧(↑(List.map Run.dv (runs l)).length:Int)=(↑(runs l).length:Int)∧CSpec Tryz.prog (blkF Tryz.f114 (0:Nat)) (Z5k (runs l) k (0:Nat)).st Ex.nrm (Tg.mk (tm (23:Nat) []) [] (60:Nat)).st) ?_ (by kernel_rfl) (by kernel_rfl)
   refine⟨decide_eq_false hk,rfl,ZeB l hl,by rw[List.length_map],Z0c (S:=fun i=>(Z5k (runs l) k i).st) (runs l).length (by kernel_rfl) (fun i hi=>?_) (Zir _ _)⟩
   have:=List.all_eq_true.1 ha _ (List.getElem_mem hi)
   exact Z9y _ k i _ (by omega) (List.getElem?_eq_getElem hi) (by simpa using this)
  | false =>
   obtain⟨j,r,h1,h2,h3⟩:=Z4M ha
   have hr:k≤r.len:=by simpa using h2
   rw[Z4k h1 hr h3]
   refine Z0j [(8,[.br false]),(10,[.call false (Z5Q (runs l)) []]),(11,[.int (runs l).length])] [(0,Z5k (runs l) k 0,.ret,⟨tm 23 [(4,int r.frm)],[],60⟩)] [] (by decide) Tryz.func114 (φ:=decide (k<(1:Int))=false∧false=false∧GSpec Tryz.prog 146 [AV.d (DV.sl (4:Nat) (List.map Page.dv l))] false (Z5Q (runs l)) []∧(↑(List.map Run.dv (runs l)).length:Int)=(↑(runs l).length:Int)∧CSpec Tryz.prog (blkF Tryz.f114 (0:Nat)) (Z5k (runs l) k (0:Nat)).st Ex.ret (Tg.mk (tm (23:Nat) [((4:Nat),int r.frm)]) [] (60:Nat)).st) ?_ (by kernel_rfl) (by kernel_rfl)
   refine⟨decide_eq_false hk,rfl,ZeB l hl,by rw[List.length_map],Z0Q (S:=fun i=>(Z5k (runs l) k i).st) j (by kernel_rfl) (fun i hi=>?_) (ZfB _ k j r h1 hr)⟩
   obtain⟨y,h4,h5⟩:=h3 i hi
   exact Z9y _ k i y (by omega) h4 (by simpa using h5)
def Z2M(rs:List Run)(k:Int)(i:Nat):Tg:=⟨tm 31 [(1,int k),(4,int 0),(5,Z5Q rs),(6,int i)],[],20⟩
theorem Z5C(rs:List Run)(k:Int)(i:Nat)(r:Run)(hl:rs.length≤1048576)(hr:rs[i]? = some r)(hk:k<1∨r.len<k):CSpec Tryz.prog (rndF Tryz.f155 0) (Z2M rs k i).st .nrm (Z2M rs k (i+1)).st:=by
 have hi:i<rs.length:=(List.getElem?_eq_some_iff.1 hr).1
 refine Z1y [(11,[.int rs.length]),(12,[.br true]),(20,[.el r.dv]),(25,[.br false]),(14,[.int ((i+1:Nat):Int)])] [] (φ:=(↑(List.map Run.dv rs).length:Int)=(↑rs.length:Int)∧decide ((↑i:Int)<(↑rs.length:Int))=true∧true=true∧(decide ((1:Int)≤k)=true→(0:Int)≤(↑i:Int)∧(List.map Run.dv rs)[(↑i:Int).toNat]? = some r.dv)∧(decide ((1:Int)≤k)&&decide (k≤r.len))=false∧false=false∧IntKind.i64.wrap ((↑i:Int)+(1:Int))=(↑(i+(1:Nat)):Int)) ?_ (by kernel_rfl) (by kernel_rfl) (by kernel_rfl)
 exact⟨by rw[List.length_map],decide_eq_true (by omega),rfl,fun _=>⟨by omega,Z8w hr⟩,by simp;omega,rfl,Z10 (by omega) (by omega)⟩
theorem Zdn(rs:List Run)(k:Int)(i:Nat)(r:Run)(hr:rs[i]? = some r)(hk1:1≤k)(hk:k≤r.len):CSpec Tryz.prog (rndF Tryz.f155 0) (Z2M rs k i).st .ret (Tg.st ⟨tm 31 [(4,int r.frm)],[],60⟩):=by
 have hi:i<rs.length:=(List.getElem?_eq_some_iff.1 hr).1
 refine Z1y [(11,[.int rs.length]),(12,[.br true]),(20,[.el r.dv]),(25,[.br true]),(28,[.el r.dv])] [] (φ:=(↑(List.map Run.dv rs).length:Int)=(↑rs.length:Int)∧decide ((↑i:Int)<(↑rs.length:Int))=true∧true=true∧(decide ((1:Int)≤k)=true→(0:Int)≤(↑i:Int)∧(List.map Run.dv rs)[(↑i:Int).toNat]? = some r.dv)∧(decide ((1:Int)≤k)&&decide (k≤r.len))=true∧true=true∧(0:Int)≤(↑i:Int)∧(List.map Run.dv rs)[(↑i:Int).toNat]? = some r.dv) ?_ (by kernel_rfl) (by kernel_rfl) (by kernel_rfl)
 exact⟨by rw[List.length_map],decide_eq_true (by omega),rfl,fun _=>⟨by omega,Z8w hr⟩,by simp;omega,rfl,⟨by omega,Z8w hr⟩⟩
theorem ZaZ(rs:List Run)(k:Int):CSpec Tryz.prog (rndF Tryz.f155 0) (Z2M rs k rs.length).st (.ext 0) (Tg.st ⟨tm 31 [],[],60⟩):=by
 refine Z1y [(11,[.int rs.length]),(12,[.br false])] [] (φ:=(↑(List.map Run.dv rs).length:Int)=(↑rs.length:Int)∧decide ((↑rs.length:Int)<(↑rs.length:Int))=false∧false=false) ?_ (by kernel_rfl) (by kernel_rfl) (by kernel_rfl)
 exact⟨by rw[List.length_map],decide_eq_false (by omega),rfl⟩
theorem Z54(l:List Page)(k:Int)(hl:l.length≤1048576):GSpec Tryz.prog 155 [Z0z l,int k] true (int (first l k)) []:=by
 have hrl:=ZdQ (l:=l)
 by_cases hk:k<1
 ·rw[first,if_pos hk]
  refine Z0j [(8,[.call false (Z5Q (runs l)) []])] [(0,Z2M (runs l) k 0,.nrm,⟨tm 31 [],[],60⟩)] [] (by decide) Tryz.func155 (φ:=GSpec Tryz.prog 165 [AV.d (DV.sl (4:Nat) (List.map Page.dv l))] false (Z5Q (runs l)) []∧CSpec Tryz.prog (blkF Tryz.f155 (0:Nat)) (Z2M (runs l) k (0:Nat)).st Ex.nrm (Tg.mk (tm (31:Nat) []) [] (60:Nat)).st) ?_ (by kernel_rfl) (by kernel_rfl)
  exact⟨Zdp l hl,Z0c (S:=fun i=>(Z2M (runs l) k i).st) (runs l).length (by kernel_rfl) (fun i hi=>Z5C _ k i _ (by omega) (List.getElem?_eq_getElem hi) (.inl hk)) (ZaZ _ _)⟩
 ·rw[first,if_neg hk]
  cases ha:(runs l).all fun r=>decide (r.len<k)with
  | true =>
   rw[Z4B ha]
   refine Z0j [(8,[.call false (Z5Q (runs l)) []])] [(0,Z2M (runs l) k 0,.nrm,⟨tm 31 [],[],60⟩)] [] (by decide) Tryz.func155 (φ:=GSpec Tryz.prog 165 [AV.d (DV.sl (4:Nat) (List.map Page.dv l))] false (Z5Q (runs l)) []∧CSpec Tryz.prog (blkF Tryz.f155 (0:Nat)) (Z2M (runs l) k (0:Nat)).st Ex.nrm (Tg.mk (tm (31:Nat) []) [] (60:Nat)).st) ?_ (by kernel_rfl) (by kernel_rfl)
   refine⟨Zdp l hl,Z0c (S:=fun i=>(Z2M (runs l) k i).st) (runs l).length (by kernel_rfl) (fun i hi=>?_) (ZaZ _ _)⟩
   have:=List.all_eq_true.1 ha _ (List.getElem_mem hi)
   exact Z5C _ k i _ (by omega) (List.getElem?_eq_getElem hi) (.inr (by simpa using this))
  | false =>
   obtain⟨j,r,h1,h2,h3⟩:=Z4M ha
   have hr:k≤r.len:=by simpa using h2
   rw[Z4k h1 hr h3]
   refine Z0j [(8,[.call false (Z5Q (runs l)) []])] [(0,Z2M (runs l) k 0,.ret,⟨tm 31 [(4,int r.frm)],[],60⟩)] [] (by decide) Tryz.func155 (φ:=GSpec Tryz.prog 165 [AV.d (DV.sl (4:Nat) (List.map Page.dv l))] false (Z5Q (runs l)) []∧CSpec Tryz.prog (blkF Tryz.f155 (0:Nat)) (Z2M (runs l) k (0:Nat)).st Ex.ret (Tg.mk (tm (31:Nat) [((4:Nat),int r.frm)]) [] (60:Nat)).st) ?_ (by kernel_rfl) (by kernel_rfl)
   refine⟨Zdp l hl,Z0Q (S:=fun i=>(Z2M (runs l) k i).st) j (by kernel_rfl) (fun i hi=>?_) (Zdn _ k j r h1 (by omega) hr)⟩
   obtain⟨y,h4,h5⟩:=h3 i hi
   exact Z5C _ k i y (by omega) h4 (.inr (by simpa using h5))
theorem Z7z(l:List Page):∀ i,∀ r∈Z05 l i,∀ j:Int,r.frm≤j→j<r.frm+r.len→(l.getD j.toNat default).kind=0
 | 0=>by simp[Z05]
 | i+1=>by
  have ih:=Z7z l i
  have ok:=(Z2n l i).2
  intro r hr j h1 h2
  simp only[Z05,Z35]at hr
  have hpa:Z1f l i=l.getD i default:=by rw[Z8o];simp
  split at hr
  ·rename_i hk
   rw[hpa]at hk
   split at hr
   ·rename_i hc
    have hmem:=List.mem_of_getElem? (Z1Z hc.1)
    rcases List.mem_append.1 hr with hr | hr
    ·exact ih r (List.dropLast_subset _ hr) j h1 h2
    ·simp at hr;subst hr
     simp only at h1 h2
     by_cases hj:j=i
     ·subst hj;simpa using hk
     ·exact ih _ hmem j h1 (by omega)
   ·rcases List.mem_append.1 hr with hr | hr
    ·exact ih r hr j h1 h2
    ·simp at hr;subst hr
     simp only at h1 h2
     have:j=i:=by omega
     subst this;simpa using hk
  ·exact ih r hr j h1 h2
theorem Z7q:∀ {l:List Run} {k:Int},0≤Z2v l k→∃ r∈l,Z2v l k=r.frm∧k≤r.len
 | [],_,h=>by simp[Z2v]at h
 | r::l,k,h=>by
  rw[Z2v]at h ⊢
  split
  ·exact⟨r,by simp,rfl,‹_›⟩
  ·rename_i hk
   rw[if_neg hk]at h
   obtain⟨x,hx,h1,h2⟩:=Z7q h
   exact⟨x,by simp[hx],h1,h2⟩
theorem Z1z{l:List Page}{k:Int}(h:0≤first l k):1≤k∧first l k+k≤l.length∧Z7R l (first l k).toNat k.toNat=true:=by
 unfold first at h ⊢
 split at h
 ·omega
 ·rename_i hk
  rw[if_neg hk]
  obtain⟨r,hr,h1,h2⟩:=Z7q h
  have ok:=(Z2n l l.length).2 r hr
  rw[h1]at h ⊢
  refine⟨by omega,by omega,freeK_iff.2 fun j hj=>?_⟩
  have:=Z7z l l.length r hr (r.frm+j) (by omega) (by omega)
  rwa [show(r.frm+(j:Int)).toNat=r.frm.toNat+j from by omega]at this
theorem Z5z(l:List Page)(k:Int):-1≤first l k∧first l k≤l.length:=by
 by_cases h:0≤first l k
 ·have:=Z1z h;omega
 ·unfold first at h ⊢
  split
  ·omega
  ·rename_i hk
   rw[if_neg hk]at h
   have:∀ m:List Run,(∀ r∈m,0≤r.frm)→-1≤Z2v m k:=by
    intro m
    induction m with
    | nil=>intro _;simp[Z2v]
    | cons r m ih =>
     intro hm
     rw[Z2v]
     split
     ·have:=hm r (by simp);omega
     ·exact ih fun x hx=>hm x (by simp[hx])
   have:=this (runs l) fun r hr=>((Z2n l l.length).2 r hr).1
   omega
theorem Zh2{c:Conf}{l:List Page}:∀ {f i:Nat} {due:Int},0≤due→rpB c l f i due=true→l.length≤i+f→∀ j,i≤j→j<l.length→∃ d,0≤d∧rchk c l j d:=by
 intro f
 induction f with
 | zero=>intro i due _ _ hl j h1 h2;omega
 | succ f ih =>
  intro i due hd hr hl j h1 h2
  rw[rpB,if_pos (by omega),Bool.and_eq_true]at hr
  have hc:=of_decide_eq_true hr.1
  by_cases hj:j=i
  ·subst hj;exact⟨due,hd,hc⟩
  ·refine ih ?_ hr.2 (by omega) j (by omega) h2
   unfold rdue
   split
   ·rename_i hk
    have:=hc.2.2.2.2.2.2.2.2.2.1 hk
    omega
   ·omega
theorem Z0I{h:Heap}(hp:Z03 h=true){j:Nat}(hj:j<h.pages.length):0≤(h.pages.getD j default).space∧(h.pages.getD j default).space≤1∧0≤(h.pages.getD j default).pins∧(h.pages.getD j default).pins≤2147483647 ∧
  0≤(h.pages.getD j default).kind∧(h.pages.getD j default).kind≤3∧0≤(h.pages.getD j default).used∧(h.pages.getD j default).used≤256∧((h.pages.getD j default).kind=1→(h.pages.getD j default).used≤h.conf.pw):=by
 have hi:=properB_iff.1 hp
 have hv:=validB_iff.1 hi.1
 obtain⟨d,_,hc⟩:=Zh2 (by omega) hi.2.2.2.2.2 (by omega) j (by omega) hj
 unfold rchk at hc
 have hu:(h.pages.getD j default).kind=2→1≤(h.pages.getD j default).used∧(h.pages.getD j default).used≤256:=by
  intro hk
  have hn:=(hc.2.2.2.2.2.2.2.2.2.1 hk).1
  unfold need at hn
  split at hn
  ·omega
  ·omega
 omega
theorem Z4l(l:List Page):Z1e l≤l.length:=Z5S l l.length
abbrev tP(l:List Page)(s:Int):List Page:=tookP l (first l 1).toNat 1 (Page.mk 1 s 0 0) (Page.mk 0 0 0 0)
def Z2R(c:Conf)(hd:Header):Bool:=Z0i hd&&decide (hd.kind≠0)&&decide (need c (sizeH hd)≠-1)
theorem Z4Z(c:Conf)(hd:Header)(hm:0≤hd.map∧hd.map≤4294967295):GSpec Tryz.prog 132 [c.av,hd.av] true (bool (Z2R c hd)) []:=by
 refine gspec_ofE [((6:Nat),[Hint.call true (Sx.bool (Z0i hd)) []]),((15:Nat),[Hint.call true (int (sizeH hd)) []]),((16:Nat),[Hint.call true (int (need c (sizeH hd))) []])] [] [] (by decide) Tryz.func132 [false,false,false,false,false,false,false,false,true] (φ:=GSpec Tryz.prog 52 [hd.av] true (Sx.bool (Z0i hd)) []∧((Z0i hd&&hd.kind != (0:Int))=true→GSpec Tryz.prog 20 [hd.av] true (int (sizeH hd)) [])∧((Z0i hd&&hd.kind != (0:Int))=true→GSpec Tryz.prog 85 [c.av,int (sizeH hd)] true (int (need c (sizeH hd))) [])∧(Z0i hd&&hd.kind != (0:Int)&&need c (sizeH hd) != (-1:Int))=Z2R c hd) ?_ (by kernel_rfl) (by kernel_rfl)
 exact⟨(@Z27 (hd) ‹_›),(fun hg=>by(try simp only[bs]at hg);exact @Z1l (hd) (by(try simp only[bs]at hg);assumption)),(fun hg=>by(try simp only[bs]at hg);exact @Z3T (c) (sizeH hd)),(by grind[Z2R])⟩
def Z21(l:List Page)(i:Nat)(n:Int):List Page:=l.set i ⟨(l.getD i default).kind,(l.getD i default).space,(l.getD i default).used+n,(l.getD i default).pins⟩
def Z5X(h:Heap)(n:Int):Prop:=0≤h.bump∧(h.pages.getD h.bump.toNat default).space=h.space∧(h.pages.getD h.bump.toNat default).used+n≤h.conf.pw∧(Z1e h.pages:Int)≤Z22 h.conf
instance (h:Heap) (n:Int):Decidable (Z5X h n):=by unfold Z5X;infer_instance
def Z2D(h:Heap):List Page:=(Zk4 h.pages (first h.pages 1) h.space).1
def Z0e(h:Heap)(n:Int):Heap×Int×Bool :=
 if Z5X h n then(⟨h.conf,h.words,Z21 h.pages h.bump.toNat n,h.space,h.bump⟩,4096+h.bump*h.conf.pw+(h.pages.getD h.bump.toNat default).used,true)
 else if 0≤first h.pages 1∧(Z1e h.pages:Int)<Z22 h.conf then
  (⟨h.conf,h.words,Z21 (Z2D h) (first h.pages 1).toNat n,h.space,first h.pages 1⟩,4096+first h.pages 1*h.conf.pw+((Z2D h).getD (first h.pages 1).toNat default).used,true)
 else(noHeap,0,false)
theorem Z5T{l:List Page}{i k:Nat}{p q:Page}(h:i+k≤l.length):(tookP l i k p q).length=l.length:=by
 rw[tookP,List.length_set]
 exact Z4D (by simpa using h) (by simp)
theorem Z2y{h:Heap}(hs:h.space=0∨h.space=1)(hf:0≤first h.pages 1):Z2D h=tookP h.pages (first h.pages 1).toNat 1 ⟨1,h.space,0,0⟩ ⟨0,0,0,0⟩∧(Z2D h).length=h.pages.length∧(first h.pages 1)<h.pages.length ∧
  ((Z2D h).getD (first h.pages 1).toNat default)=⟨1,h.space,0,0⟩:=by
 obtain⟨_,h1,h2⟩:=Z1z hf
 have e:Z2D h=tookP h.pages (first h.pages 1).toNat 1 ⟨1,h.space,0,0⟩ ⟨0,0,0,0⟩:=by
  rw[Z2D,Zk4,if_pos (by omega),Z2l,if_pos (by omega),if_pos h2]
  rfl
 have hl:(Z2D h).length=h.pages.length:=by rw[e];exact Z5T (by omega)
 refine⟨e,hl,by omega, ?_⟩
 rw[e,tookP,List.getD_eq_getElem?_getD,List.getElem?_set,if_pos rfl,if_pos (by rw[Z4D (by simp;omega) (by simp)];omega)]
 rfl
theorem Zdz{c:Conf}(hv:Z07 c=true):2≤Z22 c∧Z22 c≤16:=by
 have:=validB_iff.1 hv
 rw[Z22,if_pos hv,Z48 (by omega)]
 omega
theorem Z2C{c:Conf}{i:Int}(hv:Z07 c=true)(h0:0≤i)(h1:i<c.pg):0≤i*c.pw∧i*c.pw+c.pw≤4096:=by
 have hb:=validB_iff.1 hv
 have ha:=area hv
 have h2:0≤i*c.pw:=Int.mul_nonneg h0 (by omega)
 have h3:(i+1)*c.pw≤c.pg*c.pw:=Int.mul_le_mul_of_nonneg_right (by omega) (by omega)
 rw[Int.add_mul,Int.one_mul,Int.mul_comm c.pg]at h3
 omega
theorem Z6c(h:Heap)(n:Int)(hp:Z03 h=true)(hn:1≤n∧n≤256):GSpec Tryz.prog 133 [h.av,int n] false (.tu [(Z0e h n).1.av,u64 (Z0e h n).2.1,bool (Z0e h n).2.2]) []:=by
 have po:=Z09 hp
 obtain⟨o1,o2,o3,o4,o5,o6,o7,o8,o9⟩:=po
 have hb:=(properB_iff.1 hp).2.2.2.2.1
 have hpg:=fun hj=>Z0I hp (j:=h.bump.toNat) hj
 have hr:=Z5z h.pages 1
 have hfo:=fun hf=>Z2y (h:=h) o9 hf
 have hiu:=Z4l h.pages
 have hli:=Zdz o1
 have hm1:0≤h.bump→0≤h.bump*h.conf.pw∧h.bump*h.conf.pw+h.conf.pw≤4096:=fun h0=>Z2C o1 h0 (by omega)
 have hm2:0≤first h.pages 1→0≤first h.pages 1*h.conf.pw∧first h.pages 1*h.conf.pw+h.conf.pw≤4096:=fun h0=>Z2C o1 h0 (by have:=hfo h0;omega)
 by_cases hf:Z5X h n
 ·have e7:Z0e h n=(⟨h.conf,h.words,Z21 h.pages h.bump.toNat n,h.space,h.bump⟩,4096+h.bump*h.conf.pw+(h.pages.getD h.bump.toNat default).used,true):=by rw[Z0e,if_pos hf]
  unfold Z5X at hf
  rw[e7]
  exact gF [] Tryz.func133 [false,false,false,false,false,false,false,false,false,false,false,false,false,false,false,false,false,false,false,false,false,false,false,false,false] (Fs 11 (List.map Page.dv []) (Fa (by(simp[*];omega):(List.map Page.dv []).length+(List.map Page.dv h.pages).length≤2^30) (Fs 14 (List.map Page.dv h.pages) (Fc 18 (@Z6k h.conf) (Fc 21 (@Z60 h.pages (by omega)) (FmG 32 (!decide (h.bump<0)) Page.dv h.pages h.bump h.bump.toNat (FmG 43 (!(decide (h.bump<0)||(h.pages.getD h.bump.toNat default).space != h.space)) Page.dv h.pages h.bump h.bump.toNat (FiG 45 (!(decide (h.bump<0)||(h.pages.getD h.bump.toNat default).space != h.space)) ((h.pages.getD h.bump.toNat default).used+n) (Ffb 55 (decide (h.bump<0)||(h.pages.getD h.bump.toNat default).space != h.space||decide (h.conf.pw<(h.pages.getD h.bump.toNat default).used+n)||decide (Z22 h.conf<(↑(Z1e h.pages):Int))) (Fi 83 (h.bump*h.conf.pw) (Fi 84 (4096+h.bump*h.conf.pw) (Fm 90 Page.dv h.pages h.bump h.bump.toNat (Fi 91 (4096+h.bump*h.conf.pw+(h.pages.getD h.bump.toNat default).used) (Fv 92 (4096+h.bump*h.conf.pw+(h.pages.getD h.bump.toNat default).used) (Fm 101 Page.dv h.pages h.bump h.bump.toNat (Fi 103 ((h.pages.getD h.bump.toNat default).used+n) (Fm0 Page.dv h.pages h.bump h.bump.toNat (FS 10105 Page.dv h.pages h.bump.toNat (Page.mk (h.pages.getD h.bump.toNat default).kind (h.pages.getD h.bump.toNat default).space ((h.pages.getD h.bump.toNat default).used+n) (h.pages.getD h.bump.toNat default).pins) ((h.pages.getD h.bump.toNat default).dv) Fz))))))))))))))))))
 ·by_cases hg:0≤first h.pages 1∧(Z1e h.pages:Int)<Z22 h.conf
  ·have e7:Z0e h n=(⟨h.conf,h.words,Z21 (Z2D h) (first h.pages 1).toNat n,h.space,first h.pages 1⟩,4096+first h.pages 1*h.conf.pw+((Z2D h).getD (first h.pages 1).toNat default).used,true):=by rw[Z0e,if_neg hf,if_pos hg]
   obtain⟨q1,q2,q3,q4⟩:=hfo hg.1
   obtain⟨r1,r2,r3⟩:=Z1z hg.1
   have r4:Z7R h.pages (first h.pages 1).toNat 1=true:=r3
   rw[q1]at e7 q2 q4
   have q6:=congrArg Page.used q4
   simp only at q6
   unfold Z5X at hf
   rw[e7]
   exact gF [] Tryz.func133 [false,false,false,false,false,false,false,false,false,false,false,false,false,false,false,false,false,false,false,false,false,false,false,false,false,false,false,false] (Fh 90 [.el ((tookP h.pages (first h.pages 1).toNat 1 (Page.mk 1 h.space 0 0) (Page.mk 0 0 0 0)).getD (first h.pages 1).toNat default).dv] (Fh 101 [.el ((tookP h.pages (first h.pages 1).toNat 1 (Page.mk 1 h.space 0 0) (Page.mk 0 0 0 0)).getD (first h.pages 1).toNat default).dv] (Fs 11 (List.map Page.dv []) (Fa (by(simp[*];omega):(List.map Page.dv []).length+(List.map Page.dv h.pages).length≤2^30) (Fs 14 (List.map Page.dv h.pages) (Fc 18 (@Z6k h.conf) (Fc 21 (@Z60 h.pages (by omega)) (FmG 32 (!decide (h.bump<0)) Page.dv h.pages h.bump h.bump.toNat (FmG 43 (!(decide (h.bump<0)||(h.pages.getD h.bump.toNat default).space != h.space)) Page.dv h.pages h.bump h.bump.toNat (FiG 45 (!(decide (h.bump<0)||(h.pages.getD h.bump.toNat default).space != h.space)) ((h.pages.getD h.bump.toNat default).used+n) (Ftb 55 (decide (h.bump<0)||(h.pages.getD h.bump.toNat default).space != h.space||decide (h.conf.pw<(h.pages.getD h.bump.toNat default).used+n)||decide (Z22 h.conf<(↑(Z1e h.pages):Int))) (Fc 58 (@Z54 h.pages (1) (by omega)) (Ffb 65 (decide (first h.pages (1:Int)<0)||decide (Z22 h.conf≤(↑(Z1e h.pages):Int))) (Fc 73 (@Z93 h.pages (first h.pages 1) h.space (by omega) (by omega) (by omega) ‹_›) (Fi 83 (first h.pages 1*h.conf.pw) (Fi 84 (4096+first h.pages 1*h.conf.pw) (Fa (by(simp[*];omega):0≤first h.pages 1∧(first h.pages 1).toNat<(List.map Page.dv (tookP h.pages (first h.pages 1).toNat 1 (Page.mk 1 h.space 0 0) (Page.mk 0 0 0 0))).length) (Fa (by grind[]:(List.map Page.dv (tookP h.pages (first h.pages 1).toNat 1 (Page.mk 1 h.space 0 0) (Page.mk 0 0 0 0)))[(first h.pages 1).toNat]? = some ((tookP h.pages (first h.pages 1).toNat 1 (Page.mk 1 h.space 0 0) (Page.mk 0 0 0 0)).getD (first h.pages 1).toNat default).dv) (Fi 91 (4096+first h.pages 1*h.conf.pw+((tookP h.pages (first h.pages 1).toNat 1 (Page.mk 1 h.space 0 0) (Page.mk 0 0 0 0)).getD (first h.pages 1).toNat default).used) (Fv 92 (4096+first h.pages 1*h.conf.pw+((tookP h.pages (first h.pages 1).toNat 1 (Page.mk 1 h.space 0 0) (Page.mk 0 0 0 0)).getD (first h.pages 1).toNat default).used) (Fa (by(simp[*];omega):0≤first h.pages 1∧(first h.pages 1).toNat<(List.map Page.dv (tookP h.pages (first h.pages 1).toNat 1 (Page.mk 1 h.space 0 0) (Page.mk 0 0 0 0))).length) (Fa (by grind[]:(List.map Page.dv (tookP h.pages (first h.pages 1).toNat 1 (Page.mk 1 h.space 0 0) (Page.mk 0 0 0 0)))[(first h.pages 1).toNat]? = some ((tookP h.pages (first h.pages 1).toNat 1 (Page.mk 1 h.space 0 0) (Page.mk 0 0 0 0)).getD (first h.pages 1).toNat default).dv) (Fi 103 (((tookP h.pages (first h.pages 1).toNat 1 (Page.mk 1 h.space 0 0) (Page.mk 0 0 0 0)).getD (first h.pages 1).toNat default).used+n) (Fa (by(simp[*];omega):0≤first h.pages 1∧(first h.pages 1).toNat<(List.map Page.dv (tookP h.pages (first h.pages 1).toNat 1 (Page.mk 1 h.space 0 0) (Page.mk 0 0 0 0))).length) (Fa (by grind[]:(List.map Page.dv (tookP h.pages (first h.pages 1).toNat 1 (Page.mk 1 h.space 0 0) (Page.mk 0 0 0 0)))[(first h.pages 1).toNat]? = some ((tookP h.pages (first h.pages 1).toNat 1 (Page.mk 1 h.space 0 0) (Page.mk 0 0 0 0)).getD (first h.pages 1).toNat default).dv) (FS 10105 Page.dv (tookP h.pages (first h.pages 1).toNat 1 (Page.mk 1 h.space 0 0) (Page.mk 0 0 0 0)) ((first h.pages 1).toNat) (Page.mk ((tookP h.pages (first h.pages 1).toNat 1 (Page.mk 1 h.space 0 0) (Page.mk 0 0 0 0)).getD (first h.pages 1).toNat default).kind ((tookP h.pages (first h.pages 1).toNat 1 (Page.mk 1 h.space 0 0) (Page.mk 0 0 0 0)).getD (first h.pages 1).toNat default).space (((tookP h.pages (first h.pages 1).toNat 1 (Page.mk 1 h.space 0 0) (Page.mk 0 0 0 0)).getD (first h.pages 1).toNat default).used+n) ((tookP h.pages (first h.pages 1).toNat 1 (Page.mk 1 h.space 0 0) (Page.mk 0 0 0 0)).getD (first h.pages 1).toNat default).pins) (((tookP h.pages (first h.pages 1).toNat 1 (Page.mk 1 h.space 0 0) (Page.mk 0 0 0 0)).getD (first h.pages 1).toNat default).dv) Fz))))))))))))))))))))))))))
  ·have e7:Z0e h n=(noHeap,0,false):=by rw[Z0e,if_neg hf,if_neg hg]
   unfold Z5X at hf
   rw[e7]
   exact gF [] Tryz.func133 [false,false,false,false,false,false,false,false,false,false,false,false,false,false,false,false,false,false,false,false,false,false,false,false,false,false,false,false] (Fs 11 (List.map Page.dv []) (Fa (by(simp[noHeap, *];omega):(List.map Page.dv []).length+(List.map Page.dv h.pages).length≤2^30) (Fs 14 (List.map Page.dv h.pages) (Fc 18 (@Z6k h.conf) (Fc 21 (@Z60 h.pages (by omega)) (FmG 32 (!decide (h.bump<0)) Page.dv h.pages h.bump h.bump.toNat (FmG 43 (!(decide (h.bump<0)||(h.pages.getD h.bump.toNat default).space != h.space)) Page.dv h.pages h.bump h.bump.toNat (FiG 45 (!(decide (h.bump<0)||(h.pages.getD h.bump.toNat default).space != h.space)) ((h.pages.getD h.bump.toNat default).used+n) (Ftb 55 (decide (h.bump<0)||(h.pages.getD h.bump.toNat default).space != h.space||decide (h.conf.pw<(h.pages.getD h.bump.toNat default).used+n)||decide (Z22 h.conf<(↑(Z1e h.pages):Int))) (Fc 58 (@Z54 h.pages (1) (by omega)) (Ftb 65 (decide (first h.pages (1:Int)<0)||decide (Z22 h.conf≤(↑(Z1e h.pages):Int))) (Fnl (Fnl Fz)))))))))))))
def Z0n(h:Heap)(n k:Int):Heap×Int×Bool :=
 if 0≤first h.pages k∧Z1e h.pages+k≤Z22 h.conf then(⟨h.conf,h.words,(Z28 h.conf h.pages (first h.pages k) h.space n).1,h.space,h.bump⟩,4096+first h.pages k*h.conf.pw,true)else(noHeap,0,false)
theorem ZbC(h:Heap)(n k:Int)(hp:Z03 h=true)(hk:k=need h.conf n)(hk1:1≤k):GSpec Tryz.prog 134 [h.av,int n,int k] false (.tu [(Z0n h n k).1.av,u64 (Z0n h n k).2.1,bool (Z0n h n k).2.2]) []:=by
 have po:=Z09 hp
 obtain⟨o1,o2,o3,o4,o5,o6,o7,o8,o9⟩:=po
 have hr:=Z5z h.pages k
 have hff:0≤first h.pages k→first h.pages k+k≤h.pages.length:=fun hf=>(Z1z hf).2.1
 have hiu:=Z4l h.pages
 have hli:=Zdz o1
 have hnr:=Z38 h.conf n
 have hm2:0≤first h.pages k→0≤first h.pages k*h.conf.pw∧first h.pages k*h.conf.pw+h.conf.pw≤4096:=fun h0=>Z2C o1 h0 (by have:=hff h0;omega)
 by_cases hg:0≤first h.pages k∧Z1e h.pages+k≤Z22 h.conf
 ·have e7:Z0n h n k=(⟨h.conf,h.words,(Z28 h.conf h.pages (first h.pages k) h.space n).1,h.space,h.bump⟩,4096+first h.pages k*h.conf.pw,true):=by rw[Z0n,if_pos hg]
  rw[e7]
  exact gF [] Tryz.func134 [false,false,false,false,false,false,false,false,false,false] (Fc 13 (@Z54 h.pages k (by omega)) (FcG 19 (!decide (first h.pages k<0)) (fun hg=>by(try simp only[bs]at hg);exact @Z60 h.pages (by(try simp only[bs]at hg);omega)) (FiG 21 (!decide (first h.pages k<0)) ((↑(Z1e h.pages):Int)+k) (FcG 24 (!decide (first h.pages k<0)) (fun hg=>by(try simp only[bs]at hg);exact @Z6k h.conf) (Ffb 26 (decide (first h.pages k<0)||decide (Z22 h.conf<(↑(Z1e h.pages):Int)+k)) (Fc 37 (@Zhe h.conf h.pages (first h.pages k) h.space n (by omega)) (Fi 46 (first h.pages k*h.conf.pw) (Fi 47 (4096+first h.pages k*h.conf.pw) (Fv 48 (4096+first h.pages k*h.conf.pw) Fz)))))))))
 ·have e7:Z0n h n k=(noHeap,0,false):=by rw[Z0n,if_neg hg]
  rw[e7]
  exact gF [] Tryz.func134 [false,false,false,false,false,false,false,false,false,false] (Fc 13 (@Z54 h.pages k (by omega)) (FcG 19 (!decide (first h.pages k<0)) (fun hg=>by(try simp only[bs]at hg);exact @Z60 h.pages (by(try simp only[bs]at hg);omega)) (FiG 21 (!decide (first h.pages k<0)) ((↑(Z1e h.pages):Int)+k) (FcG 24 (!decide (first h.pages k<0)) (fun hg=>by(try simp only[bs]at hg);exact @Z6k h.conf) (Ftb 26 (decide (first h.pages k<0)||decide (Z22 h.conf<(↑(Z1e h.pages):Int)+k)) (Fnl (Fnl Fz)))))))
theorem ZbQ{h:Heap}{n:Int}(hp:Z03 h=true)(hn:1≤n∧n≤256):0≤(Z0e h n).2.1∧(Z0e h n).2.1≤8192∧((Z0e h n).2.2=true→(Z0e h n).1.words=h.words∧4096≤(Z0e h n).2.1)∧((Z0e h n).2.2=false→(Z0e h n).1=noHeap):=by
 obtain⟨o1,o2,o3,o4,o5,o6,o7,o8,o9⟩:=Z09 hp
 have hb:=(properB_iff.1 hp).2.2.2.2.1
 have hpg:=fun hj=>Z0I hp (j:=h.bump.toNat) hj
 have hfo:=fun hf=>Z2y (h:=h) o9 hf
 have hm1:0≤h.bump→0≤h.bump*h.conf.pw∧h.bump*h.conf.pw+h.conf.pw≤4096:=fun h0=>Z2C o1 h0 (by omega)
 have hm2:0≤first h.pages 1→0≤first h.pages 1*h.conf.pw∧first h.pages 1*h.conf.pw+h.conf.pw≤4096:=fun h0=>Z2C o1 h0 (by have:=hfo h0;omega)
 unfold Z0e
 split
 ·rename_i hf
  unfold Z5X at hf
  have h1:=hm1 hf.1
  have h2:=hpg (by omega)
  refine⟨by simp only;omega,by simp only;omega,fun _=>⟨rfl,by simp only;omega⟩,fun e=>by cases e⟩
 ·split
  ·rename_i hg
   have h1:=hm2 hg.1
   have h2:=congrArg Page.used (hfo hg.1).2.2.2
   simp only at h2
   refine⟨by simp only;omega,by simp only;omega,fun _=>⟨rfl,by simp only;omega⟩,fun e=>by cases e⟩
  ·exact⟨by simp,by simp,(fun e=>nomatch e),fun _=>rfl⟩
theorem Zce{h:Heap}{n k:Int}(hp:Z03 h=true):0≤(Z0n h n k).2.1∧(Z0n h n k).2.1≤8192∧((Z0n h n k).2.2=true→(Z0n h n k).1.words=h.words∧4096≤(Z0n h n k).2.1)∧((Z0n h n k).2.2=false→(Z0n h n k).1=noHeap):=by
 obtain⟨o1,o2,o3,o4,o5,o6,o7,o8,o9⟩:=Z09 hp
 unfold Z0n
 split
 ·rename_i hg
  have h3:=(Z1z hg.1)
  have h1:=Z2C (c:=h.conf) (i:=first h.pages k) o1 hg.1 (by omega)
  exact⟨by simp only;omega,by simp only;omega,fun _=>⟨rfl,by simp only;omega⟩,fun e=>by cases e⟩
 ·exact⟨by simp,by simp,(fun e=>nomatch e),fun _=>rfl⟩
def put7(h:Heap)(hd:Header):Heap×Int×Bool:=if 0<need h.conf (sizeH hd)then Z0n h (sizeH hd) (need h.conf (sizeH hd))else Z0e h (sizeH hd)
def new7(h:Heap)(hd:Header):Heap×Int×Int :=
 if Z03 h=true∧Z2R h.conf hd=true then(if(put7 h hd).2.2=true then((Z0y (put7 h hd).1 (put7 h hd).2.1 hd).1,(put7 h hd).2.1,0)else(noHeap,0,3))else(noHeap,0,1)
theorem Z6C:WOk []:=fun w h=>by simp at h
theorem Z4Y{c:Conf}{hd:Header}(h:Z2R c hd=true):Z0i hd=true∧1≤sizeH hd∧sizeH hd≤256∧0≤need c (sizeH hd)∧hd.kind≠0:=by
 simp only[Z2R,Bool.and_eq_true,decide_eq_true_eq]at h
 have hv:=validH_iff.1 h.1.1
 have hn:=Z38 c (sizeH hd)
 have hs:sizeH hd=hd.length+1:=by rw[sizeH,if_pos h.1.1]
 exact⟨h.1.1,by omega,by omega,by omega,h.1.2⟩
theorem ZfN(h:Heap)(hd:Header)(hw:WOk h.words)(hm:0≤hd.map∧hd.map≤4294967295):GSpec Tryz.prog 102 [h.av,hd.av] false (.tu [(new7 h hd).1.av,u64 (new7 h hd).2.1,int (new7 h hd).2.2]) []:=by
 by_cases hp:Z03 h=true
 ·cases ha:Z2R h.conf hd with
  | false =>
   have e7:new7 h hd=(noHeap,0,1):=by rw[new7,if_neg (by rw[ha];simp)]
   rw[e7]
   exact gF [] Tryz.func102 [false,false,false,false,false,false] (Fc 13 (@Z0l h) (FcG 19 (!!Z03 h) (fun hg=>by(try simp only[bs]at hg);exact @Z4Z h.conf hd (by(try simp only[bs]at hg);assumption)) (Ft 21 (by simp[noHeap, *]:(!Z03 h||!Z2R h.conf hd)=true) (Fnl (Fnl Fz)))))
  | true =>
   obtain⟨a1,a2,a3,a4,a5⟩:=Z4Y ha
   have f1:=ZbQ hp ⟨a2,a3⟩
   have f2:=Zce (n:=sizeH hd) (k:=need h.conf (sizeH hd)) hp
   have w1:WOk (Z0e h (sizeH hd)).1.words:=by
    cases e:(Z0e h (sizeH hd)).2.2 with
    | true=>rw[(f1.2.2.1 e).1];exact hw
    | false=>rw[f1.2.2.2 e];exact Z6C
   have w2:WOk (Z0n h (sizeH hd) (need h.conf (sizeH hd))).1.words:=by
    cases e:(Z0n h (sizeH hd) (need h.conf (sizeH hd))).2.2 with
    | true=>rw[(f2.2.2.1 e).1];exact hw
    | false=>rw[f2.2.2.2 e];exact Z6C
   by_cases hn:0<need h.conf (sizeH hd)
   ·have e7:put7 h hd=Z0n h (sizeH hd) (need h.conf (sizeH hd)):=by rw[put7,if_pos hn]
    have Q0 {h_ c_ p_} (r_:Fq h_ c_ p_):=Fc 13 (@Z0l h) (FcG 19 (!!Z03 h) (fun hg=>by(try simp only[bs]at hg);exact @Z4Z h.conf hd (by(try simp only[bs]at hg);assumption)) (Ff 21 (by simp[new7,e7,noHeap, *]:(!Z03 h||!Z2R h.conf hd)=false) (Fc 24 (@Z1l hd ‹_›) (Fc 28 (@Z3T h.conf (sizeH hd)) (Fc 32 (@Z6c h (sizeH hd) ‹_› (by omega)) (Ftb 37 (decide (0<need h.conf (sizeH hd))) (Fc 42 (@ZbC h (sizeH hd) (need h.conf (sizeH hd)) ‹_› (by rfl) ‹_›) r_)))))))
    rcases bb (!(Z0n h (sizeH hd) (need h.conf (sizeH hd))).snd.snd)with hc0 | hc0<;>have hc0p:=hc0<;>simp only[bs]at hc0p
    ·exact gF [] Tryz.func102 [false,false,false,false,false,true] (Q0 (Ft 47 hc0 (Fnl (Fnl (Fa (by simp[new7,e7,noHeap, *]:0=(new7 h hd).fst.conf.pw) (Fa (by simp[new7,e7,noHeap, *]:0=(new7 h hd).fst.conf.pg) (Fa (by simp[new7,e7,noHeap, *]:[]=List.map wdv (new7 h hd).fst.words) (Fa (by simp[new7,e7,noHeap, *]:[]=List.map Page.dv (new7 h hd).fst.pages) (Fa (by simp[new7,e7,noHeap, *]:0=(new7 h hd).fst.space) (Fa (by simp[new7,e7,noHeap, *]:0=(new7 h hd).fst.bump) (Fa (by simp[new7,e7,noHeap, *]:0=(new7 h hd).snd.fst) (Fa (by simp[new7,e7,noHeap, *]:3=(new7 h hd).snd.snd) Fz))))))))))))
    ·exact gF [] Tryz.func102 [false,false,false,false,false,true] (Q0 (Ff 47 hc0 (Fc 53 (@ZdE ((Z0n h (sizeH hd) (need h.conf (sizeH hd))).fst) ((Z0n h (sizeH hd) (need h.conf (sizeH hd))).snd.fst) hd ‹_› (by omega) ‹_›) (Fa (by simp[new7,e7,noHeap, *]:(Z0y (Z0n h (sizeH hd) (need h.conf (sizeH hd))).fst (Z0n h (sizeH hd) (need h.conf (sizeH hd))).snd.fst hd).fst.conf.pw=(new7 h hd).fst.conf.pw) (Fa (by simp[new7,e7,noHeap, *]:(Z0y (Z0n h (sizeH hd) (need h.conf (sizeH hd))).fst (Z0n h (sizeH hd) (need h.conf (sizeH hd))).snd.fst hd).fst.conf.pg=(new7 h hd).fst.conf.pg) (Fa (by refine congrArg _ ?_;simp[new7,e7,noHeap, *]:List.map wdv (Z0y (Z0n h (sizeH hd) (need h.conf (sizeH hd))).fst (Z0n h (sizeH hd) (need h.conf (sizeH hd))).snd.fst hd).fst.words=List.map wdv (new7 h hd).fst.words) (Fa (by refine congrArg _ ?_;simp[new7,e7,noHeap, *]:List.map Page.dv (Z0y (Z0n h (sizeH hd) (need h.conf (sizeH hd))).fst (Z0n h (sizeH hd) (need h.conf (sizeH hd))).snd.fst hd).fst.pages=List.map Page.dv (new7 h hd).fst.pages) (Fa (by simp[new7,e7,noHeap, *]:(Z0y (Z0n h (sizeH hd) (need h.conf (sizeH hd))).fst (Z0n h (sizeH hd) (need h.conf (sizeH hd))).snd.fst hd).fst.space=(new7 h hd).fst.space) (Fa (by simp[new7,e7,noHeap, *]:(Z0y (Z0n h (sizeH hd) (need h.conf (sizeH hd))).fst (Z0n h (sizeH hd) (need h.conf (sizeH hd))).snd.fst hd).fst.bump=(new7 h hd).fst.bump) (Fa (by simp[new7,e7,noHeap, *]:(Z0n h (sizeH hd) (need h.conf (sizeH hd))).snd.fst=(new7 h hd).snd.fst) (Fa (by simp[new7,e7,noHeap, *]:0=(new7 h hd).snd.snd) Fz)))))))))))
   ·have e7:put7 h hd=Z0e h (sizeH hd):=by rw[put7,if_neg hn]
    have Q1 {h_ c_ p_} (r_:Fq h_ c_ p_):=Fc 13 (@Z0l h) (FcG 19 (!!Z03 h) (fun hg=>by(try simp only[bs]at hg);exact @Z4Z h.conf hd (by(try simp only[bs]at hg);assumption)) (Ff 21 (by simp[new7,e7,noHeap, *]:(!Z03 h||!Z2R h.conf hd)=false) (Fc 24 (@Z1l hd ‹_›) (Fc 28 (@Z3T h.conf (sizeH hd)) (Fc 32 (@Z6c h (sizeH hd) ‹_› (by omega)) (Ffb 37 (decide (0<need h.conf (sizeH hd))) r_))))))
    rcases bb (!(Z0e h (sizeH hd)).snd.snd)with hc0 | hc0<;>have hc0p:=hc0<;>simp only[bs]at hc0p
    ·exact gF [] Tryz.func102 [false,false,false,false,false,true] (Q1 (Ft 47 hc0 (Fnl (Fnl (Fa (by simp[new7,e7,noHeap, *]:0=(new7 h hd).fst.conf.pw) (Fa (by simp[new7,e7,noHeap, *]:0=(new7 h hd).fst.conf.pg) (Fa (by simp[new7,e7,noHeap, *]:[]=List.map wdv (new7 h hd).fst.words) (Fa (by simp[new7,e7,noHeap, *]:[]=List.map Page.dv (new7 h hd).fst.pages) (Fa (by simp[new7,e7,noHeap, *]:0=(new7 h hd).fst.space) (Fa (by simp[new7,e7,noHeap, *]:0=(new7 h hd).fst.bump) (Fa (by simp[new7,e7,noHeap, *]:0=(new7 h hd).snd.fst) (Fa (by simp[new7,e7,noHeap, *]:3=(new7 h hd).snd.snd) Fz))))))))))))
    ·exact gF [] Tryz.func102 [false,false,false,false,false,true] (Q1 (Ff 47 hc0 (Fc 53 (@ZdE ((Z0e h (sizeH hd)).fst) ((Z0e h (sizeH hd)).snd.fst) hd ‹_› (by omega) ‹_›) (Fa (by simp[new7,e7,noHeap, *]:(Z0y (Z0e h (sizeH hd)).fst (Z0e h (sizeH hd)).snd.fst hd).fst.conf.pw=(new7 h hd).fst.conf.pw) (Fa (by simp[new7,e7,noHeap, *]:(Z0y (Z0e h (sizeH hd)).fst (Z0e h (sizeH hd)).snd.fst hd).fst.conf.pg=(new7 h hd).fst.conf.pg) (Fa (by refine congrArg _ ?_;simp[new7,e7,noHeap, *]:List.map wdv (Z0y (Z0e h (sizeH hd)).fst (Z0e h (sizeH hd)).snd.fst hd).fst.words=List.map wdv (new7 h hd).fst.words) (Fa (by refine congrArg _ ?_;simp[new7,e7,noHeap, *]:List.map Page.dv (Z0y (Z0e h (sizeH hd)).fst (Z0e h (sizeH hd)).snd.fst hd).fst.pages=List.map Page.dv (new7 h hd).fst.pages) (Fa (by simp[new7,e7,noHeap, *]:(Z0y (Z0e h (sizeH hd)).fst (Z0e h (sizeH hd)).snd.fst hd).fst.space=(new7 h hd).fst.space) (Fa (by simp[new7,e7,noHeap, *]:(Z0y (Z0e h (sizeH hd)).fst (Z0e h (sizeH hd)).snd.fst hd).fst.bump=(new7 h hd).fst.bump) (Fa (by simp[new7,e7,noHeap, *]:(Z0e h (sizeH hd)).snd.fst=(new7 h hd).snd.fst) (Fa (by simp[new7,e7,noHeap, *]:0=(new7 h hd).snd.snd) Fz)))))))))))
 ·have hf:Z03 h=false:=by simpa using hp
  have e7:new7 h hd=(noHeap,0,1):=by rw[new7,if_neg (by rw[hf];simp)]
  rw[e7]
  exact gF [] Tryz.func102 [false,false,false,false,false,false] (Fc 13 (@Z0l h) (FcG 19 (!!Z03 h) (fun hg=>by(try simp only[bs]at hg);exact @Z4Z h.conf hd (by(try simp only[bs]at hg);assumption)) (Ft 21 (by simp[noHeap, *]:(!Z03 h||!Z2R h.conf hd)=true) (Fnl (Fnl Fz)))))
theorem Z2H(h:Header)(hm:0≤h.map∧h.map≤4294967295):GSpec Tryz.prog 71 [h.av] true (bool (Z0i h)) []:=by
 have hs:=fun q=>Zmh (n:=h.length) q
 have ho:0≤h.length→h.length≤32→ones h.length=2^h.length.toNat-1:=fun h0 h1=>by rw[ones,Nat.min_eq_left (by omega)]
 rcases Bool.eq_false_or_eq_true (decide (h.kind<(0:Int))||decide ((3:Int)<h.kind)||decide (h.length<(0:Int))||decide ((255:Int)<h.length))with hc0 | hc0
 ·have hc0p:=hc0
  simp only[bs]at hc0p
  refine gspec_ofE [((20:Nat),[Hint.br true])] [] [] (by decide) Tryz.func71 [false,false,false,false,false,false,false,false,false,true] (φ:=(decide (h.kind<(0:Int))||decide ((3:Int)<h.kind)||decide (h.length<(0:Int))||decide ((255:Int)<h.length))=true∧true=true∧false=Z0i h) ?_ (by kernel_rfl) (by kernel_rfl)
  exact⟨‹_›,rfl,(by(simp[Z0i, *];omega))⟩
 ·have hc0p:=hc0
  simp only[bs]at hc0p
  obtain⟨⟨⟨hc0paaa,hc0paab⟩,hc0pab⟩,hc0pb⟩:=hc0p
  rcases Bool.eq_false_or_eq_true (h.kind==(1:Int))with hc1 | hc1
  ·have hc1p:=hc1
   simp only[bs]at hc1p
   refine gspec_ofE [((20:Nat),[Hint.br false]),((23:Nat),[Hint.br true]),((30:Nat),[Hint.int h.map]),((33:Nat),[Hint.call true (u64 (ones h.length)) []])] [] [] (by decide) Tryz.func71 [false,false,false,false,false,false,false,false,false,false,false,false,false,false,false,false,true] (φ:=(decide (h.kind<(0:Int))||decide ((3:Int)<h.kind)||decide (h.length<(0:Int))||decide ((255:Int)<h.length))=false∧false=false∧(h.kind==(1:Int))=true∧true=true∧(decide (h.length≤(32:Int))=true→IntKind.u64.wrap h.map=h.map)∧(decide (h.length≤(32:Int))=true→GSpec Tryz.prog 111 [int h.length] true (u64 (ones h.length)) [])∧(decide (h.length≤(32:Int))&&decide (h.map≤ones h.length))=Z0i h) ?_ (by kernel_rfl) (by kernel_rfl)
   exact⟨‹_›,rfl,‹_›,rfl,(by intro hg;(try simp only[bs]at hg);exact wrapU2 rfl (by omega) (by omega)),(fun hg=>by(try simp only[bs]at hg);exact @Z5e (h.length)),(by grind[Z0i])⟩
  ·have hc1p:=hc1
   simp only[bs]at hc1p
   refine gspec_ofE [((20:Nat),[Hint.br false]),((23:Nat),[Hint.br false])] [] [] (by decide) Tryz.func71 [false,false,false,false,false,false,false,false,false,true] (φ:=(decide (h.kind<(0:Int))||decide ((3:Int)<h.kind)||decide (h.length<(0:Int))||decide ((255:Int)<h.length))=false∧false=false∧(h.kind==(1:Int))=false∧false=false∧(h.kind==h.kind&&(h.length==h.length&&h.map==(0:Int)))=Z0i h) ?_ (by kernel_rfl) (by kernel_rfl)
   exact⟨‹_›,rfl,‹_›,rfl,(by grind[Z0i])⟩
theorem Z0Z(h:Header)(hm:0≤h.map∧h.map≤4294967295):GSpec Tryz.prog 37 [h.av] true (int (sizeH h)) []:=by
 rcases Bool.eq_false_or_eq_true (!Z0i h)with hc0 | hc0
 ·have hc0p:=hc0
  simp only[bs]at hc0p
  refine gspec_ofE [((4:Nat),[Hint.call true (Sx.bool (Z0i h)) []]),((5:Nat),[Hint.br true])] [] [] (by decide) Tryz.func37 [true] (φ:=GSpec Tryz.prog 71 [h.av] true (Sx.bool (Z0i h)) []∧(!Z0i h)=true∧true=true∧(0:Int)=sizeH h) ?_ (by kernel_rfl) (by kernel_rfl)
  exact⟨(@Z2H (h) ‹_›),‹_›,rfl,(by simp[sizeH, *])⟩
 ·have hc0p:=hc0
  simp only[bs]at hc0p
  have hf3:=validH_iff.1 hc0p
  obtain⟨hf3a,⟨hf3ba,⟨hf3bba,⟨hf3bbba,hf3bbbb⟩⟩⟩⟩:=hf3
  refine gspec_ofE [((4:Nat),[Hint.call true (Sx.bool (Z0i h)) []]),((5:Nat),[Hint.br false]),((8:Nat),[Hint.int (h.length+(1:Int))])] [] [] (by decide) Tryz.func37 [true] (φ:=GSpec Tryz.prog 71 [h.av] true (Sx.bool (Z0i h)) []∧(!Z0i h)=false∧false=false∧IntKind.i64.wrap (h.length+(1:Int))=h.length+(1:Int)∧h.length+(1:Int)=sizeH h) ?_ (by kernel_rfl) (by kernel_rfl)
  exact⟨(@Z2H (h) ‹_›),‹_›,rfl,(by exact wrapI2 rfl (by omega) (by omega)),(by simp[sizeH, *])⟩
theorem Z53(ws:List Int)(a n:Int)(hw:ws.length≤1048576)(h0:0≤a∧a≤18446744073709551615):GSpec Tryz.prog 118 [Z02 ws,u64 a,int n] true (.tu [int (Z0a ws a n).1,bool (Z0a ws a n).2]) []:=by
 have Q0 {h_ c_ p_} (r_:Fq h_ c_ p_):=FvG 13 (!decide (a<4096)) (a-4096) (FlG 15 (!decide (a<4096)) wdv ws (FvG 16 (!decide (a<4096)) (↑ws.length) r_))
 rcases bb (decide (a<4096)||decide ((↑ws.length:Int)<a-4096))with hc0 | hc0<;>have hc0p:=hc0<;>simp only[bs]at hc0p
 ·exact gF [] Tryz.func118 [false,false,false,false,false,false,true] (Q0 (Ft 18 hc0 (Fa (by(simp only[Z0a];(repeat' split)<;>first | rfl | omega | (exfalso;omega) | simp_all):0=(Z0a ws a n).fst) (Fa (by(simp only[Z0a];(repeat' split)<;>first | rfl | omega | (exfalso;omega) | simp_all):false=(Z0a ws a n).snd) Fz))))
 ·obtain⟨hc0pa,hc0pb⟩:=hc0p
  exact gF [] Tryz.func118 [false,false,false,false,false,false,true] (Q0 (Ff 18 hc0 (Fv 20 (a-4096) (Fi 21 (a-4096) (Fl 25 wdv ws (Fi 27 ((↑ws.length:Int)-(a-4096)) (Fa (by(simp only[Z0a];(repeat' split)<;>first | rfl | omega | (exfalso;omega) | simp_all):a-4096=(Z0a ws a n).fst) (Fa (by(simp only[Z0a];(repeat' split)<;>first | rfl | omega | (exfalso;omega) | simp_all):decide (n≤(↑ws.length:Int)-(a-4096))=(Z0a ws a n).snd) Fz))))))))
theorem Z9z(ws:List Int)(a:Int)(hw:ws.length≤1048576)(h0:0≤a∧a≤18446744073709551615):GSpec Tryz.prog 130 [Z02 ws,u64 a] true (.tu [int (Z0A ws a).1,int (Z0A ws a).2]) []:=by
 have Q0 {h_ c_ p_} (r_:Fq h_ c_ p_):=Fc 11 (@Z53 ws a (1) ‹_› ‹_›) r_
 rcases bb (!(Z0a ws a 1).snd)with hc0 | hc0<;>have hc0p:=hc0<;>simp only[bs]at hc0p
 ·exact gF [] Tryz.func130 [true] (Q0 (Ft 15 hc0 (Fa (by grind[Z0a,Z0A]:0=(Z0A ws a).fst) (Fa (by grind[Z0a,Z0A]:2=(Z0A ws a).snd) Fz))))
 ·exact gF [] Tryz.func130 [true] (Q0 (Ff 15 hc0 (Fa (by grind[Z0a,Z0A]:(Z0a ws a 1).fst=(Z0A ws a).fst) (Fa (by grind[Z0a,Z0A]:0=(Z0A ws a).snd) Fz))))
theorem Zhy(ws:List Int)(a:Int)(hw:ws.length≤1048576)(h0:0≤a∧a≤18446744073709551615):GSpec Tryz.prog 97 [Z02 ws,u64 a] true (.tu [u64 (loadA ws a).1,int (loadA ws a).2]) []:=by
 have Q0 {h_ c_ p_} (r_:Fq h_ c_ p_):=Fc 11 (@Z9z ws a ‹_› ‹_›) r_
 rcases bb ((Z0A ws a).snd != 0)with hc0 | hc0<;>have hc0p:=hc0<;>simp only[bs]at hc0p
 ·have hf3:=ZbW hc0p
  obtain⟨hf3a,hf3b⟩:=hf3
  exact gF [] Tryz.func97 [true] (Q0 (Ft 15 hc0 (Fa (by simp[loadA, *]:0=(loadA ws a).fst) (Fa (by simp[loadA, *]:(Z0A ws a).snd=(loadA ws a).snd) Fz))))
 ·have hf5:=Zci hc0p
  obtain⟨hf5a,⟨hf5ba,hf5bb⟩⟩:=hf5
  exact gF [] Tryz.func97 [true] (Q0 (Ff 15 hc0 (Fe 19 wdv ws ((Z0A ws a).fst) (Fa (by simp[loadA, *]:ws.getD (Z0A ws a).fst.toNat default=(loadA ws a).fst) (Fa (by simp[loadA, *]:0=(loadA ws a).snd) Fz)))))
def upS(w:Int):Nat→Int
 | 0=>w
 | 1=>w/4
 | 2=>w/16
 | 3=>w/65536
 | _=>w/281474976710656
def upO(w:Int):List Int:=[w%4,w/4%4,w/16%4096,w/65536%4294967296]
def upL1(w:Int)(i:Nat):Tg:=⟨tm 49 [(0,u64 w),(1,Z0T [2,2,12,32]),(4,.d (.sl 0 [])),(5,int 0),(6,int ([64,62,60,48,16].getD i 0)),(12,Z0T [2,2,12,32]),(13,int 4),(14,int i)],[],20⟩
theorem ZiF(w:Int)(i:Nat)(hi:i<4):CSpec Tryz.prog (rndF Tryz.f152 0) (upL1 w i).st .nrm (upL1 w (i+1)).st:=by
 have h:i=0∨i=1∨i=2∨i=3:=by omega
 rcases h with rfl | rfl | rfl | rfl
 ·refine stretchE [((16:Nat),[Hint.el (idv (2:Int))])] [] [] [] (φ:=(0:Int)≤(↑(0:Nat):Int)∧(List.map idv [(2:Int),(2:Int),(12:Int),(32:Int)])[(↑(0:Nat):Int).toNat]? = some (idv (2:Int))) ?_ (by kernel_rfl) (by kernel_rfl) (by kernel_rfl)
  exact(by simp[*])
 ·refine stretchE [((16:Nat),[Hint.el (idv (2:Int))])] [] [] [] (φ:=(0:Int)≤(↑(1:Nat):Int)∧(List.map idv [(2:Int),(2:Int),(12:Int),(32:Int)])[(↑(1:Nat):Int).toNat]? = some (idv (2:Int))) ?_ (by kernel_rfl) (by kernel_rfl) (by kernel_rfl)
  exact(by simp[*])
 ·refine stretchE [((16:Nat),[Hint.el (idv (12:Int))])] [] [] [] (φ:=(0:Int)≤(↑(2:Nat):Int)∧(List.map idv [(2:Int),(2:Int),(12:Int),(32:Int)])[(↑(2:Nat):Int).toNat]? = some (idv (12:Int))) ?_ (by kernel_rfl) (by kernel_rfl) (by kernel_rfl)
  exact(by simp[*])
 ·refine stretchE [((16:Nat),[Hint.el (idv (32:Int))])] [] [] [] (φ:=(0:Int)≤(↑(3:Nat):Int)∧(List.map idv [(2:Int),(2:Int),(12:Int),(32:Int)])[(↑(3:Nat):Int).toNat]? = some (idv (32:Int))) ?_ (by kernel_rfl) (by kernel_rfl) (by kernel_rfl)
  exact(by simp[*])
theorem ZlZ(w:Int):CSpec Tryz.prog (rndF Tryz.f152 0) (upL1 w 4).st (.ext 0) (Tg.st ⟨tm 49 [(0,u64 w),(1,Z0T [2,2,12,32]),(4,.d (.sl 0 [])),(5,int 0)],[],60⟩):=by
 exact sF [] [] Fz
theorem ZgX(w:Int):CSpec Tryz.prog (blkF Tryz.f152 0) (Tg.st ⟨tm 49 [(0,u64 w),(1,Z0T [2,2,12,32]),(4,.d (.sl 0 [])),(5,int 0),(6,int 64),(12,Z0T [2,2,12,32]),(13,int 4),(14,int 0)],[],20⟩) .nrm (Tg.st ⟨tm 49 [(0,u64 w),(1,Z0T [2,2,12,32]),(4,.d (.sl 0 [])),(5,int 0)],[],60⟩) :=
 Z0c (S:=fun i=>(upL1 w i).st) 4 (by kernel_rfl) (fun i hi=>ZiF w i hi) (ZlZ w)
def upL2(w:Int)(i:Nat):Tg:=⟨tm 49 [(0,u64 (upS w i)),(4,.d (.sl 0 [])),(5,int 0),(9,.ow 480009),(29,Z0T [2,2,12,32]),(30,int 4),(31,int i)],[(480009,.arr 39 1 (((upO w).take i).map wdv))],60⟩
theorem ZjG(w:Int)(i:Nat)(h0:0≤w)(h1:w≤18446744073709551615)(hi:i<4):CSpec Tryz.prog (rndF Tryz.f152 2) (upL2 w i).st .nrm (upL2 w (i+1)).st:=by
 have o1:ones 2=3:=by decide
 have o2:ones 12=4095:=by decide
 have o3:ones 32=4294967295:=by decide
 have a0:bits .and .u64 w (ones 2)=w%4:=by rw[o1];exact Z3q 2 (by decide) (by decide) (by omega) (by omega)
 have a1:bits .and .u64 (w/4) (ones 2)=w/4%4:=by rw[o1];exact Z3q 2 (by decide) (by decide) (by omega) (by omega)
 have a2:bits .and .u64 (w/16) (ones 12)=w/16%4096:=by rw[o2];exact Z3q 12 (by decide) (by decide) (by omega) (by omega)
 have a3:bits .and .u64 (w/65536) (ones 32)=w/65536%4294967296:=by rw[o3];exact Z3q 32 (by decide) (by decide) (by omega) (by omega)
 have f1:(w/4).fdiv 4=w/16:=by rw[Int.fdiv_eq_ediv_of_nonneg _ (by decide)];omega
 have f2:(w/16).fdiv 4096=w/65536:=by rw[Int.fdiv_eq_ediv_of_nonneg _ (by decide)];omega
 have f3:(w/65536).fdiv 4294967296=w/281474976710656:=by rw[Int.fdiv_eq_ediv_of_nonneg _ (by decide)];omega
 have h:i=0∨i=1∨i=2∨i=3:=by omega
 rcases h with rfl | rfl | rfl | rfl
 ·exact sF [(496041,480009)] [] (Fh 33 [.el (idv 2)] (Fa (by simp[upS,upO, *]:0≤(↑(0:Nat):Int)∧(List.map idv [2,2,12,32])[(↑(0:Nat):Int).toNat]? = some (idv 2)) (Fc 38 (@Z5e (2)) (Fg 39 (by assumption:bits BinOp.and IntKind.u64 (upS w 0) (ones (2:Int))=upS w 0%4) (Fs 40 (List.map wdv [upS w 0%4]) (Fa (by simp[upS,upO, *]:(List.map wdv (List.take 0 (upO w))).length+(List.map wdv [upS w 0%4]).length≤2^30) (Fs 41 (List.map wdv [upS w 0%4]) (Fg 44 (by exact Z6I rfl (by decide):(upS w 0).fdiv (2^min (Int.toNat 2) 64)=upS w 0/4) (Fo ((0:Int)≤2) Fz)))))))))
 ·exact sF [(496041,480009)] [true] (Fh 33 [.el (idv 2)] (Fa (by simp[upS,upO, *]:0≤(↑(1:Nat):Int)∧(List.map idv [2,2,12,32])[(↑(1:Nat):Int).toNat]? = some (idv 2)) (Fc 38 (@Z5e (2)) (Fg 39 (by assumption:bits BinOp.and IntKind.u64 (upS w 1) (ones (2:Int))=upS w 1%4) (Fs 40 (List.map wdv [upS w 1%4]) (Fa (by simp[upS,upO, *]:(List.map wdv (List.take 1 (upO w))).length+(List.map wdv [upS w 1%4]).length≤2^30) (Fs 41 (List.map wdv [w%4,upS w 1%4]) (Fg 44 (by exact Z6I rfl (by decide):(upS w 1).fdiv (2^min (Int.toNat 2) 64)=upS w 1/4) (Fo ((0:Int)≤2) (Fa (by(simp[upS,upO, *];omega):upS w 1/4=upS w (1+1)) Fz))))))))))
 ·exact sF [(496041,480009)] [true] (Fh 33 [.el (idv 12)] (Fa (by simp[upS,upO, *]:0≤(↑(2:Nat):Int)∧(List.map idv [2,2,12,32])[(↑(2:Nat):Int).toNat]? = some (idv 12)) (Fc 38 (@Z5e (12)) (Fg 39 (by assumption:bits BinOp.and IntKind.u64 (upS w 2) (ones (12:Int))=upS w 2%4096) (Fs 40 (List.map wdv [upS w 2%4096]) (Fa (by simp[upS,upO, *]:(List.map wdv (List.take 2 (upO w))).length+(List.map wdv [upS w 2%4096]).length≤2^30) (Fs 41 (List.map wdv [w%4,w/4%4,upS w 2%4096]) (Fg 44 (by exact Z6I rfl (by decide):(upS w 2).fdiv (2^min (Int.toNat 12) 64)=upS w 2/4096) (Fo ((0:Int)≤12) (Fa (by(simp[upS,upO, *];omega):upS w 2/4096=upS w (2+1)) Fz))))))))))
 ·exact sF [(496041,480009)] [true] (Fh 33 [.el (idv 32)] (Fa (by simp[upS,upO, *]:0≤(↑(3:Nat):Int)∧(List.map idv [2,2,12,32])[(↑(3:Nat):Int).toNat]? = some (idv 32)) (Fc 38 (@Z5e (32)) (Fg 39 (by assumption:bits BinOp.and IntKind.u64 (upS w 3) (ones (32:Int))=upS w 3%4294967296) (Fs 40 (List.map wdv [upS w 3%4294967296]) (Fa (by simp[upS,upO, *]:(List.map wdv (List.take 3 (upO w))).length+(List.map wdv [upS w 3%4294967296]).length≤2^30) (Fs 41 (List.map wdv [w%4,w/4%4,w/16%4096,upS w 3%4294967296]) (Fg 44 (by exact Z6I rfl (by decide):(upS w 3).fdiv (2^min (Int.toNat 32) 64)=upS w 3/4294967296) (Fo ((0:Int)≤32) (Fa (by(simp[upS,upO, *];omega):upS w 3/4294967296=upS w (3+1)) Fz))))))))))
theorem Zma(w:Int):CSpec Tryz.prog (rndF Tryz.f152 2) (upL2 w 4).st (.ext 2) (Tg.st ⟨tm 49 [(0,u64 (w/281474976710656)),(4,.d (.sl 0 [])),(5,int 0),(9,.ow 480009)],[(480009,.arr 39 1 ((upO w).map wdv))],60⟩):=by
 exact sF [] [] Fz
theorem Zgb(w:Int)(h0:0≤w)(h1:w≤18446744073709551615):CSpec Tryz.prog (blkF Tryz.f152 2) (Tg.st ⟨tm 49 [(0,u64 w),(4,.d (.sl 0 [])),(5,int 0),(9,.ow 480009),(29,Z0T [2,2,12,32]),(30,int 4),(31,int 0)],[(480009,.arr 39 1 [])],60⟩) .nrm (Tg.st ⟨tm 49 [(0,u64 (w/281474976710656)),(4,.d (.sl 0 [])),(5,int 0),(9,.ow 480009)],[(480009,.arr 39 1 ((upO w).map wdv))],60⟩) :=
 Z0c (S:=fun i=>(upL2 w i).st) 4 (by kernel_rfl) (fun i hi=>ZjG w i h0 h1 hi) (Zma w)
theorem ZcN(w:Int)(h0:0≤w)(h1:w≤18446744073709551615)(h:w<281474976710656):GSpec Tryz.prog 152 [u64 w,Z0T [2,2,12,32]] true (.tu [Z02 (upO w),int 0]) []:=by
 exact gF [] Tryz.func152 [] (Fh 9 [.own] (Fu (@ZgX w) (Fu (@Zgb w ‹_› ‹_›) (Ffb 47 (w/(281474976710656:Int) != 0) (Fa (by exact Z46 _:Z1n (List.map wdv (upO w))) Fz)))))
theorem ZjI(w:Int)(h0:0≤w)(h1:w≤18446744073709551615)(h:¬ w<281474976710656):GSpec Tryz.prog 152 [u64 w,Z0T [2,2,12,32]] true (.tu [Z02 [],int 2]) []:=by
 exact gF [] Tryz.func152 [] (Fh 9 [.own] (Fu (@ZgX w) (Fu (@Zgb w ‹_› ‹_›) (Ftb 47 (w/(281474976710656:Int) != 0) (Fnl Fz)))))
theorem Zbt(w:Int)(h0:0≤w):decodeH w=if w<281474976710656∧w%4=1∧Z0i (Z2f w)=true then(Z2f w,true)else(Z0S,false):=by
 have k1:(Z2f w).kind=w/4%4:=rfl
 have k2:(Z2f w).length=w/16%4096:=rfl
 have k3:(Z2f w).map=w/65536%4294967296:=rfl
 by_cases hv:Z0i (Z2f w)=true
 ·have e:Z06 (Z2f w)=(1+4*(Z2f w).kind+16*(Z2f w).length+65536*(Z2f w).map,0):=by rw[Z06,if_pos hv]
  by_cases hc:w<281474976710656∧w%4=1
  ·rw[decodeH,e,if_pos ⟨rfl,by simp only;omega⟩,if_pos ⟨hc.1,hc.2,hv⟩]
  ·rw[decodeH,e,if_neg (by simp only;omega),if_neg (fun q=>hc ⟨q.1,q.2.1⟩)]
 ·have e:Z06 (Z2f w)=(0,1):=by rw[Z06,if_neg hv]
  rw[decodeH,e,if_neg (by simp),if_neg (fun q=>hv q.2.2)]
theorem Z19(w:Int)(h0:0≤w)(h1:w≤18446744073709551615):GSpec Tryz.prog 128 [u64 w] true (.tu [(decodeH w).1.av,bool (decodeH w).2]) []:=by
 have hm:=Z7P w h0
 rw[Zbt w h0]
 have u0:(upO w).getD 0 default=w%4:=rfl
 have u1:(upO w).getD 1 default=w/4%4:=rfl
 have u2:(upO w).getD 2 default=w/16%4096:=rfl
 have u3:(upO w).getD 3 default=w/65536%4294967296:=rfl
 have uL:(upO w).length=4:=rfl
 have k1:(Z2f w).kind=w/4%4:=rfl
 have k2:(Z2f w).length=w/16%4096:=rfl
 have k3:(Z2f w).map=w/65536%4294967296:=rfl
 by_cases ha:w<281474976710656
 ·by_cases hb:w%4=1
  ·by_cases hv:Z0i (Z2f w)=true
   ·rw[if_pos ⟨ha,hb,hv⟩]
    have hv2:Z0i ⟨w/4%4,w/16%4096,w/65536%4294967296⟩=true:=hv
    exact gF [] Tryz.func128 [] (Fh 17 [.el (wdv ((upO w).getD 0 default))] (Fh 23 [.el (wdv ((upO w).getD 1 default))] (Fh 27 [.el (wdv ((upO w).getD 2 default))] (Fh 31 [.el (wdv ((upO w).getD 3 default))] (Fs 9 (List.map idv [2,2,12,32]) (Fc 10 (@ZcN w ‹_› ‹_› ‹_›) (Fa (by intro hg;(try simp only[bs]at hg);exact elI (by omega) (by omega) (by omega):(!(0:Int) != 0)=true→(0:Int)≤0∧(List.map wdv (upO w))[Int.toNat 0]? = some (wdv ((upO w).getD 0 default))) (Ffb 20 ((upO w).getD 0 default != 1) (Fa (by exact elI (by omega) (by omega) (by omega):(0:Int)≤1∧(List.map wdv (upO w))[Int.toNat 1]? = some (wdv ((upO w).getD 1 default))) (Fi 25 ((upO w).getD 1 default) (Fa (by exact elI (by omega) (by omega) (by omega):(0:Int)≤2∧(List.map wdv (upO w))[Int.toNat 2]? = some (wdv ((upO w).getD 2 default))) (Fi 29 ((upO w).getD 2 default) (Fa (by exact elI (by omega) (by omega) (by omega):(0:Int)≤3∧(List.map wdv (upO w))[Int.toNat 3]? = some (wdv ((upO w).getD 3 default))) (Fg 33 (by exact ZaN (by omega) (by omega):IntKind.u32.wrap ((upO w).getD 3 default)=(upO w).getD 3 default) (Fc 36 (@Z2H (Header.mk ((upO w).getD 1 default) ((upO w).getD 2 default) ((upO w).getD 3 default)) ‹_›) (Ff 37 (by simp only[bs, *,true_or,or_true,true_and,and_true,not_true_eq_false,not_false_eq_true,Bool.true_eq_false,Bool.false_eq_true]:(!Z0i (Header.mk ((upO w).getD 1 default) ((upO w).getD 2 default) ((upO w).getD 3 default)))=false) Fz))))))))))))))))
   ·rw[if_neg (by simp[hv])]
    have hv':Z0i ⟨w/4%4,w/16%4096,w/65536%4294967296⟩=false:=eq_false_of_ne_true hv
    exact gF [] Tryz.func128 [] (Fh 17 [.el (wdv ((upO w).getD 0 default))] (Fh 23 [.el (wdv ((upO w).getD 1 default))] (Fh 27 [.el (wdv ((upO w).getD 2 default))] (Fh 31 [.el (wdv ((upO w).getD 3 default))] (Fs 9 (List.map idv [2,2,12,32]) (Fc 10 (@ZcN w ‹_› ‹_› ‹_›) (Fa (by intro hg;(try simp only[bs]at hg);exact elI (by omega) (by omega) (by omega):(!(0:Int) != 0)=true→(0:Int)≤0∧(List.map wdv (upO w))[Int.toNat 0]? = some (wdv ((upO w).getD 0 default))) (Ffb 20 ((upO w).getD 0 default != 1) (Fa (by exact elI (by omega) (by omega) (by omega):(0:Int)≤1∧(List.map wdv (upO w))[Int.toNat 1]? = some (wdv ((upO w).getD 1 default))) (Fi 25 ((upO w).getD 1 default) (Fa (by exact elI (by omega) (by omega) (by omega):(0:Int)≤2∧(List.map wdv (upO w))[Int.toNat 2]? = some (wdv ((upO w).getD 2 default))) (Fi 29 ((upO w).getD 2 default) (Fa (by exact elI (by omega) (by omega) (by omega):(0:Int)≤3∧(List.map wdv (upO w))[Int.toNat 3]? = some (wdv ((upO w).getD 3 default))) (Fg 33 (by exact ZaN (by omega) (by omega):IntKind.u32.wrap ((upO w).getD 3 default)=(upO w).getD 3 default) (Fc 36 (@Z2H (Header.mk ((upO w).getD 1 default) ((upO w).getD 2 default) ((upO w).getD 3 default)) ‹_›) (Ft 37 (by simp only[bs, *,true_or,or_true,true_and,and_true,not_true_eq_false,not_false_eq_true,Bool.true_eq_false,Bool.false_eq_true]:(!Z0i (Header.mk ((upO w).getD 1 default) ((upO w).getD 2 default) ((upO w).getD 3 default)))=true) Fz))))))))))))))))
  ·rw[if_neg (by simp[hb])]
   exact gF [] Tryz.func128 [] (Fh 17 [.el (wdv ((upO w).getD 0 default))] (Fs 9 (List.map idv [2,2,12,32]) (Fc 10 (@ZcN w ‹_› ‹_› ‹_›) (Fa (by intro hg;(try simp only[bs]at hg);exact elI (by omega) (by omega) (by omega):(!(0:Int) != 0)=true→(0:Int)≤0∧(List.map wdv (upO w))[Int.toNat 0]? = some (wdv ((upO w).getD 0 default))) (Ftb 20 ((upO w).getD 0 default != 1) Fz)))))
 ·rw[if_neg (by simp[ha])]
  exact gF [] Tryz.func128 [] (Fh 17 [.el (wdv ([].getD 0 default))] (Fs 9 (List.map idv [2,2,12,32]) (Fc 10 (@ZjI w ‹_› ‹_› ‹_›) (Fa (by intro hg;(try simp only[bs]at hg);exact elI (by omega) (by omega) (by omega):(!(2:Int) != 0)=true→(0:Int)≤0∧(List.map wdv [])[Int.toNat 0]? = some (wdv ([].getD 0 default))) Fz))))
end Go.Proofs.YtjflpmnenhdeeaaGreat
namespace Go.Sx
def Zfw(H:Heap)(x:AV):Option AV:=match x with
 | .d x=>some (.d x)
 | .rp e o=>some (.rp e o)
 | .ow b=>match Nat.ble 8000 b with
  | true=>match H b with | some (.arr _ s els)=>some (.d (.sl s els)) | _=>none
  | false=>none
 | .os b o n=>match Nat.ble 8000 b with
  | true=>match H b with | some (.arr _ s els)=>some (.d (.sl s ((els.drop o).take n))) | _=>none
  | false=>none
 | _=>none
def Zcz(f:AV→Option AV):List AV→Option (List AV)
 | []=>some []
 | a::l=>match f a,Zcz f l with
  | some x,some r=>some (x::r)
  | _,_=>none
def Zia(H:Heap)(a:AV):Option AV:=match a with
 | .ag l=>match Zcz (Zfw H) l with | some r=>some (.ag r) | none=>none
 | .ic t x=>match Zfw H x with | some r=>some (.ic t r) | none=>none
 | x=>Zfw H x
def ZkZ(H:Heap)(a:AV):Option AV:=match a with
 | .tu l=>match Zcz (Zia H) l with | some r=>some (.tu r) | none=>none
 | x=>Zia H x
def Zm8(x:AV):Bool:=match x with
 | .pt 0 0 0=>true
 | x=>Z67 x
def runL(P:Program)(hints:List (Nat×List Hint))(cuts:List (Nat×Tg×Ex×Tg))(fn:Func)(args:List AV)(pre:Blk)(res:AV)(post:Blk):Option Run :=
 match fn.body with
 | none=>none
 | some c=>match args.all Zm8 with
  | false=>none
  | true=>match runC P hints cuts c ⟨args++List.replicate (fn.ntmps-args.length) .any,hOf [(0,pre)],1⟩with
   | none=>none
   | some r=>match r.e with
    | .ext _=>none
    | _=>match Z7C P r.s.tmps r.s.H fn.results.toList with
     | none=>none
     | some l=>match ZkZ r.s.H (resV l),r.s.H 0,pre,post with
      | some x,some (.box ty cells),.box _ cells0,.box ty1 cells1=>match Zcz (Zfw r.s.H) cells with
       | some cs=>match Nat.beq cells.length cells0.length with
        | true=>some ⟨r.e,r.s,r.ph++((coeT x res).2++(coeL coe1 cs cells1).2),r.eq++[((coeT x res).1,res),(encB (.box ty (coeL coe1 cs cells1).1),encB (.box ty1 cells1))]⟩
        | false=>none
       | none=>none
      | _,_,_,_=>none
def ImL(Im:Nat→Prop)(ρ:Rho)(H:Heap):Nat→Prop:=fun g=>Im g∨∃ b β,8000≤b∧live H b∧ρ b=some β∧β.g=some g
section
variable {Ow Im0:Nat→Prop} {w0:World} {ρ:Rho} {w:World} {Im:Nat→Prop} {H:Heap} {clk:Nat}
theorem Z6K{x:AV}{v:Value}{s:Nat}{els:List (List DV)}{b:Nat}(I:Inv Ow Im0 w0 ρ w Im H clk)(hx:Rel ρ w Im x v)(h:Z1a H x=some (s,els))(hb:8000≤b)(hlive:live H b)
  (hblk:∀ a n c,v = .slice (some a) n c→n≠0→∃ β,ρ b=some β∧β.g=some a.block):RelD w (ImL Im ρ H) (.sl s els) v:=by
 obtain⟨p,c,rfl,hbg,hc,hl,hcell⟩:=Z1Q I hx h
 by_cases he:els=[]
 ·subst he;exact .slNil _ _ _
 rcases hcell with hcell | ⟨q,rfl,hq,hcell⟩
 ·exact absurd hcell he
 have hn:els.length≠0:=by simpa using he
 obtain⟨β,hβ,hg⟩:=hblk q _ c rfl hn
 refine .sl s els q els.length c (fun i o=>(w.cell? ⟨q.block,q.off+(i*s+o),none⟩).getD undef) rfl hc hbg (hl he) hq (.inr ⟨b,β,hb,hlive,hβ,hg⟩) ?_ ?_
 ·intro i e o y hi ho
  obtain⟨u,k1,_⟩:=hcell i e o y hi ho
  rw[k1];rfl
 ·intro i e o y hi ho
  obtain⟨u,k1,k2⟩:=hcell i e o y hi ho
  rw[k1]
  exact k2.mono (Ext.refl _ _) (fun g hg=>.inl hg)
theorem Z78(I:Inv Ow Im0 w0 ρ w Im H clk){x y:AV}{v:Value}(hx:Rel ρ w Im x v)(h:Zfw H x=some y):Rel (fun _=>none) w (ImL Im ρ H) y v:=by
 unfold Zfw at h
 split at h
 ·cases h
  cases hx with
  | d hx=>exact .d (hx.mono (Ext.refl _ _) (fun g hg=>.inl hg))
 ·cases h
  cases hx with
  | rp h1 h2 h3=>exact .rp h1 (.inl h2) (fun j x hx=>let ⟨v,k1,k2⟩:=h3 j x hx;⟨v,k1,k2.mono (Ext.refl _ _) (fun g hg=>.inl hg)⟩)
 ·rename_i b
  split at h
  rotate_left
  ·cases h
  rename_i hb8
  split at h
  rotate_left
  ·cases h
  rename_i ty s els hb
  cases h
  refine .d (Z6K (b:=b) I hx (by simp[Z1a,hb]) (Nat.le_of_ble_eq_true hb8) ⟨_,hb,by simp⟩ fun a n c hv hn=>?_)
  subst hv
  generalize hvv:Value.slice (some a) n c=vv at hx
  cases hx with
  | ow h1 h2 h3 h4 =>
   injection hvv with e1 e2 e3
   rcases h4 with h4 | ⟨g,hg,e,_⟩
   ·omega
   ·rw[← e1]at e;cases e;exact⟨_,h1,hg⟩
 ·rename_i b oo m
  split at h
  rotate_left
  ·cases h
  rename_i hb8
  split at h
  rotate_left
  ·cases h
  rename_i ty s els hb
  cases h
  refine .d (Z6K (b:=b) I hx (by simp[Z1a,hb]) (Nat.le_of_ble_eq_true hb8) ⟨_,hb,by simp⟩ fun a n c hv hn=>?_)
  subst hv
  generalize hvv:Value.slice (some a) n c=vv at hx
  cases hx with
  | os h1 h2 h3 h4 h5 =>
   injection hvv with e1 e2 e3
   rcases h5 with h5 | ⟨g,hg,e,_⟩
   ·omega
   ·rw[← e1]at e;cases e;exact⟨_,h1,hg⟩
 ·cases h
theorem Z4V{f:AV→Option AV}:∀ {l r:List AV},Zcz f l=some r→r.length=l.length∧∀ (i:Nat) (y:AV),r[i]? = some y→∃ x,l[i]? = some x∧f x=some y
 | [],r,h=>by simp[Zcz]at h;subst h;simp
 | a::l,r,h=>by
  simp only[Zcz]at h
  split at h
  rotate_left
  ·cases h
  rename_i x m hx hm
  cases h
  obtain⟨h1,h2⟩:=Z4V hm
  refine⟨by simp[h1],fun i y hy=>?_⟩
  cases i with
  | zero=>simp at hy;subst hy;exact⟨a,rfl,hx⟩
  | succ i=>exact h2 i y (by simpa using hy)
theorem Zer(I:Inv Ow Im0 w0 ρ w Im H clk){x y:AV}{v:Value}(hx:Rel ρ w Im x v)(h:Zia H x=some y):Rel (fun _=>none) w (ImL Im ρ H) y v:=by
 unfold Zia at h
 split at h
 ·split at h
  rotate_left
  ·cases h
  rename_i r hr
  cases h
  obtain⟨h1,h2⟩:=Z4V hr
  obtain⟨cs,rfl,k1,k2,k3⟩:=Z3n hx
  refine .ag _ cs (by omega) k2 fun i a u ha hu=>?_
  obtain⟨z,m1,m2⟩:=h2 i a ha
  exact Z78 I (k3 i z u m1 hu) m2
 ·split at h
  rotate_left
  ·cases h
  rename_i r hr
  cases h
  cases hx with
  | ic hx=>exact .ic (Z78 I hx hr)
 ·exact Z78 I hx h
theorem ZhZ(I:Inv Ow Im0 w0 ρ w Im H clk){x y:AV}{v:Value}(hx:Rel ρ w Im x v)(h:ZkZ H x=some y):Rel (fun _=>none) w (ImL Im ρ H) y v:=by
 unfold ZkZ at h
 split at h
 ·split at h
  rotate_left
  ·cases h
  rename_i r hr
  cases h
  obtain⟨h1,h2⟩:=Z4V hr
  cases hx with
  | tu _ cs k1 k3 =>
   refine .tu _ cs (by omega) fun i a u ha hu=>?_
   obtain⟨z,m1,m2⟩:=h2 i a ha
   exact Zer I (k3 i z u m1 hu) m2
 ·exact Zer I hx h
end
theorem lent_of{P:Program}{f:Nat}{fn:Func}{args:List AV}{pre:Blk}{res:AV}{post:Blk}(hints:List (Nat×List Hint))(cuts:List (Nat×Tg×Ex×Tg))
  (hf:P.funcs[f]? = some fn) (fl:List Bool) {φ:Prop} (hφ:φ) (h1:oblE fl (runL P hints cuts fn args pre res post)=φ) (h2:lefE fl (runL P hints cuts fn args pre res post)=rigE fl (runL P hints cuts fn args pre res post)):LentSpec P f args [pre] res [post]:=by
 rw[← h1]at hφ
 obtain⟨hφ,h2⟩:=Z4J hφ h2
 clear h1
 cases hr:runL P hints cuts fn args pre res post with
 | none=>rw[hr]at hφ;exact hφ.elim
 | some r =>
  rw[hr]at hφ h2
  have heq:EqP r.eq:=Z7Z h2
  have hph:allP r.ph:=hφ
  clear h2 hφ
  unfold runL at hr
  split at hr
  ·cases hr
  rename_i c hb
  split at hr
  ·cases hr
  rename_i hpure
  split at hr
  ·cases hr
  rename_i q hq
  split at hr
  ·cases hr
  rename_i hne
  split at hr
  ·cases hr
  rename_i l hl
  split at hr
  rotate_left
  ·cases hr
  rename_i x ty cells ty0 cells0 ty1 cells1 hx hH0
  split at hr
  rotate_left
  ·cases hr
  rename_i cs hcs
  split at hr
  rotate_left
  ·cases hr
  rename_i hlen
  have hlen:=Nat.eq_of_beq_eq_true hlen
  cases hr
  obtain⟨hph1,hph'⟩:=allP_append.1 hph
  obtain⟨hph2,hph3⟩:=allP_append.1 hph'
  have heq1:=heq.left
  have hxe:(coeT x res).1=res:=heq.right ((coeT x res).1,res) (by simp)
  have hbe0:encB (.box ty (coeL coe1 cs cells1).1)=encB (.box ty1 cells1):=heq.right (encB (.box ty (coeL coe1 cs cells1).1),encB (.box ty1 cells1)) (by simp)
  have hbe:=Zam hbe0
  intro w Im ρ vs hIm hsz hρ hinj hbnd hpre hargs
  refine calls_of_wp hf hb ?_
  have hlow:∀ b β,ρ b=some β→b=0:=by intro b β h;have:=hρ b β h;simp at this;exact this
  have hS:Sys (fun g=>∃ b β,ρ b=some β∧β.g=some g) Im w (args++List.replicate (fn.ntmps-args.length) .any) (hOf [(0,.box ty0 cells0)]) 1 { tmps:=vs++Array.replicate (fn.ntmps-vs.size) undef,defers:=[] } w:=by
   refine⟨ρ,Im,⟨Kept.refl _ _,(fun b b' β β' g _ _=>hinj b b' β β' g),(fun b β g _ h h'=>(hbnd b β g h h').2),(fun b β g h h'=>(hbnd b β g h h').1),(fun b β g h h'=>.inr ⟨b,β,h,h'⟩),hIm,(fun g h=>.inl h),(fun b B h=>?_),(fun b hb _=>?_),Nat.le_refl 1⟩,⟨by simp[hsz],fun i y v hy hv=>?_,rfl⟩⟩
   ·simp only[hOf]at h
    split at h
    ·rename_i e;cases h;rw[e];exact hpre 0 _ rfl
    ·cases h
   ·cases hc:ρ b with
    | none=>rfl
    | some β=>have:=hlow b β hc;omega
   ·rw[List.getElem?_append]at hy
    simp only[Array.getElem?_append]at hv
    rw[hsz]at hv
    split at hy
    ·rename_i hi
     rw[if_pos hi]at hv
     exact hargs i y v hy hv
    ·have:=List.mem_of_getElem? hy
     rw[(List.mem_replicate.1 this).2]
     exact .any _
  refine wp_mono (Z7Q hq hph1 heq1 _ _ _ _ _ hS) ?_
  rintro e a' w' ⟨rfl,hS'⟩
  have post:a'.defers=[]∧∃ v,(results fn a'.tmps).run P w' = .ok v w'∧∃ u,Ending.returned v = .returned u∧Kept (fun g=>∃ b β,ρ b=some β∧β.g=some g) w w'∧∃ Im':Nat→Prop,(∀ g,Im' g→Im g∨w.heap.size≤g)∧(∀ g,Im' g→g<w'.heap.size) ∧
    (∀ (k:Nat) (B:Blk),[Blk.box ty1 cells1][k]? = some B→∃ β,ρ k=some β∧RelB ρ w' Im' β B)∧Rel ρ w' Im' res u:=by
   obtain⟨ρ',Im',I,T⟩:=hS'
   obtain⟨v,h1,h2⟩:=Z9B I T hl
   have hzero:∀ g κ,ρ 0=some κ→κ.g=some g→∃ β',ρ' 0=some β'∧β'.g=some g:=by
    intro g κ n1 n2
    obtain⟨β',k1,k2,k3,g1,ca,k4,_⟩:=I.blk 0 _ hH0
    rcases I.own 0 β' g1 k1 k4 with⟨_,h⟩ | ⟨b,κ2,m1,m2⟩
    ·omega
    ·have:=hlow b κ2 m1
     subst this
     rw[n1]at m1;cases m1
     rw[n2]at m2;cases m2
     exact⟨β',k1,k4⟩
   have hlent:∀ g,(∃ b β,ρ b=some β∧β.g=some g)→¬ Im' g:=by
    rintro g ⟨b,κ,n1,n2⟩
    have:=hlow b κ n1
    subst this
    obtain⟨β',k1,k4⟩:=hzero g κ n1 n2
    exact I.notIm 0 β' g ⟨_,hH0,by simp⟩ k1 k4
   refine⟨T.defers,v,h1,v,rfl,I.kept,ImL Im' ρ' q.s.H, ?_, ?_, ?_, ?_⟩
   ·rintro g (hg | ⟨b,β,h8,_,hb,hg⟩)
    ·rcases I.im0 g hg with h | h | h
     ·exact .inl h
     ·exact .inr h
     ·exact absurd hg (hlent g h)
    ·rcases I.own b β g hb hg with⟨h,_⟩ | ⟨b2,κ,n1,n2⟩
     ·exact .inr h
     ·have:=hlow b2 κ n1
      subst this
      obtain⟨β',k1,k4⟩:=hzero g κ n1 n2
      have:=I.inj b 0 β β' g ‹_› ⟨_,hH0,by simp⟩ hb k1 hg k4
      omega
   ·rintro g (hg | ⟨b,β,_,_,hb,hg⟩)
    ·exact I.imb g hg
    ·exact I.bnd b β g hb hg
   ·intro k B hB
    cases k with
    | succ k=>simp at hB
    | zero =>
     simp at hB
     subst hB
     obtain⟨β',k1,k2,k3,g,ca,k4,k5,k6,k7,k8⟩:=I.blk 0 _ hH0
     obtain⟨β,m1,m2,m3,g2,ca2,m4,m5,m6,m7,m8⟩:=hpre 0 _ rfl
     have hg:g=g2:=by
      rcases I.own 0 β' g k1 k4 with⟨_,h⟩ | ⟨b,κ,n1,n2⟩
      ·omega
      ·have:=hlow b κ n1
       subst this
       rw[m1]at n1;cases n1
       rw[m4]at n2;cases n2;rfl
     refine⟨β,m1, ?_⟩
     rw[← hbe]
     obtain⟨f1,f2⟩:=Z4V hcs
     obtain⟨c1,c2⟩:=Z6n hph3
     refine⟨by rw[c1,f1,m2,hlen],m3,g,ca,by rw[m4,hg],k5,by rw[c1,f1];exact k6,k7,fun o y u hy hu=>?_⟩
     obtain⟨z,z1,z2⟩:=c2 o y hy
     obtain⟨z',e1,e2⟩:=f2 o z z1
     have hz:=Z78 I (k8 o z' u e1 hu) e2
     have hz':Rel ρ w' (ImL Im' ρ' q.s.H) z u:=hz.mono (Ext.refl _ _) (fun _ h=>h) (fun b β h=>by cases h) (fun b β g h=>by cases h)
     rcases z2 with rfl | ⟨r,rfl,hr⟩
     ·exact hz'
     ·exact Z9Z hz' hr
   ·have hz:=ZhZ I h2 hx
    have hz':Rel ρ w' (ImL Im' ρ' q.s.H) x v:=hz.mono (Ext.refl _ _) (fun _ h=>h) (fun b β h=>by cases h) (fun b β g h=>by cases h)
    have:=Zec (r:=res) hz' hph2
    rwa [hxe]at this
  cases hqe:q.e with
  | nrm=>exact post
  | ret=>exact post
  | ext n=>exact absurd hqe (hne n)
theorem Fp{hs:List (Nat×List Hint)}{cs:List (Nat×Tg×Ex×Tg)}{φ:Prop}(n:Nat){P:Program}{f:Nat}{args:List AV}{pre:List Blk}{res:AV}{post:List Blk}(h:LentSpec P f args pre res post)(r:Fq hs cs φ):Fq ((n,[.lent res post])::hs) cs (LentSpec P f args pre res post∧φ):=⟨h,r.p⟩
theorem lF{hs:List (Nat×List Hint)}{cs:List (Nat×Tg×Ex×Tg)}{φ0:Prop}{P:Program}{f:Nat}{fn:Func}{args:List AV}{pre:Blk}{res:AV}{post:Blk}
  (hf:P.funcs[f]? = some fn) (fl:List Bool) (h:Fq hs cs φ0) (h1:oblF fl (runL P hs cs fn args pre res post)=φ0:=by kernel_rfl) (h2:lefE fl (runL P hs cs fn args pre res post)=rigE fl (runL P hs cs fn args pre res post):=by kernel_rfl):LentSpec P f args [pre] res [post] :=
 lent_of hs cs hf fl (oblF_E (Eq.mpr h1 h.p)) rfl h2
theorem lE{P:Program}{f:Nat}{fn:Func}{args:List AV}{pre:Blk}{res:AV}{post:Blk}(hints:List (Nat×List Hint))(cuts:List (Nat×Tg×Ex×Tg))
  (hf:P.funcs[f]? = some fn) (fl:List Bool) {φ:Prop} (hφ:φ) (h1:oblE fl (runL P hints cuts fn args pre res post)=φ:=by kernel_rfl) (h2:lefE fl (runL P hints cuts fn args pre res post)=rigE fl (runL P hints cuts fn args pre res post):=by kernel_rfl):LentSpec P f args [pre] res [post] :=
 lent_of hints cuts hf fl hφ h1 h2
theorem Zj1{P:Program}{f:Nat}{e0 e1:List DV}{t0 t1:Nat}{x:Value}(hx:x.oneCell'=true)(h:GSpec P f [.rp e0 0,.rp e1 0] true (.d (.sc x)) []) :
  LentSpec P f [.pt 0 0 0,.pt 1 0 0] [.box t0 (e0.map .d),.box t1 (e1.map .d)] (.d (.sc x)) [.box t0 (e0.map .d),.box t1 (e1.map .d)]:=by
 intro w Im ρ vs hIm hsz hρ hinj hbnd hpre hargs
 have box:∀ (k:Nat) (e:List DV) (t:Nat) (v:Value) (Im2:Nat→Prop),(∀ g,Im g→Im2 g)→(∀ β g,ρ k=some β→β.g=some g→Im2 g)→(∃ β,ρ k=some β∧RelB ρ w Im β (.box t (e.map .d)))→Rel ρ w Im (.pt k 0 0) v→Rel (fun _=>none) w Im2 (.rp e 0) v:=by
  intro k e t v Im2 hi hg hb hv
  obtain⟨β,hβ,r⟩:=hb
  obtain⟨g,s,n,k1,rfl⟩:=Z2K hv
  rw[hβ]at k1
  cases k1
  obtain⟨r1,r2,g2,cs,r3,r4,r5,r6,r7⟩:=r
  cases r3
  have:=@Rel.rp (fun _=>none) w Im2 e 0 ⟨g,0,none⟩ rfl (hg _ _ hβ rfl) (fun j y hy=>by
   have hj:j<e.length:=(List.getElem?_eq_some_iff.1 hy).1
   have hc:j<cs.size:=by rw[r5];simpa using hj
   have h1:cs[j]? = some cs[j]:=Array.getElem?_eq_getElem hc
   have h2:=r7 j (.d y) cs[j] (by simp[hy]) h1
   refine⟨cs[j], ?_, ?_⟩
   ·simp only[World.cell?,r4]
    simpa using h1
   ·cases h2 with
    | d h2=>exact h2.mono (Ext.refl _ _) hi)
  simpa using this
 refine(h w (fun g=>Im g∨∃ k β,ρ k=some β∧β.g=some g) vs ?_ hsz ?_).mono ?_
 ·rintro g (hg | ⟨k,β,h1,h2⟩)
  ·exact hIm g hg
  ·exact(hbnd k β g h1 h2).1
 ·intro i y v hy hv
  cases i with
  | zero =>
   simp at hy;subst hy
   exact box 0 e0 t0 v _ (fun g hg=>.inl hg) (fun β g h1 h2=>.inr ⟨0,β,h1,h2⟩) (hpre 0 _ rfl) (hargs 0 _ v rfl hv)
  | succ i=>cases i with
   | zero =>
    simp at hy;subst hy
    exact box 1 e1 t1 v _ (fun g hg=>.inl hg) (fun β g h1 h2=>.inr ⟨1,β,h1,h2⟩) (hpre 1 _ rfl) (hargs 1 _ v rfl hv)
   | succ i=>simp at hy
 ·rintro e w' ⟨v,rfl,hk,ρ',Im',_,_,_,_,_,_,hr⟩
  have hv:=Z0D hr
  subst hv
  have ext:Ext Im w w':=⟨hk.size,fun g hg=>hk.block g (hIm g hg) (fun q=>q),hk.rows⟩
  refine⟨_,rfl,⟨hk.os,hk.tape,hk.output,hk.size,fun k h1 _=>hk.block k h1 (fun q=>q),hk.rows⟩,Im,fun g hg=>.inl hg,fun g hg=>Nat.lt_of_lt_of_le (hIm g hg) hk.size, ?_,.d (.sc _ hx)⟩
  intro k B hB
  obtain⟨β,b1,b2⟩:=hpre k B hB
  exact⟨β,b1,b2.mono ext (fun _ h=>h) (fun _ _ h=>h) (fun b β g h1 h2=>(hbnd b β g h1 h2).1) (fun g hg=>hk.block g (hbnd k β g b1 hg).1 (fun q=>q))⟩
end Go.Sx
