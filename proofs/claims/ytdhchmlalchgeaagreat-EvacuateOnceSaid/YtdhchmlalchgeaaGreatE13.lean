/-
 The statement EvacuateOnce: part 13.
 Conditions: none.
-/
import Derived.RangeFuncFrom
import Derived.RangeFuncLeaves
import Derived.Test.YtdhchmlalchgeaaGreatE12
set_option maxRecDepth 100000
set_option maxHeartbeats 2000000
set_option linter.all false
namespace Go.Sx
open Go.RowKit
theorem Zdf{P:Program}{clk:Nat}{ops:Array Oper}{hints:List (Nat×List Hint)}{o:Oper}{t:List AV}{H:Heap}{x:Out}(h:Z9c P clk ops hints o t H=some x):∀ c,o.op≠.defer c:=by
 intro c hc;unfold Z9c Z2F Z2z act at h;rw[hc]at h;simp only at h;split at h
 ·rename_i k hk;split at hk
  ·cases hk
  ·split at hk
   ·split at hk
    ·cases hk
    ·cases hk
   ·split at hk
    ·cases hk
    ·split at hk
     ·cases hk
     ·cases hk
 ·cases h
def fen(ro:Option Nat):Fence := { Fence.wide with round:=ro }
theorem Z3a{P:Program}{ro:Option Nat}{n:Nat}{o:Oper}{a:Act}{w:World}{next:Act→World→Prop}{Q:Exit→Act→World→Prop}(hd:∀ c,o.op≠.defer c)(h:o.wp P a w next Q):o.wpIn (fen ro) n P a w next Q:=by
 refine⟨fun _ _=>trivial, ?_⟩;rw[Oper.semAt_eq _ _ _ hd];unfold Oper.wp at h;generalize (execOp a.eval o).run P w=r at h ⊢;cases r with
 | ok x w' =>
  cases x with
  | value v=>exact h
  | skip=>exact h
  | defer d=>exact h
  | enter f args=>exact⟨fun h=>(by cases h),callsIn_wide.2 h⟩
  | row s args=>exact⟨fun h=>(by cases h),fun c cs _=>let ⟨v,w2,q,r⟩:=h c cs;⟨v,w2,q,stepsIn_wide.2 r⟩⟩
  | _=>exact h.elim
 | halt e w' =>
  cases e with
  | panic v=>exact h
  | _=>exact h.elim
theorem Z3H{P:Program}{Ow:Own}{Im0:Nat→Prop}{w0:World}{clk:Nat}{hints:List (Nat×List Hint)}{ops:Array Oper}{Q:Exit→Act→World→Prop}{ro:Option Nat}{n:Nat}{l2:List Nat}:∀ {l:List Nat} {tmps:List AV} {H:Heap} {a:Act} {w:World} {out:Out},
  Z6J P clk ops hints l tmps H=some out→Sys Ow Im0 w0 tmps H clk a w→allP out.ph→EqP out.eq→(∀ a' w',Sys Ow Im0 w0 out.tmps out.H clk a' w'→wpOpsIn (fen ro) n P ops Q l2 a' w')→wpOpsIn (fen ro) n P ops Q (l++l2) a w
 | [],tmps,H,a,w,out,h,hS,_,_,hQ=>by
  simp only[Z6J,Option.some.injEq]at h;subst h;exact hQ a w hS
 | i::l,tmps,H,a,w,out,h,hS,hph,heq,hQ=>by
  simp only[Z6J]at h;split at h
  ·cases h
  rename_i o ho;split at h
  ·cases h
  rename_i x hx;split at h
  ·cases h
  rename_i y hy;cases h;obtain⟨p1,p2⟩:=allP_append.1 hph;have key:=Z8y (next:=wpOpsIn (fen ro) n P ops Q (l++l2)) (Q:=Q) hx hS p1 heq.left fun a' w' hS'=>Z3H hy hS' p2 heq.right hQ;simp only[List.cons_append,wpOpsIn,ho];split
  ·exact Z3a (Zdf hx) (key.1 aa)
  ·rename_i hw;exact⟨fun _ _=>trivial,key.2 ((Bool.not_eq_true _).mp hw)⟩
theorem Z6Q{P:Program}{Ow:Own}{Im0:Nat→Prop}{w0:World}{clk:Nat}{hints:List (Nat×List Hint)}{ops:Array Oper}{Q:Exit→Act→World→Prop}{ro:Option Nat}{n:Nat}{l:List Nat}{tmps:List AV}{H:Heap}{a:Act}{w:World}{out:Out}
  (h:Z6J P clk ops hints l tmps H=some out) (hS:Sys Ow Im0 w0 tmps H clk a w) (hph:allP out.ph) (heq:EqP out.eq) (hQ:∀ a' w',Sys Ow Im0 w0 out.tmps out.H clk a' w'→Q .normal a' w'):wpOpsIn (fen ro) n P ops Q l a w:=by
 have:=Z3H (ro:=ro) (n:=n) (Q:=Q) (l2:=[]) h hS hph heq hQ;rwa [List.append_nil]at this
def Zc5:Code→Bool
 | .skip=>true
 | .region _ _ d=>!d
 | .seq x y=>Zc5 x&&Zc5 y
 | .cond _ x y=>Zc5 x&&Zc5 y
 | .block _ c=>Zc5 c
 | .exit _=>true
 | .ret=>true
 | _=>false
def CIn(P:Program)(c:Code)(s:St)(e:Ex)(t:St):Prop :=
 ∀ (ro:Option Nat) (n:Nat) (Ow:Own) (Im0:Nat→Prop) (w0:World) (a:Act) (w:World),Sys Ow Im0 w0 s.tmps s.H s.clk a w→c.wpIn (fen ro) n P (fun e' a' w'=>e'=e.exit∧Sys Ow Im0 w0 t.tmps t.H t.clk a' w') a w
theorem Zo4{P:Program}{hints:List (Nat×List Hint)}:∀ {c:Code} {s:St} {r:Run},Zc5 c=true→runC P hints [] c s=some r→allP r.ph→EqP r.eq→CIn P c s r.e r.s:=by
 intro c;induction c with
 | skip=>intro s r _ h _ _ ro n Ow Im0 w0 a w hS;simp only[runC,Option.some.injEq]at h;subst h;exact wpIn_skip ⟨rfl,hS⟩
 | region m ops dr =>
  intro s r hf h hph heq ro n Ow Im0 w0 a w hS;cases dr with
  | true=>cases hf
  | false =>
   simp only[runC]at h;split at h;rotate_left
   ·cases h
   rename_i x hx;cases h;exact wpIn_region (Z6Q hx hS hph heq fun a' w' hS'=>⟨rfl,hS'.clk pq⟩)
 | seq x y ihx ihy =>
  intro s r hf h hph heq ro n Ow Im0 w0 a w hS;simp only[Zc5,Bool.and_eq_true]at hf;simp only[runC]at h;split at h
  ·cases h
  rename_i q hq;split at h
  ·rename_i he;split at h;rotate_left
   ·cases h
   rename_i q2 hq2;cases h;obtain⟨p1,p2⟩:=allP_append.1 hph;refine wpIn_seq (wpIn_mono (ihx hf.1 hq p1 heq.left ro n Ow Im0 w0 a w hS) ?_);rintro e a' w' ⟨rfl,hS'⟩;rw[he];exact ihy hf.2 hq2 p2 heq.right ro n Ow Im0 w0 a' w' hS'
  ·rename_i he;cases h;refine wpIn_seq (wpIn_mono (ihx hf.1 hq hph heq ro n Ow Im0 w0 a w hS) ?_);rintro e a' w' ⟨rfl,hS'⟩;cases hqe:q.e with
   | nrm=>exact absurd hqe he
   | ext n=>exact⟨rfl,hS'⟩
   | ret=>exact⟨rfl,hS'⟩
 | cond c x y ihx ihy =>
  intro s r hf h hph heq ro n Ow Im0 w0 a w hS;simp only[Zc5,Bool.and_eq_true]at hf;simp only[runC]at h;split at h
  ·cases h
  rename_i b hb;have hv:a.eval c = .bool b:=by
   obtain⟨ρ,Im,I,T⟩:=hS;have:=Z1x T c;rw[Z8k hb]at this;exact Z10 this
  split at h
  ·split at h;rotate_left
   ·cases h
   rename_i q hq;cases h;obtain⟨p1,p2⟩:=allP_cons.1 hph;exact wpIn_cond_true (by rw[hv,p1]) (ihx hf.1 hq p2 heq ro n Ow Im0 w0 a w hS)
  ·split at h;rotate_left
   ·cases h
   rename_i q hq;cases h;obtain⟨p1,p2⟩:=allP_cons.1 hph;exact wpIn_cond_false (by rw[hv,p1]) (ihy hf.2 hq p2 heq ro n Ow Im0 w0 a w hS)
  ·split at h
   ·exact wpIn_cond_true hv (ihx hf.1 h hph heq ro n Ow Im0 w0 a w hS)
   ·exact wpIn_cond_false hv (ihy hf.2 h hph heq ro n Ow Im0 w0 a w hS)
 | block m c ih =>
  intro s r hf h hph heq ro n Ow Im0 w0 a w hS;simp only[runC,Zjh]at h;split at h
  ·cases h
  rename_i q hq;refine wpIn_block ?_;split at h
  ·rename_i k hm;split at h
   ·rename_i hmn;cases h;refine wpIn_mono (ih hf hq hph heq ro n Ow Im0 w0 a w hS) ?_;rintro e a' w' ⟨rfl,hS'⟩;rw[hm];simp only[Ex.exit,Exit.inBlock,hmn,if_true];exact⟨by trivial,hS'⟩
   ·rename_i hmn;cases h;refine wpIn_mono (ih hf hq hph heq ro n Ow Im0 w0 a w hS) ?_;rintro e a' w' ⟨rfl,hS'⟩;rw[hm];simp only[Ex.exit,Exit.inBlock,hmn,if_false];exact⟨by trivial,hS'⟩
  ·rename_i hne;cases h;refine wpIn_mono (ih hf hq hph heq ro n Ow Im0 w0 a w hS) ?_;rintro e a' w' ⟨rfl,hS'⟩;cases hqe:r.e with
   | nrm=>exact⟨rfl,hS'⟩
   | ext k=>exact absurd hqe (hne k)
   | ret=>exact⟨rfl,hS'⟩
 | exit n=>intro s r _ h _ _ ro n Ow Im0 w0 a w hS;simp only[runC,Option.some.injEq]at h;subst h;exact wpIn_exit ⟨rfl,hS⟩
 | ret=>intro s r _ h _ _ ro n Ow Im0 w0 a w hS;simp only[runC,Option.some.injEq]at h;subst h;exact wpIn_ret ⟨rfl,hS⟩
 | _=>intro s r hf;cases hf
theorem Zbm{P:Program}(hints:List (Nat×List Hint))(ren:List (Nat×Nat))(fl:List Bool){c:Code}{s:St}{e:Ex}{t:Tg}{φ:Prop}(hφ:φ)
  (h1:oblE fl (runToR P hints [] ren c s t)=φ) (h2:lefE fl (runToR P hints [] ren c s t)=rigE fl (runToR P hints [] ren c s t)) (h3:exO (runToR P hints [] ren c s t)=some e) (hfl:Zc5 c=true):CIn P c s e t.st:=by
 rw[← h1]at hφ;obtain⟨k1,k2⟩:=Z5g hφ h2;cases hr:runToR P hints [] ren c s t with
 | none=>rw[hr]at k1;exact k1.elim
 | some r =>
  rw[hr]at k1 k2 h3;have heq:EqP r.eq:=Z8R k2;have he:r.e=e:=by simpa[exO]using h3
  unfold runToR at hr;split at hr
  ·cases hr
  rename_i q hq;split at hr
  ·cases hr
  rename_i s' hs';split at hr;rotate_left
  ·cases hr
  rename_i l hl;cases hr;intro ro n Ow Im0 w0 a w hS;refine wpIn_mono (Zo4 hfl hq k1 heq.left ro n Ow Im0 w0 a w hS) ?_;rintro e' a' w' ⟨rfl,hS'⟩;exact⟨by rw[← he],ZgG hl heq.right (Zbs hs' hS')⟩
def hasR(k:Nat):Code→Bool
 | .region n _ _=>Nat.beq n k
 | .seq x y=>hasR k x||hasR k y
 | .cond _ x y=>hasR k x||hasR k y
 | .block _ c=>hasR k c
 | .loop c=>hasR k c
 | _=>false
def cutAt(k:Nat):Code→Code
 | .region _ _ _=>.exit 99999
 | .seq x y=>match hasR k x with
  | true=>cutAt k x
  | false=>.seq x (cutAt k y)
 | .cond c x y=>match hasR k x with
  | true=>.cond c (cutAt k x) .skip
  | false=>.cond c .skip (cutAt k y)
 | .block n c=>.block n (cutAt k c)
 | c=>c
def noX:Code→Bool
 | .seq x y=>noX x&&noX y
 | .cond _ x y=>noX x&&noX y
 | .block _ c=>noX c
 | .exit n=>!Nat.beq n 99999
 | _=>true
def okH(k:Nat):Code→Bool
 | .region n _ _=>Nat.beq n k
 | .seq x y=>match hasR k x with
  | true=>okH k x
  | false=>noX x&&okH k y
 | .cond _ x y=>match hasR k x with
  | true=>okH k x
  | false=>okH k y
 | .block n c=>!Nat.beq n 99999&&okH k c
 | _=>false
def rest(P:Program)(n k:Nat):Code→(Exit→Act→World→Prop)→Act→World→Prop
 | .seq x y,Q=>match hasR k x with
  | true=>rest P n k x (Exit.then (y.wpIn Fence.wide n P Q) Q)
  | false=>rest P n k y Q
 | .cond _ x y,Q=>match hasR k x with
  | true=>rest P n k x Q
  | false=>rest P n k y Q
 | .block m c,Q=>rest P n k c (Exit.inBlock m Q)
 | c,Q=>c.wpIn Fence.wide n P Q
theorem Zon{P:Program}{hints:List (Nat×List Hint)}:∀ {c:Code} {s:St} {r:Run},noX c=true→runC P hints [] c s=some r→r.e≠.ext 99999:=by
 intro c;induction c with
 | region m ops dr =>
  intro s r _ h;simp only[runC]at h;split at h
  ·cases h;simp
  ·cases h
 | seq x y ihx ihy =>
  intro s r hf h;simp only[noX,Bool.and_eq_true]at hf;simp only[runC]at h;split at h
  ·cases h
  rename_i q hq;split at h
  ·split at h;rotate_left
   ·cases h
   rename_i q2 hq2;cases h;have:=ihy hf.2 hq2;exact this
  ·cases h;exact ihx hf.1 hq
 | cond c x y ihx ihy =>
  intro s r hf h;simp only[noX,Bool.and_eq_true]at hf;simp only[runC]at h;split at h
  ·cases h
  split at h
  ·split at h;rotate_left
   ·cases h
   rename_i q hq;cases h;have:=ihx hf.1 hq;exact this
  ·split at h;rotate_left
   ·cases h
   rename_i q hq;cases h;have:=ihy hf.2 hq;exact this
  ·split at h
   ·exact ihx hf.1 h
   ·exact ihy hf.2 h
 | block m c ih =>
  intro s r hf h;simp only[runC,Zjh]at h;split at h
  ·cases h
  rename_i q hq;have:=ih hf hq;split at h
  ·split at h
   ·cases h;simp
   ·cases h;exact this
  ·cases h;exact this
 | exit n =>
  intro s r hf h;simp only[runC,Option.some.injEq]at h;subst h;intro e;cases e;cases hf
 | skip=>intro s r _ h;simp only[runC,Option.some.injEq]at h;subst h;simp
 | label n=>intro s r _ h;simp only[runC,Option.some.injEq]at h;subst h;simp
 | ret=>intro s r _ h;simp only[runC,Option.some.injEq]at h;subst h;simp
 | _=>intro s r _ h;simp[runC]at h
theorem ZoJ{P:Program}{hints:List (Nat×List Hint)}{k n:Nat}:∀ {c:Code} {s:St} {r:Run},okH k c=true→runC P hints [] (cutAt k c) s=some r→allP r.ph→EqP r.eq→r.e = .ext 99999 →
  ∀ (Q:Exit→Act→World→Prop) (Ow:Own) (Im0:Nat→Prop) (w0:World) (a:Act) (w:World),Sys Ow Im0 w0 s.tmps s.H s.clk a w→(∀ a' w',Sys Ow Im0 w0 r.s.tmps r.s.H r.s.clk a' w'→rest P n k c Q a' w')→c.wpIn Fence.wide n P Q a w:=by
 intro c;induction c with
 | region m ops dr =>
  intro s r _ h _ _ _ Q Ow Im0 w0 a w hS hr;simp only[cutAt,runC,Option.some.injEq]at h;subst h;exact hr a w hS
 | seq x y ihx ihy =>
  intro s r hf h hph heq he Q Ow Im0 w0 a w hS hr;simp only[okH]at hf;simp only[cutAt]at h;simp only[rest]at hr;cases hx:hasR k x with
  | true =>
   rw[hx]at hf h hr;exact wpIn_seq (ihx hf h hph heq he _ Ow Im0 w0 a w hS hr)
  | false =>
   rw[hx]at hf h hr;simp only[Bool.and_eq_true]at hf;simp only[runC]at h;split at h
   ·cases h
   rename_i q hq;split at h
   ·rename_i hqe;split at h;rotate_left
    ·cases h
    rename_i q2 hq2;cases h;obtain⟨p1,p2⟩:=allP_append.1 hph;refine wpIn_seq (wpIn_mono (wpIn_wide.2 (Z9N hq p1 heq.left Ow Im0 w0 a w hS)) ?_);rintro e a' w' ⟨rfl,hS'⟩;rw[hqe];exact ihy hf.2 hq2 p2 heq.right he Q Ow Im0 w0 a' w' hS' hr
   ·cases h;exact absurd he (Zon hf.1 hq)
 | cond c x y ihx ihy =>
  intro s r hf h hph heq he Q Ow Im0 w0 a w hS hr;simp only[okH]at hf;simp only[cutAt]at h;simp only[rest]at hr;have hv:∀ {b:Bool},asB (ev s.tmps c)=some b→a.eval c = .bool b:=fun hb=>by
   obtain⟨ρ,Im,I,T⟩:=hS;have:=Z1x T c;rw[Z8k hb]at this;exact Z10 this
  cases hx:hasR k x with
  | true =>
   rw[hx]at hf h hr;simp only[runC]at h;split at h
   ·cases h
   rename_i b hb;split at h
   ·split at h;rotate_left
    ·cases h
    rename_i q hq;cases h;obtain⟨p1,p2⟩:=allP_cons.1 hph;exact wpIn_cond_true (by rw[hv hb,p1]) (ihx hf hq p2 heq he Q Ow Im0 w0 a w hS hr)
   ·cases h;cases he
   ·split at h
    ·exact wpIn_cond_true (hv hb) (ihx hf h hph heq he Q Ow Im0 w0 a w hS hr)
    ·cases h;cases he
  | false =>
   rw[hx]at hf h hr;simp only[runC]at h;split at h
   ·cases h
   rename_i b hb;split at h
   ·cases h;cases he
   ·split at h;rotate_left
    ·cases h
    rename_i q hq;cases h;obtain⟨p1,p2⟩:=allP_cons.1 hph;exact wpIn_cond_false (by rw[hv hb,p1]) (ihy hf hq p2 heq he Q Ow Im0 w0 a w hS hr)
   ·split at h
    ·cases h;cases he
    ·exact wpIn_cond_false (hv hb) (ihy hf h hph heq he Q Ow Im0 w0 a w hS hr)
 | block m c ih =>
  intro s r hf h hph heq he Q Ow Im0 w0 a w hS hr;simp only[okH,Bool.and_eq_true]at hf;simp only[cutAt,runC,Zjh]at h;simp only[rest]at hr;split at h
  ·cases h
  rename_i q hq;refine wpIn_block ?_;split at h
  ·split at h
   ·cases h;cases he
   ·cases h;exact ih hf.2 hq hph heq he _ Ow Im0 w0 a w hS hr
  ·cases h;exact ih hf.2 hq hph heq he _ Ow Im0 w0 a w hS hr
 | _=>intro s r hf;cases hf
def Ze5(P:Program)(k:Nat)(c:Code)(s t:St):Prop :=
 ∀ (n:Nat) (Q:Exit→Act→World→Prop) (Ow:Own) (Im0:Nat→Prop) (w0:World) (a:Act) (w:World),Sys Ow Im0 w0 s.tmps s.H s.clk a w→(∀ a' w',Sys Ow Im0 w0 t.tmps t.H t.clk a' w'→rest P n k c Q a' w')→c.wpIn Fence.wide n P Q a w
theorem Z5A{P:Program}(hints:List (Nat×List Hint))(ren:List (Nat×Nat))(fl:List Bool){k:Nat}{c:Code}{s:St}{t:Tg}{φ:Prop}(hφ:φ)
  (h1:oblE fl (runToR P hints [] ren (cutAt k c) s t)=φ) (h2:lefE fl (runToR P hints [] ren (cutAt k c) s t)=rigE fl (runToR P hints [] ren (cutAt k c) s t)) (h3:exO (runToR P hints [] ren (cutAt k c) s t)=some (.ext 99999)) (hfl:okH k c=true):Ze5 P k c s t.st:=by
 rw[← h1]at hφ;obtain⟨k1,k2⟩:=Z5g hφ h2;cases hr:runToR P hints [] ren (cutAt k c) s t with
 | none=>rw[hr]at k1;exact k1.elim
 | some r =>
  rw[hr]at k1 k2 h3;have heq:EqP r.eq:=Z8R k2;have he:r.e = .ext 99999:=by simpa[exO]using h3
  unfold runToR at hr;split at hr
  ·cases hr
  rename_i q hq;split at hr
  ·cases hr
  rename_i s' hs';split at hr;rotate_left
  ·cases hr
  rename_i l hl;cases hr;intro n Q Ow Im0 w0 a w hS hrr;exact ZoJ hfl hq k1 heq.left he Q Ow Im0 w0 a w hS fun a' w' hS'=>hrr a' w' (ZgG hl heq.right (Zbs hs' hS'))
def ZcF(k:Nat):Code→Option (Array Oper)
 | .region n ops _=>match Nat.beq n k with
  | true=>some ops
  | false=>none
 | .seq x y=>match ZcF k x with
  | some o=>some o
  | none=>ZcF k y
 | .cond _ x y=>match ZcF k x with
  | some o=>some o
  | none=>ZcF k y
 | .block _ c=>ZcF k c
 | .loop c=>ZcF k c
 | _=>none
def rgO(fn:Func)(k:Nat):Array Oper:=match fn.body with
 | some c=>match ZcF k c with
  | some o=>o
  | none => #[]
 | none => #[]
theorem Zpg{s:St}{t:Tg}(h1:(wk s t).isSome=true)(h2:((wk s t).getD []).map (·.1)=((wk s t).getD []).map (·.2)){Ow:Own}{Im0:Nat→Prop}{w0:World}{a:Act}{w:World}(S:Sys Ow Im0 w0 s.tmps s.H s.clk a w):Sys Ow Im0 w0 t.st.tmps t.st.H t.st.clk a w:=by
 cases h:wk s t with
 | none=>rw[h]at h1;cases h1
 | some l=>rw[h]at h2;exact ZgG h (Z8R h2) S
theorem Z6s{ρ:Rho}{w:World}{Im Im2:Nat→Prop}{k t:Nat}{e:List DV}{v:Value}{β:Bi}(hβ:ρ k=some β)(r:RelB ρ w Im β (.box t (e.map .d)))(hv:Rel ρ w Im (.pt k 0 0) v)(hi:∀ g,Im g→Im2 g)(hg:∀ g,β.g=some g→Im2 g):Rel (fun _=>none) w Im2 (.rp e 0) v:=by
 obtain⟨g,s,n,k1,rfl⟩:=Z2J hv;rw[hβ]at k1;cases k1;obtain⟨r1,r2,g2,cs,r3,r4,r5,r6,r7⟩:=r;cases r3;have:=@Rel.rp (fun _=>none) w Im2 e 0 ⟨g,0,none⟩ rfl (hg _ rfl) (fun j y hy=>by
  have hj:j<e.length:=(List.getElem?_eq_some_iff.1 hy).1;have hc:j<cs.size:=by rw[r5];simpa using hj
  have h1:cs[j]? = some cs[j]:=Array.getElem?_eq_getElem hc;have h2:=r7 j (.d y) cs[j] (by simp[hy]) h1;refine⟨cs[j], ?_, ?_⟩
  ·simp only[World.cell?,r4];simpa using h1
  ·cases h2 with
   | d h2=>exact h2.mono (Ext.refl _ _) hi)
 simpa using this
theorem Kept.no{w0 w:World}(h:Kept (OwA Z4g) w0 w):Kept (fun _=>False) w0 w:=h.imp fun _ q=>q.no
theorem Inv.empty{w:World}{Im:Nat→Prop}{clk:Nat}(hI:∀ g,Im g→g<w.heap.size)(hc:1≤clk):Inv Z4g Im w (fun _=>none) w Im (hOf []) clk:=by
 refine⟨Kept.refl _ _, ?_, ?_, ?_, ?_,hI,fun _ h=>.inl h, ?_,fun _ _ _=>rfl,hc,fun b β _ h=>nomatch h⟩
 ·intro b b' β β' g _ _ h;cases h
 ·intro b β g _ h;cases h
 ·intro b β g h;cases h
 ·intro b β g h;cases h
 ·intro b B h;cases h
theorem RelT.reSet{ρ:Rho}{w:World}{Im:Nat→Prop}{tmps:List AV}{a:Act}(T:RelT ρ w Im tmps a)(t:Nat)(y:AV)(h:∀ v,a.tmps[t]? = some v→Rel ρ w Im y v):RelT ρ w Im (tmps.set t y) a:=by
 refine⟨by simp[T.size],fun i x v h1 h2=>?_,T.defers⟩;rw[List.getElem?_set]at h1;by_cases hi:t=i
 ·subst hi;simp only[if_true]at h1;split at h1
  ·cases h1;exact h v h2
  ·cases h1
 ·simp only[hi,if_false]at h1;exact T.tmp i x v h1 h2
theorem RelT.pure{ρ:Rho}{w:World}{Im:Nat→Prop}{tmps:List AV}{a:Act}(T:RelT ρ w Im tmps a)(h:tmps.all (Zid [])=true):RelT (fun _=>none) w Im tmps a :=
 ⟨T.size,fun i x v h1 h2=>ZcK (ids:=[]) (fun b hb=>by simp at hb) (T.tmp i x v h1 h2) (List.all_eq_true.1 h _ (List.mem_of_getElem? h1)),T.defers⟩
theorem Zg5{P:Program}{n l:Nat}{o:Oper}{f x y:Operand}{ts:Array Nat}{a:Act}{w:World}{next:Act→World→Prop}{Q:Exit→Act→World→Prop}{args:Array Value}{R:Ending→World→Prop}(ho:o.op = .call ⟨.value f,#[x,y],ts⟩)
  (hf:a.eval f = .func (.yield l) #[] #[]) (hx : #[a.eval x,a.eval y]=args) (hY:YieldAt Fence.wide n P l args w R) (hn:∀ e w',R e w'→∃ v,e = .returned v∧next (a.put o.dst v) w'):o.wpIn Fence.wide (n+1) P a w next Q:=by
 obtain⟨fn,t,s,b,h1,h2⟩:=hY;refine⟨fun _ _=>trivial, ?_⟩;have hrun:(o.semAt Fence.wide.round a.eval).run P w = .ok (.round l fn t s b) w:=by
  rw[show Fence.wide.round=none from rfl,Oper.semAt_none];simp[execOp,ho,resolve,hf,Deferred.ofValue,invoke,hx,h1]
 rw[hrun,Oper.uponIn_round];refine⟨fun h=>(by cases h),h2.mono ?_⟩;rintro e w' hR;obtain⟨v,rfl,hv⟩:=hn e w' hR;exact hv
end Go.Sx
namespace Go.Proofs.YtdhchmlalchgeaaGreat
open Go.Sx
structure Found where
 addr:Int
 hd:Header
 deriving DecidableEq,Inhabited
def Found.dv(f:Found):List DV:=[.sc (.int .u64 f.addr),.sc (.int .i64 f.hd.K),.sc (.int .i64 f.hd.length),.sc (.int .u32 f.hd.map)]
def Found.av(f:Found):AV:=.ag [u64 f.addr,int f.hd.K,int f.hd.length,u32 f.hd.map]
def asgF(fn:Func)(n:Nat):Code:=match blkF fn n with
 | .block _ (.rangeFunc _ _ x _)=>x
 | _=>.skip
def bodF(fn:Func)(n:Nat):Code:=match blkF fn n with
 | .block _ (.rangeFunc _ _ _ x)=>x
 | _=>.skip
def lstH(pre:List Found):List (Nat×Blk):=[(8020,.arr 188 4 (pre.map Found.dv)),(6,.box 182 [.ow 8020])]
def lst1(pre:List Found)(x:Found):Tg:=⟨tm 22 [(6,.pt 6 0 0),(12,x.av),(13,int 0)],lstH pre,20⟩
def lst2(pre:List Found)(x:Found):Tg:=⟨tm 22 [(6,.pt 6 0 0),(7,.pt 160007 0 0),(8,int 0)],(160007,.box 188 [u64 x.addr,int x.hd.K,int x.hd.length,u32 x.hd.map])::lstH pre,30⟩
theorem lstA(pre:List Found)(x:Found):CIn Tryz.prog (asgF Tryz.f171 0) (lst1 pre x).st .nrm (lst2 pre x).st:=by
 refine Zbm [] [] [] (φ:=True) ?_ kr kr kr kr;exact trivial
theorem lstB(pre:List Found)(x:Found)(hl:pre.length≤1000):CIn Tryz.prog (bodF Tryz.f171 0) (lst2 pre x).st .nrm (Tg.st ⟨tm 22 [(6,.pt 6 0 0),(20,.ow 8020)],lstH (pre++[x]),60⟩):=by
 refine Zbm [((19:Nat),[Hint.els (List.map Found.dv [x])]),((20:Nat),[Hint.els (List.map Found.dv (pre++[x]))])] [((248020:Nat),(8020:Nat))] [] (φ:=(List.replicate (1:Nat) [du64 (0:Int),dint (0:Int),dint (0:Int),DV.sc (Value.int IntKind.u32 (0:Int))]).set ((0:Nat),Operand.tmp (18:Nat)).fst [du64 x.addr,dint x.hd.K,dint x.hd.length,DV.sc (Value.int IntKind.u32 x.hd.map)]=List.map Found.dv [x]∧(List.map Found.dv pre).length+(List.map Found.dv [x]).length≤(2:Nat)^(30:Nat)∧List.map Found.dv pre++List.map Found.dv [x]=List.map Found.dv (pre++[x])) ?_ kr kr kr kr;exact⟨rfl,(by(simp[*];omega)),(by simp[List.map_take,List.map_drop,List.map_set,List.map_append,wdv,idv])⟩
def Z2b(l:Nat):Value:=.func (.yield l) #[] #[]
def Z1L(h:Heap)(i:Int):Nat→Int→List Found×Bool
 | 0,_=>([],true)
 | f+1,o=>if o<(pg h i).U then(if(address h.C i o).2=0∧(atH h (adr h i o)).2=0 then(⟨adr h i o,(atH h (adr h i o)).1⟩::(Z1L h i f (o+sizeH (atH h (adr h i o)).1)).1,(Z1L h i f (o+sizeH (atH h (adr h i o)).1)).2)else([],false))else([],true)
def bdyF(fn:Func):Code:=match fn.body with
 | some c=>c
 | none=>.skip
def inE(h:Heap)(l:Nat)(i:Int):Tg:=⟨tm 58 [(0,.d (.sc (Z2b l))),(1,.rp h.dvs 0),(2,.rp [dint i] 0)],[],1⟩
def inP(h:Heap)(l:Nat)(i:Int):Tg:=⟨tm 58 [(0,.d (.sc (Z2b l))),(1,.rp h.dvs 0),(2,.rp [dint i] 0),(4,.pt 8004 0 0)],[(8004,.box 84 [int (pg h i).K,int (pg h i).S,int (pg h i).U,int (pg h i).N])],20⟩
theorem Zpm(h:Heap)(l:Nat)(i:Int)(hi:0≤i∧i<h.P.length)(hk:(pg h i).K=1∨(pg h i).K=2):Ze5 Tryz.prog 2 (bdyF Tryz.f205) (inE h l i).st (inP h l i).st:=by
 unfold inP inE pg;unfold pg at hk;refine Z5A [((13:Nat),[Hint.el (h.P.getD i.toNat default).dv]),((22:Nat),[Hint.br false])] [] [] (φ:=((0:Int)≤i∧(List.map Page.dv h.P)[i.toNat]? = some (h.P.getD i.toNat default).dv)∧((h.P.getD i.toNat default).K != (1:Int)&&(h.P.getD i.toNat default).K != (2:Int))=false∧false=false) ?_ kr kr kr kr;exact⟨(by exact elI oq oq oq),(by(simp only[bs];omega)),rfl⟩
theorem ZpI(h:Heap)(l:Nat)(i:Int)(hi:0≤i∧i<h.P.length)(hk:¬ ((pg h i).K=1∨(pg h i).K=2)):CP (bdyF Tryz.f205) (inE h l i).st .ret (Tg.st ⟨tm 58 [],[],20⟩):=by
 unfold inE;unfold pg at hk;exact sF [] [] (Fe 13 Page.dv h.P i (Ftb 22 ((h.P.getD i.toNat default).K != 1&&(h.P.getD i.toNat default).K != 2) Fz))
def inS(h:Heap)(l:Nat)(i o:Int):Tg:=⟨tm 58 [(0,.d (.sc (Z2b l))),(1,.rp h.dvs 0),(2,.rp [dint i] 0),(4,.rp (pg h i).dv 0),(5,int o)],[],20⟩
def inT(h:Heap)(l:Nat)(i o:Int)(a:Int)(hd:Header):Tg:=⟨tm 58 [(0,.d (.sc (Z2b l))),(1,.rp h.dvs 0),(2,.rp [dint i] 0),(4,.rp (pg h i).dv 0),(5,int o),(6,u64 a),(8,.pt 184008 0 0)],[(184008,.box 52 [int hd.K,int hd.length,u32 hd.map])],30⟩
section
variable (h:Heap) (l:Nat) (i o:Int) (hw:WOk h.W) (hp:Z02 h=true) (ho:0≤o∧o≤1000)
include hw hp ho
theorem Zpa(h1:o<(pg h i).U)(h2:(address h.C i o).2=0)(h3:(atH h (adr h i o)).2=0):Ze5 Tryz.prog 9 (rndF Tryz.f205 0) (inS h l i o).st (inT h l i (o+sizeH (atH h (adr h i o)).1) (adr h i o) (atH h (adr h i o)).1).st:=by
 have po:=Z06 hp;have ar:=Z4n po.1 i o;have sz:=Z1a (atH h (adr h i o)).1;have hm:=Z3x hw (adr h i o);unfold adr at ar sz hm h3;refine Z5A [((26:Nat),[Hint.br true]),((32:Nat),[Hint.call true (Z0R h.C i o) []]),((36:Nat),[Hint.br true]),((40:Nat),[Hint.call true (AV.tu [(atH h (address h.C i o).fst).fst.av,int (atH h (address h.C i o).fst).snd]) []]),((44:Nat),[Hint.br true]),((47:Nat),[Hint.call true (int (sizeH (atH h (address h.C i o).fst).fst)) []]),((48:Nat),[Hint.int (o+sizeH (atH h (address h.C i o).fst).fst)])] [] [] (φ:=decide (o<(pg h i).U)=true∧true=true∧GP 177 [h.C.av,int i,int o] true (Z0R h.C i o) []∧((address h.C i o).snd==(0:Int))=true∧true=true∧GP 111 [h.av,u64 (address h.C i o).fst] true (AV.tu [(atH h (address h.C i o).fst).fst.av,int (atH h (address h.C i o).fst).snd]) []∧((atH h (address h.C i o).fst).snd==(0:Int))=true∧true=true∧GP 74 [(atH h (address h.C i o).fst).fst.av] true (int (sizeH (atH h (address h.C i o).fst).fst)) []∧IntKind.i64.wrap (o+sizeH (atH h (address h.C i o).fst).fst)=o+sizeH (atH h (address h.C i o).fst).fst) ?_ kr kr kr kr;exact⟨(by(simp only[bs];omega)),rfl,(@Z3M (h.C) (i) (o)),(by(simp only[bs];omega)),rfl,(@Z3Z (h) ((address h.C i o).fst) aa oq),(by(simp only[bs];omega)),rfl,(@Z0O ((atH h (address h.C i o).fst).fst) aa),(by exact wrapI2 rfl oq oq)⟩
theorem Zp6(h1:o<(pg h i).U)(h2:¬ (address h.C i o).2=0):Ze5 Tryz.prog 10 (rndF Tryz.f205 0) (inS h l i o).st (Tg.st ⟨tm 58 [(0,.d (.sc (Z2b l)))],[],30⟩):=by
 refine Z5A [((26:Nat),[Hint.br true]),((32:Nat),[Hint.call true (Z0R h.C i o) []]),((36:Nat),[Hint.br false])] [] [] (φ:=decide (o<(pg h i).U)=true∧true=true∧GP 177 [h.C.av,int i,int o] true (Z0R h.C i o) []∧((address h.C i o).snd==(0:Int))=false∧false=false) ?_ kr kr kr kr;exact⟨(by(simp only[bs];omega)),rfl,(@Z3M (h.C) (i) (o)),(by(simp only[bs];omega)),rfl⟩
theorem ZpW(h1:o<(pg h i).U)(h2:(address h.C i o).2=0)(h3:¬ (atH h (adr h i o)).2=0):Ze5 Tryz.prog 10 (rndF Tryz.f205 0) (inS h l i o).st (Tg.st ⟨tm 58 [(0,.d (.sc (Z2b l)))],[],30⟩):=by
 have po:=Z06 hp;have ar:=Z4n po.1 i o;unfold adr at ar h3;refine Z5A [((26:Nat),[Hint.br true]),((32:Nat),[Hint.call true (Z0R h.C i o) []]),((36:Nat),[Hint.br true]),((40:Nat),[Hint.call true (AV.tu [(atH h (address h.C i o).fst).fst.av,int (atH h (address h.C i o).fst).snd]) []]),((44:Nat),[Hint.br false])] [] [] (φ:=decide (o<(pg h i).U)=true∧true=true∧GP 177 [h.C.av,int i,int o] true (Z0R h.C i o) []∧((address h.C i o).snd==(0:Int))=true∧true=true∧GP 111 [h.av,u64 (address h.C i o).fst] true (AV.tu [(atH h (address h.C i o).fst).fst.av,int (atH h (address h.C i o).fst).snd]) []∧((atH h (address h.C i o).fst).snd==(0:Int))=false∧false=false) ?_ kr kr kr kr;exact⟨(by(simp only[bs];omega)),rfl,(@Z3M (h.C) (i) (o)),(by(simp only[bs];omega)),rfl,(@Z3Z (h) ((address h.C i o).fst) aa oq),(by(simp only[bs];omega)),rfl⟩
omit hw hp ho in
theorem Zq6(h1:(pg h i).U≤o):CP (rndF Tryz.f205 0) (inS h l i o).st (.ext 0) (Tg.st ⟨tm 58 [],[],30⟩):=by
 exact sF [] [] (Ffb 26 (decide (o<(pg h i).U)) Fz)
end
end Go.Proofs.YtdhchmlalchgeaaGreat
namespace Go.Proofs.YtdhchmlalchgeaaGreat
open Go.Sx Go.RowKit
def flt1(ids bids:List Nat):AV→Bool
 | .pt b _ _=>memN b bids
 | .ow b=>memN b ids
 | .d (.sc _)=>true
 | .any=>true
 | _=>false
def fltB(ids bids:List Nat):Blk→Bool
 | .box _ l=>l.all (flt1 ids bids)
 | .arr .. => true
 | .dead=>false
def Z4I:List (Nat×Blk)→List Nat
 | []=>[]
 | (b,.box ..)::l=>b::Z4I l
 | _::l=>Z4I l
theorem Z5P{b:Nat}:∀ {hl:List (Nat×Blk)},b∈Z4I hl→∃ ty cells,(b,Blk.box ty cells)∈hl
 | [],h=>by simp[Z4I]at h
 | (c,.box ty cells)::l,h=>by
  simp only[Z4I,List.mem_cons]at h;rcases h with rfl | h
  ·exact⟨ty,cells,by simp⟩
  ·obtain⟨ty,cells,h⟩:=Z5P h;exact⟨ty,cells,by simp[h]⟩
 | (c,.arr ..)::l,h=>by obtain⟨ty,cells,h⟩:=Z5P (hl:=l) h;exact⟨ty,cells,by simp[h]⟩
 | (c,.dead)::l,h=>by obtain⟨ty,cells,h⟩:=Z5P (hl:=l) h;exact⟨ty,cells,by simp[h]⟩
theorem Zgp{ρ ρ':Rho}{w Y:World}{Im:Nat→Prop}{ids bids:List Nat}{x:AV}{v:Value}(h:Rel ρ w Im x v)(hx:flt1 ids bids x=true)(hρ:∀ b∈bids,∀ β,ρ b=some β→ρ' b=some β)
  (ho:∀ b∈ids,∀ β,ρ b=some β→ρ' b=some β∨(ρ' b=some ⟨none,β.s,β.n⟩∧∀ g,β.g=some g→rows w g<β.s)) (hr:∀ g,rows Y g=rows w g):Rel ρ' Y (fun _=>False) x v:=by
 cases h with
 | pt h1=>exact .pt (hρ _ (memN_iff.1 hx) _ h1)
 | ow h1 h2 h3 h4 =>
  rename_i b c a β;rcases ho _ (memN_iff.1 hx) _ h1 with k | ⟨k,k'⟩
  ·refine .ow k h2 h3 (h4.imp id fun⟨g,k1,k2,k3⟩=>⟨g,k1,k2, ?_⟩);rw[hr g];exact k3
  ·refine Rel.ow (β:=⟨none,β.s,β.n⟩) k h2 h3 (.inl ?_);rcases h4 with h4 | ⟨g,k1,_,k3⟩
   ·exact h4
   ·have:=k' g k1;rcases Nat.eq_zero_or_pos c with h | h
    ·exact h
    ·have:=Nat.mul_le_mul_right β.s h;omega
 | any=>exact .any _
 | d h =>
  cases h with
  | sc _ h=>exact .d (.sc _ h)
  | _=>cases hx
 | _=>cases hx
theorem Zbz{ρ:Rho}{w:World}{Im:Nat→Prop}{β:Bi}{ty g:Nat}{cells:List AV}(h:RelB ρ w Im β (.box ty cells))(hg:β.g=some g):rows w g=cells.length:=by
 obtain⟨_,_,g',cs,h1,h2,h3,_⟩:=h;rw[hg]at h1;cases h1;simp[rows,h2,h3]
theorem Zkw{ρ:Rho}{w:World}{Im:Nat→Prop}{β:Bi}{ty g s:Nat}{els:List (List DV)}(h:RelB ρ w Im β (.arr ty s els))(hg:β.g=some g):els.length*s≤rows w g:=by
 obtain⟨_,_,_,_,⟨h1,_⟩ | ⟨g',cs,h1,h2,h3,_⟩⟩:=h
 ·rw[hg]at h1;cases h1
 ·rw[hg]at h1;cases h1;simpa[rows,h2]using h3
theorem ZmB{Ow:Sx.Own}{Im0:Nat→Prop}{w0 w:World}{tmps:List AV}{hl:List (Nat×Blk)}{clk clk':Nat}{a:Act}(S:Sx.Sys Ow Im0 w0 tmps (hOf hl) clk a w)(hT:tmps.all (flt1 (hl.map (·.1)) (Z4I hl))=true)(hB:hl.all (fun p=>fltB (hl.map (·.1)) (Z4I hl) p.2)=true)(hN:(hl.map (·.1)).Nodup)
  (hF:∀ b ty s els,(b,Blk.arr ty s els)∈hl→Z0S els) {Y:World} {l:Nat} {r r':Loop} (hl0:w.heap[l]? = some (.loop r)) (hl1:Y.heap[l]? = some (.loop r')) (hY:Y.heap.size=w.heap.size) (hs:∀ g,g≠l→Y.heap[g]? = w.heap[g]?) (hc:1≤clk') :
  ∃ ρ:Rho,(∀ b β,ρ b=some β→b∈hl.map (·.1))∧(∀ b β g,ρ b=some β→β.g=some g→(w0.heap.size≤g∧8000≤b)∨OwA Ow g)∧(∀ b β g,ρ b=some β→β.g=some g→β.s≤rows Y g)∧Inv (ownR ρ) (fun _=>False) Y ρ Y (fun _=>False) (hOf hl) clk'∧RelT ρ Y (fun _=>False) tmps a∧Kept (OwA Ow) w0 w:=by
 obtain⟨ρ,Im,I,T⟩:=S;let ids:=hl.map (·.1);let ρ':Rho:=fun b=>if memN b ids then(match ρ b with | none=>none | some β=>match β.g with | some g=>if rows w g<β.s then some ⟨none,β.s,β.n⟩else some β | none=>some β)else none;have hout:∀ b β,ρ' b=some β→b∈ids∧∃ κ,ρ b=some κ∧κ.s=β.s∧κ.n=β.n∧∀ g,β.g=some g→κ=β∧β.s≤rows w g:=by
  intro b β h;simp only[ρ']at h;split at h;rotate_left
  ·cases h
  refine⟨memN_iff.1 aa, ?_⟩;split at h
  ·cases h
  rename_i κ hκ;refine⟨κ,hκ, ?_⟩;split at h
  ·rename_i g hg;split at h
   ·cases h;exact⟨rfl,rfl,fun g h=>by cases h⟩
   ·cases h;exact⟨rfl,rfl,fun g' h=>by rw[hg]at h;cases h;exact⟨rfl,by omega⟩⟩
  ·rename_i hg;cases h;exact⟨rfl,rfl,fun g' h=>by rw[hg]at h;cases h⟩
 have hin:∀ b∈ids,∀ β,ρ b=some β→ρ' b=some β∨(ρ' b=some ⟨none,β.s,β.n⟩∧∀ g,β.g=some g→rows w g<β.s):=by
  intro b hb β h;simp only[ρ',h];rw[if_pos (memN_iff.2 hb)];split
  ·rename_i g hg;split
   ·exact .inr ⟨rfl,fun g' h'=>by rw[hg]at h';cases h';assumption⟩
   ·exact .inl rfl
  ·exact .inl rfl
 have hrow:∀ g,rows Y g=rows w g:=by
  intro g;by_cases hg:g=l
  ·subst hg;simp[rows,hl0,hl1]
  ·simp only[rows,hs g hg]
 have hbox:∀ b∈Z4I hl,∀ β,ρ b=some β→ρ' b=some β:=by
  intro b hb β h;obtain⟨ty,cells,hm⟩:=Z5P hb;have hbi:b∈ids:=List.mem_map.2 ⟨_,hm,rfl⟩;rcases hin b hbi β h with k | ⟨_,k⟩
  ·exact k
  ·cases hq:hOf hl b with
   | none=>exact absurd hbi (hOf_mem.2.1 hq)
   | some B =>
    have hB':B = .box ty cells:=by
     have h1:=hOf_mem.1 B hq;obtain⟨i,hi⟩:=List.mem_iff_getElem?.1 h1;obtain⟨j,hj⟩:=List.mem_iff_getElem?.1 hm;have:i=j:=ZnK b hN (by simp[hi]) (by simp[hj]);subst this;rw[hi]at hj;cases hj;rfl
    subst hB';obtain⟨β',m1,m2⟩:=I.blk b _ hq;rw[h]at m1;cases m1;have m3:=m2;obtain⟨h0,_,g,_,h1,_⟩:=m2;have:=k g h1;rw[Zbz m3 h1]at this;omega
 have hlive:∀ b,b∈ids→live (hOf hl) b:=by
  intro b hb;cases hq:hOf hl b with
  | none=>exact absurd hb (hOf_mem.2.1 hq)
  | some B =>
   refine⟨B,hq, ?_⟩;rintro rfl;have:=List.all_eq_true.1 hB _ (hOf_mem.1 _ hq);cases this
 have hsame:∀ b β g,ρ' b=some β→β.g=some g→ρ b=some β:=fun b β g h h'=>by
  obtain⟨_,κ,k1,_,_,k4⟩:=hout b β h;rw[(k4 g h').1]at k1;exact k1
 refine⟨ρ',fun b β h=>(hout b β h).1,fun b β g h h'=>I.own b β g (hsame b β g h h') h',fun b β g h h'=>by
   obtain⟨_,κ,k1,_,_,k4⟩:=hout b β h;rw[hrow];exact(k4 g h').2,⟨Kept.refl _ _,fun b b' β β' g _ _ q1 q2 q3 q4=>I.inj b b' β β' g (hlive _ (hout _ _ q1).1) (hlive _ (hout _ _ q2).1) (hsame _ _ g q1 q3) (hsame _ _ g q2 q4) q3 q4,fun _ _ _ _ _ _ h=>h,fun b β g q1 q2=>by rw[hY];exact I.bnd b β g (hsame _ _ g q1 q2) q2,fun b β g q1 q2=>.inr ⟨b,β,q1,q2⟩,fun _ h=>h.elim,fun _ h=>h.elim,fun b B q=>?_,fun b _ q=>?_,⟨hc,fun _ _ _ h=>h⟩⟩,⟨T.size,fun i x v h1 h2=>Zgp (T.tmp i x v h1 h2) (List.all_eq_true.1 hT _ (List.mem_of_getElem? h1)) hbox hin hrow,T.defers⟩,I.kept⟩
 ·have hm:=hOf_mem.1 B q;have hb:b∈ids:=List.mem_map.2 ⟨(b,B),hm,rfl⟩;obtain⟨β,m1,m2⟩:=I.blk b B q;have hfl:=List.all_eq_true.1 hB _ hm;cases B with
  | dead=>cases hfl
  | box ty cells =>
   obtain⟨h0,h00,g,cs,h1,h2,h3,h3',h4⟩:=m2;have hg:g≠l:=by rintro rfl;rw[hl0]at h2;cases h2
   have:b∈Z4I hl:=by
    have:∀ {k:List (Nat×Blk)},(b,Blk.box ty cells)∈k→b∈Z4I k:=by
     intro k;induction k with
     | nil=>intro h;simp at h
     | cons p k ih =>
      obtain⟨c,C⟩:=p;intro h;rcases List.mem_cons.1 h with e | e
      ·cases e;simp[Z4I]
      ·cases C<;>simp[Z4I,ih e]
    exact this hm
   exact⟨β,hbox b this β m1,h0,h00,g,cs,h1,by rw[hs g hg];exact h2,h3,h3',fun o x v hx hv=>Zgp (h4 o x v hx hv) (List.all_eq_true.1 hfl _ (List.mem_of_getElem? hx)) hbox hin hrow⟩
  | arr ty s els =>
   have m3:=m2;obtain⟨h0,h1,hb',h2,h3⟩:=m2;rcases hin b hb β m1 with k | ⟨k,k'⟩
   ·refine⟨β,k,h0,h1,hb',h2,h3.imp id fun⟨g,cs,h4,h5,h6,h7⟩=>?_⟩;have hg:g≠l:=by rintro rfl;rw[hl0]at h5;cases h5
    refine⟨g,cs,h4,by rw[hs g hg];exact h5,h6,fun i e o x hx hy=>?_⟩;obtain⟨v,h8,h9⟩:=h7 i e o x hx hy;exact⟨v,h8,Zbp (hF _ _ _ _ hm) (List.mem_of_getElem? hx) (List.mem_of_getElem? hy) h9⟩
   ·refine⟨_,k,h0,h1,hb',h2,.inl ⟨rfl, ?_⟩⟩;rcases h3 with⟨_,h⟩ | ⟨g,_,h4,_⟩
    ·exact h
    ·have e1:=k' g h4;have e2:=Zkw m3 h4;rw[h0]at e1;cases els with
     | nil=>rfl
     | cons y ys =>
      have:1*s≤(y::ys).length*s:=Nat.mul_le_mul_right s pq;omega
 ·have:b∉ids:=hOf_mem.2.1 q;simp only[ρ'];rw[if_neg (fun h=>this (memN_iff.1 h))]
def Z5U(f:Found):Value:=.agg #[.int .u64 f.addr,.int .i64 f.hd.K,.int .i64 f.hd.length,.int .u32 f.hd.map]
def encF(f:Found)(e:Int):Array Value := #[Z5U f,.int .i64 e]
theorem Zal(ρ:Rho)(w:World)(Im:Nat→Prop)(f:Found):Rel ρ w Im f.av (Z5U f):=by
 refine .ag _ _ rfl (fun i v h=>?_) (fun i a v ha hv=>?_)
 ·rcases i with _ | _ | _ | _ | i<;>simp at h<;>subst h<;>rfl
 ·rcases i with _ | _ | _ | _ | i<;>simp at ha hv<;>subst ha<;>subst hv<;>exact .d (.sc _ rfl)
theorem Zmb(l:List Found):Z0S (l.map Found.dv):=by
 intro e he x hx;obtain⟨f,_,rfl⟩:=List.mem_map.1 he;simp only[Found.dv,List.mem_cons,List.not_mem_nil,or_false]at hx;rcases hx with rfl | rfl | rfl | rfl<;>exact⟨_,rfl⟩
def LJ(g6:Nat)(prot:List (Nat×Obj))(A:Nat→Prop)(pre:List Found)(W:World):Prop :=
 ∃ ρ:Rho,(∀ g,A g↔∃ b β,ρ b=some β∧β.g=some g)∧Inv (ownR ρ) (fun _=>False) W ρ W (fun _=>False) (hOf (lstH pre)) 20∧(∃ s n,ρ 6=some ⟨some g6,s,n⟩)∧(∀ b β,ρ b=some β→b∈[8020,6])∧(∀ b β g,ρ b=some β→β.g=some g→β.s≤rows W g)∧∀ p∈prot,W.heap[p.1]? = some p.2∧¬ A p.1
theorem LJ.keep{g6:Nat}{prot:List (Nat×Obj)}{A:Nat→Prop}{pre:List Found}{X Y:World}(J:LJ g6 prot A pre X)(K:Kept (fun _=>False) X Y):LJ g6 prot A pre Y:=by
 obtain⟨ρ,hA,I,h6,hs,hr,hp⟩:=J;have he:Ext (fun _=>False) X Y:=⟨K.size,fun g h=>h.elim,K.rows⟩
 refine⟨ρ,hA,⟨Kept.refl _ _,I.inj,fun _ _ _ _ _ _ h=>h,fun b β g q1 q2=>Nat.lt_of_lt_of_le (I.bnd b β g q1 q2) K.size,fun b β g q1 q2=>.inr ⟨b,β,q1,q2⟩,fun _ h=>h.elim,fun _ h=>h.elim,fun b B q=>?_,I.fresh,I.one⟩,h6,hs,fun b β g q1 q2=>?_,fun p hpp=>⟨?_,(hp p hpp).2⟩⟩
 ·obtain⟨β,m1,m2⟩:=I.blk b B q;exact⟨β,m1,m2.mono he (fun _ h=>h) (fun _ _ h=>h) I.bnd (fun g hg=>K.block g (I.bnd b β g m1 hg) (fun h=>h))⟩
 ·rw[K.rows g (I.bnd _ _ _ q1 q2)];exact hr b β g q1 q2
 ·have h1:=(hp p hpp).1;rw[K.block p.1 (Array.getElem?_eq_some_iff.1 h1).1 (fun h=>h)];exact h1
theorem Zhz{fn:Nat}{a0:Array Value}{D l g6 n:Nat}{prot:List (Nat×Obj)}{A:Nat→Prop}{pre:List Found}{W:World}(hl:pre.length≤1000)(ha0:a0.size=22)(ha6:a0[6]? = some (.pointer (some ⟨g6,0,none⟩)))
  (hrec:(l,Obj.loop { state:=.ready,pending:=none,fn:=fn,tmps:=a0,params := #[12,13],assign:=asgF Tryz.f171 0,body:=bodF Tryz.f171 0,defers:=D })∈prot) (J:LJ g6 prot A pre W) (x:Found) :
  YieldAt Fence.wide n Tryz.prog l (encF x 0) W fun e W'=>e = .returned (.bool true)∧∃ A',LJ g6 prot A' (pre++[x]) W'∧(∀ g,A' g→A g∨W.heap.size≤g)∧Kept A W W':=by
 obtain⟨ρ,hA,I,⟨s6,n6,h6⟩,hs,hr,hp⟩:=J;obtain⟨rl,nl⟩:=hp _ hrec;have hAe:OwA (ownR ρ)=A:=by funext g;exact propext (hA g).symm
 refine⟨fn,_,_,_,run_yield rl rfl,roundIn_of_wpIn trivial ?_⟩;have T0:RelT ρ W (fun _=>False) (tm 22 [(6,.pt 6 0 0)]) { tmps:=a0,defers:=[] }:=by
  refine⟨by rw[ha0];rfl,fun i y v h1 h2=>?_,rfl⟩;by_cases h:i=6
  ·subst h;rw[ha6]at h2;cases h2;cases (show(tm 22 [(6,.pt 6 0 0)])[6]? = some (.pt 6 0 0)from rfl).symm.trans h1;have:=Rel.pt (ρ:=ρ) (w:=W) (Im:=fun _=>False) (i:=0) (o:=0) h6;simpa using this
  ·have:y = .any:=by
    have hi:i<22:=(List.getElem?_eq_some_iff.1 h1).1;have e:∀ j,j<22→j≠6→(tm 22 [(6,.pt 6 0 0)])[j]? = some .any:=by
     intro j hj hj6;have:j∈[0,1,2,3,4,5,7,8,9,10,11,12,13,14,15,16,17,18,19,20,21]:=by
      simp only[List.mem_cons,List.not_mem_nil,or_false];omega
     simp only[List.mem_cons,List.not_mem_nil,or_false]at this;rcases this with rfl | rfl | rfl | rfl | rfl | rfl | rfl | rfl | rfl | rfl | rfl | rfl | rfl | rfl | rfl | rfl | rfl | rfl | rfl | rfl | rfl<;>rfl
    rw[e i hi h]at h1;cases h1;rfl
   subst this;exact .any _
 have T1:=(T0.put 12 (Zal ρ W (fun _=>False) x)).put 13 (Rel.d (RelD.sc (Value.int .i64 0) rfl));have S1:Sx.Sys (ownR ρ) (fun _=>False) W (lst1 pre x).st.tmps (lst1 pre x).st.H (lst1 pre x).st.clk { tmps:=(a0.setIfInBounds 12 (Z5U x)).setIfInBounds 13 (.int .i64 0),defers:=[] } W:=⟨ρ,_,I,T1⟩
 have ef:((#[12,13]:Array Nat).zip (encF x 0)).foldl (fun tmps (t,a)=>tmps.setIfInBounds t a) a0=(a0.setIfInBounds 12 (Z5U x)).setIfInBounds 13 (.int .i64 0):=by simp[encF]
 show(asgF Tryz.f171 0).wpIn _ n _ _ { tmps:=((#[12,13]:Array Nat).zip (encF x 0)).foldl (fun tmps (t,a)=>tmps.setIfInBounds t a) a0,defers:=[] } W;rw[ef];refine wpIn_mono (lstA pre x (some l) n _ _ _ _ _ S1) ?_;rintro e a1 w1 ⟨rfl,S2⟩;have K1:Kept A W w1:=by obtain⟨_,_,I1,_⟩:=S2;exact hAe▸I1.kept
 have hlW:l<W.heap.size:=(Array.getElem?_eq_some_iff.1 rl).1;have rl1:w1.heap[l]? = some (Obj.loop { state:=.ready,pending:=none,fn:=fn,tmps:=a0,params := #[12,13],assign:=asgF Tryz.f171 0,body:=bodF Tryz.f171 0,defers:=D }):=by
  rw[K1.block l hlW nl];exact rl
 refine⟨_,run_beginRound rl1 rfl, ?_⟩;obtain⟨w2,hw2⟩:∃ w2,w1.putObj l (Obj.loop { state:=.busy,pending:=none,fn:=fn,tmps:=a0,params := #[12,13],assign:=asgF Tryz.f171 0,body:=bodF Tryz.f171 0,defers:=D })=w2:=⟨_,rfl⟩
 have rl2:w2.heap[l]? = some (Obj.loop { state:=.busy,pending:=none,fn:=fn,tmps:=a0,params := #[12,13],assign:=asgF Tryz.f171 0,body:=bodF Tryz.f171 0,defers:=D }):=by
  rw[← hw2];exact World.putObj_heap_same (Array.getElem?_eq_some_iff.1 rl1).1
 have hs2:∀ g,g≠l→w2.heap[g]? = w1.heap[g]? := fun g hg=>by rw[← hw2];exact World.putObj_heap_other hg
 have hz2:w2.heap.size=w1.heap.size:=by rw[← hw2];exact World.putObj_size
 obtain⟨ρ1,q1,q2,qr,I1,T1',_⟩:=ZmB S2 kr kr (by show([160007,8020,6]:List Nat).Nodup;decide) (by
   intro b ty s els hm;simp only[lst2,lstH,List.mem_cons,List.not_mem_nil,or_false,Prod.mk.injEq,reduceCtorEq,and_false,Blk.arr.injEq,false_or]at hm;obtain⟨_,_,_,rfl⟩:=hm;exact Zmb pre) rl1 rl2 hz2 hs2 (by decide:1≤30)
 show(bodF Tryz.f171 0).wpIn _ _ _ _ _ _;rw[hw2];refine wpIn_mono (lstB pre x hl (some l) n _ _ _ _ _ (⟨ρ1,_,I1,T1'⟩:Sx.Sys _ _ w2 (lst2 pre x).st.tmps (lst2 pre x).st.H (lst2 pre x).st.clk a1 w2)) ?_;rintro e a3 w3 ⟨rfl,S3⟩;have K3:Kept (fun g=>∃ b β,ρ1 b=some β∧β.g=some g) w2 w3:=by obtain⟨_,_,I3,_⟩:=S3;exact I3.kept
 have hrow2:∀ g,rows w2 g=rows w1 g:=by
  intro g;by_cases hg:g=l
  ·subst hg;simp[rows,rl1,rl2]
  ·simp only[rows,hs2 g hg]
 have hw12:W.heap.size≤w1.heap.size:=K1.size;have own1:∀ b β g,ρ1 b=some β→β.g=some g→W.heap.size≤g∨A g:=fun b β g h h'=>(q2 b β g h h').imp (·.1) fun h=>hAe▸h;have hl2:¬ ∃ b β,ρ1 b=some β∧β.g=some l:=by
  rintro⟨b,β,h,h'⟩;rcases own1 b β l h h' with k | k
  ·omega
  ·exact nl k
 have box6:∀ {ρ:Rho} {X:World} {H:List (Nat×Blk)} {t:Nat} {x:AV},Inv (ownR ρ) (fun _=>False) X ρ X (fun _=>False) (hOf H) t→hOf H 6=some (.box 182 [x])→∃ β g,ρ 6=some β∧β.g=some g∧rows X g=1:=by
  intro ρ X H t x I hH;obtain⟨β,k1,k2⟩:=I.blk 6 _ hH;have k3:=k2;obtain⟨_,_,g,_,k4,_⟩:=k2;exact⟨β,g,k1,k4,Zbz k3 k4⟩
 have arr4:∀ {ρ:Rho} {X:World} {H:List (Nat×Blk)} {t:Nat} {els:List (List DV)} {β:Bi},Inv (ownR ρ) (fun _=>False) X ρ X (fun _=>False) (hOf H) t→hOf H 8020=some (.arr 188 4 els)→ρ 8020=some β→β.s=4:=by
  intro ρ X H t els β I hH h;obtain⟨β',k1,k2⟩:=I.blk 8020 _ hH;rw[h]at k1;cases k1;exact k2.1
 have id1:∀ β g,ρ1 6=some β→β.g=some g→rows w2 g=1→g=g6:=by
  intro β g h h' h1;rcases q2 6 β g h h' with⟨_,k⟩ | k
  ·omega
  obtain⟨b,κ,(k1:ρ b=some κ),k2⟩:=k;have hb:=hs b κ k1;simp only[List.mem_cons,List.not_mem_nil,or_false]at hb;rcases hb with rfl | rfl
  ·have:=hr _ _ _ k1 k2;rw[arr4 I rfl k1,← K1.rows g (I.bnd _ _ _ k1 k2),← hrow2,h1]at this;omega
  ·rw[h6]at k1;cases k1;cases k2;rfl
 have rl3:w3.heap[l]? = some (Obj.loop { state:=.busy,pending:=none,fn:=fn,tmps:=a0,params := #[12,13],assign:=asgF Tryz.f171 0,body:=bodF Tryz.f171 0,defers:=D }):=by
  rw[K3.block l oq hl2];exact rl2
 refine⟨_,_,run_endRound none rl3,rfl, ?_⟩;obtain⟨W',hW'⟩:∃ W',w3.putObj l (Obj.loop { state:=.ready,pending:=none,fn:=fn,tmps:=a0,params := #[12,13],assign:=asgF Tryz.f171 0,body:=bodF Tryz.f171 0,defers:=D })=W':=⟨_,rfl⟩
 have rl4:W'.heap[l]? = some (Obj.loop { state:=.ready,pending:=none,fn:=fn,tmps:=a0,params := #[12,13],assign:=asgF Tryz.f171 0,body:=bodF Tryz.f171 0,defers:=D }):=by
  rw[← hW'];exact World.putObj_heap_same (Array.getElem?_eq_some_iff.1 rl3).1
 have hs4:∀ g,g≠l→W'.heap[g]? = w3.heap[g]? := fun g hg=>by rw[← hW'];exact World.putObj_heap_other hg
 have hz4:W'.heap.size=w3.heap.size:=by rw[← hW'];exact World.putObj_size
 have hrow4:∀ g,rows W' g=rows w3 g:=by
  intro g;by_cases hg:g=l
  ·subst hg;simp[rows,rl3,rl4]
  ·simp only[rows,hs4 g hg]
 have hosw:W'.os=w3.os∧W'.tape=w3.tape∧W'.output=w3.output:=by rw[← hW'];exact⟨rfl,rfl,rfl⟩
 have hos2:w2.os=w1.os∧w2.tape=w1.tape∧w2.output=w1.output:=by rw[← hw2];exact⟨rfl,rfl,rfl⟩
 suffices key:∃ A',LJ g6 prot A' (pre++[x]) W'∧(∀ g,A' g→A g∨W.heap.size≤g)∧Kept A W W' by
  rw[← hW']at key;exact key
 obtain⟨ρ3,p1,p2,pr,I3,_,_⟩:=ZmB S3 kr kr (by show([8020,6]:List Nat).Nodup;decide) (by
   intro b ty s els hm;simp only[lstH,List.mem_cons,List.not_mem_nil,or_false,Prod.mk.injEq,reduceCtorEq,and_false,Blk.arr.injEq]at hm;obtain⟨_,_,_,rfl⟩:=hm;exact Zmb _) rl3 rl4 hz4 hs4 (by decide:1≤20)
 have own3:∀ b β g,ρ3 b=some β→β.g=some g→A g∨W.heap.size≤g:=by
  intro b β g h h';rcases p2 b β g h h' with⟨k,_⟩ | ⟨c,κ,k1,k2⟩
  ·exact .inr oq
  ·exact(own1 c κ g k1 k2).symm
 have keep:Kept A W W':=by
  refine⟨hosw.1.trans (K3.os.trans (hos2.1.trans K1.os)),hosw.2.1.trans (K3.tape.trans (hos2.2.1.trans K1.tape)),hosw.2.2.trans (K3.output.trans (hos2.2.2.trans K1.output)),by have:=K3.size;omega,fun k hk hn=>?_,fun k hk=>?_⟩
  ·by_cases hkl:k=l
   ·subst hkl;rw[rl4,rl]
   ·rw[hs4 k hkl,K3.block k oq ?_,hs2 k hkl,K1.block k hk hn];rintro⟨b,β,h,h'⟩;rcases own1 b β k h h' with q | q
    ·omega
    ·exact hn q
  ·rw[hrow4,K3.rows k oq,hrow2,K1.rows k hk]
 refine⟨fun g=>∃ b β,ρ3 b=some β∧β.g=some g,⟨ρ3,fun g=>Iff.rfl,I3, ?_,p1,pr,fun p hpp=>?_⟩,fun g ⟨b,β,h,h'⟩=>own3 b β g h h',keep⟩
 ·obtain⟨β,g,k1,k2,k3⟩:=box6 I3 rfl;rcases p2 6 β g k1 k2 with⟨_,k⟩ | ⟨c,κ,m1,m2⟩
  ·omega
  have hg2:g<w2.heap.size:=I1.bnd _ _ _ m1 m2;have hr2:rows w2 g=1:=by rw[← k3,hrow4,K3.rows g hg2]
  have hc:=q1 c κ m1;have e:g=g6:=by
   simp only[lst2,lstH,List.map_cons,List.map_nil,List.mem_cons,List.not_mem_nil,or_false]at hc;rcases hc with rfl | rfl | rfl
   ·obtain⟨κ',n1,n2⟩:=I1.blk 160007 _ rfl;rw[m1]at n1;cases n1;rw[Zbz n2 m2]at hr2;simp at hr2
   ·have:=qr _ _ _ m1 m2;rw[arr4 I1 rfl m1,hr2]at this;omega
   ·exact id1 κ g m1 m2 hr2
  subst e;obtain⟨βg,βs,βn⟩:=β;cases k2;exact⟨βs,βn,k1⟩
 ·obtain⟨h1,h2⟩:=hp p hpp;have hpl:=(Array.getElem?_eq_some_iff.1 h1).1;refine⟨by rw[keep.block p.1 hpl h2];exact h1, ?_⟩;rintro⟨b,β,h,h'⟩;rcases own3 b β p.1 h h' with q | q
  ·exact h2 q
  ·omega
end Go.Proofs.YtdhchmlalchgeaaGreat
namespace Go.Proofs.YtdhchmlalchgeaaGreat
open Go.Sx Go.RowKit
def Z1U(h:Heap)(i:Int):List Found×Bool:=if(pg h i).K=1∨(pg h i).K=2 then Z1L h i 256 0 else([],true)
def noFound:Found:=⟨0,⟨0,0,0⟩⟩
structure Rnd (l n:Nat) (J:(Nat→Prop)→List Found→World→Prop) (Jx:World→Prop):Prop where
 keep:∀ A pre X Y,J A pre X→Kept (fun _=>False) X Y→J A pre Y
 bnd:∀ A pre X,J A pre X→∀ g,A g→g<X.heap.size
 yes:∀ A pre X x,J A pre X→pre.length≤1000→YieldAt Fence.wide n Tryz.prog l (encF x 0) X fun e X'=>e = .returned (.bool true)∧∃ A',J A' (pre++[x]) X'∧(∀ g,A' g→A g∨X.heap.size≤g)∧Kept A X X'
 no:∀ A pre X,J A pre X→pre.length≤1000→YieldAt Fence.wide n Tryz.prog l (encF noFound 19) X fun e X'=>e = .returned (.bool false)∧Jx X'
section
variable (h:Heap) (i:Int) (l n:Nat) {J:(Nat→Prop)→List Found→World→Prop} {Jx:World→Prop} (R:Rnd l n J Jx)
def InL(J:(Nat→Prop)→List Found→World→Prop)(a:Act)(w:World):Prop :=
 ∃ (pre:List Found) (A Im:Nat→Prop) (f:Nat) (o:Int),(Z1U h i).1=pre++(Z1L h i f o).1∧(Z1U h i).2=(Z1L h i f o).2∧(pg h i).U-o≤f∧0≤o∧o≤1000∧pre.length+f≤256∧J A pre w∧RelT (fun _=>none) w Im (inS h l i o).tmps a∧∀ g,Im g→g<w.heap.size∧¬ A g
def inMu(a:Act):Nat:=match (a.tmps.getD 5 undef:Value)with
 | .int _ o=>((pg h i).U-o).toNat
 | _=>0
theorem Zk0{w:World}{Im:Nat→Prop}{a:Act}{o:Int}(T:RelT (fun _=>none) w Im (inS h l i o).tmps a):inMu h i a=((pg h i).U-o).toNat:=by
 have:a.tmps.getD 5 undef = .int .i64 o:=Z10 (Z1x T (.tmp 5));rw[inMu,this]
def Zau(Jx:World→Prop)(e:Ending)(W':World):Prop:=(∃ v,e = .returned v)∧(((Z1U h i).2=true∧∃ A,J A (Z1U h i).1 W')∨((Z1U h i).2=false∧Jx W'))
def tsOf(o:Oper):Array Nat:=match o.op with
 | .call c=>c.argTypes
 | _ => #[]
theorem found_eq{ρ:Rho}{w:World}{Im:Nat→Prop}{f:Found}{v:Value}(h:Rel ρ w Im f.av v):v=Z5U f:=by
 obtain⟨cs,h1,h2,h3,h4⟩:=Z3u h;rw[h1];have g:∀ (k:Nat) (hk:k<cs.size) (v:Value),[u64 f.addr,int f.hd.K,int f.hd.length,u32 f.hd.map][k]? = some (.d (.sc v))→cs[k]=v:=fun k hk v hv=>Z10 (h4 k _ cs[k] hv (Array.getElem?_eq_getElem hk));have hs:cs.size=4:=h2;simp only[Z5U];congr 1;apply Array.ext
 ·simp[hs]
 ·intro k hk _;rcases k with _ | _ | _ | _ | k
  ·exact g 0 hk _ rfl
  ·exact g 1 hk _ rfl
  ·exact g 2 hk _ rfl
  ·exact g 3 hk _ rfl
  ·omega
theorem Zm2(hw:WOk h.W)(hp:Z02 h=true)(hu:(pg h i).U≤256)(R:Rnd l n J Jx)(a:Act)(w:World)(hI:InL h i l J a w) :
  (rndF Tryz.f205 0).wpIn Fence.wide (n+1) Tryz.prog (Exit.then (fun a' w'=>InL h i l J a' w'∧inMu h i a'<inMu h i a) (Exit.inBlock 0 (bodyPost Tryz.prog Tryz.f205 (Zau h i (J:=J) Jx)))) a w:=by
 obtain⟨pre,A,Im,f,o,e1,e2,hf,h0,h1,hl,hJ,T,hIm⟩:=hI;have S:Sx.Sys Z4g Im w (inS h l i o).st.tmps (inS h l i o).st.H (inS h l i o).st.clk a w:=⟨_,_,Inv.empty (fun g hg=>(hIm g hg).1) (by decide:1≤20),T⟩
 by_cases hlt:o<(pg h i).U
 ·obtain⟨f,rfl⟩:∃ k,f=k+1:=⟨f-1,by omega⟩
  unfold Z1L at e1 e2;rw[if_pos hlt]at e1 e2;have bad:¬ ((address h.C i o).2=0∧(atH h (adr h i o)).2=0)→∀ a' w',Sx.Sys Z4g Im w (Tg.st ⟨tm 58 [(0,.d (.sc (Z2b l)))],[],30⟩).tmps (Tg.st ⟨tm 58 [(0,.d (.sc (Z2b l)))],[],30⟩).H 30 a' w' →
    rest Tryz.prog (n+1) 10 (rndF Tryz.f205 0) (Exit.then (fun a' w'=>InL h i l J a' w'∧inMu h i a'<inMu h i a) (Exit.inBlock 0 (bodyPost Tryz.prog Tryz.f205 (Zau h i (J:=J) Jx)))) a' w':=by
   intro hb a' w' S1;rw[if_neg hb]at e1 e2;generalize hQ:Exit.inBlock 0 (bodyPost Tryz.prog Tryz.f205 (Zau h i (J:=J) Jx))=Q0;generalize (fun a' w'=>InL h i l J a' w'∧inMu h i a'<inMu h i a)=nx;have er:rest Tryz.prog (n+1) 10 (rndF Tryz.f205 0) (Exit.then nx Q0) a' w' =
     (Code.region 10 (rgO Tryz.f205 10) false).wpIn Fence.wide (n+1) Tryz.prog (Exit.then (Code.ret.wpIn Fence.wide (n+1) Tryz.prog (Exit.inBlock 1 (Exit.then nx Q0))) (Exit.inBlock 1 (Exit.then nx Q0))) a' w':=by kernel_rfl
   rw[er];refine wpIn_region ?_;rw[show List.range (rgO Tryz.f205 10).size=[0,1]++[2]from by kernel_rfl];refine Z3H (ro:=none) (hints:=[]) (out:=⟨tm 58 [(0,.d (.sc (Z2b l))),(55,.d (.sc (Z2b l))),(56,noFound.av)],hOf [],[],[]⟩) kr S1 trivial (fun p hp=>by simp at hp) ?_;intro a2 w2 S2;obtain⟨o',ho,⟨ts,hop⟩,hd,hg⟩:∃ o':Oper,(rgO Tryz.f205 10)[2]? = some o'∧(∃ ts,o'.op = .call ⟨.value (.tmp 55),#[.tmp 56,.const (.int .i64 19)],ts⟩)∧o'.dst=some 57∧o'.guard=none:=⟨(rgO Tryz.f205 10).getD 2 default,by kernel_rfl,⟨tsOf ((rgO Tryz.f205 10).getD 2 default),by kernel_rfl⟩,by kernel_rfl,by kernel_rfl⟩
   have hwd:Region.wanted o' (yielded (rgO Tryz.f205 10) a2.tmps)=true:=by simp[Region.wanted,hg]
   simp only[wpOpsIn,ho,hwd,if_true];obtain⟨ρ2,Im2,I2,T2⟩:=S2;have v1:a2.eval (.tmp 55) = .func (.yield l) #[] #[]:=Z10 (Z1x T2 (.tmp 55));have v2:a2.eval (.tmp 56)=Z5U noFound:=found_eq (Z1x T2 (.tmp 56):Rel ρ2 w2 Im2 noFound.av _);have J2:J A pre w2:=R.keep _ _ _ _ hJ I2.kept.no;refine Zg5 hop v1 (show #[a2.eval (.tmp 56),a2.eval (.const (.int .i64 19))]=encF noFound 19 by rw[v2];rfl) (R.no A pre w2 J2 oq) ?_;rintro e w3 ⟨rfl,hx⟩;refine⟨_,rfl,wpIn_ret ?_⟩;show Q0 .ret _ _;rw[← hQ];exact bodyPost_ret (results_none rfl _ _ _) (by rw[hd];exact T2.defers) ⟨⟨_,rfl⟩,.inr ⟨e2,hx⟩⟩
  by_cases ha:(address h.C i o).2=0
  ·by_cases hh:(atH h (adr h i o)).2=0
   ·rw[if_pos ⟨ha,hh⟩]at e1 e2;have sz:=Z1a (atH h (adr h i o)).1;have sp:=Z8E hh;obtain⟨o2,ho2⟩:∃ o2,o+sizeH (atH h (adr h i o)).1=o2:=⟨_,rfl⟩
    refine Zpa h l i o hw hp ⟨h0,h1⟩ hlt ha hh _ _ _ _ _ _ _ S ?_;intro a1 w1 S1;rw[ho2]at S1 e1 e2;generalize hQ:Exit.inBlock 0 (bodyPost Tryz.prog Tryz.f205 (Zau h i (J:=J) Jx))=Q0;have hmu:=Zk0 h i l T;generalize hnx:(fun a' w'=>InL h i l J a' w'∧inMu h i a'<inMu h i a)=nx;obtain⟨yc,hyc⟩:∃ yc:Code,∀ a' w',rest Tryz.prog (n+1) 9 (rndF Tryz.f205 0) (Exit.then nx Q0) a' w' =
     (Code.region 9 (rgO Tryz.f205 9) false).wpIn Fence.wide (n+1) Tryz.prog (Exit.then ((Code.cond (.tmp 54) .ret .skip).wpIn Fence.wide (n+1) Tryz.prog (Exit.then ((Code.exit 1).wpIn Fence.wide (n+1) Tryz.prog (Exit.then (yc.wpIn Fence.wide (n+1) Tryz.prog (Exit.inBlock 1 (Exit.then nx Q0))) (Exit.inBlock 1 (Exit.then nx Q0)))) (Exit.then (yc.wpIn Fence.wide (n+1) Tryz.prog (Exit.inBlock 1 (Exit.then nx Q0))) (Exit.inBlock 1 (Exit.then nx Q0)))))
      (Exit.then ((Code.exit 1).wpIn Fence.wide (n+1) Tryz.prog (Exit.then (yc.wpIn Fence.wide (n+1) Tryz.prog (Exit.inBlock 1 (Exit.then nx Q0))) (Exit.inBlock 1 (Exit.then nx Q0)))) (Exit.then (yc.wpIn Fence.wide (n+1) Tryz.prog (Exit.inBlock 1 (Exit.then nx Q0))) (Exit.inBlock 1 (Exit.then nx Q0))))) a' w':=⟨.seq (.region 10 (rgO Tryz.f205 10) false) .ret,fun a' w'=>by kernel_rfl⟩
    rw[hyc];refine wpIn_region ?_;rw[show List.range (rgO Tryz.f205 9).size=[0,1,2,3]++([4]++[5])from by kernel_rfl];refine Z3H (ro:=none) (hints:=[]) (out:=⟨tm 58 [(0,.d (.sc (Z2b l))),(1,.rp h.dvs 0),(2,.rp [dint i] 0),(4,.rp (pg h i).dv 0),(5,int o2),(6,u64 (adr h i o)),(8,.pt 184008 0 0),(49,.d (.sc (Z2b l))),(50,u64 (adr h i o)),(51,(atH h (adr h i o)).1.av),(52,(Found.mk (adr h i o) (atH h (adr h i o)).1).av)],hOf [(184008,.box 52 [int (atH h (adr h i o)).1.K,int (atH h (adr h i o)).1.length,u32 (atH h (adr h i o)).1.map])],[],[]⟩) kr S1 trivial (fun p hp=>by simp at hp) ?_;intro a2 w2 S2;obtain⟨o',ho,⟨ts,hop⟩,hd,hg⟩:∃ o':Oper,(rgO Tryz.f205 9)[4]? = some o'∧(∃ ts,o'.op = .call ⟨.value (.tmp 49),#[.tmp 52,.const (.int .i64 0)],ts⟩)∧o'.dst=some 53∧o'.guard=none:=⟨(rgO Tryz.f205 9).getD 4 default,by kernel_rfl,⟨tsOf ((rgO Tryz.f205 9).getD 4 default),by kernel_rfl⟩,by kernel_rfl,by kernel_rfl⟩
    have hwd:Region.wanted o' (yielded (rgO Tryz.f205 9) a2.tmps)=true:=by simp[Region.wanted,hg]
    rw[show([4]++[5]:List Nat)=4::[5]from rfl,wpOpsIn];simp only[ho];rw[if_pos hwd];have v1:a2.eval (.tmp 49) = .func (.yield l) #[] #[]:=by obtain⟨ρ2,Im2,I2,T2⟩:=S2;exact Z10 (Z1x T2 (.tmp 49))
    have v2:a2.eval (.tmp 52)=Z5U ⟨adr h i o,(atH h (adr h i o)).1⟩:=by
     obtain⟨ρ2,Im2,I2,T2⟩:=S2;exact found_eq (Z1x T2 (.tmp 52):Rel ρ2 w2 Im2 (Found.mk (adr h i o) (atH h (adr h i o)).1).av _)
    have S3:=Zpg (s:=⟨tm 58 [(0,.d (.sc (Z2b l))),(1,.rp h.dvs 0),(2,.rp [dint i] 0),(4,.rp (pg h i).dv 0),(5,int o2),(6,u64 (adr h i o)),(8,.pt 184008 0 0),(49,.d (.sc (Z2b l))),(50,u64 (adr h i o)),(51,(atH h (adr h i o)).1.av),(52,(Found.mk (adr h i o) (atH h (adr h i o)).1).av)],hOf [(184008,.box 52 [int (atH h (adr h i o)).1.K,int (atH h (adr h i o)).1.length,u32 (atH h (adr h i o)).1.map])],30⟩) (t:=inS h l i o2) kr kr S2;clear S2 S1;obtain⟨ρ2,Im2,I2,T2⟩:=S3;have J2:J A pre w2:=R.keep _ _ _ _ hJ I2.kept.no;refine Zg5 hop v1 (show #[a2.eval (.tmp 52),a2.eval (.const (.int .i64 0))]=encF ⟨adr h i o,(atH h (adr h i o)).1⟩ 0 by rw[v2];rfl) (R.yes A pre w2 _ J2 oq) ?_;rintro e w3 ⟨rfl,A',J3,hA',K3⟩;have hIm2:∀ g,Im2 g→¬ A g:=by
     intro g hg hA;rcases I2.im0 g hg with k | k | k
     ·exact(hIm g k).2 hA
     ·have:=R.bnd _ _ _ hJ g hA;omega
     ·exact k.no
    refine⟨_,rfl, ?_⟩;have T3:RelT (fun _=>none) w3 Im2 (inS h l i o2).tmps a2:=(T2.pure kr).mono ⟨K3.size,fun g hg=>K3.block g (I2.imb g hg) (hIm2 g hg),K3.rows⟩ (fun _ h=>h) (fun _ _ h=>h) (fun _ _ _ h=>nomatch h);have S4:Sx.Sys Z4g Im2 w3 ((inS h l i o2).tmps.set 53 (Sx.bool true)) (hOf []) 20 (a2.put o'.dst (.bool true)) w3:=by
     rw[hd];exact⟨_,Im2,Inv.empty (fun g hg=>Nat.lt_of_lt_of_le (I2.imb g hg) K3.size) dd,T3.put 53 (Rel.d (RelD.sc (.bool true) rfl))⟩
    refine Z6Q (ro:=none) (hints:=[]) (out:=⟨((inS h l i o2).tmps.set 53 (Sx.bool true)).set 54 (Sx.bool (!true)),hOf [],[],[]⟩) kr S4 trivial (fun p hp=>by simp at hp) ?_;intro a5 w5 S5;have v5:a5.eval (.tmp 54) = .bool false:=by obtain⟨_,_,_,T5⟩:=S5;exact Z10 (Z1x T5 (.tmp 54))
    have S6:=Zpg (s:=⟨((inS h l i o2).tmps.set 53 (Sx.bool true)).set 54 (Sx.bool (!true)),hOf [],20⟩) (t:=inS h l i o2) kr kr S5;obtain⟨ρ6,Im6,I6,T6⟩:=S6;refine wpIn_cond_false v5 (wpIn_skip ?_);refine wpIn_exit ?_;show(if 1=1 then(Exit.then nx Q0) .normal a5 w5 else Exit.then nx Q0 (.exit 1) a5 w5);rw[if_pos rfl,← hnx];have T7:=T6.pure kr;refine⟨⟨pre++[⟨adr h i o,(atH h (adr h i o)).1⟩],A',Im6,f,o2, ?_,e2,by omega,by omega,by omega,by simp;omega,R.keep _ _ _ _ J3 I6.kept.no,T7,fun g hg=>⟨I6.imb g hg,fun hA=>?_⟩⟩, ?_⟩
    ·rw[e1];simp
    ·have hb:=R.bnd _ _ _ J3 g hA;rcases I6.im0 g hg with k | k | k
     ·have:=I2.imb g k;rcases hA' g hA with q | q
      ·exact hIm2 g k q
      ·omega
     ·omega
     ·exact k.no
    ·show inMu h i a5<inMu h i a;rw[Zk0 h i l T7,hmu];omega
   ·exact ZpW h l i o hw hp ⟨h0,h1⟩ hlt ha hh _ _ _ _ _ _ _ S (bad (fun q=>hh q.2))
  ·exact Zp6 h l i o hw hp ⟨h0,h1⟩ hlt ha _ _ _ _ _ _ _ S (bad (fun q=>ha q.1))
 ·refine wpIn_mono (wpIn_wide.2 (Zq6 h l i o oq _ _ _ _ _ S)) ?_;rintro e a' w' ⟨rfl,S1⟩;have hz:Z1L h i f o=([],true):=by
   cases f with
   | zero=>rfl
   | succ f=>rw[Z1L,if_neg hlt]
  rw[hz]at e1 e2;obtain⟨ρ,Im1,I1,T1⟩:=S1;show bodyPost _ _ _ .normal _ _;refine bodyPost_end (results_none rfl _ _ _) T1.defers ⟨⟨_,rfl⟩,.inl ⟨e2,A, ?_⟩⟩;rw[e1,List.append_nil];exact R.keep _ _ _ _ hJ I1.kept.no
theorem ZnB(hw:WOk h.W)(hp:Z02 h=true)(hi:0≤i∧i<h.P.length)(R:Rnd l n J Jx){A0 Im:Nat→Prop}{W:World}{v1 v2:Value}(him:∀ g,Im g→g<W.heap.size∧¬ A0 g)
  (h1:Rel (fun _=>none) W Im (.rp h.dvs 0) v1) (h2:Rel (fun _=>none) W Im (.rp [dint i] 0) v2) (J0:J A0 [] W):CallsIn Fence.wide (n+1) Tryz.prog 205 #[Z2b l,v1,v2] W (Zau h i (J:=J) Jx):=by
 have hu:(pg h i).U≤256:=(Z0D hp (j:=i.toNat) oq).2.2.2.2.2.2.2.1;refine callsIn_of_wp Tryz.func205 (c:=bdyF Tryz.f205) kr trivial ?_ rfl;have S:Sx.Sys Z4g Im W (inE h l i).st.tmps (inE h l i).st.H (inE h l i).st.clk { tmps := #[Z2b l,v1,v2]++Array.replicate (Tryz.f205.ntmps-(#[Z2b l,v1,v2]:Array Value).size) undef,defers:=[] } W:=by
  refine⟨_,Im,Inv.empty (fun g hg=>(him g hg).1) (Nat.le_refl 1),⟨by kernel_rfl,fun k y v hy hv=>?_,rfl⟩⟩;rw[show(inE h l i).st.tmps=[.d (.sc (Z2b l)),.rp h.dvs 0,.rp [dint i] 0]++List.replicate 55 .any from by kernel_rfl,List.getElem?_append]at hy;rw[Array.getElem?_append]at hv;split at hy
  ·rename_i hk;have hk3:k<3:=hk;rw[if_pos (show k<(#[Z2b l,v1,v2]:Array Value).size from hk3)]at hv;rcases k with _ | _ | _ | k
   ·cases hy;cases hv;exact .d (.sc _ rfl)
   ·cases hy;cases hv;exact h1
   ·cases hy;cases hv;exact h2
   ·omega
  ·have:=List.mem_of_getElem? hy;rw[(List.mem_replicate.1 this).2];exact .any _
 by_cases hk:(pg h i).K=1∨(pg h i).K=2
 ·refine Zpm h l i hi hk _ _ _ _ _ _ _ S ?_;intro a1 w1 S1;generalize hQ:bodyPost Tryz.prog Tryz.f205 (Zau h i (J:=J) Jx)=Q;have er:rest Tryz.prog (n+1) 2 (bdyF Tryz.f205) Q a1 w1=(Code.region 2 (rgO Tryz.f205 2) false).wpIn Fence.wide (n+1) Tryz.prog (Exit.then ((blkF Tryz.f205 0).wpIn Fence.wide (n+1) Tryz.prog Q) Q) a1 w1:=by kernel_rfl
  rw[er];refine wpIn_region ?_;rw[show List.range (rgO Tryz.f205 2).size=[0]from by kernel_rfl];refine Z6Q (ro:=none) (hints:=[]) (out:=⟨tm 58 [(0,.d (.sc (Z2b l))),(1,.rp h.dvs 0),(2,.rp [dint i] 0),(4,.pt 8004 0 0),(5,int 0)],hOf [(8004,.box 84 ((pg h i).dv.map .d))],[],[]⟩) kr S1 trivial (fun p hp=>by simp at hp) ?_;intro a2 w2 S2;show(blkF Tryz.f205 0).wpIn Fence.wide (n+1) Tryz.prog Q a2 w2;rw[Z6E kr,← hQ];refine wpIn_block (wpIn_loop (InL h i l J) (fun a _=>inMu h i a) ?_ (fun a w hI=>Zm2 h i l n hw hp hu R a w hI));obtain⟨ρ2,Im2,I2,T2⟩:=S2;obtain⟨β,m1,m2⟩:=I2.blk 8004 _ rfl;have J2:=R.keep _ _ _ _ J0 I2.kept.no;have hlv:live (hOf [(8004,Blk.box 84 ((pg h i).dv.map .d))]) 8004:=⟨_,rfl,by simp⟩
  have T3:RelT ρ2 w2 (fun g=>Im2 g∨β.g=some g) _ a2:=T2.mono (Ext.refl _ _) (fun _ h=>.inl h) (fun _ _ h=>h) I2.bnd;have T4:=(T3.reSet 4 .any (fun v _=>.any v)).pure kr;have T5:=T4.reSet 4 (.rp (pg h i).dv 0) (fun v hv=>by
   have:=T2.tmp 4 _ v rfl hv;exact Z6s m1 m2 this (fun _ h=>.inl h) (fun _ h=>.inr h))
  refine⟨[],A0,_,256,0,by rw[Z1U,if_pos hk];rfl,by rw[Z1U,if_pos hk],by omega,by omega,by omega,by simp,J2,T5,fun g hg=>?_⟩;rcases hg with hg | hg
  ·refine⟨I2.imb g hg,fun hA=>?_⟩;rcases I2.im0 g hg with k | k | k
   ·exact(him g k).2 hA
   ·have:=R.bnd _ _ _ J0 g hA;omega
   ·exact k.no
  ·refine⟨I2.bnd _ _ _ m1 hg,fun hA=>?_⟩;rcases I2.own _ _ _ m1 hg with⟨k,_⟩ | k
   ·have:=R.bnd _ _ _ J0 g hA;omega
   ·exact k.no
 ·refine wpIn_mono (wpIn_wide.2 (ZpI h l i hi hk _ _ _ _ _ S)) ?_;rintro e a' w' ⟨rfl,S1⟩;obtain⟨ρ,Im1,I1,T1⟩:=S1;refine bodyPost_ret (results_none rfl _ _ _) T1.defers ⟨⟨_,rfl⟩,.inl ⟨by rw[Z1U,if_neg hk],A0, ?_⟩⟩;rw[Z1U,if_neg hk];exact R.keep _ _ _ _ J0 I1.kept.no
end
end Go.Proofs.YtdhchmlalchgeaaGreat
namespace Go.Proofs.YtdhchmlalchgeaaGreat
open Go.Sx
theorem Zoc(h:Heap)(i:Int):CP (bdyF Tryz.f195) (Tg.st ⟨tm 6 [(0,h.av),(1,int i)],[],1⟩) .ret (Tg.st ⟨tm 6 [(4,.fn 205 [.pt 8002 0 0,.pt 8003 0 0])],[(8003,.box 3 [int i]),(8002,.box 28 h.cells)],30⟩):=by
 exact sF [] [] Fz
theorem ZnQ(h:Heap)(i:Int):Ze5 Tryz.prog 1 (bdyF Tryz.f171) (Tg.st ⟨tm 22 [(0,h.av),(1,int i)],[],1⟩) (Tg.st ⟨tm 22 [(1,int i),(2,.pt 8002 0 0),(4,.pt 8004 0 0),(5,.pt 8005 0 0)],[(8005,.box 32 [int 0]),(8004,.box 182 [.d (.sl 0 [])]),(8002,.box 28 h.cells)],20⟩):=by
 refine Z5A [] [] [] (φ:=True) ?_ kr kr kr kr;exact trivial
def ptr(g:Nat):AV:=.d (.sc (.pointer (some ⟨g,0,none⟩)))
theorem lstN(g4 g5:Nat):CIn Tryz.prog (asgF Tryz.f171 0) (Tg.st ⟨tm 22 [(4,ptr g4),(5,ptr g5),(12,noFound.av),(13,int 19)],[],20⟩) .nrm (Tg.st ⟨tm 22 [(4,ptr g4),(5,ptr g5),(8,int 19)],[],30⟩):=by
 refine Zbm [] [] [] (φ:=True) ?_ kr kr kr kr;exact trivial
end Go.Proofs.YtdhchmlalchgeaaGreat
namespace Go.Proofs.YtdhchmlalchgeaaGreat
open Go.Sx Go.RowKit
section
variable {P:Program} {o:Oper} {a:Act} {w:World}
theorem Zo2{t g ty:Nat}{v:Value}(hw:w.heap[g]? = some (.cells #[v] ty (0,0)))(hv:v.oneCell'=true)(ht:Z6U P t=some false):(loadVar t ⟨g,0,none⟩).run P w = .ok v w:=by
 obtain⟨v',h1,h2⟩:=Z4i (P:=P) (w:=w) (t:=t) (g:=g) (off:=0) (l:=[.d (.sc v)]) (o:=0) (x:=.d (.sc v)) (ρ:=fun _=>none) (Im:=fun _=>False) (fun j a ha=>by
  cases j with
  | zero=>cases ha;exact⟨v,by simp[World.cell?,hw],hv,.d (.sc _ hv)⟩
  | succ j=>simp at ha) (by simp[Z9T,ht])
 rw[Z10 h2]at h1;exact h1
theorem Zn5{t g ty:Nat}{x:Operand}{v:Value}(ho:o.op = .load t x)(hx:a.eval x = .pointer (some ⟨g,0,none⟩))(hw:w.heap[g]? = some (.cells #[v] ty (0,0)))(hv:v.oneCell'=true)(ht:Z6U P t=some false):(execOp a.eval o).run P w = .ok (.value v) w:=by
 simp[execOp,ho,Instr.loadAt,Instr.sureAddr,hx,Zo2 hw hv ht]
theorem Z8g{t g ty:Nat}{x y:Operand}{u v:Value}(ho:o.op = .store t x y)(hx:a.eval x = .pointer (some ⟨g,0,none⟩))(hy:a.eval y=v)(hw:w.heap[g]? = some (.cells #[u] ty (0,0)))(hv:v.oneCell'=true)(hs:szOf P t=1):(execOp a.eval o).run P w = .ok .skip (w.setRow g #[v]):=by
 have hc:=Z6t hv;have:=Z4J (P:=P) (t:=t) (off:=0) (v:=v) hw (by rw[hc,hs];rfl) (Z7p oq) (by rw[hc];simp) (fun i u h=>by rw[hc]at h;cases i<;>simp at h;subst h;exact hv);rw[hc]at this;simp at this;simp[execOp,ho,Instr.storeAt,Instr.sureAddr,hx,hy,this]
theorem Zkt{t:Nat}{z:Value}(ho:o.op = .alloc t)(hz:zeroOf P t=some z):(execOp a.eval o).run P w = .ok (.value (.pointer (some ⟨w.heap.size,0,none⟩))) (w.alloc (.cells z.cells t)):=by
 unfold zeroOf at hz;split at hz
 ·rename_i i hi;simp[execOp,ho,Instr.alloc,zeroValue,typeInfo,hi,hz,newVar,newRow]
 ·cases hz
theorem Z6R{v:Value}{w':World}{next:Act→World→Prop}{Q:Exit→Act→World→Prop}(h:(execOp a.eval o).run P w = .ok (.value v) w')(k:next (a.put o.dst v) w'):o.wp P a w next Q:=by
 unfold Oper.wp;rw[h];exact k
theorem Z5L{w':World}{next:Act→World→Prop}{Q:Exit→Act→World→Prop}(h:(execOp a.eval o).run P w = .ok .skip w')(k:next (a.put o.dst undef) w'):o.wp P a w next Q:=by
 unfold Oper.wp;rw[h];exact k
theorem Z2H{F:Fence}{n i:Nat}{l:List Nat}{ops:Array Oper}{Q:Exit→Act→World→Prop}(ho:ops[i]? = some o)(hg:o.guard=none)(h:o.wpIn F n P a w (wpOpsIn F n P ops Q l) Q):wpOpsIn F n P ops Q (i::l) a w:=by
 rw[wpOpsIn];simp only[ho];rw[if_pos (by simp[Region.wanted,hg])];exact h
theorem setRow_self{g ty:Nat}{cs cs':Array Value}(hg:w.heap[g]? = some (.cells cs ty (0,0))):(w.setRow g cs').heap[g]? = some (.cells cs' ty (0,0)):=setRow_heap w g cs cs' ty _ hg
end
theorem Z3W{A:Nat→Prop}{X Y Z:World}(h:Kept (fun _=>False) X Y)(k:Kept A Y Z)(hA:∀ g,A g→X.heap.size≤g):Kept (fun _=>False) X Z :=
 ⟨k.os.trans h.os,k.tape.trans h.tape,k.output.trans h.output,Nat.le_trans h.size k.size,fun g hg _=>by
  rw[k.block g (Nat.lt_of_lt_of_le hg h.size) (fun q=>by have:=hA g q;omega)];exact h.block g hg (fun q=>q),fun g hg=>by rw[k.rows g (Nat.lt_of_lt_of_le hg h.size)];exact h.rows g hg⟩
theorem ZpK(h:Heap)(i:Int)(w:World)(Im:Nat→Prop)(hv iv:Value)(hIm:∀ g,Im g→g<w.heap.size)(h1:Rel (fun _=>none) w Im h.av hv)(h2:Rel (fun _=>none) w Im (int i) iv) :
  Calls Tryz.prog 195 #[hv,iv] w fun e w'=>∃ p1 p2,∃ Im':Nat→Prop,e = .returned (.func (.func 205) #[] #[p1,p2])∧Kept (fun _=>False) w w'∧(∀ g,Im' g→(Im g∨w.heap.size≤g)∧g<w'.heap.size) ∧
   Rel (fun _=>none) w' Im' (.rp h.dvs 0) p1∧Rel (fun _=>none) w' Im' (.rp [dint i] 0) p2:=by
 refine calls_of_wp Tryz.func195 (c:=bdyF Tryz.f195) kr ?_;have S:Sx.Sys Z4g Im w (tm 6 [(0,h.av),(1,int i)]) (hOf []) 1 { tmps := #[hv,iv]++Array.replicate (Tryz.f195.ntmps-(#[hv,iv]:Array Value).size) undef,defers:=[] } w:=by
  refine⟨_,Im,Inv.empty hIm (Nat.le_refl 1),⟨by kernel_rfl,fun k y v hy hv=>?_,rfl⟩⟩;rw[show tm 6 [(0,h.av),(1,int i)]=[h.av,int i]++List.replicate 4 .any from by kernel_rfl,List.getElem?_append]at hy;rw[Array.getElem?_append]at hv;split at hy
  ·rename_i hk;have hk3:k<2:=hk;rw[if_pos (show k<(#[_,iv]:Array Value).size from hk3)]at hv;rcases k with _ | _ | k
   ·cases hy;cases hv;exact h1
   ·cases hy;cases hv;exact h2
   ·omega
  ·have:=List.mem_of_getElem? hy;rw[(List.mem_replicate.1 this).2];exact .any _
 refine wp_mono (Zoc h i _ _ _ _ _ S) ?_;rintro e a' w' ⟨rfl,ρ,Im',I,T⟩;refine bodyPost_ret (results_tmp rfl _ _ _) T.defers ?_;have hf:Rel ρ w' Im' (.fn 205 [.pt 8002 0 0,.pt 8003 0 0]) (a'.tmps.getD 4 undef):=Z1x T (.tmp 4);generalize a'.tmps.getD 4 undef=fv at hf;cases hf with
 | fn hn hr =>
  rename_i cs;have hn2:cs.size=2:=hn;obtain⟨p1,p2,rfl⟩:∃ p1 p2,cs = #[p1,p2]:=⟨cs[0],cs[1],by
   apply Array.ext
   ·simp[hn2]
   ·intro k hk _;rcases k with _ | _ | k
    ·rfl
    ·rfl
    ·omega⟩
  obtain⟨β2,m2,n2⟩:=I.blk 8002 _ rfl;obtain⟨β3,m3,n3⟩:=I.blk 8003 _ rfl;refine⟨p1,p2,fun g=>Im' g∨β2.g=some g∨β3.g=some g,rfl,I.kept.no,fun g hg=>?_,Z6s m2 n2 (hr 0 _ p1 rfl rfl) (fun _ h=>.inl h) (fun _ h=>.inr (.inl h)),Z6s m3 n3 (hr 1 _ p2 rfl rfl) (fun _ h=>.inl h) (fun _ h=>.inr (.inr h))⟩;rcases hg with hg | hg | hg
  ·exact⟨(I.im0 g hg).imp id (fun h=>h.elim id (fun h=>h.no.elim)),I.imb g hg⟩
  ·exact⟨.inr ((I.own _ _ g m2 hg).elim (·.1) (fun h=>h.no.elim)),I.bnd _ _ g m2 hg⟩
  ·exact⟨.inr ((I.own _ _ g m3 hg).elim (·.1) (fun h=>h.no.elim)),I.bnd _ _ g m3 hg⟩
def rgB(fn:Func)(k:Nat):Array Oper:=match ZcF k (bodF fn 0)with
 | some o=>o
 | none => #[]
theorem Zea{tmps:Array Value}{W:World}{g4 g5:Nat}{v4 v5:Value}(h4:tmps.getD 4 undef = .pointer (some ⟨g4,0,none⟩))(h5:tmps.getD 5 undef = .pointer (some ⟨g5,0,none⟩))(c4:W.heap[g4]? = some (.cells #[v4] 182 (0,0)))(c5:W.heap[g5]? = some (.cells #[v5] 32 (0,0)))
  (o4:v4.oneCell'=true) (o5:v5.oneCell'=true):(results Tryz.f171 tmps).run Tryz.prog W = .ok (.tuple #[v4,v5]) W:=by
 rw[ZaD,show Tryz.f171.results = #[.cell 4 182,.cell 5 32]from rfl];have l4:=Zo2 (P:=Tryz.prog) (t:=182) c4 o4 kr;have l5:=Zo2 (P:=Tryz.prog) (t:=32) c5 o5 kr;simp[ZaU,h4,h5,asAddr,l4,l5,List.mapM_toArray]
theorem Zdz{tmps:Array Value}{W:World}{g4 g5 D:Nat}{v4 v5:Value}{R:Ending→World→Prop}(h4:tmps.getD 4 undef = .pointer (some ⟨g4,0,none⟩))(h5:tmps.getD 5 undef = .pointer (some ⟨g5,0,none⟩))(c4:W.heap[g4]? = some (.cells #[v4] 182 (0,0)))(c5:W.heap[g5]? = some (.cells #[v5] 32 (0,0)))
  (o4:v4.oneCell'=true) (o5:v5.oneCell'=true) (hD:W.heap[D]? = some (.deferred (some []))) (hR:R (.returned (.tuple #[v4,v5])) (W.putObj D (.deferred none))) :
  bodyPostM Fence.wide 10 Tryz.prog Tryz.f171 R .ret { tmps:=tmps,defers:=[{ target:=.collected D,args := #[] }] } W:=by
 refine⟨by simp,.inl ⟨_,_,rfl,run_takeDeferred hD, ?_⟩⟩;have n4:g4≠D:=by rintro rfl;rw[c4]at hD;cases hD
 have n5:g5≠D:=by rintro rfl;rw[c5]at hD;cases hD
 exact⟨_,Zea h4 h5 ((World.putObj_heap_other n4).trans c4) ((World.putObj_heap_other n5).trans c5) o4 o5,hR⟩
theorem ZkH{fn:Nat}{a0:Array Value}{D l n g4 g5:Nat}{u4 u5:Value}{W:World}(ha0:a0.size=22)(ha4:a0[4]? = some (.pointer (some ⟨g4,0,none⟩)))(ha5:a0[5]? = some (.pointer (some ⟨g5,0,none⟩)))
  (rl:W.heap[l]? = some (Obj.loop { state:=.ready,pending:=none,fn:=fn,tmps:=a0,params := #[12,13],assign:=asgF Tryz.f171 0,body:=bodF Tryz.f171 0,defers:=D }))
  (rD:W.heap[D]? = some (.deferred (some []))) (c4:W.heap[g4]? = some (.cells #[u4] 182 (0,0))) (c5:W.heap[g5]? = some (.cells #[u5] 32 (0,0))) (h45:g4≠g5) :
  YieldAt Fence.wide n Tryz.prog l (encF noFound 19) W fun e W'=>e = .returned (.bool false)∧W'.heap[l]? = some (Obj.loop { state:=.done,pending:=some .ret,fn:=fn,tmps:=a0,params := #[12,13],assign:=asgF Tryz.f171 0,body:=bodF Tryz.f171 0,defers:=D }) ∧
   W'.heap[D]? = some (.deferred (some []))∧W'.heap[g4]? = some (.cells #[.slice none 0 0] 182 (0,0))∧W'.heap[g5]? = some (.cells #[.int .i64 19] 32 (0,0))∧Kept (fun g=>g=l∨g=g4∨g=g5) W W':=by
 refine⟨fn,_,_,_,run_yield rl rfl,roundIn_of_wpIn trivial ?_⟩;have ef:((#[12,13]:Array Nat).zip (encF noFound 19)).foldl (fun tmps (t,a)=>tmps.setIfInBounds t a) a0=(a0.setIfInBounds 12 (Z5U noFound)).setIfInBounds 13 (.int .i64 19):=by simp[encF]
 show(asgF Tryz.f171 0).wpIn _ n _ _ { tmps:=((#[12,13]:Array Nat).zip (encF noFound 19)).foldl (fun tmps (t,a)=>tmps.setIfInBounds t a) a0,defers:=[] } W;rw[ef];have TA:RelT (fun _=>none) W (fun _=>False) (List.replicate 22 .any) { tmps:=a0,defers:=[] }:=by
  refine⟨by rw[ha0];rfl,fun i y v h1 h2=>?_,rfl⟩;have:=List.mem_of_getElem? h1;rw[(List.mem_replicate.1 this).2];exact .any _
 have T1:=(((TA.reSet 4 (ptr g4) (fun v hv=>by rw[ha4]at hv;cases hv;exact .d (.sc _ rfl))).reSet 5 (ptr g5) (fun v hv=>by rw[ha5]at hv;cases hv;exact .d (.sc _ rfl))).put 12 (Zal _ W _ noFound)).put 13 (Rel.d (RelD.sc (Value.int .i64 19) rfl));have S1:Sx.Sys Z4g (fun _=>False) W (Tg.st ⟨tm 22 [(4,ptr g4),(5,ptr g5),(12,noFound.av),(13,int 19)],[],20⟩).tmps (Tg.st ⟨tm 22 [(4,ptr g4),(5,ptr g5),(12,noFound.av),(13,int 19)],[],20⟩).H 20 { tmps:=(a0.setIfInBounds 12 (Z5U noFound)).setIfInBounds 13 (.int .i64 19),defers:=[] } W :=
  ⟨_,_,Inv.empty (fun _ h=>h.elim) dd,T1⟩
 refine wpIn_mono (lstN g4 g5 (some l) n _ _ _ _ _ S1) ?_;rintro e a1 w1 ⟨rfl,ρ1,Im1,I1,T1⟩;have K1:=I1.kept.no;have same1:∀ {g:Nat} {o:Obj},W.heap[g]? = some o→w1.heap[g]? = some o:=fun {g o} h=>by
  rw[K1.block g (Array.getElem?_eq_some_iff.1 h).1 (fun q=>q)];exact h
 refine⟨_,run_beginRound (same1 rl) rfl, ?_⟩;obtain⟨w2,hw2⟩:∃ w2,w1.putObj l (Obj.loop { state:=.busy,pending:=none,fn:=fn,tmps:=a0,params := #[12,13],assign:=asgF Tryz.f171 0,body:=bodF Tryz.f171 0,defers:=D })=w2:=⟨_,rfl⟩
 have rl2:w2.heap[l]? = some (Obj.loop { state:=.busy,pending:=none,fn:=fn,tmps:=a0,params := #[12,13],assign:=asgF Tryz.f171 0,body:=bodF Tryz.f171 0,defers:=D }):=by
  rw[← hw2];exact World.putObj_heap_same (Array.getElem?_eq_some_iff.1 (same1 rl)).1
 have hs2:∀ g,g≠l→w2.heap[g]? = w1.heap[g]? := fun g hg=>by rw[← hw2];exact World.putObj_heap_other hg
 have hz2:w2.heap.size=w1.heap.size:=by rw[← hw2];exact World.putObj_size
 have hos2:w2.os=w1.os∧w2.tape=w1.tape∧w2.output=w1.output:=by rw[← hw2];exact⟨rfl,rfl,rfl⟩
 have n4:g4≠l:=by rintro rfl;rw[c4]at rl;cases rl
 have n5:g5≠l:=by rintro rfl;rw[c5]at rl;cases rl
 have nD:D≠l:=by rintro rfl;rw[rD]at rl;cases rl
 have T2:RelT (fun _=>none) w2 (fun _=>False) (tm 22 [(4,ptr g4),(5,ptr g5),(8,int 19)]) a1:=by
  refine⟨T1.size,fun i x v h1 h2=>?_,T1.defers⟩;have:=T1.tmp i x v h1 h2;have hx:x = .any∨∃ u,x = .d (.sc u):=by
   have hm:=List.mem_of_getElem? h1;have:∀ y∈tm 22 [(4,ptr g4),(5,ptr g5),(8,int 19)],y = .any∨∃ u,y = .d (.sc u):=by
    rw[show tm 22 [(4,ptr g4),(5,ptr g5),(8,int 19)]=List.replicate 4 .any++[ptr g4,ptr g5,.any,.any,int 19]++List.replicate 13 .any from by kernel_rfl];intro y hy;simp only[List.mem_append,List.mem_replicate,List.mem_cons,List.not_mem_nil,or_false]at hy;rcases hy with(⟨_,rfl⟩ | rfl | rfl | rfl | rfl | rfl) | ⟨_,rfl⟩<;>first | exact .inl rfl | exact .inr ⟨_,rfl⟩
   exact this x hm
  rcases hx with rfl | ⟨u,rfl⟩
  ·exact .any _
  ·rw[Z10 this];have h1:(Value.oneCell' u)=true:=by
    cases this with | d h=>cases h with | sc _ h=>exact h
   exact .d (.sc _ h1)
 have S2:Sx.Sys Z4g (fun _=>False) w2 (tm 22 [(4,ptr g4),(5,ptr g5),(8,int 19)]) (hOf []) 20 a1 w2:=⟨_,_,Inv.empty (fun _ h=>h.elim) dd,T2⟩
 show(bodF Tryz.f171 0).wpIn (fen (some l)) n Tryz.prog _ a1 _;rw[hw2];generalize hQ:roundPost Tryz.prog l _=Q;obtain⟨yc,hyc⟩:∃ yc:Code,bodF Tryz.f171 0 = .block 1 (.seq (.seq (.region 5 (rgB Tryz.f171 5) false) (.cond (.tmp 15) (.seq (.region 6 (rgB Tryz.f171 6) false) .ret) .skip)) yc):=⟨.region 7 (rgB Tryz.f171 7) false,by kernel_rfl⟩
 rw[hyc];refine wpIn_block (wpIn_seq (wpIn_seq (wpIn_region ?_)));rw[show List.range (rgB Tryz.f171 5).size=[0,1]from by kernel_rfl];refine Z6Q (ro:=some l) (hints:=[]) (out:=⟨tm 22 [(4,ptr g4),(5,ptr g5),(8,int 19),(14,int 19),(15,Sx.bool ((19:Int) != 0))],hOf [],[],[]⟩) kr S2 trivial (fun p hp=>by simp at hp) ?_;intro a3 w3 S3;have v15:a3.eval (.tmp 15) = .bool true:=by obtain⟨_,_,_,T⟩:=S3;exact Z10 (Z1x T (.tmp 15))
 refine wpIn_cond_true v15 (wpIn_seq (wpIn_region ?_));rw[show List.range (rgB Tryz.f171 6).size=[0]++[1,2]from by kernel_rfl];refine Z3H (ro:=some l) (hints:=[]) (out:=⟨tm 22 [(4,ptr g4),(5,ptr g5),(8,int 19),(14,int 19),(15,Sx.bool ((19:Int) != 0)),(16,int 19)],hOf [],[],[]⟩) kr S3 trivial (fun p hp=>by simp at hp) ?_;rintro a4 w4 ⟨ρ4,Im4,I4,T4⟩;have K4:=I4.kept.no;have same4:∀ {g:Nat} {o:Obj},w2.heap[g]? = some o→w4.heap[g]? = some o:=fun {g o} h=>by
  rw[K4.block g (Array.getElem?_eq_some_iff.1 h).1 (fun q=>q)];exact h
 have v4:a4.eval (.tmp 4) = .pointer (some ⟨g4,0,none⟩):=Z10 (Z1x T4 (.tmp 4));have v5:a4.eval (.tmp 5) = .pointer (some ⟨g5,0,none⟩):=Z10 (Z1x T4 (.tmp 5));have v16:a4.eval (.tmp 16) = .int .i64 19:=Z10 (Z1x T4 (.tmp 16));have d4:w4.heap[g4]? = some (.cells #[u4] 182 (0,0)):=same4 (by rw[hs2 _ n4];exact same1 c4);have d5:w4.heap[g5]? = some (.cells #[u5] 32 (0,0)):=same4 (by rw[hs2 _ n5];exact same1 c5);have e4:=setRow_self (cs' := #[.slice none 0 0]) d4;have f5:(w4.setRow g4 #[.slice none 0 0]).heap[g5]? = some (.cells #[u5] 32 (0,0)):=by rw[setRow_other w4 g4 g5 _ h45.symm];exact d5
 refine Z2H (o:=(rgB Tryz.f171 6).getD 1 default) kr kr (Z3a (by intro c h;cases h) (Z5L (Z8g (t:=182) (x:=.tmp 4) (y:=.const (.slice none 0 0)) (v:=.slice none 0 0) kr v4 rfl d4 rfl kr) ?_));refine Z2H (o:=(rgB Tryz.f171 6).getD 2 default) kr kr (Z3a (by intro c h;cases h) (Z5L (Z8g (t:=32) (x:=.tmp 5) (y:=.tmp 16) (v:=.int .i64 19) kr v5 v16 f5 rfl kr) ?_));generalize hw5:(w4.setRow g4 #[.slice none 0 0]).setRow g5 #[.int .i64 19]=w5;have sm:∀ {g:Nat},g≠g4→g≠g5→w5.heap[g]? = w4.heap[g]? := fun {g} h k=>by
  rw[← hw5,setRow_other _ g5 g _ k,setRow_other _ g4 g _ h]
 have rw5:∀ g,rows w5 g=rows w4 g:=fun g=>by rw[← hw5,Z1Y _ g5 #[u5] #[.int .i64 19] _ f5 rfl,Z1Y _ g4 #[u4] #[.slice none 0 0] _ d4 rfl]
 have z5:w5.heap.size=w4.heap.size:=by rw[← hw5];simp[World.setRow]
 have os5:w5.os=w4.os∧w5.tape=w4.tape∧w5.output=w4.output:=by rw[← hw5];exact⟨rfl,rfl,rfl⟩
 have rl5:w5.heap[l]? = some (Obj.loop { state:=.busy,pending:=none,fn:=fn,tmps:=a0,params := #[12,13],assign:=asgF Tryz.f171 0,body:=bodF Tryz.f171 0,defers:=D }):=by
  rw[sm n4.symm n5.symm];exact same4 rl2
 have m4:g4≠D:=by rintro rfl;rw[c4]at rD;cases rD
 have m5:g5≠D:=by rintro rfl;rw[c5]at rD;cases rD
 refine wpIn_ret ?_;show Q .ret _ w5;rw[← hQ];refine⟨_,_,run_endRound (some .ret) rl5,rfl,World.putObj_heap_same (Array.getElem?_eq_some_iff.1 rl5).1, ?_, ?_, ?_, ?_⟩
 ·rw[World.putObj_heap_other nD,sm m4.symm m5.symm];exact same4 (by rw[hs2 _ nD];exact same1 rD)
 ·rw[World.putObj_heap_other n4,← hw5,setRow_other _ g5 g4 _ h45];exact e4
 ·rw[World.putObj_heap_other n5,← hw5];exact setRow_self f5
 ·have rowl:∀ (X:World) (o:Obj) (g:Nat),(∃ r,X.heap[l]? = some (.loop r))→(∃ r,o = .loop r)→rows (X.putObj l o) g=rows X g:=by
   rintro X o g ⟨r,hr⟩ ⟨r',rfl⟩;by_cases hg:g=l
   ·subst hg;simp[rows,hr,World.putObj_heap_same (Array.getElem?_eq_some_iff.1 hr).1]
   ·simp only[rows,World.putObj_heap_other hg]
  refine⟨os5.1.trans (K4.os.trans (hos2.1.trans K1.os)),os5.2.1.trans (K4.tape.trans (hos2.2.1.trans K1.tape)),os5.2.2.trans (K4.output.trans (hos2.2.2.trans K1.output)), ?_,fun g hg hn=>?_,fun g hg=>?_⟩
  ·rw[World.putObj_size,z5];have:=K1.size;have:=K4.size;omega
  ·have q1:g≠l:=fun e=>hn (.inl e);have q2:g≠g4:=fun e=>hn (.inr (.inl e));have q3:g≠g5:=fun e=>hn (.inr (.inr e));have:=K1.size;rw[World.putObj_heap_other q1,sm q2 q3,K4.block g oq (fun q=>q),hs2 g q1,K1.block g hg (fun q=>q)]
  ·have:=K1.size;rw[rowl _ _ _ ⟨_,rl5⟩ ⟨_,rfl⟩,rw5,K4.rows g oq,← hw2,rowl _ _ _ ⟨_,same1 rl⟩ ⟨_,rfl⟩,K1.rows g hg]
end Go.Proofs.YtdhchmlalchgeaaGreat
namespace Go.Proofs.YtdhchmlalchgeaaGreat
open Go.Sx Go.RowKit
def Z19(l:List Found):AV:=.d (.sl 4 (l.map Found.dv))
def Z0s(h:Heap)(i:Int):List Found×Int:=if(Z1U h i).2=true then((Z1U h i).1,0)else([],19)
def LK(w00:World)(g6:Nat)(prot:List (Nat×Obj))(A:Nat→Prop)(pre:List Found)(W:World):Prop:=LJ g6 prot A pre W∧Kept (fun _=>False) w00 W∧∀ g,A g→w00.heap.size≤g
def recV(F:Func)(fn:Nat)(a0:Array Value)(D:Nat)(st:LoopState)(pe:Option Code):Obj:=.loop { state:=st,pending:=pe,fn:=fn,tmps:=a0,params := #[12,13],assign:=asgF F 0,body:=bodF F 0,defers:=D }
def LX(w00:World)(fn:Nat)(a0:Array Value)(l D g4 g5:Nat)(W:World):Prop :=
 W.heap[l]? = some (recV Tryz.f171 fn a0 D .done (some .ret))∧W.heap[D]? = some (.deferred (some []))∧W.heap[g4]? = some (.cells #[.slice none 0 0] 182 (0,0))∧W.heap[g5]? = some (.cells #[.int .i64 19] 32 (0,0))∧Kept (fun _=>False) w00 W
theorem ZnI{w00:World}{fn:Nat}{a0:Array Value}{D l n g4 g5 g6:Nat}{u4 u5:Value}(ha0:a0.size=22)(ha4:a0[4]? = some (.pointer (some ⟨g4,0,none⟩)))(ha5:a0[5]? = some (.pointer (some ⟨g5,0,none⟩)))(ha6:a0[6]? = some (.pointer (some ⟨g6,0,none⟩)))
  (h45:g4≠g5) (h4:w00.heap.size≤g4) (h5:w00.heap.size≤g5) (hl:w00.heap.size≤l) :
  Rnd l n (LK w00 g6 [(l,recV Tryz.f171 fn a0 D .ready none),(D,.deferred (some [])),(g4,.cells #[u4] 182 (0,0)),(g5,.cells #[u5] 32 (0,0))]) (LX w00 fn a0 l D g4 g5):=by
 refine⟨fun A pre X Y ⟨J,K,hA⟩ k=>⟨J.keep k,Z3W K k (fun _ h=>h.elim),hA⟩,fun A pre X ⟨⟨ρ,h1,I,_⟩,_,_⟩ g hg=>?_,fun A pre X x ⟨J,K,hA⟩ hlen=>?_,fun A pre X ⟨J,K,hA⟩ _=>?_⟩
 ·obtain⟨b,β,k1,k2⟩:=(h1 g).1 hg;exact I.bnd b β g k1 k2
 ·obtain⟨fn',t,s,b,q1,q2⟩:=Zhz (n:=n) (D:=D) hlen ha0 ha6 (List.mem_cons_self) J x;refine⟨fn',t,s,b,q1,q2.mono ?_⟩;rintro e W' ⟨rfl,A',J',hA',K'⟩;refine⟨rfl,A',⟨J',Z3W K K' hA,fun g hg=>?_⟩,hA',K'⟩;rcases hA' g hg with h | h
  ·exact hA g h
  ·exact Nat.le_trans K.size h
 ·obtain⟨ρ,_,_,_,_,_,hp⟩:=J;have p1:=(hp (l,recV Tryz.f171 fn a0 D .ready none) pq).1;have p2:=(hp (D,.deferred (some [])) pq).1;have p3:=(hp (g4,.cells #[u4] 182 (0,0)) pq).1;have p4:=(hp (g5,.cells #[u5] 32 (0,0)) pq).1;obtain⟨fn',t,s,b,q1,q2⟩:=ZkH (n:=n) ha0 ha4 ha5 p1 p2 p3 p4 h45;refine⟨fn',t,s,b,q1,q2.mono ?_⟩;rintro e W' ⟨rfl,m1,m2,m3,m4,K'⟩;refine⟨rfl,m1,m2,m3,m4,Z3W K K' (fun g hg=>?_)⟩;rcases hg with rfl | rfl | rfl<;>assumption
theorem ZkB{w00 W:World}{g6:Nat}{prot:List (Nat×Obj)}{A:Nat→Prop}{pre:List Found}(J:LK w00 g6 prot A pre W):∃ sv,W.heap[g6]? = some (.cells #[sv] 182 (0,0))∧sv.oneCell'=true∧A g6∧∃ Im:Nat→Prop,(∀ g,Im g→A g∧g<W.heap.size)∧RelD W Im (.sl 4 (pre.map Found.dv)) sv:=by
 obtain⟨⟨ρ,hA,I,⟨s6,n6,h6⟩,hs,hr,hp⟩,K,hge⟩:=J;obtain⟨β,m1,m2⟩:=I.blk 6 _ rfl;rw[h6]at m1;cases m1;obtain⟨_,_,g,cs,e1,e2,e3,e4,e5⟩:=m2;cases e1;have hc:cs.size=1:=e3;obtain⟨sv,rfl⟩:∃ sv,cs = #[sv]:=⟨cs[0],by
  apply Array.ext
  ·simp[hc]
  ·intro k hk _;rcases k with _ | k
   ·rfl
   ·omega⟩
 have hsv:Rel ρ W (fun _=>False) (.ow 8020) sv:=e5 0 _ sv rfl rfl;have hA6:A g6:=(hA g6).2 ⟨6,_,h6,rfl⟩;refine⟨sv,e2,e4 0 sv rfl,hA6, ?_⟩;obtain⟨β2,k1,k2⟩:=I.blk 8020 _ rfl;let ρ':Rho:=fun b=>if b=8020 then ρ 8020 else none
 have hρ:∀ b β,ρ' b=some β→b=8020∧ρ 8020=some β:=by
  intro b β h;simp only[ρ']at h;split at h
  ·exact⟨aa,h⟩
  ·cases h
 have I2:Sx.Inv Z4g (fun _=>False) w00 ρ' W (fun _=>False) (hOf [(8020,.arr 188 4 (pre.map Found.dv))]) 20:=by
  refine⟨K.imp fun _ h=>h.elim,fun b b' β β' g _ _ q1 q2 _ _=>by rw[(hρ _ _ q1).1,(hρ _ _ q2).1],fun _ _ _ _ _ _ h=>h,fun b β g q1 q2=>I.bnd _ _ g (hρ _ _ q1).2 q2,fun b β g q1 q2=>.inl ⟨hge g ((hA g).2 ⟨8020,β,(hρ _ _ q1).2,q2⟩),by rw[(hρ _ _ q1).1];decide⟩,fun _ h=>h.elim,fun _ h=>h.elim,fun b B hB=>?_,fun b hb _=>?_,⟨by decide,fun b β hb q=>absurd hb (by rw[(hρ _ _ q).1];decide)⟩⟩
  ·simp only[hOf]at hB;split at hB
   ·cases hB;rename_i hb;subst hb;exact⟨β2,by simp only[ρ',if_true];exact k1,k2.mono (Ext.refl _ _) (fun _ h=>h) (fun _ _ h=>h) I.bnd (fun _ _=>rfl) |> fun h=>by
     obtain⟨a1,a2,a3,a4,a5⟩:=h;exact⟨a1,a2,a3,a4,a5⟩⟩
   ·cases hB
  ·simp only[ρ'];rw[if_neg oq]
 have hx:Rel ρ' W (fun _=>False) (.ow 8020) sv:=by
  cases hsv with
  | ow q1 q2 q3 q4=>exact .ow (by simp only[ρ',if_true];exact q1) q2 q3 q4
 have:=Z6j (keep:=[]) (fr:=true) (b:=8020) (els0:=pre.map Found.dv) I2 hx rfl pq ⟨_,rfl,by simp⟩ (fun e he=>he) (fun _=>Zmb pre) (fun a n c hv hn=>by
  subst hv;cases hx with
  | ow q1 q2 q3 q4 =>
   rcases q4 with q4 | ⟨g,q5,q6,_⟩
   ·omega
   ·cases q6;exact⟨_,q1,q5⟩)
 refine⟨_,fun g hg=>?_,this⟩;rcases hg with⟨h,_⟩ | ⟨b,β,_,_,q1,q2⟩
 ·cases h
 ·exact⟨(hA g).2 ⟨8020,β,(hρ _ _ q1).2,q2⟩,I.bnd _ _ g (hρ _ _ q1).2 q2⟩
end Go.Proofs.YtdhchmlalchgeaaGreat
namespace Go.Proofs.YtdhchmlalchgeaaGreat
open Go.Sx
theorem Zm9(h:Heap):¬ (atH h 0).2=0:=by
 unfold atH;split
 ·have:¬ (ofA h.C 0).2.2=0:=by
   unfold ofA;split
   ·rw[if_neg oq];simp
   ·simp
  rw[if_neg this];simp
 ·simp
theorem Zph{h:Heap}(hp:Z02 h=true){i o:Int}(hi:0≤i∧i<h.P.length)(ho:0≤o∧o<h.C.pw)(e:(atH h (adr h i o)).2=0):(pg h i).K=2→o=0∧sizeH (atH h (adr h i o)).1=(pg h i).U:=by
 have hv:=Z06 hp;have hq:=properB_iff.1 hp;have ea:adr h i o=4096+(i*h.C.pw+o):=by
  unfold adr address;rw[if_pos hv.1,if_pos (by unfold inB;simp;omega)]
 have eo:=ZfV (c:=h.C) (i:=i) (o:=o) hv.1 oq ho;rw[← ea]at eo;unfold atH at e ⊢;rw[if_pos hp,eo]at e ⊢;simp only[if_true]at e ⊢;intro hk;have hk':(h.P.getD i.toNat default).K=2:=hk;split at e
 ·rename_i h1;rw[if_pos h1];split at e
  ·simp at e
  ·rename_i h2;rw[if_neg h2];simp only[hk',not_or,not_and]at h2;have:=h2.2;simp only[true_and,not_or,Classical.not_not,forall_const]at this;exact⟨this.1,this.2⟩
 ·simp at e
theorem ZaQ{h:Heap}(hp:Z02 h=true){i:Int}(hi:0≤i∧i<h.P.length):∀ (f:Nat) (o:Int),0≤o→((pg h i).K=2→o=0) →
  ((Z1L h i f o).2=true→Z3c h i f o=some ((Z1L h i f o).1.map (·.addr)))∧((Z1L h i f o).2=false→Z3c h i f o=none)
 | 0,o,_,_=>⟨fun _=>rfl,fun h=>by cases h⟩
 | f+1,o,h0,hk=>by
  unfold Z1L Z3c;by_cases ho:o<(pg h i).U
  ·rw[if_pos ho,if_pos ho];by_cases ha:(address h.C i o).2=0
   ·by_cases hh:(atH h (adr h i o)).2=0
    ·rw[if_pos ⟨ha,hh⟩,if_pos hh];have hpw:o<h.C.pw:=by
      unfold address at ha;split at ha
      ·split at ha
       ·rename_i hb;unfold inB at hb;simp at hb;omega
       ·simp at ha
      ·simp at ha
     have h2:=Zph hp hi ⟨h0,hpw⟩ hh;by_cases hk2:(pg h i).K=2
     ·rw[if_pos hk2];have e:Z1L h i f (o+sizeH (atH h (adr h i o)).1)=([],true):=by
       have:=h2 hk2;cases f with
       | zero=>rfl
       | succ f=>unfold Z1L;rw[if_neg oq]
      rw[e];exact⟨fun _=>rfl,fun h=>by cases h⟩
     ·rw[if_neg hk2];have sz:=Z1a (atH h (adr h i o)).1;obtain⟨i1,i2⟩:=ZaQ hp hi f (o+sizeH (atH h (adr h i o)).1) oq (fun h=>absurd h hk2);exact⟨fun h=>by rw[i1 h];rfl,fun h=>by rw[i2 h];rfl⟩
    ·rw[if_neg (fun q=>hh q.2),if_neg hh];exact⟨fun h=>(by cases h),fun _=>rfl⟩
   ·have e:adr h i o=0:=by
     unfold adr address at *;split at ha
     ·rename_i hv;split at ha
      ·simp at ha
      ·rename_i hb;rw[if_pos hv,if_neg hb]
     ·rename_i hv;rw[if_neg hv]
    rw[if_neg (fun q=>ha q.1),if_neg (by rw[e];exact Zm9 h)];exact⟨fun h=>(by cases h),fun _=>rfl⟩
  ·rw[if_neg ho,if_neg ho];exact⟨fun _=>rfl,fun h=>(by cases h)⟩
theorem ZfK{h:Heap}{i:Int}:∀ {f:Nat} {o:Int},∀ x∈(Z1L h i f o).1,x.hd=(atH h x.addr).1∧(atH h x.addr).2=0∧∃ o,x.addr=adr h i o
 | 0,o,x,hx=>by simp[Z1L]at hx
 | f+1,o,x,hx=>by
  unfold Z1L at hx;split at hx
  ·split at hx
   ·rename_i h1;rcases List.mem_cons.1 hx with rfl | hx
    ·exact⟨rfl,h1.2,o,rfl⟩
    ·exact ZfK x hx
   ·simp at hx
  ·simp at hx
theorem Zd0{h:Heap}{i:Int}:∀ {f:Nat} {o:Int},(Z1L h i f o).1.length≤f
 | 0,o=>by simp[Z1L]
 | f+1,o=>by
  unfold Z1L;split
  ·split
   ·have:=Zd0 (h:=h) (i:=i) (f:=f) (o:=o+sizeH (atH h (adr h i o)).1);simp only[List.length_cons];omega
   ·simp
  ·simp
theorem Z7y{h:Heap}(hp:Z02 h=true){i:Int}(hi:0≤i∧i<h.P.length):Z07 h i=((Z0s h i).1.map (·.addr),(Z0s h i).2):=by
 have hk:=(Z0D hp (j:=i.toNat) oq)
 unfold Z07 Z0s Z1U;rw[if_pos hp,if_pos hi];by_cases h1:(pg h i).K=0∨(pg h i).K=3
 ·have e:(if(pg h i).K=1∨(pg h i).K=2 then Z1L h i 256 0 else([],true))=([],true):=if_neg oq;rw[if_pos h1,e];rfl
 ·have h2:(pg h i).K=1∨(pg h i).K=2:=by
   have:0≤(pg h i).K∧(pg h i).K≤3:=⟨hk.2.2.2.2.1,hk.2.2.2.2.2.1⟩
   omega
  rw[if_neg h1,if_pos h2];obtain⟨i1,i2⟩:=ZaQ hp hi 256 0 oq (fun _=>rfl);cases e:(Z1L h i 256 0).2 with
  | true=>rw[i1 e];rfl
  | false=>rw[i2 e];rfl
theorem Z4A(h:Heap)(i:Int):(Z0s h i).1.length≤256:=by
 unfold Z0s Z1U;split
 ·split
  ·exact Zd0
  ·simp
 ·simp
theorem Zan{h:Heap}{i:Int}:∀ x∈(Z0s h i).1,x.hd=(atH h x.addr).1∧(atH h x.addr).2=0∧∃ o,x.addr=adr h i o:=by
 intro x hx;unfold Z0s Z1U at hx;split at hx
 ·split at hx
  ·exact ZfK x hx
  ·simp at hx
 ·simp at hx
def allR(h:Heap):Nat→Nat→List Found×Int
 | 0,_=>([],0)
 | f+1,i=>if(Z0s h i).2=0 then(if(allR h f (i+1)).2=0 then((Z0s h i).1++(allR h f (i+1)).1,0)else([],(allR h f (i+1)).2))else([],(Z0s h i).2)
def allW(h:Heap):List Found×Int:=if Z02 h=true then allR h h.P.length 0 else([],1)
theorem ZjV{h:Heap}(hp:Z02 h=true):∀ (f i:Nat),i+f≤h.P.length→Z0L h f i=((allR h f i).1.map (·.addr),(allR h f i).2)
 | 0,i,_=>rfl
 | f+1,i,hi=>by
  unfold Z0L allR;rw[Z7y hp (i:=i) oq,ZjV hp f (i+1) oq];simp only;split
  ·split
   ·simp
   ·rfl
  ·rfl
theorem Ze4(h:Heap):Z0A h=((allW h).1.map (·.addr),(allW h).2):=by
 unfold Z0A allW;split
 ·rename_i hp;exact ZjV hp _ _ oq
 ·rfl
theorem Zmd(h:Heap):∀ (f i:Nat),¬ (allR h f i).2=0→(allR h f i).1=[]
 | 0,i,e=>absurd rfl e
 | f+1,i,e=>by
  unfold allR at e ⊢;split at e
  ·rename_i h1;rw[if_pos h1];split at e
   ·exact absurd rfl e
   ·rename_i h2;rw[if_neg h2]
  ·rename_i h1;rw[if_neg h1]
theorem Zj0{h:Heap}:∀ (f i:Nat),∀ x∈(allR h f i).1,x.hd=(atH h x.addr).1∧(atH h x.addr).2=0
 | 0,i,x,hx=>by simp[allR]at hx
 | f+1,i,x,hx=>by
  unfold allR at hx;split at hx
  ·split at hx
   ·rcases List.mem_append.1 hx with hx | hx
    ·exact⟨(Zan x hx).1,(Zan x hx).2.1⟩
    ·exact Zj0 f (i+1) x hx
   ·simp at hx
  ·simp at hx
theorem Zk6{h:Heap}:∀ x∈(allW h).1,x.hd=(atH h x.addr).1∧(atH h x.addr).2=0:=by
 intro x hx;unfold allW at hx;split at hx
 ·exact Zj0 _ _ x hx
 ·simp at hx
theorem Zfj(h:Heap):∀ (f i:Nat),(allR h f i).1.length≤256*f
 | 0,i=>by simp[allR]
 | f+1,i=>by
  have:=Z4A h i;have:=Zfj h f (i+1);unfold allR;split
  ·split
   ·simp;omega
   ·simp
  ·simp
theorem Zlb(h:Heap):(allW h).1.length≤16384:=by
 unfold allW;split
 ·rename_i hp;have:=Zfj h h.P.length 0;have:=Z06 hp;omega
 ·simp
end Go.Proofs.YtdhchmlalchgeaaGreat
namespace Go.Proofs.YtdhchmlalchgeaaGreat
open Go.Sx Go.RowKit
theorem ZiG{h:Heap}{i:Int}(e:(Z1U h i).2=true):Z0s h i=((Z1U h i).1,0):=if_pos e
theorem ZgH{h:Heap}{i:Int}(e:(Z1U h i).2=false):Z0s h i=([],19):=if_neg (by rw[e];simp)
theorem Z85{w00 X:World}(K:Kept (fun _=>False) w00 X){g:Nat}{o:Obj}(hg:w00.heap.size≤g):Kept (fun _=>False) w00 (X.putObj g o):=by
 refine⟨K.os,K.tape,K.output,by rw[World.putObj_size];exact K.size,fun k hk _=>by rw[World.putObj_heap_other oq];exact K.block k hk id,fun k hk=>?_⟩;have:=K.rows k hk;unfold rows at this ⊢;rw[World.putObj_heap_other oq];exact this
theorem ZfJ{w00 X:World}(K:Kept (fun _=>False) w00 X){g:Nat}{cs:Array Value}(hg:w00.heap.size≤g):Kept (fun _=>False) w00 (X.setRow g cs):=by
 refine⟨K.os,K.tape,K.output,by have:=K.size;simp[World.setRow];omega,fun k hk _=>by rw[setRow_other X g k _ oq];exact K.block k hk id,fun k hk=>?_⟩;have:=K.rows k hk;unfold rows at this ⊢;rw[setRow_other X g k _ oq];exact this
theorem kept_alloc{w00 X:World}(K:Kept (fun _=>False) w00 X)(o:Obj):Kept (fun _=>False) w00 (X.alloc o):=by
 have hs:=K.size;refine⟨K.os,K.tape,K.output,by simp;omega,fun k hk _=>by rw[Below.heap_alloc _ _ _ oq];exact K.block k hk id,fun k hk=>?_⟩;have:=K.rows k hk;unfold rows at this ⊢;rw[Below.heap_alloc _ _ _ oq];exact this
theorem Zi4{X:World}{l g:Nat}{x y:Option (List Deferred)}(h:X.heap[l]? = some (.deferred x)):rows (X.putObj l (.deferred y)) g=rows X g:=by
 by_cases hg:g=l
 ·subst hg;simp[rows,h,World.putObj_heap_same (Array.getElem?_eq_some_iff.1 h).1]
 ·simp only[rows,World.putObj_heap_other hg]
theorem Zjv{X:World}{l g:Nat}{x y:Loop}(h:X.heap[l]? = some (.loop x)):rows (X.putObj l (.loop y)) g=rows X g:=by
 by_cases hg:g=l
 ·subst hg;simp[rows,h,World.putObj_heap_same (Array.getElem?_eq_some_iff.1 h).1]
 ·simp only[rows,World.putObj_heap_other hg]
theorem Z62{a:Act}{k:Nat}{v:Value}(h:a.tmps[k]? = some v):a.eval (.tmp k)=v:=by
 show a.tmps.getD k undef=v;simp[Array.getD_eq_getD_getElem?,h]
theorem Z7L{a:Act}{k d:Nat}{u v:Value}(h:a.tmps[k]? = some v)(hk:d≠k):(a.put (some d) u).tmps[k]? = some v:=by
 show(a.tmps.setIfInBounds d u)[k]? = some v;rw[Array.getElem?_setIfInBounds_ne hk];exact h
theorem Z69{a:Act}{d:Nat}{u:Value}(h:d<a.tmps.size):(a.put (some d) u).tmps[d]? = some u:=by
 show(a.tmps.setIfInBounds d u)[d]? = some u;rw[Array.getElem?_setIfInBounds_self_of_lt h]
theorem Zl0{W:World}{g6:Nat}(c6:W.heap[g6]? = some (.cells #[.slice none 0 0] 182 (0,0)))(prot:List (Nat×Obj))(hp:∀ p∈prot,W.heap[p.1]? = some p.2∧p.1≠g6):LJ g6 prot (fun g=>g=g6) [] W:=by
 have l6:g6<W.heap.size:=(Array.getElem?_eq_some_iff.1 c6).1;let ρ:Rho:=fun b=>if b=6 then some ⟨some g6,1,1⟩else if b=8020 then some ⟨none,4,0⟩else none
 have hρ:∀ b β,ρ b=some β→(b=6∧β=⟨some g6,1,1⟩)∨(b=8020∧β=⟨none,4,0⟩):=by
  intro b β h;simp only[ρ]at h;split at h
  ·cases h;exact .inl ⟨aa,rfl⟩
  ·split at h
   ·cases h;exact .inr ⟨aa,rfl⟩
   ·cases h
 have hA:∀ g,g=g6↔∃ b β,ρ b=some β∧β.g=some g:=by
  intro g;constructor
  ·rintro rfl;exact⟨6,_,rfl,rfl⟩
  ·rintro⟨b,β,h,h'⟩;rcases hρ b β h with⟨_,rfl⟩ | ⟨_,rfl⟩
   ·cases h';rfl
   ·cases h'
 have hg:∀ b β g,ρ b=some β→β.g=some g→b=6∧g=g6:=by
  intro b β g h h';rcases hρ b β h with⟨rfl,rfl⟩ | ⟨_,rfl⟩
  ·cases h';exact⟨rfl,rfl⟩
  ·cases h'
 refine⟨ρ,hA,⟨Kept.refl _ _,fun b b' β β' g _ _ q1 q2 q3 q4=>by rw[(hg _ _ _ q1 q3).1,(hg _ _ _ q2 q4).1],fun _ _ _ _ _ _ h=>h,fun b β g q1 q2=>by rw[(hg _ _ _ q1 q2).2];exact l6,fun b β g q1 q2=>.inr ⟨b,β,q1,q2⟩,fun _ h=>h.elim,fun _ h=>h.elim,fun b B q=>?_,fun b hb _=>?_,⟨by decide,fun _ _ _ h=>h⟩⟩,⟨1,1,rfl⟩,fun b β h=>?_,fun b β g q1 q2=>?_,fun p hpp=>hp p hpp⟩
 ·simp only[lstH,List.map_nil,hOf]at q;split at q
  ·rename_i hb;cases q;subst hb;exact⟨_,rfl,rfl,rfl,by simp[big],by simp,.inl ⟨rfl,rfl⟩⟩
  ·split at q
   ·rename_i hb;cases q;subst hb;refine⟨_,rfl,rfl,rfl,g6,_,rfl,c6,rfl,fun i v h=>?_,fun o a v ha hv=>?_⟩
    ·rcases i with _ | i<;>simp at h;subst h;rfl
    ·rcases o with _ | o<;>simp at ha hv;subst ha;subst hv;exact .ow (β:=⟨none,4,0⟩) rfl (Nat.le_refl _) (by simp[big]) (.inl rfl)
   ·cases q
 ·simp only[ρ];rw[if_neg oq,if_neg oq]
 ·rcases hρ b β h with⟨rfl,_⟩ | ⟨rfl,_⟩<;>simp
 ·obtain⟨rfl,rfl⟩:=hg _ _ _ q1 q2;rcases hρ _ _ q1 with⟨_,rfl⟩ | ⟨h,_⟩
  ·simp[rows,c6]
  ·omega
theorem Zj1{w00 W:World}{Im Im':Nat→Prop}{v4 v5:Value}{l:List Found}{e:Int}(K:Kept (fun _=>False) w00 W)(h1:∀ g,Im' g→w00.heap.size≤g∧g<W.heap.size)(h4:RelD W Im' (.sl 4 (l.map Found.dv)) v4)(h5:v5 = .int .i64 e) :
  ZeW w00 Im true (.tu [Z19 l,int e]) [] (.tuple #[v4,v5]) W:=by
 subst h5;refine⟨K,fun _=>none,Im',fun g hg=>.inr (h1 g hg).1,fun g hg=>(h1 g hg).2,fun _ _ _ h=>(by cases h),fun _ _ _ _ _ h=>(by cases h),fun _ _ h=>(by cases h),fun k B h=>(by simp at h),.tu _ _ rfl fun i a v ha hv=>?_⟩;rcases i with _ | _ | i<;>simp at ha hv
 ·subst ha;subst hv;exact .d h4
 ·subst ha;subst hv;exact .d (.sc _ rfl)
theorem ZlE{h:Heap}{i:Int}(hw:WOk h.W)(hp:Z02 h=true)(hi:0≤i∧i<h.P.length){w00 w4:World}{Im Im4:Nat→Prop}{a4:Act}{g4 g5 g6:Nat}{u4 u5 p1 p2:Value}
  (K:Kept (fun _=>False) w00 w4) (ha:a4.tmps.size=22) (t4:a4.tmps[4]? = some (.pointer (some ⟨g4,0,none⟩))) (t5:a4.tmps[5]? = some (.pointer (some ⟨g5,0,none⟩))) (t6:a4.tmps[6]? = some (.pointer (some ⟨g6,0,none⟩)))
  (t11:a4.tmps[11]? = some (.func (.func 205) #[] #[p1,p2])) (hd:a4.defers=[]) (l4:w00.heap.size≤g4) (l5:w00.heap.size≤g5) (n45:g4≠g5) (n46:g4≠g6) (n56:g5≠g6) (l6:w00.heap.size≤g6)
  (c4:w4.heap[g4]? = some (.cells #[u4] 182 (0,0))) (c5:w4.heap[g5]? = some (.cells #[u5] 32 (0,0))) (c6:w4.heap[g6]? = some (.cells #[.slice none 0 0] 182 (0,0)))
  (hIm:∀ g,Im4 g→g<w4.heap.size∧g≠g6) (r1:Rel (fun _=>none) w4 Im4 (.rp h.dvs 0) p1) (r2:Rel (fun _=>none) w4 Im4 (.rp [dint i] 0) p2) {Q:Exit→Act→World→Prop}
  (hQ:bodyPostM Fence.wide 10 Tryz.prog Tryz.f171 (fun e w'=>∃ v,e=Ending.returned v∧ZeW w00 Im true (AV.tu [Z19 (Z0s h i).1,int (Z0s h i).2]) [] v w')=Q) :
  (blkF Tryz.f171 0).wpIn Fence.wide 10 Tryz.prog (Exit.then ((Code.seq (.region 8 (rgO Tryz.f171 8) false) .ret).wpIn Fence.wide 10 Tryz.prog Q) Q) a4 w4:=by
 have hs4:=K.size;rw[show blkF Tryz.f171 0 = .block 0 (.rangeFunc (.tmp 11) #[12,13] (asgF Tryz.f171 0) (bodF Tryz.f171 0))from by kernel_rfl];refine wpIn_block (wpIn_rangeFunc ?_);intro fn hfn;have q4:g4<w4.heap.size:=(Array.getElem?_eq_some_iff.1 c4).1;have q5:g5<w4.heap.size:=(Array.getElem?_eq_some_iff.1 c5).1;have q6:g6<w4.heap.size:=(Array.getElem?_eq_some_iff.1 c6).1;obtain⟨D,hD⟩:∃ D,w4.heap.size=D:=⟨_,rfl⟩
 obtain⟨W1,hW1⟩:∃ W1,(w4.alloc (.deferred (some []))).alloc (recV Tryz.f171 fn a4.tmps D .ready none)=W1:=⟨_,rfl⟩
 have old:∀ {g:Nat},g<D→W1.heap[g]? = w4.heap[g]? := fun {g} hg=>by
  rw[← hW1,Below.heap_alloc _ _ _ qo,Below.heap_alloc _ _ _ oq]
 have atD:W1.heap[D]? = some (.deferred (some [])):=by
  rw[← hW1,Below.heap_alloc _ _ _ qo,← hD];exact World.alloc_heap_new _ _
 have atL:W1.heap[D+1]? = some (recV Tryz.f171 fn a4.tmps D .ready none):=by
  have:=World.alloc_heap_new (w4.alloc (.deferred (some []))) (recV Tryz.f171 fn a4.tmps D .ready none);rw[World.size_alloc,hD]at this;rw[← hW1];exact this
 have z1:W1.heap.size=D+2:=by rw[← hW1];simp;omega
 have K1:Kept (fun _=>False) w00 W1:=by rw[← hW1];exact kept_alloc (kept_alloc K _) _
 have E1:Sx.Ext Im4 w4 W1:=⟨by omega,fun g hg=>old (by have:=(hIm g hg).1;omega),fun g hg=>by unfold rows;rw[old oq]⟩
 have J0:LK w00 g6 [(D+1,recV Tryz.f171 fn a4.tmps D .ready none),(D,.deferred (some [])),(g4,.cells #[u4] 182 (0,0)),(g5,.cells #[u5] 32 (0,0))] (fun g=>g=g6) [] W1:=by
  refine⟨Zl0 (by rw[old oq];exact c6) _ fun p hpp=>?_,K1,fun g hg=>by omega⟩;simp only[List.mem_cons,List.not_mem_nil,or_false]at hpp;rcases hpp with rfl | rfl | rfl | rfl
  ·exact⟨atL,by show D+1≠g6;omega⟩
  ·exact⟨atD,by show D≠g6;omega⟩
  ·exact⟨by rw[old (by show g4<D;omega)];exact c4,n46⟩
  ·exact⟨by rw[old (by show g5<D;omega)];exact c5,n56⟩
 have RR:=ZnI (w00:=w00) (fn:=fn) (a0:=a4.tmps) (D:=D) (l:=D+1) (n:=8) (g4:=g4) (g5:=g5) (g6:=g6) (u4:=u4) (u5:=u5) ha t4 t5 t6 n45 l4 l5 oq;have v11:=Z62 t11;refine⟨D+1,[{ target:=.collected D,args := #[] }],W1,{ target:=.fn (.func 205) #[p1,p2],args := #[Z2b (D+1)] },W1,205,#[Z2b (D+1)] ++ #[p1,p2],W1, ?_, ?_,fun _ _=>trivial, ?_,fun _=>by decide, ?_⟩
 ·rw[← hW1,← hD];exact run_enterLoop_outer _ _ _ _ _
 ·simp[resolve,t11,Deferred.ofValue,rangeCall,Z2b,go_sem]
 ·have:=Z2o (P:=Tryz.prog) (f:=205) kr (#[Z2b (D+1)] ++ #[p1,p2]) W1;simp[invoke,go_sem]at this ⊢ <;> exact this
 ·refine(ZnB h i (D+1) 8 hw hp hi RR (Im:=Im4) (fun g hg=>⟨by have:=(hIm g hg).1;omega,(hIm g hg).2⟩) (r1.mono E1 (fun _ h=>h) (fun _ _ h=>h) (fun _ _ _ h=>nomatch h)) (r2.mono E1 (fun _ h=>h) (fun _ _ h=>h) (fun _ _ _ h=>nomatch h)) J0).mono ?_;rintro e W2 ⟨⟨v,rfl⟩,hh⟩;rcases hh with⟨e1,A,J2⟩ | ⟨e1,x1,x2,x3,x4,x5⟩
  ·obtain⟨sv,s1,s2,s3,Im',s4,s5⟩:=ZkB J2;obtain⟨⟨ρ,_,_,_,_,_,hpp⟩,K2,hge⟩:=J2;have pl:=hpp (D+1,recV Tryz.f171 fn a4.tmps D .ready none) pq;have pD:=hpp (D,.deferred (some [])) pq;have p4:=hpp (g4,.cells #[u4] 182 (0,0)) pq;have p5:=hpp (g5,.cells #[u5] 32 (0,0)) pq;have n6:∀ {g:Nat},¬ A g→g6≠g:=fun hg e=>hg (e▸s3);refine⟨none,_,run_endLoop pl.1 pq, ?_⟩;show(Code.seq (.region 8 (rgO Tryz.f171 8) false) .ret).wpIn Fence.wide 10 Tryz.prog Q { tmps:=a4.tmps,defers:=[{ target:=.collected D,args := #[] }]++a4.defers } _;rw[hd];generalize hW3:W2.putObj (D+1) _=W3;have o3:∀ {g:Nat},g≠D+1→W3.heap[g]? = W2.heap[g]? := fun {g} hg=>by rw[← hW3];exact World.putObj_heap_other hg
   have K3:Kept (fun _=>False) w00 W3:=by rw[← hW3];exact Z85 K2 oq
   have z3:W3.heap.size=W2.heap.size:=by rw[← hW3];exact World.putObj_size
   have d6:W3.heap[g6]? = some (.cells #[sv] 182 (0,0)):=by rw[o3 (n6 pl.2)];exact s1
   have d4:W3.heap[g4]? = some (.cells #[u4] 182 (0,0)):=by rw[o3 oq];exact p4.1
   have d5:W3.heap[g5]? = some (.cells #[u5] 32 (0,0)):=by rw[o3 oq];exact p5.1
   have dD:W3.heap[D]? = some (.deferred (some [])):=by rw[o3 oq];exact pD.1
   refine wpIn_seq (wpIn_region ?_);rw[show List.range (rgO Tryz.f171 8).size=[0,1,2]from by kernel_rfl];refine Z2H (o:=(rgO Tryz.f171 8).getD 0 default) kr kr (Z3a (ro:=none) (by intro c h;cases h) (Z6R (Zn5 (t:=182) (x:=.tmp 6) kr (Z62 t6) d6 s2 kr) ?_));have e4:(W3.setRow g4 #[sv]).heap[g4]? = some (.cells #[sv] 182 (0,0)):=setRow_self d4;have f5:(W3.setRow g4 #[sv]).heap[g5]? = some (.cells #[u5] 32 (0,0)):=by rw[setRow_other W3 g4 g5 _ n45.symm];exact d5
   refine Z2H (o:=(rgO Tryz.f171 8).getD 1 default) kr kr (Z3a (ro:=none) (by intro c h;cases h) (Z5L (Z8g (t:=182) (x:=.tmp 4) (y:=.tmp 21) (v:=sv) kr (Z62 (Z7L t4 dd)) (Z62 (Z69 (by show 21<a4.tmps.size;omega))) d4 s2 kr) ?_));refine Z2H (o:=(rgO Tryz.f171 8).getD 2 default) kr kr (Z3a (ro:=none) (by intro c h;cases h) (Z5L (Z8g (t:=32) (x:=.tmp 5) (y:=.const (.int .i64 0)) (v:=.int .i64 0) kr (Z62 (Z7L t5 dd)) rfl f5 rfl kr) ?_));generalize hW5:(W3.setRow g4 #[sv]).setRow g5 #[.int .i64 0]=W5;have o5:∀ {g:Nat},g≠g4→g≠g5→W5.heap[g]? = W3.heap[g]? := fun {g} h k=>by
    rw[← hW5,setRow_other _ g5 g _ k,setRow_other _ g4 g _ h]
   have m4:g4≠D:=by omega
   have m5:g5≠D:=by omega
   have K5:Kept (fun _=>False) w00 W5:=by rw[← hW5];exact ZfJ (ZfJ K3 l4) l5
   have z5:W5.heap.size=W2.heap.size:=by rw[← hW5,← z3];simp[World.setRow]
   refine wpIn_ret ?_;show Q .ret _ W5;rw[← hQ,ZiG e1];refine Zdz (g4:=g4) (g5:=g5) (v4:=sv) (v5:=.int .i64 0) (Z62 (a := { tmps:=_,defers:=[] }) (Z7L t4 dd)) (Z62 (a := { tmps:=_,defers:=[] }) (Z7L t5 dd)) ?_ ?_ s2 rfl ?_ ⟨_,rfl,Zj1 (Im':=Im') (Z85 K5 oq) (fun g hg=>?_) (s5.mono ⟨?_,fun g hg=>?_,fun g hg=>?_⟩ (fun _ h=>h)) rfl⟩
   ·rw[← hW5,setRow_other _ g5 g4 _ n45];exact e4
   ·rw[← hW5];exact setRow_self f5
   ·rw[o5 m4.symm m5.symm];exact dD
   ·have:=(s4 g hg).2;have:=hge g (s4 g hg).1;rw[World.putObj_size];omega
   ·rw[World.putObj_size];omega
   ·have hA:=(s4 g hg).1;have ne:∀ {k:Nat},¬ A k→g≠k:=fun hk e=>hk (e▸hA);rw[World.putObj_heap_other (ne pD.2),o5 (ne p4.2) (ne p5.2),o3 (ne pl.2)]
   ·rw[Zi4 (by rw[o5 m4.symm m5.symm];exact dD),← hW5,Z1Y _ g5 #[u5] #[.int .i64 0] _ f5 rfl,Z1Y _ g4 #[u4] #[sv] _ d4 rfl,← hW3,Zjv pl.1]
  ·refine⟨some .ret,_,run_endLoop x1 pq, ?_⟩;refine wpIn_ret ?_;show Q .ret { tmps:=a4.tmps,defers:=[{ target:=.collected D,args := #[] }]++a4.defers } _;rw[hd,← hQ,ZgH e1];refine Zdz (g4:=g4) (g5:=g5) (v4:=.slice none 0 0) (v5:=.int .i64 19) (Z62 (a := { tmps:=_,defers:=[] }) t4) (Z62 (a := { tmps:=_,defers:=[] }) t5) ?_ ?_ rfl rfl ?_ ⟨_,rfl,Zj1 (Im':=fun _=>False) (Z85 (Z85 x5 oq) oq) (fun _ h=>h.elim) (.slNil _ _ _) rfl⟩
   ·rw[World.putObj_heap_other oq];exact x3
   ·rw[World.putObj_heap_other oq];exact x4
   ·rw[World.putObj_heap_other oq];exact x2
theorem Z5s(h:Heap)(i:Int)(hw:WOk h.W)(hp:Z02 h=true)(hi:0≤i∧i<h.P.length):GP 171 [h.av,int i] true (.tu [Z19 (Z0s h i).1,int (Z0s h i).2]) []:=by
 intro w00 Im vs hIm hsz hargs;rw[← callsIn_wide (n:=10)];refine callsIn_of_wp_marks Tryz.func171 (c:=bdyF Tryz.f171) kr trivial ?_ rfl;have S0:Sx.Sys Z4g Im w00 (tm 22 [(0,h.av),(1,int i)]) (hOf []) 1 { tmps:=vs++Array.replicate (Tryz.f171.ntmps-vs.size) undef,defers:=[] } w00:=by
  have hs2:vs.size=2:=hsz;refine⟨_,Im,Sx.Inv.empty hIm (Nat.le_refl 1),⟨by rw[hs2];simp[hs2];kernel_rfl,fun k y v hy hv=>?_,rfl⟩⟩;rw[show tm 22 [(0,h.av),(1,int i)]=[h.av,int i]++List.replicate 20 .any from by kernel_rfl,List.getElem?_append]at hy;rw[Array.getElem?_append]at hv;split at hy
  ·rename_i hk;rw[if_pos (by rw[hsz];exact hk)]at hv;exact hargs k y v hy hv
  ·have:=List.mem_of_getElem? hy;rw[(List.mem_replicate.1 this).2];exact .any _
 generalize hR:(fun e w'=>∃ v,e=Ending.returned v∧ZeW w00 Im true (AV.tu [Z19 (Z0s h i).1,int (Z0s h i).2]) [] v w')=R;generalize hQ:bodyPostM Fence.wide 10 Tryz.prog Tryz.f171 R=Q;refine ZnQ h i 10 Q _ _ _ _ _ S0 ?_;rintro a1 w1 ⟨ρ1,Im1,I1,T1⟩;obtain⟨v2,t2,r2⟩:=T1.at (t:=2) (x:=.pt 8002 0 0) rfl;obtain⟨v4,t4,r4⟩:=T1.at (t:=4) (x:=.pt 8004 0 0) rfl;obtain⟨v5,t5,r5⟩:=T1.at (t:=5) (x:=.pt 8005 0 0) rfl;obtain⟨β2,m2,n2⟩:=I1.blk 8002 _ rfl;obtain⟨β4,m4,n4⟩:=I1.blk 8004 _ rfl;obtain⟨β5,m5,n5⟩:=I1.blk 8005 _ rfl;have rp2:Rel (fun _=>none) w1 (fun g=>Im1 g∨β2.g=some g) (.rp h.dvs 0) v2:=Z6s m2 n2 r2 (fun _ h=>.inl h) (fun _ h=>.inr h);obtain⟨g4,s4,k4,e4,rfl⟩:=Z2J r4;obtain⟨g5,s5,k5,e5,rfl⟩:=Z2J r5;rw[m4]at e4;cases e4;rw[m5]at e5;cases e5;have h45:g4≠g5:=by
  rintro rfl;have:=I1.inj 8004 8005 _ _ g4 ⟨_,rfl,by simp⟩ ⟨_,rfl,by simp⟩ m4 m5 rfl rfl;omega
 have l4:w00.heap.size≤g4:=(I1.own 8004 _ g4 m4 rfl).elim (·.1) (fun h=>h.no.elim);have l5:w00.heap.size≤g5:=(I1.own 8005 _ g5 m5 rfl).elim (·.1) (fun h=>h.no.elim);have cell:∀ {β:Bi} {ty g:Nat} {x:AV},RelB ρ1 w1 Im1 β (.box ty [x])→β.g=some g→∃ u,w1.heap[g]? = some (.cells #[u] ty (0,0)):=by
  intro β ty g x hb hg;obtain⟨_,_,g',cs,q1,q2,q3,_⟩:=hb;rw[hg]at q1;cases q1;have hc:cs.size=1:=q3;exact⟨cs[0],by
   have:cs = #[cs[0]]:=by
    apply Array.ext
    ·simp[hc]
    ·intro k hk _;rcases k with _ | k
     ·rfl
     ·omega
   rw[← this];exact q2⟩
 obtain⟨u4,c4⟩:=cell n4 rfl;obtain⟨u5,c5⟩:=cell n5 rfl;have er:rest Tryz.prog 10 1 (bdyF Tryz.f171) Q a1 w1=(Code.region 1 (rgO Tryz.f171 1) false).wpIn Fence.wide 10 Tryz.prog (Exit.then ((Code.seq (.seq (.region 2 (rgO Tryz.f171 2) false) (blkF Tryz.f171 0)) (.seq (.region 8 (rgO Tryz.f171 8) false) .ret)).wpIn Fence.wide 10 Tryz.prog Q) Q) a1 w1:=by kernel_rfl
 rw[er];refine wpIn_region ?_;rw[show List.range (rgO Tryz.f171 1).size=[0]from by kernel_rfl];refine Z2H (o:=(rgO Tryz.f171 1).getD 0 default) kr kr (Z3a (ro:=none) (by intro c h;cases h) (Z6R (Zkt (t:=182) (z:=.slice none 0 0) kr kr) ?_));show(Code.seq (.seq (.region 2 (rgO Tryz.f171 2) false) (blkF Tryz.f171 0)) (.seq (.region 8 (rgO Tryz.f171 8) false) .ret)).wpIn Fence.wide 10 Tryz.prog Q (a1.put (some 6) (.pointer (some ⟨w1.heap.size,0,none⟩))) (w1.alloc (.cells #[.slice none 0 0] 182));obtain⟨w2,hw2⟩:∃ w2,w1.alloc (.cells #[.slice none 0 0] 182)=w2:=⟨_,rfl⟩
 rw[hw2];obtain⟨g6,hg6⟩:∃ g6,w1.heap.size=g6:=⟨_,rfl⟩
 rw[hg6];have E2:Sx.Ext (fun g=>Im1 g∨β2.g=some g) w1 w2:=by
  rw[← hw2];refine Sx.Ext.alloc _ w1 _ ?_;rintro g (hg | hg)
  ·exact I1.imb g hg
  ·exact I1.bnd _ _ g m2 hg
 have z2:w2.heap.size=w1.heap.size+1:=by rw[← hw2];simp
 have K2:Kept (fun _=>False) w1 w2:=by
  rw[← hw2];exact⟨rfl,rfl,rfl,by simp,fun k hk _=>Below.heap_alloc _ _ _ hk,fun k hk=>by simp only[rows];rw[Below.heap_alloc _ _ _ hk]⟩
 have c6:w2.heap[g6]? = some (.cells #[.slice none 0 0] 182 (0,0)):=by rw[← hw2,← hg6];exact World.alloc_heap_new _ _
 have T2:RelT (fun _=>none) w2 (fun g=>Im1 g∨β2.g=some g) (tm 22 [(1,int i),(2,.rp h.dvs 0),(4,ptr g4),(5,ptr g5),(6,ptr g6)]) (a1.put (some 6) (.pointer (some ⟨g6,0,none⟩))):=by
  have A1:RelT ρ1 w1 (fun g=>Im1 g∨β2.g=some g) _ a1:=T1.mono (Sx.Ext.refl _ _) (fun _ h=>.inl h) (fun _ _ h=>h) I1.bnd;have A2:=((((A1.reSet 2 .any (fun v _=>.any v)).reSet 4 .any (fun v _=>.any v)).reSet 5 .any (fun v _=>.any v)).pure kr)
  have A3:=((A2.reSet 2 (.rp h.dvs 0) (fun v hv=>by rw[t2]at hv;cases hv;exact rp2)).reSet 4 (ptr g4) (fun v hv=>by rw[t4]at hv;cases hv;simp only[Nat.zero_mul,Nat.add_zero];exact .d (.sc _ rfl))).reSet 5 (ptr g5) (fun v hv=>by rw[t5]at hv;cases hv;simp only[Nat.zero_mul,Nat.add_zero];exact .d (.sc _ rfl));exact(A3.mono E2 (fun _ h=>h) (fun _ _ h=>h) (fun _ _ _ h=>nomatch h)).put 6 (Rel.d (RelD.sc _ rfl))
 have S2:Sx.Sys Z4g (fun g=>Im1 g∨β2.g=some g) w2 (tm 22 [(1,int i),(2,.rp h.dvs 0),(4,ptr g4),(5,ptr g5),(6,ptr g6)]) (hOf []) 20 (a1.put (some 6) (.pointer (some ⟨g6,0,none⟩))) w2:=by
  refine⟨_,_,Sx.Inv.empty ?_ dd,T2⟩;rintro g (hg | hg)
  ·have:=I1.imb g hg;omega
  ·have:=I1.bnd _ _ g m2 hg;omega
 refine wpIn_seq (wpIn_seq (wpIn_region ?_));rw[show List.range (rgO Tryz.f171 2).size=[0,1]++[2]from by kernel_rfl];refine Z3H (ro:=none) (hints:=[]) (out:=⟨tm 22 [(1,int i),(2,.rp h.dvs 0),(4,ptr g4),(5,ptr g5),(6,ptr g6),(9,h.av),(10,int i)],hOf [],[],[]⟩) kr S2 trivial (fun p hp=>by simp at hp) ?_;rintro a3 w3 ⟨ρ3,Im3,I3,T3⟩;have T3:=T3.pure kr;have hcall:(execOp a3.eval ((rgO Tryz.f171 2).getD 2 default)).run Tryz.prog w3 = .ok (.enter 195 #[a3.eval (.tmp 9),a3.eval (.tmp 10)]) w3:=by
  have hop:((rgO Tryz.f171 2).getD 2 default).op = .call ⟨.value (.func 195),#[.tmp 9,.tmp 10],tsOf ((rgO Tryz.f171 2).getD 2 default)⟩:=by kernel_rfl
  have:=Z2o (P:=Tryz.prog) (f:=195) kr #[a3.eval (.tmp 9),a3.eval (.tmp 10)] w3;have hev:a3.eval (.func 195) = .func (.func 195) #[] #[]:=rfl;generalize (rgO Tryz.f171 2).getD 2 default=o at hop ⊢;simp[execOp,hop,resolve,hev,Deferred.ofValue,invoke,this]
 refine Z2H (o:=(rgO Tryz.f171 2).getD 2 default) kr kr (Z3a (ro:=none) (by intro c h;cases h) ?_);unfold Oper.wp;rw[hcall,Oper.upon_enter];refine(ZpK h i w3 Im3 _ _ I3.imb (Z1x T3 (.tmp 9)) (Z1x T3 (.tmp 10))).mono ?_;rintro e w4 ⟨p1,p2,Im4,rfl,K4,hIm4,rp1,rp2'⟩;have hdst:((rgO Tryz.f171 2).getD 2 default).dst=some 11:=by kernel_rfl
 rw[hdst];have b4:g4<g6:=by rw[← hg6];exact I1.bnd _ _ _ m4 rfl
 have b5:g5<g6:=by rw[← hg6];exact I1.bnd _ _ _ m5 rfl
 have s1:=I1.kept.size;have s3:=I3.kept.size;obtain⟨x4,y4,q4⟩:=T3.at (t:=4) (x:=ptr g4) rfl;obtain⟨x5,y5,q5⟩:=T3.at (t:=5) (x:=ptr g5) rfl;obtain⟨x6,y6,q6⟩:=T3.at (t:=6) (x:=ptr g6) rfl;rw[Z10 q4]at y4;rw[Z10 q5]at y5;rw[Z10 q6]at y6;have hz:a3.tmps.size=22:=T3.size;have to4:∀ {g:Nat},g<w2.heap.size→w4.heap[g]? = w2.heap[g]? := fun {g} hg=>by
  rw[K4.block g oq id,I3.kept.no.block g hg id]
 have to2:∀ {g:Nat},g<w1.heap.size→w2.heap[g]? = w1.heap[g]? := fun {g} hg=>K2.block g hg id;refine ZlE hw hp hi (w4:=w4) (Im4:=Im4) (g4:=g4) (g5:=g5) (g6:=g6) (u4:=u4) (u5:=u5) (p1:=p1) (p2:=p2) (Z3W (Z3W (Z3W I1.kept.no K2 (fun _ h=>h.elim)) I3.kept.no (fun _ h=>h.elim)) K4 (fun _ h=>h.elim)) ?_ (Z7L y4 dd) (Z7L y5 dd) (Z7L y6 dd) (Z69 oq) T3.defers l4 l5 h45 oq oq oq ?_ ?_ ?_ (fun g hg=>?_) rp1 rp2' (by rw[hR];exact hQ)
 ·show(a3.tmps.setIfInBounds 11 _).size=22;rw[Array.size_setIfInBounds];exact hz
 ·rw[to4 oq,to2 oq];exact c4
 ·rw[to4 oq,to2 oq];exact c5
 ·rw[to4 oq];exact c6
 ·obtain⟨h1,h2⟩:=hIm4 g hg;refine⟨h2, ?_⟩;rcases h1 with h1 | h1
  ·rcases I3.im0 g h1 with k | k | k
   ·rcases k with k | k
    ·have:=I1.imb g k;omega
    ·have:=I1.bnd _ _ g m2 k;omega
   ·omega
   ·exact k.no.elim
  ·omega
end Go.Proofs.YtdhchmlalchgeaaGreat
namespace Go.Proofs.YtdhchmlalchgeaaGreat
open Go.Sx
theorem Z8z{l:List Found}{i:Nat}(hi:i<l.length):l.take (i+1)=l.take i++[l.getD i default]:=by
 rw[List.take_succ];simp[hi]
def Zle(l:List Found)(i:Nat):Tg:=⟨tm 19 [(2,.d (.sl 0 [])),(3,.ow 16003),(6,Z19 l),(7,int l.length),(8,int i)],[(16003,.arr 35 1 (((l.take i).map (·.addr)).map wdv))],60⟩
theorem Zjf(l:List Found)(i:Nat)(hl:l.length≤1048576)(hi:i<l.length):CP (rndF Tryz.f131 0) (Zle l i).st .nrm (Zle l (i+1)).st:=by
 have e:(l.take (i+1)).map (·.addr)=(l.take i).map (·.addr)++[(l.getD i default).addr]:=by rw[Z8z hi,List.map_append];rfl
 have en:((l.take i).map (·.addr)).length≤1048576:=by simp;omega
 let y0:=l.getD i default;exact sF [(496016,16003)] (fO 5) (Fh 16 [.els (List.map wdv (List.map (fun(x:Found)=>x.addr) (List.take i l)++[y0.addr]))] (Ftb 9 (decide ((↑i:Int)<(↑l.length:Int))) (Fek 10 Found.dv l (↑i) i (Fs 15 (List.map wdv [y0.addr]) (Fa (by(simp[*];omega):(List.map wdv (List.map (fun(x:Found)=>x.addr) (List.take i l))).length+(List.map wdv [y0.addr]).length≤2^30) (Fa (ms:List.map wdv (List.map (fun(x:Found)=>x.addr) (List.take i l))++List.map wdv [y0.addr]=List.map wdv (List.map (fun(x:Found)=>x.addr) (List.take i l)++[y0.addr])) (Fx 17 i (Fr (35:Int) (Fa (by refine congrArg _ ?_;rw[e]:List.map wdv (List.map (fun(x:Found)=>x.addr) (List.take i l)++[y0.addr])=List.map wdv (List.map (fun(x:Found)=>x.addr) (List.take (i+1) l))) Fz)))))))))
theorem Znz(l:List Found):CP (rndF Tryz.f131 0) (Zle l l.length).st (.ext 0) (Tg.st ⟨tm 19 [(2,.d (.sl 0 [])),(3,.ow 16003)],[(16003,.arr 35 1 ((l.map (·.addr)).map wdv))],60⟩):=by
 exact sF [] (fO 2) (Ffb 9 (decide ((↑l.length:Int)<(↑l.length:Int))) (Fr (35:Int) (Fa (by refine congrArg _ ?_;refine congrArg _ ?_;simp[List.map_take,List.map_drop,List.map_set,List.map_append,wdv,idv]:List.map wdv (List.map (fun(x:Found)=>x.addr) (List.take l.length l))=List.map wdv (List.map (fun(x:Found)=>x.addr) l)) Fz)))
def ZkT(l:List Found)(hl:l.length≤1048576)  := Z0a (S:=fun j=>(Zle l j).st) l.length (by kernel_rfl) (fun j hj=>Zjf l j hl hj) (Znz l)
theorem Z6u(l:List Found)(hl:l.length≤1048576):GP 131 [Z19 l] true (Z01 (l.map (·.addr))) []:=by
 exact gF [] Tryz.func131 [] (Fh 3 [.own] (Fl 7 Found.dv l (Fu (@ZkT l aa) (Fa (by exact Z2I _:Z0S (List.map wdv (List.map (fun(x:Found)=>x.addr) l))) Fz))))
theorem Z3C(h:Heap)(i:Int)(hw:WOk h.W)(hi:-9223372036854775808≤i∧i≤9223372036854775807):GP 192 [h.av,int i] false (.tu [Z01 (Z07 h i).1,int (Z07 h i).2]) []:=by
 cases hp:Z02 h with
 | false =>
  have e7:Z07 h i=([],1):=by unfold Z07;rw[if_neg (by rw[hp];simp)]
  rw[e7];exact gF [] Tryz.func192 [] (Fh 8 [.br true] (Fc 10 (@Z0H h) (Fb ((!Z02 h)=true) (Fnl Fz))))
 | true =>
  have po:=Z06 hp;by_cases hi2:0≤i∧i<h.P.length
  ·have e7:=Z7y hp hi2;have el:=Z4A h i;by_cases e:(Z0s h i).2=0
   ·rw[show Z07 h i=(List.map (fun(x:Found)=>x.addr) (Z0s h i).fst,(0:Int))from by rw[e7,e]];exact gF [] Tryz.func192 [] (Fh 12 [.br false] (Fh 29 [.br false] (Fc 10 (@Z0H h) (Fb ((!Z02 h)=false) (FlG 19 (!decide (i<0)) Page.dv h.P (Fb ((decide (i<0)||decide ((↑h.P.length:Int)≤i))=false) (Fc 25 (@Z5s h i aa aa aa) (Ffb 8 ((Z0s h i).snd != 0) (Fc 32 (@Z6u ((Z0s h i).fst) oq) Fz)))))))))
   ·have e8:(Z0s h i).1=[]:=by
     unfold Z0s at e ⊢;split at e
     ·exact absurd rfl e
     ·rename_i h9;rw[if_neg h9]
    exact gF [] Tryz.func192 (fO 5) (Fh 8 [.br false] (Fh 12 [.br false] (Fc 10 (@Z0H h) (Fb ((!Z02 h)=false) (FlG 19 (!decide (i<0)) Page.dv h.P (Fb ((decide (i<0)||decide ((↑h.P.length:Int)≤i))=false) (Fc 25 (@Z5s h i aa aa aa) (Ftb 29 ((Z0s h i).snd != 0) (Fnl (Fa (by rw[e7,e8];rfl:[]=List.map wdv (Z07 h i).fst) (Fa (by rw[e7]:(Z0s h i).snd=(Z07 h i).snd) Fz)))))))))))
  ·have e7:Z07 h i=([],2):=by unfold Z07;rw[if_pos hp,if_neg hi2]
   rw[e7];exact gF [] Tryz.func192 [] (Fh 8 [.br false] (Fh 12 [.br true] (Fc 10 (@Z0H h) (Fb ((!Z02 h)=false) (FlG 19 (!decide (i<0)) Page.dv h.P (Fb ((decide (i<0)||decide ((↑h.P.length:Int)≤i))=true) (Fnl Fz)))))))
def Zhu(h:Heap)(i:Nat)(acc:List Found):Tg:=⟨tm 31 [(1,.pt 8001 0 0),(2,.d (.sl 0 [])),(3,int 0),(4,.ow 24004),(13,int h.P.length),(14,int i)],[(24004,.arr 188 4 (acc.map Found.dv)),(8001,.box 28 h.cells)],60⟩
section
variable (h:Heap) (i:Nat) (acc:List Found) (hw:WOk h.W) (hp:Z02 h=true) (hl:h.P.length≤1048576) (ha:acc.length≤1048576)
include hw hp hl ha
theorem Zjt(hi:i<h.P.length)(e:(Z0s h i).2=0):CP (rndF Tryz.f130 0) (Zhu h i acc).st .nrm (Zhu h (i+1) (acc++(Z0s h i).1)).st:=by
 have hn:=Z4A h i;exact sF [(512028,24004)] [] (Fh 28 [.els (List.map Found.dv (acc++(Z0s h (↑i:Int)).fst))] (Ftb 15 (decide ((↑i:Int)<(↑h.P.length:Int))) (Fc 20 (@Z5s h ((↑i:Int)) aa aa oq) (Ffb 24 ((Z0s h (↑i:Int)).snd != 0) (Fa (by(simp only[List.length_map];omega):(List.map Found.dv acc).length+(List.map Found.dv (Z0s h (↑i:Int)).fst).length≤2^30) (Fa (ms:List.map Found.dv acc++List.map Found.dv (Z0s h (↑i:Int)).fst=List.map Found.dv (acc++(Z0s h (↑i:Int)).fst)) (Fx 29 i Fz)))))))
theorem ZnE(hi:i<h.P.length)(e:¬ (Z0s h i).2=0):CP (rndF Tryz.f130 0) (Zhu h i acc).st .ret (Tg.st ⟨tm 31 [(2,.d (.sl 0 [])),(3,int (Z0s h i).2)],[],60⟩):=by
 exact sF [] [] (Ftb 15 (decide ((↑i:Int)<(↑h.P.length:Int))) (Fc 20 (@Z5s h ((↑i:Int)) aa aa oq) (Ftb 24 ((Z0s h (↑i:Int)).snd != 0) Fz)))
omit hw hp hl ha in
theorem Zn6:CP (rndF Tryz.f130 0) (Zhu h h.P.length acc).st (.ext 0) (Tg.st ⟨tm 31 [(2,.d (.sl 0 [])),(3,int 0),(4,.ow 24004)],[(24004,.arr 188 4 (acc.map Found.dv))],60⟩):=by
 exact sF [] [] (Ffb 15 (decide ((↑h.P.length:Int)<(↑h.P.length:Int))) Fz)
end
theorem ZmF(h:Heap)(hw:WOk h.W)(hp:Z02 h=true)(hl:h.P.length≤1048576):∀ (f i:Nat) (acc:List Found),i+f=h.P.length→acc.length+256*f≤1048576 →
  ((allR h f i).2=0→LSpec Tryz.prog Tryz.f130 0 (Zhu h i acc).st (.ext 0) (Tg.st ⟨tm 31 [(2,.d (.sl 0 [])),(3,int 0),(4,.ow 24004)],[(24004,.arr 188 4 ((acc++(allR h f i).1).map Found.dv))],60⟩)) ∧
  (¬ (allR h f i).2=0→LSpec Tryz.prog Tryz.f130 0 (Zhu h i acc).st .ret (Tg.st ⟨tm 31 [(2,.d (.sl 0 [])),(3,int (allR h f i).2)],[],60⟩)):=by
 intro f;induction f with
 | zero =>
  intro i acc hi _;have:i=h.P.length:=by omega
  subst this;refine⟨fun _=>?_,fun e=>absurd rfl e⟩;rw[allR,List.append_nil];exact .endx (Zn6 h acc)
 | succ f ih =>
  intro i acc hi hb;have hn:=Z4A h i;unfold allR;by_cases e:(Z0s h i).2=0
  ·rw[if_pos e];have hr:=Zjt h i acc hw hp hl oq oq e;obtain⟨i1,i2⟩:=ih (i+1) (acc++(Z0s h i).1) oq qo;by_cases e2:(allR h f (i+1)).2=0
   ·rw[if_pos e2];refine⟨fun _=>?_,fun e=>absurd rfl e⟩;have:=i1 e2;rw[List.append_assoc]at this;exact .next hr this
   ·rw[if_neg e2];exact⟨fun e=>absurd e e2,fun _=>.next hr (i2 e2)⟩
  ·rw[if_neg e];exact⟨fun e'=>absurd e' e,fun _=>.endr (ZnE h i acc hw hp hl oq oq e)⟩
theorem ZkW(h:Heap)(hw:WOk h.W)(hp:Z02 h=true)(hl:h.P.length≤64)(e:(allR h h.P.length 0).2=0):CP (blkF Tryz.f130 0) (Tg.st ⟨tm 31 [(1,.pt 8001 0 0),(2,.d (.sl 0 [])),(3,int 0),(4,.ow 24004),(13,int h.P.length),(14,int 0)],[(24004,.arr 188 4 []),(8001,.box 28 h.cells)],60⟩) .nrm
  (Tg.st ⟨tm 31 [(2,.d (.sl 0 [])),(3,int 0),(4,.ow 24004)],[(24004,.arr 188 4 ((allR h h.P.length 0).1.map Found.dv))],60⟩) :=
 ((ZmF h hw hp oq h.P.length 0 [] oq qo).1 e).ext kr
theorem Ze9(h:Heap)(hw:WOk h.W)(hp:Z02 h=true)(hl:h.P.length≤64)(e:¬ (allR h h.P.length 0).2=0):CP (blkF Tryz.f130 0) (Tg.st ⟨tm 31 [(1,.pt 8001 0 0),(2,.d (.sl 0 [])),(3,int 0),(4,.ow 24004),(13,int h.P.length),(14,int 0)],[(24004,.arr 188 4 []),(8001,.box 28 h.cells)],60⟩) .ret
  (Tg.st ⟨tm 31 [(2,.d (.sl 0 [])),(3,int (allR h h.P.length 0).2)],[],60⟩) :=
 ((ZmF h hw hp oq h.P.length 0 [] oq qo).2 e).ret kr
theorem Zma(h:Heap)(hw:WOk h.W)(e:(allW h).2=0):GP 130 [h.av] true (.tu [.ow 0,int 0]) [.arr 188 4 ((allW h).1.map Found.dv)]:=by
 have hp:Z02 h=true:=by
  unfold allW at e;split at e
  ·assumption
  ·simp at e
 have po:=Z06 hp;have e7:allW h=allR h h.P.length 0:=by rw[allW,if_pos hp]
 rw[e7]at e ⊢;exact gF [24004] Tryz.func130 [] (Fh 4 [.own] (Fc 9 (@Z0H h) (Ffb 10 (!Z02 h) (Fl 13 Page.dv h.P (Fu (@ZkW h aa aa oq aa) (Fa (by exact Zmb _:Z0S (List.map Found.dv (allR h h.P.length 0).fst)) Fz))))))
theorem ZgV(h:Heap)(hw:WOk h.W)(e:¬ (allW h).2=0):GP 130 [h.av] true (.tu [Z19 [],int (allW h).2]) []:=by
 cases hp:Z02 h with
 | false =>
  have e7:allW h=([],1):=by rw[allW,if_neg (by rw[hp];simp)]
  refine gspec_ofE [((9:Nat),[Hint.call true (Sx.bool (Z02 h)) []]),((10:Nat),[Hint.br true])] [] [] dd Tryz.func130 [true] (φ:=GP 77 [h.av] true (Sx.bool (Z02 h)) []∧(!Z02 h)=true∧true=true∧([]:List (List DV))=[]∧[]=List.map Found.dv []∧(1:Int)=(allW h).snd) ?_ kr kr;exact⟨(@Z0H (h)),(by(simp only[bs];omega)),rfl,rfl,rfl,(by rw[e7])⟩
 | true =>
  have po:=Z06 hp;have e7:allW h=allR h h.P.length 0:=by rw[allW,if_pos hp]
  rw[e7]at e ⊢;refine gspec_ofE [((9:Nat),[Hint.call true (Sx.bool (Z02 h)) []]),((10:Nat),[Hint.br false]),((4:Nat),[Hint.own]),((13:Nat),[Hint.int (↑h.P.length:Int)])] [((0:Nat),Tg.mk (tm (31:Nat) [((1:Nat),AV.pt (8001:Nat) (0:Nat) (0:Nat)),((2:Nat),AV.d (DV.sl (0:Nat) [])),((3:Nat),int (0:Int)),((4:Nat),AV.ow (24004:Nat)),((13:Nat),int (↑h.P.length:Int)),((14:Nat),int (0:Int))]) [((24004:Nat),Blk.arr 188 (4:Nat) []),((8001:Nat),Blk.box 28 h.cells)] (60:Nat),Ex.ret,Tg.mk (tm (31:Nat) [((2:Nat),AV.d (DV.sl (0:Nat) [])),((3:Nat),int (allR h h.P.length (0:Nat)).snd)]) [] (60:Nat))] [] dd Tryz.func130 [] (φ:=GP 77 [h.av] true (Sx.bool (Z02 h)) []∧(!Z02 h)=false∧false=false∧(↑(List.map Page.dv h.P).length:Int)=(↑h.P.length:Int)∧CP (blkF Tryz.f130 (0:Nat)) (Tg.mk (tm (31:Nat) [((1:Nat),AV.pt (8001:Nat) (0:Nat) (0:Nat)),((2:Nat),AV.d (DV.sl (0:Nat) [])),((3:Nat),int (0:Int)),((4:Nat),AV.ow (24004:Nat)),((13:Nat),int (↑h.P.length:Int)),((14:Nat),int (0:Int))]) [((24004:Nat),Blk.arr 188 (4:Nat) []),((8001:Nat),Blk.box 28 h.cells)] (60:Nat)).st Ex.ret (Tg.mk (tm (31:Nat) [((2:Nat),AV.d (DV.sl (0:Nat) [])),((3:Nat),int (allR h h.P.length (0:Nat)).snd)]) [] (60:Nat)).st∧([]:List (List DV))=[]) ?_ kr kr;exact⟨(@Z0H (h)),(by(simp only[bs];omega)),rfl,(by simp only[List.length_map]),(@Ze9 (h) aa aa oq aa),rfl⟩
def Z2A(f:Found):Bool:=!(f.hd.K==0)
theorem Zfw(x:Found):GP 133 [x.av] true (bool (x.hd.K==0)) []:=by
 exact gF [] Tryz.func133 [] Fz
def Z0Y(l:List Found):Nat:=(l.takeWhile Z2A).length
theorem Z79{l:List Found}{m:Nat}(h:m<Z0Y l):m<l.length∧((l.getD m default).hd.K==0)=false:=by
 obtain⟨h1,h2⟩:=ZgS _ _ _ h;refine⟨h1, ?_⟩;rw[List.getD_eq_getElem?_getD,List.getElem?_eq_getElem h1];simpa[Z2A]using h2
theorem ZaW{l:List Found}(h:Z0Y l<l.length):((l.getD (Z0Y l) default).hd.K==0)=true:=by
 have h2:=Zaq Z2A l h;have h3:l.getD (Z0Y l) default=l[(l.takeWhile Z2A).length]:=by
  rw[List.getD_eq_getElem?_getD,List.getElem?_eq_getElem h];rfl
 rw[h3];simpa[Z2A]using h2
def idxF(l:List Found):Int:=if Z0Y l<l.length then Z0Y l else -1
def ZgK(l:List Found)(i:Nat):Tg:=⟨tm 19 [(0,Z19 l),(1,.fn 133 []),(4,int 0),(7,int l.length),(8,int i)],[],60⟩
theorem ZdD(l:List Found)(i:Nat)(hl:l.length≤1048576)(hi:i<l.length)(e:((l.getD i default).hd.K==0)=false):CP (rndF Tryz.f172 0) (ZgK l i).st .nrm (ZgK l (i+1)).st:=by
 exact sF [] [] (Fh 16 [.call true (Sx.bool ((l.getD i default).hd.K==0)) [],.br false] (Ftb 9 (decide ((↑i:Int)<(↑l.length:Int))) (Fek 14 Found.dv l (↑i) i (Fa (@Zfw (l.getD i default)) (Fa ‹((l.getD i default).hd.K==0)=false› (Fx 18 i Fz))))))
theorem Zji(l:List Found)(i:Nat)(hl:l.length≤1048576)(hi:i<l.length)(e:((l.getD i default).hd.K==0)=true):CP (rndF Tryz.f172 0) (ZgK l i).st .ret (Tg.st ⟨tm 19 [(4,int i)],[],60⟩):=by
 exact sF [] [] (Fh 16 [.call true (Sx.bool ((l.getD i default).hd.K==0)) [],.br true] (Ftb 9 (decide ((↑i:Int)<(↑l.length:Int))) (Fek 14 Found.dv l (↑i) i (Fa (@Zfw (l.getD i default)) (Fa ‹((l.getD i default).hd.K==0)=true› Fz)))))
theorem Zol(l:List Found):CP (rndF Tryz.f172 0) (ZgK l l.length).st (.ext 0) (Tg.st ⟨tm 19 [(4,int 0)],[],60⟩):=by
 exact sF [] [] (Ffb 9 (decide ((↑l.length:Int)<(↑l.length:Int))) Fz)
def Zkv(l:List Found)(hl:l.length≤1048576)(h:¬ Z0Y l<l.length)  := Z0a (S:=fun j=>(ZgK l j).st) l.length (by kernel_rfl) (fun j hj=>ZdD l j hl hj (Z79 (by omega)).2) (Zol l)
def Zjq(l:List Found)(hl:l.length≤1048576)(h:Z0Y l<l.length)  := Z0I (S:=fun j=>(ZgK l j).st) (Z0Y l) (by kernel_rfl) (fun j hj=>ZdD l j hl (by omega) (Z79 hj).2) (Zji l (Z0Y l) hl h (ZaW h))
theorem ZmJ(l:List Found)(hl:l.length≤1048576):GP 172 [Z19 l,.fn 133 []] true (int (idxF l)) []:=by
 by_cases h:Z0Y l<l.length
 ·have e7:idxF l=Z0Y l:=if_pos h;rw[e7];exact gF [] Tryz.func172 [] (Fl 7 Found.dv l (Fu (@Zjq l aa aa) Fz))
 ·have e7:idxF l=-1:=if_neg h;rw[e7];exact gF [] Tryz.func172 [] (Fl 7 Found.dv l (Fu (@Zkv l aa aa) Fz))
def dfS(l:List Found)(i0:Nat):Nat→List Found×Nat
 | 0=>(l,i0)
 | m+1=>if Z2A ((dfS l i0 m).1.getD (i0+1+m) default)=true then((dfS l i0 m).1.set (dfS l i0 m).2 ((dfS l i0 m).1.getD (i0+1+m) default),(dfS l i0 m).2+1)else dfS l i0 m
theorem Zjn{l:List Found}{i0:Nat}(h0:(l.take i0).filter Z2A=l.take i0)(h1:i0<l.length)(h2:Z2A (l.getD i0 default)=false):∀ m,i0+1+m≤l.length →
  (dfS l i0 m).1.length=l.length∧(dfS l i0 m).2≤i0+m∧(∀ k,i0+1+m≤k→(dfS l i0 m).1.getD k default=l.getD k default)∧(dfS l i0 m).1.take (dfS l i0 m).2=(l.take (i0+1+m)).filter Z2A
 | 0,_=>by
  refine⟨rfl,Nat.le_refl _,fun _ _=>rfl, ?_⟩;show l.take i0=(l.take (i0+1)).filter Z2A;rw[Z8z h1,List.filter_append,h0];generalize l.getD i0 default=y at h2 ⊢;simp[h2]
 | m+1,hm=>by
  obtain⟨a1,a2,a3,a4⟩:=Zjn h0 h1 h2 m oq;have e:=a3 (i0+1+m) (Nat.le_refl _);have et:l.take (i0+1+(m+1))=l.take (i0+1+m)++[l.getD (i0+1+m) default]:=Z8z (l:=l) (i:=i0+1+m) (show i0+1+m<l.length by omega);unfold dfS;rw[e,et,List.filter_append];generalize hd:dfS l i0 m=d at *;by_cases hk:Z2A (l.getD (i0+1+m) default)=true
  ·rw[if_pos hk];refine⟨by simp[a1],by simp only;omega,fun k hk'=>?_, ?_⟩
   ·simp only;rw[List.getD_eq_getElem?_getD,List.getElem?_set_ne oq,← List.getD_eq_getElem?_getD];exact a3 k oq
   ·have hlt:d.2<d.1.length:=by omega
    simp only;rw[← a4,List.take_succ,List.take_set_of_le oq];generalize l.getD (i0+1+m) default=y at hk ⊢;simp[hk,hlt]
  ·rw[if_neg hk];refine⟨a1,by omega,fun k hk'=>a3 k oq, ?_⟩;rw[a4];generalize l.getD (i0+1+m) default=y at hk ⊢;simp[hk]
theorem Z9j(l:List Found):(l.take (Z0Y l)).filter Z2A=l.take (Z0Y l):=by
 rw[List.filter_eq_self];intro x hx;obtain⟨k,hk⟩:=List.getElem?_of_mem hx;rw[List.getElem?_take]at hk;split at hk
 ·rename_i hlt;have:=(Z79 hlt).2;rw[List.getD_eq_getElem?_getD,hk]at this;simpa[Z2A]using this
 ·cases hk
theorem ZaT{l:List Found}(h:Z0Y l<l.length):Z2A (l.getD (Z0Y l) default)=false:=by
 have:=ZaW h;show(!((l.getD (Z0Y l) default).hd.K==0))=false;rw[this];rfl
theorem ZhY{l:List Found}(h:Z0Y l<l.length):(dfS l (Z0Y l) (l.length-Z0Y l-1)).1.take (dfS l (Z0Y l) (l.length-Z0Y l-1)).2=l.filter Z2A∧(dfS l (Z0Y l) (l.length-Z0Y l-1)).1.length=l.length∧(dfS l (Z0Y l) (l.length-Z0Y l-1)).2≤l.length:=by
 have h0:=Z9j l;have h2:=ZaT h;obtain⟨a1,a2,a3,a4⟩:=Zjn h0 h h2 (l.length-Z0Y l-1) oq;refine⟨?_,a1,by omega⟩;rw[a4,show Z0Y l+1+(l.length-Z0Y l-1)=l.length from by omega,List.take_length]
theorem Zjc{l:List Found}(h:¬ Z0Y l<l.length):l.filter Z2A=l:=by
 rw[List.filter_eq_self];intro x hx;obtain⟨k,hk⟩:=List.getElem?_of_mem hx;have hlt:k<l.length:=(List.getElem?_eq_some_iff.1 hk).1;have:=(Z79 (l:=l) (m:=k) oq).2;rw[List.getD_eq_getElem?_getD,hk]at this;simpa[Z2A]using this
theorem Zox(l:List Found)(hl:l.length≤1048576)(h:¬ Z0Y l<l.length):CP (bdyF Tryz.f132) (Tg.st ⟨tm 42 [(0,.ow 0),(1,.fn 133 [])],[(0,.arr 188 4 (l.map Found.dv))],1⟩) .ret (Tg.st ⟨tm 42 [(4,.ow 0)],[(0,.arr 188 4 (l.map Found.dv))],60⟩):=by
 have e7:idxF l=-1:=if_neg h;exact sF [] [] (Fc 10 (@ZmJ l aa) (Ftb 12 (idxF l==(-1:Int)) Fz))
def delL(l:List Found)(i0 m:Nat):Tg:=⟨tm 42 [(0,.ow 0),(1,.fn 133 []),(5,int (dfS l i0 m).2),(6,int (i0+1+m:Nat))],[(0,.arr 188 4 ((dfS l i0 m).1.map Found.dv))],60⟩
section
variable (l:List Found) (i0 m:Nat) (hl:l.length≤1048576) (h1:(dfS l i0 m).1.length=l.length) (h2:(dfS l i0 m).2≤i0+m)
include hl h1 h2
theorem Znn(hm:i0+1+m<l.length)(hk:(((dfS l i0 m).1.getD (i0+1+m) default).hd.K==0)=false):CP (rndF Tryz.f132 0) (delL l i0 m).st .nrm (delL l i0 (m+1)).st:=by
 have e7:dfS l i0 (m+1)=((dfS l i0 m).1.set (dfS l i0 m).2 ((dfS l i0 m).1.getD (i0+1+m) default),(dfS l i0 m).2+1):=by
  rw[dfS,if_pos (by unfold Z2A;rw[hk];rfl)]
 have hk2:¬ ((dfS l i0 m).1.getD ((i0+1+m:Nat):Int).toNat default).hd.K=0:=by rw[Int.toNat_natCast];simpa using hk
 exact sF [] [false,false,true,false,true] (Fh 10033 [.els (List.map Found.dv ((dfS l i0 m).fst.set (↑(dfS l i0 m).snd:Int).toNat ((dfS l i0 m).fst.getD (↑(i0+1+m):Int).toNat default)))] (Fl 18 Found.dv (dfS l i0 m).fst (Ftb 19 (decide ((↑(i0+1+m):Int)<(↑(dfS l i0 m).fst.length:Int))) (Fmq 25 Found.dv ((dfS l i0 m).fst) (↑(i0+1+m):Int) (Fc 28 (@Zfw ((dfS l i0 m).fst.getD (↑(i0+1+m):Int).toNat default)) (Ftb 29 (!((dfS l i0 m).fst.getD (↑(i0+1+m):Int).toNat default).hd.K==0) (Fa (by(simp only[List.length_map];omega):0≤(↑(dfS l i0 m).snd:Int)∧(↑(dfS l i0 m).snd:Int).toNat<(List.map Found.dv (dfS l i0 m).fst).length) (Fa (by(simp only[List.length_map];omega):(↑(dfS l i0 m).snd:Int).toNat<(List.map Found.dv (dfS l i0 m).fst).length) (Fa (by rw[List.map_set];rfl:(List.map Found.dv (dfS l i0 m).fst).set (↑(dfS l i0 m).snd:Int).toNat [du64 ((dfS l i0 m).fst.getD (↑(i0+1+m):Int).toNat default).addr,dint ((dfS l i0 m).fst.getD (↑(i0+1+m):Int).toNat default).hd.K,dint ((dfS l i0 m).fst.getD (↑(i0+1+m):Int).toNat default).hd.length,DV.sc (Value.int IntKind.u32 ((dfS l i0 m).fst.getD (↑(i0+1+m):Int).toNat default).hd.map)]=List.map Found.dv ((dfS l i0 m).fst.set (↑(dfS l i0 m).snd:Int).toNat ((dfS l i0 m).fst.getD (↑(i0+1+m):Int).toNat default))) (Fw 35 ((↑(dfS l i0 m).snd:Int)+1) (↑((dfS l i0 m).snd+1):Int) (Fw 21 ((↑(i0+1+m):Int)+1) (↑(i0+1+m+1):Int) (Fa (by rw[e7]:(↑((dfS l i0 m).snd+1):Int)=(↑(dfS l i0 (m+1)).snd:Int)) (Fr (188:Int) (Fa (by refine congrArg _ ?_;rw[e7];rfl:List.map Found.dv ((dfS l i0 m).fst.set (↑(dfS l i0 m).snd:Int).toNat ((dfS l i0 m).fst.getD (↑(i0+1+m):Int).toNat default))=List.map Found.dv (dfS l i0 (m+1)).fst) Fz))))))))))))))
theorem ZnY(hm:i0+1+m<l.length)(hk:(((dfS l i0 m).1.getD (i0+1+m) default).hd.K==0)=true):CP (rndF Tryz.f132 0) (delL l i0 m).st .nrm (delL l i0 (m+1)).st:=by
 have e7:dfS l i0 (m+1)=dfS l i0 m:=by
  rw[dfS,if_neg (by unfold Z2A;rw[hk];simp)]
 have hk2:((dfS l i0 m).1.getD ((i0+1+m:Nat):Int).toNat default).hd.K=0:=by rw[Int.toNat_natCast];simpa using hk
 let y0:=(dfS l i0 m).fst.getD (↑(i0+1+m):Int).toNat default;exact sF [] [false,false,true,false,true] (Fl 18 Found.dv (dfS l i0 m).fst (Ftb 19 (decide ((↑(i0+1+m):Int)<(↑(dfS l i0 m).fst.length:Int))) (Fmq 25 Found.dv ((dfS l i0 m).fst) (↑(i0+1+m):Int) (Fc 28 (@Zfw y0) (Ffb 29 (!y0.hd.K==0) (Fw 21 ((↑(i0+1+m):Int)+1) (↑(i0+1+m+1):Int) (Fa (by rw[e7]:(↑(dfS l i0 m).snd:Int)=(↑(dfS l i0 (m+1)).snd:Int)) (Fr (188:Int) (Fa (by refine congrArg _ ?_;rw[e7]:List.map Found.dv (dfS l i0 m).fst=List.map Found.dv (dfS l i0 (m+1)).fst) Fz)))))))))
theorem Zpb(hm:i0+1+m=l.length):CP (rndF Tryz.f132 0) (delL l i0 m).st (.ext 0) (Tg.st ⟨tm 42 [(0,.ow 0),(5,int (dfS l i0 m).2)],[(0,.arr 188 4 ((dfS l i0 m).1.map Found.dv))],60⟩):=by
 exact sF [] [] (Fl 18 Found.dv (dfS l i0 m).fst (Ffb 19 (decide ((↑(i0+1+m):Int)<(↑(dfS l i0 m).fst.length:Int))) Fz))
end
def delR(l:List Found):List Found×Nat:=dfS l (Z0Y l) (l.length-Z0Y l-1)
theorem Zny(l:List Found)(hl:l.length≤1048576)(h:Z0Y l<l.length):CP (blkF Tryz.f132 0) (Tg.st ⟨tm 42 [(0,.ow 0),(1,.fn 133 []),(5,int (idxF l)),(6,int (idxF l+1))],[(0,.arr 188 4 (l.map Found.dv))],60⟩) .nrm
  (Tg.st ⟨tm 42 [(0,.ow 0),(5,int (delR l).2)],[(0,.arr 188 4 ((delR l).1.map Found.dv))],60⟩):=by
 rw[show idxF l=Z0Y l from if_pos h];have h0:(l.take (Z0Y l)).filter Z2A=l.take (Z0Y l):=Z9j l;have h2:Z2A (l.getD (Z0Y l) default)=false:=ZaT h;have hh:=fun m hm=>Zjn h0 h h2 m hm;have:=Z0a (S:=fun j=>(delL l (Z0Y l) j).st) (l.length-Z0Y l-1) kr (fun j hj=>by
  obtain⟨a1,a2,a3,a4⟩:=hh j oq;cases hk:(((dfS l (Z0Y l) j).1.getD (Z0Y l+1+j) default).hd.K==0)with
  | false=>exact Znn l (Z0Y l) j hl a1 a2 oq hk
  | true=>exact ZnY l (Z0Y l) j hl a1 a2 oq hk) (Zpb l (Z0Y l) _ hl (hh _ oq).1 (hh _ oq).2.1 oq)
 exact this
theorem Zng(l:List Found)(hl:l.length≤1048576)(h:Z0Y l<l.length):CP (bdyF Tryz.f132) (Tg.st ⟨tm 42 [(0,.ow 0),(1,.fn 133 [])],[(0,.arr 188 4 (l.map Found.dv))],1⟩) .ret (Tg.st ⟨tm 42 [(4,.os 0 0 (delR l).2)],[(0,.arr 188 4 (((delR l).1.take (delR l).2++List.replicate ((delR l).1.length-(delR l).2) noFound).map Found.dv))],60⟩):=by
 have e7:idxF l=Z0Y l:=if_pos h;obtain⟨d1,d2,d3⟩:=ZhY h;have d4:(delR l).1.length=l.length:=d2;have d5:(delR l).2≤l.length:=d3;exact sF [] (fO 6) (Fh 20000 [.els (List.map Found.dv (List.take (↑(delR l).snd:Int).toNat (delR l).fst++List.replicate ((↑(List.map Found.dv (delR l).fst).length:Int).toNat-(↑(delR l).snd:Int).toNat) (Found.mk 0 (Header.mk 0 0 0))++List.drop ((↑(delR l).snd:Int).toNat+(List.replicate ((↑(List.map Found.dv (delR l).fst).length:Int).toNat-(↑(delR l).snd:Int).toNat) (Found.mk 0 (Header.mk 0 0 0))).length) (delR l).fst))] (Fc 10 (@ZmJ l aa) (Ffb 12 (idxF l==(-1:Int)) (Fi 15 (idxF l+1) (Fu (@Zny l aa aa) (Fa (by(simp only[List.length_map];omega):0≤(↑(delR l).snd:Int)∧(↑(delR l).snd:Int)≤(↑(List.map Found.dv (delR l).fst).length:Int)) (Fa (by simp only[Z0M,List.map_append,List.map_take,List.map_drop,List.map_replicate,List.length_replicate];rfl:Z0M (List.map Found.dv (delR l).fst) (↑(delR l).snd:Int).toNat (List.replicate ((↑(List.map Found.dv (delR l).fst).length:Int).toNat-(↑(delR l).snd:Int).toNat) [du64 0,dint 0,dint 0,DV.sc (Value.int IntKind.u32 0)])=List.map Found.dv (List.take (↑(delR l).snd:Int).toNat (delR l).fst++List.replicate ((↑(List.map Found.dv (delR l).fst).length:Int).toNat-(↑(delR l).snd:Int).toNat) (Found.mk 0 (Header.mk 0 0 0))++List.drop ((↑(delR l).snd:Int).toNat+(List.replicate ((↑(List.map Found.dv (delR l).fst).length:Int).toNat-(↑(delR l).snd:Int).toNat) (Found.mk 0 (Header.mk 0 0 0))).length) (delR l).fst)) (Fa (by simp[*]:0≤(↑(delR l).snd:Int)∧(↑(delR l).snd:Int)≤(↑(List.map Found.dv (List.take (↑(delR l).snd:Int).toNat (delR l).fst++List.replicate ((↑(List.map Found.dv (delR l).fst).length:Int).toNat-(↑(delR l).snd:Int).toNat) (Found.mk 0 (Header.mk 0 0 0))++List.drop ((↑(delR l).snd:Int).toNat+(List.replicate ((↑(List.map Found.dv (delR l).fst).length:Int).toNat-(↑(delR l).snd:Int).toNat) (Found.mk 0 (Header.mk 0 0 0))).length) (delR l).fst)).length:Int)) (Fr (188:Int) (Fa (by refine congrArg _ ?_;simp only[Int.toNat_natCast,List.length_map,List.length_replicate];rw[List.drop_of_length_le oq,List.append_nil];rfl:List.map Found.dv (List.take (↑(delR l).snd:Int).toNat (delR l).fst++List.replicate ((↑(List.map Found.dv (delR l).fst).length:Int).toNat-(↑(delR l).snd:Int).toNat) (Found.mk 0 (Header.mk 0 0 0))++List.drop ((↑(delR l).snd:Int).toNat+(List.replicate ((↑(List.map Found.dv (delR l).fst).length:Int).toNat-(↑(delR l).snd:Int).toNat) (Found.mk 0 (Header.mk 0 0 0))).length) (delR l).fst)=List.map Found.dv (List.take (delR l).snd (delR l).fst++List.replicate ((delR l).fst.length-(delR l).snd) noFound)) Fz))))))))))
theorem Zok(h:Heap)(hw:WOk h.W)(e:(allW h).2=0):Ze5 Tryz.prog 4 (bdyF Tryz.f79) (Tg.st ⟨tm 17 [(0,h.av)],[],1⟩) (Tg.st ⟨tm 17 [(4,.ow 17008)],[(17008,.arr 188 4 ((allW h).1.map Found.dv))],20⟩):=by
 refine Z5A [((8:Nat),[Hint.call true (AV.tu [AV.ow (0:Nat),int (0:Int)]) [Blk.arr 188 (4:Nat) (List.map Found.dv (allW h).fst)]])] [] [] (φ:=GP 130 [h.av] true (AV.tu [AV.ow (0:Nat),int (0:Int)]) [Blk.arr 188 (4:Nat) (List.map Found.dv (allW h).fst)]) ?_ kr kr kr kr;exact(@Zma (h) aa aa)
theorem Za8(h:Heap)(hw:WOk h.W)(e:¬ (allW h).2=0):GP 79 [h.av] true (.tu [Z01 [],int (allW h).2]) []:=by
 exact gF [] Tryz.func79 [] (Fc 8 (@ZgV h aa aa) (Ftb 12 ((allW h).snd != 0) (Fnl Fz)))
end Go.Proofs.YtdhchmlalchgeaaGreat
namespace Go.Proofs.YtdhchmlalchgeaaGreat
open Go.Sx Go.RowKit
theorem Zkx{Ow:Sx.Own}{Im0:Nat→Prop}{w0:World}{ρ:Rho}{w:World}{Im:Nat→Prop}{H:Sx.Heap}{clk:Nat}{x:AV}{v:Value}{s:Nat}{els:List (List DV)}{β:Bi}(I:Sx.Inv Ow Im0 w0 ρ w Im H clk)(hx:Rel ρ w Im x v)(h:Z1l H x=some (s,els))
  (hblk:∀ a n c,v = .slice (some a) n c→n≠0→β.g=some a.block):RelD w (fun g=>Im g∨β.g=some g) (.sl s els) v:=by
 obtain⟨p,c,rfl,hbg,hc,hl,hcell⟩:=Z1R I hx h;by_cases he:els=[]
 ·subst he;exact .slNil _ _ _
 rcases hcell with hcell | ⟨q,rfl,hq,hcell⟩
 ·exact absurd hcell he
 have hn:els.length≠0:=by simpa using he
 refine .sl s els q els.length c (fun i o=>(w.cell? ⟨q.block,q.off+(i*s+o),none⟩).getD undef) rfl hc hbg (hl he) hq (.inr (hblk q _ c rfl hn)) ?_ ?_
 ·intro i e o y hi ho;obtain⟨u,k1,_⟩:=hcell i e o y hi ho;rw[k1];rfl
 ·intro i e o y hi ho;obtain⟨u,k1,k2⟩:=hcell i e o y hi ho;rw[k1];exact k2.mono (Sx.Ext.refl _ _) (fun g hg=>.inl hg)
def rho0(β:Bi):Rho:=fun b=>if b=0 then some β else none
theorem Z53{β κ:Bi}{b:Nat}(h:rho0 β b=some κ):b=0∧κ=β:=by
 unfold rho0 at h;split at h
 ·cases h;exact⟨aa,rfl⟩
 ·cases h
theorem ZeE{β:Bi}{g:Nat}(h:OwA (ownR (rho0 β)) g):β.g=some g:=by
 obtain⟨b,κ,h1,h2⟩:=h;rw[(Z53 h1).2]at h2;exact h2
theorem Zo5(l:List Found)(hl:l.length≤1048576){w:World}{Im:Nat→Prop}{β:Bi}{v:Value}(hIm:∀ g,Im g→g<w.heap.size)(hB:RelB (rho0 β) w Im β (.arr 188 4 (l.map Found.dv)))(hg:∀ g,β.g=some g→g<w.heap.size∧¬ Im g)
  (hv:Rel (rho0 β) w Im (.ow 0) v):Calls Tryz.prog 132 #[v,.func (.func 133) #[] #[]] w fun e w'=>∃ u,∃ Im':Nat→Prop,e = .returned u∧Kept (fun g=>β.g=some g) w w' ∧
   (∀ g,Im' g→(Im g∨β.g=some g∨w.heap.size≤g)∧g<w'.heap.size)∧RelD w' Im' (.sl 4 ((l.filter Z2A).map Found.dv)) u:=by
 refine calls_of_wp Tryz.func132 (c:=bdyF Tryz.f132) kr ?_;have I0:Sx.Inv (ownR (rho0 β)) Im w (rho0 β) w Im (hOf [(0,.arr 188 4 (l.map Found.dv))]) 1:=by
  refine⟨Kept.refl _ _,fun b b' κ κ' g _ _ q1 q2 _ _=>by rw[(Z53 q1).1,(Z53 q2).1],fun b κ g _ q1 q2=>?_,fun b κ g q1 q2=>?_,fun b κ g q1 q2=>?_,hIm,fun g h=>.inl h,fun b B q=>?_,fun b hb _=>?_,⟨Nat.le_refl _,fun _ _ _ h=>h⟩⟩
  ·rw[(Z53 q1).2]at q2;exact(hg g q2).2
  ·rw[(Z53 q1).2]at q2;exact(hg g q2).1
  ·exact .inr ⟨b,κ,q1,q2⟩
  ·simp only[hOf]at q;split at q
   ·rename_i hb;cases q;subst hb;exact⟨β,rfl,hB⟩
   ·cases q
  ·unfold rho0;rw[if_neg oq]
 have S:Sx.Sys (ownR (rho0 β)) Im w (tm 42 [(0,.ow 0),(1,.fn 133 [])]) (hOf [(0,.arr 188 4 (l.map Found.dv))]) 1 { tmps := #[v,.func (.func 133) #[] #[]]++Array.replicate (Tryz.f132.ntmps-(#[v,.func (.func 133) #[] #[]]:Array Value).size) undef,defers:=[] } w:=by
  refine⟨_,Im,I0,⟨by kernel_rfl,fun k y u hy hu=>?_,rfl⟩⟩;rw[show tm 42 [(0,.ow 0),(1,.fn 133 [])]=[.ow 0,.fn 133 []]++List.replicate 40 .any from by kernel_rfl,List.getElem?_append]at hy;rw[Array.getElem?_append]at hu;split at hy
  ·rename_i hk;have hk3:k<2:=hk;rw[if_pos (show k<(#[v,.func (.func 133) #[] #[]]:Array Value).size from hk3)]at hu;rcases k with _ | _ | k
   ·cases hy;cases hu;exact hv
   ·cases hy;cases hu;exact .fn rfl (fun i a v h=>by simp at h)
   ·omega
  ·have:=List.mem_of_getElem? hy;rw[(List.mem_replicate.1 this).2];exact .any _
 have fin:∀ (x:AV) (els:List (List DV)) (L:List (List DV)) (clk:Nat) (a':Act) (w':World),Sx.Sys (ownR (rho0 β)) Im w (tm 42 [(4,x)]) (hOf [(0,.arr 188 4 els)]) clk a' w'→(tm 42 [(4,x)]).getD 4 .any=x→(x = .ow 0∨∃ o n,x = .os 0 o n)→Z1l (hOf [(0,.arr 188 4 els)]) x=some (4,L)→L=(l.filter Z2A).map Found.dv →
   bodyPost Tryz.prog Tryz.f132 (fun e w'=>∃ u,∃ Im':Nat→Prop,e = .returned u∧Kept (fun g=>β.g=some g) w w'∧(∀ g,Im' g→(Im g∨β.g=some g∨w.heap.size≤g)∧g<w'.heap.size)∧RelD w' Im' (.sl 4 ((l.filter Z2A).map Found.dv)) u) .ret a' w':=by
  rintro x els L clk a' w' ⟨ρ,Im',I,T⟩ hx4 hx hc hL;refine bodyPost_ret (results_tmp rfl _ _ _) T.defers ?_;have hr:Rel ρ w' Im' x (a'.tmps.getD 4 undef):=by
   have:=Z1x T (.tmp 4);rw[show ev (tm 42 [(4,x)]) (.tmp 4)=(tm 42 [(4,x)]).getD 4 .any from rfl,hx4]at this;exact this
  generalize a'.tmps.getD 4 undef=u at hr;obtain⟨κ,k1,k2⟩:=I.blk 0 _ rfl;have hκ:∀ g,κ.g=some g→w.heap.size≤g∨β.g=some g:=fun g h=>(I.own 0 κ g k1 h).imp (·.1) ZeE;refine⟨u,fun g=>Im' g∨κ.g=some g,rfl,I.kept.imp fun _ q=>ZeE q,fun g h=>?_, ?_⟩
  ·rcases h with h | h
   ·refine⟨?_,I.imb g h⟩;rcases I.im0 g h with q | q | q
    ·exact .inl q
    ·exact .inr (.inr q)
    ·exact .inr (.inl (ZeE q))
   ·refine⟨?_,I.bnd 0 κ g k1 h⟩;rcases hκ g h with q | q
    ·exact .inr (.inr q)
    ·exact .inr (.inl q)
  ·rw[← hL];refine Zkx I hr hc fun a n c hv hn=>?_;subst hv;rcases hx with rfl | ⟨o,m,rfl⟩
   ·generalize hvv:Value.slice (some a) n c=vv at hr;cases hr with
    | ow h1 h2 h3 h4 =>
     injection hvv with e1 e2 e3;rw[k1]at h1;cases h1;rcases h4 with h4 | ⟨g,hg,e,_⟩
     ·omega
     ·rw[← e1]at e;cases e;exact hg
   ·generalize hvv:Value.slice (some a) n c=vv at hr;cases hr with
    | os h1 h2 h3 h4 h5 =>
     injection hvv with e1 e2 e3;rw[k1]at h1;cases h1;rcases h5 with h5 | ⟨g,hg,e,_⟩
     ·omega
     ·rw[← e1]at e;cases e;exact hg
 by_cases h:Z0Y l<l.length
 ·refine wp_mono (Zng l hl h _ _ _ _ _ S) ?_;rintro e a' w' ⟨rfl,S1⟩;obtain⟨d1,d2,d3⟩:=ZhY h;refine fin (.os 0 0 (delR l).2) _ _ _ a' w' S1 rfl (.inr ⟨_,_,rfl⟩) rfl ?_;have d5:(delR l).2≤(delR l).1.length:=by have:(delR l).1.length=l.length:=d2;have:(delR l).2≤l.length:=d3;omega
  rw[List.drop_zero,← List.map_take,List.take_append_of_le_length (by rw[List.length_take];omega),List.take_take,Nat.min_self];exact congrArg _ d1
 ·refine wp_mono (Zox l hl h _ _ _ _ _ S) ?_;rintro e a' w' ⟨rfl,S1⟩;refine fin (.ow 0) _ _ _ a' w' S1 rfl (.inl rfl) rfl ?_;rw[Zjc h]
theorem ZcB{P:Program}{o:Oper}{a:Act}{w:World}{x:Operand}(ho:o.op = .assign x):(execOp a.eval o).run P w = .ok (.value (a.eval x)) w:=by
 simp[execOp,ho]
theorem ZnV{P:Program}{o:Oper}{a:Act}{w:World}{x:Operand}(ho:o.op = .move x):(execOp a.eval o).run P w = .ok (.value (a.eval x)) w:=by
 simp[execOp,ho]
theorem ZbC(h:Heap)(hw:WOk h.W)(e:(allW h).2=0):GP 79 [h.av] true (.tu [Z01 (((allW h).1.filter Z2A).map (·.addr)),int 0]) []:=by
 intro w00 Im vs hIm hsz hargs;rw[← callsIn_wide (n:=10)];refine callsIn_of_wp Tryz.func79 (c:=bdyF Tryz.f79) kr trivial ?_ rfl;have hs1:vs.size=1:=hsz;have S0:Sx.Sys Z4g Im w00 (tm 17 [(0,h.av)]) (hOf []) 1 { tmps:=vs++Array.replicate (Tryz.f79.ntmps-vs.size) undef,defers:=[] } w00:=by
  refine⟨_,Im,Sx.Inv.empty hIm (Nat.le_refl 1),⟨by rw[hs1];simp[hs1];kernel_rfl,fun k y v hy hv=>?_,rfl⟩⟩;rw[show tm 17 [(0,h.av)]=[h.av]++List.replicate 16 .any from by kernel_rfl,List.getElem?_append]at hy;rw[Array.getElem?_append]at hv;split at hy
  ·rename_i hk;rw[if_pos (by rw[hsz];exact hk)]at hv;exact hargs k y v hy hv
  ·have:=List.mem_of_getElem? hy;rw[(List.mem_replicate.1 this).2];exact .any _
 generalize hR:(fun e w'=>∃ v,e=Ending.returned v∧ZeW w00 Im true (AV.tu [Z01 (((allW h).1.filter Z2A).map (·.addr)),int 0]) [] v w')=R;generalize hQ:bodyPost Tryz.prog Tryz.f79 R=Q;refine Zok h hw e 10 Q _ _ _ _ _ S0 ?_;rintro a1 w1 ⟨ρ1,Im1,I1,T1⟩;obtain⟨v4,t4,r4⟩:=T1.at (t:=4) (x:=.ow 17008) rfl;obtain⟨β,m,n⟩:=I1.blk 17008 _ rfl;have hz1:a1.tmps.size=17:=T1.size;have er:rest Tryz.prog 10 4 (bdyF Tryz.f79) Q a1 w1=(Code.region 4 (rgO Tryz.f79 4) false).wpIn Fence.wide 10 Tryz.prog (Exit.then (Code.ret.wpIn Fence.wide 10 Tryz.prog Q) Q) a1 w1:=by kernel_rfl
 rw[er];refine wpIn_region ?_;rw[show List.range (rgO Tryz.f79 4).size=[0,1,2,3,4]from by kernel_rfl];refine Z2H (o:=(rgO Tryz.f79 4).getD 0 default) kr kr (Z3a (ro:=none) (by intro c h;cases h) (Z6R (ZnV (x:=.tmp 4) kr) ?_));rw[show((rgO Tryz.f79 4).getD 0 default).dst=some 14 from by kernel_rfl,Z62 t4];generalize ha2:a1.put (some 14) v4=a2;have t14:a2.tmps[14]? = some v4:=by rw[← ha2];exact Z69 oq
 have hz2:a2.tmps.size=17:=by rw[← ha2];show(a1.tmps.setIfInBounds 14 v4).size=17;rw[Array.size_setIfInBounds];exact hz1
 have hd2:a2.defers=[]:=by rw[← ha2];exact T1.defers
 have hcall:(execOp a2.eval ((rgO Tryz.f79 4).getD 1 default)).run Tryz.prog w1 = .ok (.enter 132 #[v4,.func (.func 133) #[] #[]]) w1:=by
  have hop:((rgO Tryz.f79 4).getD 1 default).op = .call ⟨.value (.func 132),#[.tmp 14,.func 133],tsOf ((rgO Tryz.f79 4).getD 1 default)⟩:=by kernel_rfl
  have:=Z2o (P:=Tryz.prog) (f:=132) kr #[v4,.func (.func 133) #[] #[]] w1;have hev:∀ f,a2.eval (.func f) = .func (.func f) #[] #[]:=fun f=>rfl;have hev2:=Z62 t14;generalize (rgO Tryz.f79 4).getD 1 default=o at hop ⊢;simp[execOp,hop,resolve,hev,hev2,Deferred.ofValue,invoke,this]
 refine Z2H (o:=(rgO Tryz.f79 4).getD 1 default) kr kr (Z3a (ro:=none) (by intro c h;cases h) ?_);unfold Oper.wp;rw[hcall,Oper.upon_enter];have al:=Zlb h;refine(Zo5 (allW h).1 oq (w:=w1) (Im:=Im1) (β:=β) I1.imb (by
  obtain⟨b1,b2,b3,b4,b5⟩:=n;refine⟨b1,b2,b3,b4,b5⟩) (fun g hg=>⟨I1.bnd _ _ g m hg,I1.notIm _ _ g ⟨_,rfl,by simp⟩ m hg⟩) (by
  cases r4 with
  | ow h1 h2 h3 h4=>rw[m]at h1;cases h1;exact .ow rfl h2 h3 h4)).mono ?_
 rintro e w2 ⟨u,Im2,rfl,K2,hIm2,hu⟩;rw[show((rgO Tryz.f79 4).getD 1 default).dst=some 15 from by kernel_rfl];show wpOpsIn _ _ _ _ _ [2,3,4] (a2.put (some 15) u) w2;generalize ha3:a2.put (some 15) u=a3;have t15:a3.tmps[15]? = some u:=by rw[← ha3];exact Z69 oq
 have hz3:a3.tmps.size=17:=by rw[← ha3];show(a2.tmps.setIfInBounds 15 u).size=17;rw[Array.size_setIfInBounds];exact hz2
 have hd3:a3.defers=[]:=by rw[← ha3];exact hd2
 have hcall2:(execOp a3.eval ((rgO Tryz.f79 4).getD 2 default)).run Tryz.prog w2 = .ok (.enter 131 #[u]) w2:=by
  have hop:((rgO Tryz.f79 4).getD 2 default).op = .call ⟨.value (.func 131),#[.tmp 15],tsOf ((rgO Tryz.f79 4).getD 2 default)⟩:=by kernel_rfl
  have:=Z2o (P:=Tryz.prog) (f:=131) kr #[u] w2;have hev:∀ f,a3.eval (.func f) = .func (.func f) #[] #[]:=fun f=>rfl;have hev2:=Z62 t15;generalize (rgO Tryz.f79 4).getD 2 default=o at hop ⊢;simp[execOp,hop,resolve,hev,hev2,Deferred.ofValue,invoke,this]
 refine Z2H (o:=(rgO Tryz.f79 4).getD 2 default) kr kr (Z3a (ro:=none) (by intro c h;cases h) ?_);unfold Oper.wp;rw[hcall2,Oper.upon_enter];refine(Z6u ((allW h).1.filter Z2A) (by have:=List.length_filter_le Z2A (allW h).1;omega) w2 Im2 #[u] (fun g hg=>(hIm2 g hg).2) rfl (fun i x v hx hv=>by
  rcases i with _ | i
  ·cases hx;cases hv;exact .d hu
  ·simp at hx)).mono ?_
 rintro e w3 ⟨v2,rfl,K3,ρ3,Im3,h31,h32,_,_,h35,_,r2⟩;rw[show((rgO Tryz.f79 4).getD 2 default).dst=some 16 from by kernel_rfl];show wpOpsIn _ _ _ _ _ [3,4] (a3.put (some 16) v2) w3;have r2':RelD w3 Im3 (.sl 1 ((((allW h).1.filter Z2A).map (·.addr)).map wdv)) v2:=by
  cases r2 with | d r=>exact r
 refine Z2H (o:=(rgO Tryz.f79 4).getD 3 default) kr kr (Z3a (ro:=none) (by intro c h;cases h) (Z6R (ZcB (x:=.tmp 16) kr) ?_));refine Z2H (o:=(rgO Tryz.f79 4).getD 4 default) kr kr (Z3a (ro:=none) (by intro c h;cases h) (Z6R (ZcB (x:=.const (.int .i64 0)) kr) ?_));rw[show((rgO Tryz.f79 4).getD 3 default).dst=some 2 from by kernel_rfl,show((rgO Tryz.f79 4).getD 4 default).dst=some 3 from by kernel_rfl,Z62 (a:=a3.put (some 16) v2) (Z69 oq)];have hs16:(a3.put (some 16) v2).tmps.size=17:=by show(a3.tmps.setIfInBounds 16 v2).size=17;rw[Array.size_setIfInBounds];exact hz3
 generalize ha4:a3.put (some 16) v2=a4 at hs16 ⊢;have hd4:a4.defers=[]:=by rw[← ha4];exact hd3
 have t2:(a4.put (some 2) v2).tmps[2]? = some v2:=Z69 oq;have hs2:(a4.put (some 2) v2).tmps.size=17:=by show(a4.tmps.setIfInBounds 2 v2).size=17;rw[Array.size_setIfInBounds];exact hs16
 refine wpIn_ret ?_;show Q .ret _ w3;rw[← hQ];refine bodyPost_ret (results_tmp2 rfl _ _ _) (show a4.defers=[]from hd4) ?_;rw[← hR];have q2:=Z62 (Z7L (u:=.int .i64 0) t2 (show 3≠2 by decide));have q3:=Z62 (a:=(a4.put (some 2) v2).put (some 3) (.int .i64 0)) (Z69 (u:=.int .i64 0) oq);have s1:=I1.kept.size;have s2:=K2.size;refine⟨_,rfl,Z3W (Z3W I1.kept.no K2 (fun g hg=>(I1.own _ _ g m hg).elim (·.1) (fun h=>h.no.elim))) K3 (fun _ h=>h.elim),fun _=>none,Im3,fun g hg=>.inr ?_,h32,fun _ _ _ q=>(by cases q),fun _ _ _ _ _ q=>(by cases q),fun _ _ q=>(by cases q),fun k B q=>by simp at q,.tu _ _ rfl fun i x v hx hv=>?_⟩
 ·rcases h31 g hg with q | q
  ·cases q.1
  ·omega
 rcases i with _ | _ | i
 ·cases hx;cases hv;show Rel (fun _=>none) w3 Im3 _ (((a4.put (some 2) v2).put (some 3) (.int .i64 0)).tmps.getD 2 undef);rw[show((a4.put (some 2) v2).put (some 3) (.int .i64 0)).tmps.getD 2 undef=v2 from q2];exact .d r2'
 ·cases hx;cases hv;show Rel (fun _=>none) w3 Im3 _ (((a4.put (some 2) v2).put (some 3) (.int .i64 0)).tmps.getD 3 undef);rw[show((a4.put (some 2) v2).put (some 3) (.int .i64 0)).tmps.getD 3 undef = .int .i64 0 from q3];exact .d (.sc _ rfl)
 ·simp at hx
theorem Ziz(h:Heap)(e:(allW h).2=0):Z03 h=(((allW h).1.filter Z2A).map (·.addr),0):=by
 have e1:=Ze4 h;unfold Z03;rw[e1,e];simp only[Prod.mk.injEq,and_true];rw[List.filter_map];congr 1;refine List.filter_congr fun x hx=>?_;have:=(Zk6 x hx).1;simp only[Function.comp,Z3r,Z2A,this];by_cases hk:(atH h x.addr).1.K=0<;>simp[hk]
theorem Zfc(h:Heap)(e:¬ (allW h).2=0):Z03 h=([],(allW h).2):=by
 have e1:=Ze4 h;have e8:(allW h).1=[]:=by
  unfold allW at e ⊢;split at e
  ·rename_i hp;rw[if_pos hp];exact Zmd h _ _ e
  ·rename_i hp;rw[if_neg hp]
 unfold Z03;rw[e1,e8];rfl
theorem Z6l(h:Heap)(hw:WOk h.W):GP 79 [h.av] true (.tu [Z01 (Z03 h).1,int (Z03 h).2]) []:=by
 by_cases e:(allW h).2=0
 ·rw[Ziz h e];exact ZbC h hw e
 ·rw[Zfc h e];exact Za8 h hw e
end Go.Proofs.YtdhchmlalchgeaaGreat
namespace Go.Proofs.YtdhchmlalchgeaaGreat
open Go.Sx
theorem ZmQ{h:Heap}{i o:Int}(e:(address h.C i o).2=0):adr h i o=4096+(i*h.C.pw+o)∧0≤i∧i<h.C.pg∧0≤o∧o<h.C.pw:=by
 unfold address at e;split at e
 ·rename_i hv;split at e
  ·rename_i hb;have hb':=hb;unfold inB at hb;simp at hb;refine⟨?_,by omega,by omega,by omega,by omega⟩;unfold adr address;rw[if_pos hv,if_pos hb']
  ·simp at e
 ·simp at e
theorem Z7x{h:Heap}{i:Int}:∀ {f:Nat} {o:Int},∀ x∈(Z1L h i f o).1,4096+(i*h.C.pw+o)≤x.addr∧x.addr<4096+(i*h.C.pw+h.C.pw)
 | 0,o,x,hx=>by simp[Z1L]at hx
 | f+1,o,x,hx=>by
  unfold Z1L at hx;split at hx
  ·split at hx
   ·rename_i h1;have ha:=ZmQ h1.1;rcases List.mem_cons.1 hx with rfl | hx
    ·simp only;omega
    ·have:=Z7x x hx;have:=Z1a (atH h (adr h i o)).1;omega
   ·simp at hx
  ·simp at hx
theorem Zcz{h:Heap}{i:Int}:∀ {f:Nat} {o:Int},((Z1L h i f o).1.map (·.addr)).Pairwise (· < ·)
 | 0,o=>by simp[Z1L]
 | f+1,o=>by
  unfold Z1L;split
  ·split
   ·rename_i h1;have ha:=ZmQ h1.1;have hs:=Z8E h1.2;rw[List.map_cons,List.pairwise_cons];refine⟨fun y hy=>?_,Zcz⟩;obtain⟨x,hx,rfl⟩:=List.mem_map.1 hy;have:=(Z7x x hx).1;simp only;omega
   ·simp
  ·simp
theorem Z5m{h:Heap}{i:Int}:∀ x∈(Z0s h i).1,4096+i*h.C.pw≤x.addr∧x.addr<4096+(i+1)*h.C.pw:=by
 intro x hx;have e:(i+1)*h.C.pw=i*h.C.pw+h.C.pw:=by rw[Int.add_mul,Int.one_mul]
 unfold Z0s Z1U at hx;split at hx
 ·split at hx
  ·have:=Z7x x hx;omega
  ·simp at hx
 ·simp at hx
theorem ZeB(h:Heap)(i:Int):((Z0s h i).1.map (·.addr)).Pairwise (· < ·):=by
 unfold Z0s Z1U;split
 ·split
  ·exact Zcz
  ·simp
 ·simp
theorem Zdl{h:Heap}(hw:0≤h.C.pw):∀ (f i:Nat),∀ x∈(allR h f i).1,4096+i*h.C.pw≤x.addr
 | 0,i,x,hx=>by simp[allR]at hx
 | f+1,i,x,hx=>by
  unfold allR at hx;split at hx
  ·split at hx
   ·rcases List.mem_append.1 hx with hx | hx
    ·exact(Z5m x hx).1
    ·have:=Zdl hw f (i+1) x hx;have e:((i+1:Nat):Int)*h.C.pw=i*h.C.pw+h.C.pw:=by push_cast;rw[Int.add_mul,Int.one_mul]
     omega
   ·simp at hx
  ·simp at hx
theorem Zfl{h:Heap}(hw:0≤h.C.pw):∀ (f i:Nat),((allR h f i).1.map (·.addr)).Pairwise (· < ·)
 | 0,i=>by simp[allR]
 | f+1,i=>by
  unfold allR;split
  ·split
   ·rw[List.map_append,List.pairwise_append];refine⟨ZeB h i,Zfl hw f (i+1),fun a ha b hb=>?_⟩;obtain⟨x,hx,rfl⟩:=List.mem_map.1 ha;obtain⟨y,hy,rfl⟩:=List.mem_map.1 hb;have h1:=(Z5m x hx).2;have h2:=Zdl hw f (i+1) y hy;have e:((i+1:Nat):Int)*h.C.pw=((i:Int)+1)*h.C.pw:=by push_cast;rfl
    omega
   ·simp
  ·simp
theorem Zgz(h:Heap):(Z0A h).1.Pairwise (· < ·):=by
 rw[Ze4 h];unfold allW;split
 ·rename_i hp;exact Zfl (by have:=Z06 hp;omega) _ _
 ·simp
theorem Z91(h:Heap):(Z03 h).1.Pairwise (· < ·):=by
 unfold Z03;exact(Zgz h).filter _
def posB(l:List Int)(v:Int):Nat:=(l.takeWhile (fun x=>decide (x<v))).length
theorem ZhH(l:List Int)(v:Int):posB l v≤l.length:=by
 unfold posB;exact(List.takeWhile_sublist _).length_le
theorem Zeq{l:List Int}{v:Int}(hs:l.Pairwise (· < ·)){k:Nat}(hk:k<l.length):(l.getD k default<v↔k<posB l v):=by
 have e:l.getD k default=l[k]:=by rw[List.getD_eq_getElem?_getD,List.getElem?_eq_getElem hk];rfl
 rw[e];constructor
 ·intro h;by_cases hc:k<posB l v
  ·exact hc
  ·exfalso;have hp:posB l v<l.length:=by omega
   have h2:=Zaq (fun x=>decide (x<v)) l hp;have h3:¬ l[posB l v]<v:=by
    have:decide (l[posB l v]<v)=false:=h2;simpa using this
   rcases Nat.lt_or_ge (posB l v) k with hlt | hge
   ·have:=List.pairwise_iff_getElem.1 hs (posB l v) k hp hk hlt;omega
   ·have:posB l v=k:=by omega
    simp only[this]at h3;exact h3 h
 ·intro h;obtain⟨h1,h2⟩:=ZgS _ _ _ h;simpa using h2
theorem ZkE{l:List Int}{v:Int}(hs:l.Pairwise (· < ·)):(v∈l↔posB l v<l.length∧l.getD (posB l v) default=v):=by
 constructor
 ·intro h;obtain⟨k,hk,e⟩:=List.getElem_of_mem h;have e2:l.getD k default=v:=by rw[List.getD_eq_getElem?_getD,List.getElem?_eq_getElem hk,← e];rfl
  have h1:¬ k<posB l v:=fun q=>by have:=(Zeq (v:=v) hs hk).2 q;omega
  have h2:k=posB l v:=by
   rcases Nat.lt_or_ge (posB l v) k with hlt | hge
   ·have hp:posB l v<l.length:=by omega
    have h3:¬ l.getD (posB l v) default<v:=fun q=>by have:=(Zeq (v:=v) hs hp).1 q;omega
    have h4:=List.pairwise_iff_getElem.1 hs (posB l v) k hp hk hlt;have e5:l.getD (posB l v) default=l[posB l v]:=by rw[List.getD_eq_getElem?_getD,List.getElem?_eq_getElem hp];rfl
    omega
   ·omega
  subst h2;exact⟨hk,e2⟩
 ·rintro⟨h1,h2⟩;rw[← h2,List.getD_eq_getElem?_getD,List.getElem?_eq_getElem h1];exact List.getElem_mem h1
theorem ZaM(x:Int):GP 185 [u64 x] true (bool false) []:=by
 exact gF [] Tryz.func185 [true] (Fbs ((x != x)=false) Fz)
theorem Zmx(x:Int):GP 201 [u64 x] true (bool false) []:=by
 exact gF [] Tryz.func201 [true] (Fbs ((x != x)=false) Fz)
theorem ZhC(x y:Int):GP 184 [u64 x,u64 y] true (bool (decide (x<y))) []:=by
 exact gF [] Tryz.func184 [] (Fc 6 (@Zmx x) (FcG 9 false (fun hg=>by(try simp only[bs]at hg);exact @Zmx y) Fz))
def bsL(l:List Int)(v:Int)(i j:Nat):Tg:=⟨tm 54 [(0,Z01 l),(1,u64 v),(4,int 0),(5,bool false),(6,int l.length),(7,int i),(8,int j)],[],60⟩
section
variable (l:List Int) (v:Int) (hl:l.length≤1048576) (i j:Nat) (hij:i<j) (hj:j≤l.length)
include hl hij hj
theorem ZpP(hlt:l.getD ((i+j)/2) default<v):CP (rndF Tryz.f153 0) (bsL l v i j).st .nrm (bsL l v ((i+j)/2+1) j).st:=by
 rcases bb (decide (l.getD (((↑i:Int)+(↑j:Int))/2).toNat default<v))with hc0 | hc0<;>have hc0p:=hc0<;>simp only[bs]at hc0p
 ·let y0:=(↑i:Int)+(↑j:Int);exact sF [] [] (Fh 27 [.call true (Sx.bool (decide (l.getD (y0/2).toNat default<v))) [],.br true] (Ftb 15 (decide ((↑i:Int)<(↑j:Int))) (Fi 18 y0 (Fv 19 y0 (Fg 20 (by exact Z50 rfl dd:y0.fdiv (2^min (Int.toNat 1) 64)=y0/2) (Fo ((0:Int)≤1) (Fi 21 (y0/2) (Fe 24 wdv l (y0/2) (Fa (@ZhC (l.getD (y0/2).toNat default) v) (Fa hc0 (Fi 29 (y0/(2:Int)+1) Fz)))))))))))
 ·contradiction
theorem Zp2(hlt:¬ l.getD ((i+j)/2) default<v):CP (rndF Tryz.f153 0) (bsL l v i j).st .nrm (bsL l v i ((i+j)/2)).st:=by
 rcases bb (decide (l.getD (((↑i:Int)+(↑j:Int))/2).toNat default<v))with hc0 | hc0<;>have hc0p:=hc0<;>simp only[bs]at hc0p
 ·contradiction
 ·let y0:=(↑i:Int)+(↑j:Int);exact sF [] [] (Fh 27 [.call true (Sx.bool (decide (l.getD (y0/2).toNat default<v))) [],.br false] (Ftb 15 (decide ((↑i:Int)<(↑j:Int))) (Fi 18 y0 (Fv 19 y0 (Fg 20 (by exact Z50 rfl dd:y0.fdiv (2^min (Int.toNat 1) 64)=y0/2) (Fo ((0:Int)≤1) (Fi 21 (y0/2) (Fe 24 wdv l (y0/2) (Fa (@ZhC (l.getD (y0/2).toNat default) v) (Fa hc0 Fz))))))))))
end
theorem ZoH(l:List Int)(v:Int)(i:Nat):CP (rndF Tryz.f153 0) (bsL l v i i).st (.ext 0) (Tg.st ⟨tm 54 [(0,Z01 l),(1,u64 v),(6,int l.length),(7,int i)],[],60⟩):=by
 exact sF [] [] (Ffb 15 (decide ((↑i:Int)<(↑i:Int))) Fz)
theorem bsGo(l:List Int)(v:Int)(hl:l.length≤1048576)(hs:l.Pairwise (· < ·)):∀ (f i j:Nat),j≤i+f→i≤posB l v→posB l v≤j→j≤l.length →
  LSpec Tryz.prog Tryz.f153 0 (bsL l v i j).st (.ext 0) (Tg.st ⟨tm 54 [(0,Z01 l),(1,u64 v),(6,int l.length),(7,int (posB l v))],[],60⟩):=by
 intro f;induction f with
 | zero =>
  intro i j h1 h2 h3 h4;obtain⟨rfl,rfl⟩:i=posB l v∧j=posB l v:=by omega
  exact .endx (ZoH l v _)
 | succ f ih =>
  intro i j h1 h2 h3 h4;by_cases hij:i<j
  ·have hp:=Zeq hs (v:=v) (k:=(i+j)/2) oq;by_cases hlt:l.getD ((i+j)/2) default<v
   ·have:=hp.1 hlt;exact .next (ZpP l v hl i j hij h4 hlt) (ih ((i+j)/2+1) j oq oq h3 h4)
   ·have:¬ (i+j)/2<posB l v:=fun q=>hlt (hp.2 q);exact .next (Zp2 l v hl i j hij h4 hlt) (ih i ((i+j)/2) oq h2 oq oq)
  ·obtain⟨rfl,rfl⟩:i=posB l v∧j=posB l v:=by omega
   exact .endx (ZoH l v _)
theorem ZjX(l:List Int)(v:Int)(hl:l.length≤1048576)(hs:l.Pairwise (· < ·)):CP (blkF Tryz.f153 0) (Tg.st ⟨tm 54 [(0,Z01 l),(1,u64 v),(4,int 0),(5,bool false),(6,int l.length),(7,int 0),(8,int l.length)],[],60⟩) .nrm
  (Tg.st ⟨tm 54 [(0,Z01 l),(1,u64 v),(6,int l.length),(7,int (posB l v))],[],60⟩) :=
 (bsGo l v hl hs l.length 0 l.length oq oq (ZhH l v) (Nat.le_refl _)).ext kr
theorem bsearch(l:List Int)(v:Int)(hl:l.length≤1048576)(hs:l.Pairwise (· < ·)):GP 153 [Z01 l,u64 v] true (.tu [int (posB l v),bool (decide (v∈l))]) []:=by
 have hm:=ZkE (v:=v) hs;have hp:=ZhH l v;by_cases h1:posB l v<l.length
 ·by_cases h2:l.getD (posB l v) default=v
  ·have e:decide (v∈l)=true:=by simpa using hm.2 ⟨h1,h2⟩
   rw[e];exact gF [] Tryz.func153 (fO 24) (Fl 11 wdv l (Fu (@ZjX l v aa aa) (FeG 38 (decide ((↑(posB l v):Int)<(↑l.length:Int))) wdv l (↑(posB l v):Int) (posB l v) (FeG 45 (decide ((↑(posB l v):Int)<(↑l.length:Int))&&!l.getD (posB l v) default==v) wdv l (↑(posB l v):Int) (posB l v) (FcG 47 (decide ((↑(posB l v):Int)<(↑l.length:Int))&&!l.getD (posB l v) default==v) (fun hg=>by(try simp only[bs]at hg);exact @ZaM (l.getD (posB l v) default)) (FcG 50 (decide ((↑(posB l v):Int)<(↑l.length:Int))&&!l.getD (posB l v) default==v&&false) (fun hg=>by(try simp only[bs]at hg);exact @ZaM v) (Fr (↑(posB l v):Int) (Fb ((decide ((↑(posB l v):Int)<(↑l.length:Int))&&(l.getD (posB l v) default==v||false))=true) Fz))))))))
  ·have e:decide (v∈l)=false:=by
    simp only[decide_eq_false_iff_not];exact fun q=>h2 (hm.1 q).2
   rw[e];exact gF [] Tryz.func153 (fO 24) (Fl 11 wdv l (Fu (@ZjX l v aa aa) (FeG 38 (decide ((↑(posB l v):Int)<(↑l.length:Int))) wdv l (↑(posB l v):Int) (posB l v) (FeG 45 (decide ((↑(posB l v):Int)<(↑l.length:Int))&&!l.getD (posB l v) default==v) wdv l (↑(posB l v):Int) (posB l v) (FcG 47 (decide ((↑(posB l v):Int)<(↑l.length:Int))&&!l.getD (posB l v) default==v) (fun hg=>by(try simp only[bs]at hg);exact @ZaM (l.getD (posB l v) default)) (FcG 50 (decide ((↑(posB l v):Int)<(↑l.length:Int))&&!l.getD (posB l v) default==v&&false) (fun hg=>by(try simp only[bs]at hg);exact @ZaM v) (Fr (↑(posB l v):Int) (Fbs ((decide ((↑(posB l v):Int)<(↑l.length:Int))&&(l.getD (posB l v) default==v||false))=false) Fz))))))))
 ·have e:decide (v∈l)=false:=by
   simp only[decide_eq_false_iff_not];exact fun q=>h1 (hm.1 q).1
  rw[e];exact gF [] Tryz.func153 (fO 24) (Fl 11 wdv l (Fu (@ZjX l v aa aa) (FeG 38 (decide ((↑(posB l v):Int)<(↑l.length:Int))) wdv l (↑(posB l v):Int) (posB l v) (FeG 45 (decide ((↑(posB l v):Int)<(↑l.length:Int))&&!l.getD (posB l v) default==v) wdv l (↑(posB l v):Int) (posB l v) (FcG 47 (decide ((↑(posB l v):Int)<(↑l.length:Int))&&!l.getD (posB l v) default==v) (fun hg=>by(try simp only[bs]at hg);exact @ZaM (l.getD (posB l v) default)) (FcG 50 (decide ((↑(posB l v):Int)<(↑l.length:Int))&&!l.getD (posB l v) default==v&&false) (fun hg=>by(try simp only[bs]at hg);exact @ZaM v) (Fr (↑(posB l v):Int) (Fb ((decide ((↑(posB l v):Int)<(↑l.length:Int))&&(l.getD (posB l v) default==v||false))=false) Fz))))))))
theorem Z6I(h:Header)(i:Int)(hm:0≤h.map∧h.map≤4294967295):GP 155 [h.av,int i] true (bool (Z0f h i)) []:=by
 rcases bb (!Z0g h||decide (i<0)||decide (h.length≤i))with hc0 | hc0<;>have hc0p:=hc0<;>simp only[bs]at hc0p
 ·exact gF [] Tryz.func155 (fO 6) (Fc 6 (@Z37 h aa) (Ft 17 hc0 (Fa (by grind[Z0f]:false=Z0f h i) Fz)))
 ·obtain⟨⟨hc0paa,hc0pab⟩,hc0pb⟩:=hc0p;have hf3:=validH_iff.1 hc0paa;obtain⟨hf3a,⟨hf3ba,⟨hf3bba,⟨hf3bbba,hf3bbbb⟩⟩⟩⟩:=hf3;exact gF [] Tryz.func155 (fO 17) (Fc 6 (@Z37 h aa) (Ff 17 hc0 (Fa (by intro hg;(try simp only[bs]at hg);omega:(!h.K==2&&h.K==1)=true→0≤i) (Fa (by exact Zmy h i hm aa oq oq:(h.K==2||h.K==1&&bits BinOp.and IntKind.u32 (h.map.fdiv (2^min i.toNat 32)) (1:Int)==1)=Z0f h i) Fz))))
def hptL(h:Header)(i:Nat):Tg:=⟨tm 19 [(1,.pt 8001 0 0),(2,.d (.sl 0 [])),(3,.ow 16003),(6,int (sizeH h)),(7,int i)],[(16003,.arr 3 1 ((Z11 h i).map idv)),(8001,.box 52 [int h.K,int h.length,u32 h.map])],60⟩
theorem Zlz(h:Header)(i:Nat)(hm:0≤h.map∧h.map≤4294967295)(hi:(i:Int)<sizeH h):CP (rndF Tryz.f112 0) (hptL h i).st .nrm (hptL h (i+1)).st:=by
 have hn:=Z4e h i;have hs:=Z1a h;by_cases hp:Z0f h (i:Int)=true
 ·have e:Z11 h (i+1)=Z11 h i++[(i:Int)]:=by rw[Z11,if_pos hp]
  exact sF [(504016,16003)] (fO 5) (Fh 12 [.call true (Sx.bool (Z0f h (↑i:Int))) [],.br true] (Fh 16 [.els (List.map idv (Z11 h i++[(↑i:Int)]))] (Ftb 8 (decide ((↑i:Int)<sizeH h)) (Fa (@Z6I h ((↑i:Int)) aa) (Fa ‹Z0f h (↑i:Int)=true› (Fs 15 (List.map idv [(↑i:Int)]) (Fa (by(simp[*];omega):(List.map idv (Z11 h i)).length+(List.map idv [(↑i:Int)]).length≤2^30) (Fa (ms:List.map idv (Z11 h i)++List.map idv [(↑i:Int)]=List.map idv (Z11 h i++[(↑i:Int)])) (Fx 17 i (Fr (3:Int) (Fa (by refine congrArg _ ?_;rw[e]:List.map idv (Z11 h i++[(↑i:Int)])=List.map idv (Z11 h (i+1))) Fz)))))))))))
 ·have e:Z11 h (i+1)=Z11 h i:=by rw[Z11,if_neg hp]
  have hp':Z0f h (i:Int)=false:=by simpa using hp
  exact sF [] (fO 5) (Fh 12 [.call true (Sx.bool (Z0f h (↑i:Int))) [],.br false] (Ftb 8 (decide ((↑i:Int)<sizeH h)) (Fa (@Z6I h ((↑i:Int)) aa) (Fa ‹Z0f h (↑i:Int)=false› (Fx 17 i (Fr (3:Int) (Fa (by refine congrArg _ ?_;rw[e]:List.map idv (Z11 h i)=List.map idv (Z11 h (i+1))) Fz)))))))
theorem ZoE(h:Header)(i:Nat)(hi:(i:Int)=sizeH h):CP (rndF Tryz.f112 0) (hptL h i).st (.ext 0) (Tg.st ⟨tm 19 [(2,.d (.sl 0 [])),(3,.ow 16003)],[(16003,.arr 3 1 ((Z11 h i).map idv))],60⟩):=by
 exact sF [] [] (Ffb 8 (decide ((↑i:Int)<sizeH h)) Fz)
theorem Z7Q(h:Header):Z11 h (sizeH h).toNat=Z09 h:=by
 unfold Z09 sizeH;by_cases hv:Z0g h=true
 ·rw[if_pos hv,if_pos hv];have hb:=validH_iff.1 hv;rw[show(h.length+1).toNat=h.length.toNat+1 from by omega,Z11,if_neg];unfold Z0f;simp;omega
 ·rw[if_neg hv,if_neg hv];rfl
theorem ZnZ(h:Header)(hm:0≤h.map∧h.map≤4294967295):CP (blkF Tryz.f112 0) (Tg.st ⟨tm 19 [(1,.pt 8001 0 0),(2,.d (.sl 0 [])),(3,.ow 16003),(6,int (sizeH h)),(7,int 0)],[(16003,.arr 3 1 []),(8001,.box 52 [int h.K,int h.length,u32 h.map])],60⟩) .nrm (Tg.st ⟨tm 19 [(2,.d (.sl 0 [])),(3,.ow 16003)],[(16003,.arr 3 1 ((Z09 h).map idv))],60⟩):=by
 have hs:=Z1a h;rw[← Z7Q];exact Z0a (S:=fun i=>(hptL h i).st) (sizeH h).toNat kr (fun i hi=>Zlz h i hm oq) (ZoE h _ oq)
theorem Z5W(h:Header)(hm:0≤h.map∧h.map≤4294967295):GP 112 [h.av] true (.d (.sl 1 ((Z09 h).map idv))) []:=by
 exact gF [] Tryz.func112 [] (Fh 3 [.own] (Fc 6 (@Z0O h aa) (Fu (@ZnZ h aa) (Fa (by exact Z6C _:Z0S (List.map idv (Z09 h))) Fz))))
def ahdL(h:Heap)(i:Nat):Tg:=⟨tm 19 [(1,int i),(2,.pt 8002 0 0),(4,int 0)],[(8002,.box 28 h.cells)],60⟩
theorem Zm7(h:Heap)(i:Nat)(hi:i+1<h.P.length)(hl:h.P.length≤1048576)(hk:(h.P.getD (i+1) default).K=3):CP (rndF Tryz.f202 0) (ahdL h (i+1)).st .nrm (ahdL h i).st:=by
 have ei:((i+1:Nat):Int)-1=(i:Int):=by omega
 exact sF [] [] (FeG 11 (decide (0<(↑(i+1):Int))) Page.dv h.P (↑(i+1):Int) (i+1) (Ftb 15 (decide (0<(↑(i+1):Int))&&(h.P.getD (i+1) default).K==3) (Fg 17 (by rw[wrapI' oq oq];omega:IntKind.i64.wrap ((↑(i+1):Int)-1)=(↑i:Int)) Fz)))
theorem ZmO(h:Heap)(i:Nat)(hi:i<h.P.length)(hl:h.P.length≤1048576)(hk:¬ (h.P.getD i default).K=3):CP (rndF Tryz.f202 0) (ahdL h i).st (.ext 0) (Tg.st ⟨tm 19 [(1,int i),(4,int 0)],[],60⟩):=by
 exact sF [] [] (FeG 11 (decide (0<(↑i:Int))) Page.dv h.P (↑i) i (Ffb 15 (decide (0<(↑i:Int))&&(h.P.getD i default).K==3) Fz))
theorem ZpA(h:Heap)(hp:Z02 h=true)(hl:h.P.length≤1048576):∀ i,i<h.P.length→LSpec Tryz.prog Tryz.f202 0 (ahdL h i).st (.ext 0) (Tg.st ⟨tm 19 [(1,int (Z0x h.P i)),(4,int 0)],[],60⟩)
 | 0,hi=>.endx (ZmO h 0 hi hl (ZoS hp))
 | i+1,hi=>by
  unfold Z0x;by_cases hk:(h.P.getD (i+1) default).K=3
  ·rw[if_pos hk];exact .next (Zm7 h i hi hl hk) (ZpA h hp hl i oq)
  ·rw[if_neg hk];exact .endx (ZmO h (i+1) hi hl hk)
theorem Zow(h:Heap)(i:Nat)(hp:Z02 h=true)(hi:i<h.P.length)(hl:h.P.length≤1048576):CP (blkF Tryz.f202 0) (ahdL h i).st .nrm (Tg.st ⟨tm 19 [(1,int (Z0x h.P i)),(4,int 0)],[],60⟩) :=
 (ZpA h hp hl i hi).ext kr
theorem Zii(h:Heap)(i:Nat)(hp:Z02 h=true)(hi:i<h.P.length):GP 202 [h.av,int i] true (int (Z0x h.P i)) []:=by
 have po:=Z06 hp;exact gF [] Tryz.func202 [] (Fu (@Zow h i aa aa oq) Fz)
def aclL(h:Heap)(i:Int)(l:List Int)(n:Nat):Tg:=⟨tm 58 [(1,int i),(3,.pt 8003 0 0),(6,u64 0),(7,bool false),(13,Z01 l),(14,int l.length),(15,int n)],[(8003,.box 28 h.cells)],60⟩
section
variable (h:Heap) (i:Int) (l:List Int) (n:Nat) (hw:WOk h.W) (hl:l.length≤1048576) (hi:0≤i∧i<h.P.length) (hp:h.P.length≤1048576) (hr:∀ x∈l,0≤x∧x≤8192)
include hw hl hi hp hr
theorem Zf6(hn:n<l.length)(hb:Z1r h i (l.getD n default)=false):CP (rndF Tryz.f193 0) (aclL h i l n).st .nrm (aclL h i l (n+1)).st:=by
 have hx:=hr (l.getD n default) (getD_mem_iff.2 ⟨n,hn,rfl⟩);have hm:=Z3x hw (l.getD n default);simp only[Z1r,bs]at hb;let y0:=atH h (l.getD n default);let y1:=h.P.getD i.toNat default;exact sF [] [] (Ftb 16 (decide ((↑n:Int)<(↑l.length:Int))) (Fek 17 wdv l (↑n) n (Fc 22 (@Z3Z h (l.getD n default) aa oq) (Fc 26 (@Z0O (y0.fst) aa) (Fc 29 (@Z3i h.C) (Fe 34 Page.dv h.P i (FeGq 46 (!(y1.K==1&&!decide (sizeH y0.fst≤Z00 h.C))) Page.dv h.P i (Ffb 55 (y1.K==1&&!decide (sizeH y0.fst≤Z00 h.C)||y1.K==2&&y0.fst.K==0) (Fx 57 n Fz)))))))))
theorem Zml(hn:n<l.length)(hb:Z1r h i (l.getD n default)=true):CP (rndF Tryz.f193 0) (aclL h i l n).st .ret (Tg.st ⟨tm 58 [(6,u64 (l.getD n default)),(7,bool true)],[],60⟩):=by
 have hx:=hr (l.getD n default) (getD_mem_iff.2 ⟨n,hn,rfl⟩);have hm:=Z3x hw (l.getD n default);simp only[Z1r,bs]at hb;let y0:=atH h (l.getD n default);let y1:=h.P.getD i.toNat default;exact sF [] [] (Ftb 16 (decide ((↑n:Int)<(↑l.length:Int))) (Fek 17 wdv l (↑n) n (Fc 22 (@Z3Z h (l.getD n default) aa oq) (Fc 26 (@Z0O (y0.fst) aa) (Fc 29 (@Z3i h.C) (Fe 34 Page.dv h.P i (FeGq 46 (!(y1.K==1&&!decide (sizeH y0.fst≤Z00 h.C))) Page.dv h.P i (Ftb 55 (y1.K==1&&!decide (sizeH y0.fst≤Z00 h.C)||y1.K==2&&y0.fst.K==0) Fz))))))))
omit hw hl hi hp hr in
theorem ZoP:CP (rndF Tryz.f193 0) (aclL h i l l.length).st (.ext 0) (Tg.st ⟨tm 58 [(6,u64 0),(7,bool false)],[],60⟩):=by
 exact sF [] [] (Ffb 16 (decide ((↑l.length:Int)<(↑l.length:Int))) Fz)
end
theorem Znt(h:Heap)(i:Int)(l:List Int)(hw:WOk h.W)(hl:l.length≤1048576)(hi:0≤i∧i<h.P.length)(hp:h.P.length≤1048576)(hr:∀ x∈l,0≤x∧x≤8192)(hf:l.find? (Z1r h i)=none) :
  CP (blkF Tryz.f193 0) (Tg.st ⟨tm 58 [(1,int i),(3,.pt 8003 0 0),(6,u64 0),(7,bool false),(13,Z01 l),(14,int l.length),(15,int 0)],[(8003,.box 28 h.cells)],60⟩) .nrm (Tg.st ⟨tm 58 [(6,u64 0),(7,bool false)],[],60⟩) :=
 Z0a (S:=fun n=>(aclL h i l n).st) l.length kr (fun n hn=>Zf6 h i l n hw hl hi hp hr hn (Z7e hf n hn)) (ZoP h i l)
theorem Zkr(h:Heap)(i:Int)(l:List Int)(x:Int)(hw:WOk h.W)(hl:l.length≤1048576)(hi:0≤i∧i<h.P.length)(hp:h.P.length≤1048576)(hr:∀ x∈l,0≤x∧x≤8192)(hf:l.find? (Z1r h i)=some x) :
  CP (blkF Tryz.f193 0) (Tg.st ⟨tm 58 [(1,int i),(3,.pt 8003 0 0),(6,u64 0),(7,bool false),(13,Z01 l),(14,int l.length),(15,int 0)],[(8003,.box 28 h.cells)],60⟩) .ret (Tg.st ⟨tm 58 [(6,u64 x),(7,bool true)],[],60⟩):=by
 obtain⟨n,h1,h2,h3,h4⟩:=Z3J hf;subst h2;exact Z0I (S:=fun n=>(aclL h i l n).st) n kr (fun m hm=>Zf6 h i l m hw hl hi hp hr oq (h4 m hm)) (Zml h i l n hw hl hi hp hr h1 h3)
def Z1T(h:Heap)(i:Int)(l:List Int):Bool:=(l.find? (Z1r h i)).isSome
theorem Z3D(h:Heap)(i:Int)(l:List Int)(hw:WOk h.W)(hl:l.length≤1048576)(hp:h.P.length≤1048576)(hi:0≤i∧i<h.P.length)(hr:∀ x∈l,0≤x∧x≤8192):GP 193 [h.av,int i,Z01 l] true (.tu [u64 (Z13 h i l),bool (Z1T h i l)]) []:=by
 cases hf:l.find? (Z1r h i)with
 | none =>
  have e7:Z13 h i l=0:=by rw[Z13,hf];rfl
  have e8:Z1T h i l=false:=by rw[Z1T,hf];rfl
  rw[e7,e8];exact gF [] Tryz.func193 [] (Fl 14 wdv l (Fu (@Znt h i l aa aa aa aa aa aa) Fz))
 | some x =>
  have e7:Z13 h i l=x:=by rw[Z13,hf];rfl
  have e8:Z1T h i l=true:=by rw[Z1T,hf];rfl
  rw[e7,e8];exact gF [] Tryz.func193 [] (Fl 14 wdv l (Fu (@Zkr h i l x aa aa aa aa aa aa) Fz))
theorem Zhs(ws:List Int)(a n:Int)(hw:ws.length≤1048576)(h0:4096≤a∧1≤n∧n≤1000∧a-4096+n≤ws.length):GP 117 [Z01 ws,u64 a,int n] true (.tu [.ow 0,int 0]) [.arr 35 1 (((ws.drop (a-4096).toNat).take n.toNat).map wdv)]:=by
 have ei1:(Z0b ws a n).1=a-4096:=by rw[Z0b,if_pos oq]
 have e2:(Z0b ws a n).2=true:=by rw[Z0b,if_pos oq];simp;omega
 have hne:(ws.drop (a-4096).toNat).take n.toNat≠[]:=Z8U (by rw[List.length_take,List.length_drop];omega);exact gF [41027] Tryz.func117 [false,true] (Fh 26 [.els (List.map wdv (List.take (((Z0b ws a n).fst+n).toNat-(Z0b ws a n).fst.toNat) (List.drop (Z0b ws a n).fst.toNat ws)))] (Ffb 11 (decide (n<0)) (Fc 16 (@Z7j ws a n aa oq) (Ffb 20 (!(Z0b ws a n).snd) (Fi 25 ((Z0b ws a n).fst+n) (Fa (by(simp only[List.length_map];omega):0≤(Z0b ws a n).fst∧(Z0b ws a n).fst≤(Z0b ws a n).fst+n∧(Z0b ws a n).fst+n≤(↑(List.map wdv ws).length:Int)) (Fa (by simp[e2,List.map_take,List.map_drop,List.map_set,List.map_append,wdv,idv]:List.take (((Z0b ws a n).fst+n).toNat-(Z0b ws a n).fst.toNat) (List.drop (Z0b ws a n).fst.toNat (List.map wdv ws))=List.map wdv (List.take (((Z0b ws a n).fst+n).toNat-(Z0b ws a n).fst.toNat) (List.drop (Z0b ws a n).fst.toNat ws))) (Fc 27 (@Zei (List.take (((Z0b ws a n).fst+n).toNat-(Z0b ws a n).fst.toNat) (List.drop (Z0b ws a n).fst.toNat ws)) (by(simp[e2, *];omega)) (by(simp[e2, *];omega))) (Fa (by exact Z2I _:Z0S (List.map wdv (List.take (((Z0b ws a n).fst+n).toNat-(Z0b ws a n).fst.toNat) (List.drop (Z0b ws a n).fst.toNat ws)))) (Fr (35:Int) (Fa (by refine congrArg _ ?_;(simp[e2, *];omega):List.map wdv (List.take (((Z0b ws a n).fst+n).toNat-(Z0b ws a n).fst.toNat) (List.drop (Z0b ws a n).fst.toNat ws))=List.map wdv (List.take n.toNat (List.drop (a-4096).toNat ws))) Fz)))))))))))
def fstW(l:List Int):Nat:=(l.takeWhile fun x=>x==0).length
theorem Zc2{l:List Int}{m:Nat}(h:m<fstW l):m<l.length∧l.getD m default=0:=by
 obtain⟨h1,h2⟩:=ZgS _ _ _ h;refine⟨h1, ?_⟩;rw[List.getD_eq_getElem?_getD,List.getElem?_eq_getElem h1];simpa using h2
theorem Zfx{l:List Int}(h:fstW l<l.length):¬ l.getD (fstW l) default=0:=by
 have h2:=Zaq (fun x:Int=>x==0) l h;have h3:l.getD (fstW l) default=l[(l.takeWhile fun x=>x==0).length]:=by
  rw[List.getD_eq_getElem?_getD,List.getElem?_eq_getElem h];rfl
 rw[h3];simpa using h2
def idxW(l:List Int):Int:=if fstW l<l.length then fstW l else -1
theorem ZhZ(x:Int):GP 204 [u64 x] true (bool (x != 0)) []:=by
 exact gF [] Tryz.func204 [] Fz
def Zha(l:List Int)(i:Nat):Tg:=⟨tm 19 [(0,Z01 l),(1,.fn 204 []),(4,int 0),(7,int l.length),(8,int i)],[],60⟩
theorem ZdQ(l:List Int)(i:Nat)(hl:l.length≤1048576)(hi:i<l.length)(e:l.getD i default=0):CP (rndF Tryz.f203 0) (Zha l i).st .nrm (Zha l (i+1)).st:=by
 exact sF [] [] (Fh 16 [.call true (Sx.bool (l.getD i default != 0)) [],.br false] (Ftb 9 (decide ((↑i:Int)<(↑l.length:Int))) (Fek 14 wdv l (↑i) i (Fa (@ZhZ (l.getD i default)) (Fb ((l.getD i default != 0)=false) (Fx 18 i Fz))))))
theorem Zit(l:List Int)(i:Nat)(hl:l.length≤1048576)(hi:i<l.length)(e:¬ l.getD i default=0):CP (rndF Tryz.f203 0) (Zha l i).st .ret (Tg.st ⟨tm 19 [(4,int i)],[],60⟩):=by
 exact sF [] [] (Fh 16 [.call true (Sx.bool (l.getD i default != 0)) [],.br true] (Ftb 9 (decide ((↑i:Int)<(↑l.length:Int))) (Fek 14 wdv l (↑i) i (Fa (@ZhZ (l.getD i default)) (Fb ((l.getD i default != 0)=true) Fz)))))
theorem Zom(l:List Int):CP (rndF Tryz.f203 0) (Zha l l.length).st (.ext 0) (Tg.st ⟨tm 19 [(4,int 0)],[],60⟩):=by
 exact sF [] [] (Ffb 9 (decide ((↑l.length:Int)<(↑l.length:Int))) Fz)
def Zm8(l:List Int)(hl:l.length≤1048576)(h:¬ fstW l<l.length)  := Z0a (S:=fun j=>(Zha l j).st) l.length (by kernel_rfl) (fun j hj=>ZdQ l j hl hj (Zc2 (by omega)).2) (Zom l)
def Zk7(l:List Int)(hl:l.length≤1048576)(h:fstW l<l.length)  := Z0I (S:=fun j=>(Zha l j).st) (fstW l) (by kernel_rfl) (fun j hj=>ZdQ l j hl (by omega) (Zc2 hj).2) (Zit l (fstW l) hl h (Zfx h))
theorem Zpu(l:List Int)(hl:l.length≤1048576):GP 203 [Z01 l,.fn 204 []] true (int (idxW l)) []:=by
 by_cases h:fstW l<l.length
 ·have e7:idxW l=fstW l:=if_pos h;rw[e7];exact gF [] Tryz.func203 [] (Fl 7 wdv l (Fu (@Zk7 l aa aa) Fz))
 ·have e7:idxW l=-1:=if_neg h;rw[e7];exact gF [] Tryz.func203 [] (Fl 7 wdv l (Fu (@Zm8 l aa aa) Fz))
end Go.Proofs.YtdhchmlalchgeaaGreat
