/-
  A step of the symbolic executor is sound; a region in the text's order.
  Conditions: none.
-/
import Derived.Test.YtkeimadhboefbaaSxM
namespace Go.Sx

theorem getD_some {tmps : List AV} {t : Nat} {x : AV} (h : tmps.getD t .any = x) (hx : x ≠ .any) : tmps[t]? = some x := by
  by_cases ht : t < tmps.length
  · simp [List.getD, List.getElem?_eq_getElem ht] at h
    rw [List.getElem?_eq_getElem ht, h]
  · simp [List.getD, List.getElem?_eq_none (Nat.le_of_not_lt ht)] at h
    exact absurd h.symm hx

theorem RelT.at {ρ : Rho} {w : World} {Im : Nat → Prop} {tmps : List AV} {a : Act} (T : RelT ρ w Im tmps a) {t : Nat} {x : AV} (h : tmps[t]? = some x) : ∃ v, a.tmps[t]? = some v ∧ Rel ρ w Im x v := by
  have ht : t < a.tmps.size := by rw [T.size]; exact (List.getElem?_eq_some_iff.1 h).1
  exact ⟨a.tmps[t], Array.getElem?_eq_getElem ht, T.tmp t x _ h (Array.getElem?_eq_getElem ht)⟩

theorem guard_spec {ρ : Rho} {w : World} {Im : Nat → Prop} {tmps : List AV} {a : Act} (T : RelT ρ w Im tmps a) {ops : Array Oper} {o : Oper} {G : Option Bool} (h : guardOf ops tmps o.guard = some G) :
    (G = none ∧ Region.wanted o (yielded ops a.tmps) = true) ∨ ∃ g, G = some g ∧ Region.wanted o (yielded ops a.tmps) = g := by
  unfold guardOf at h
  split at h
  · rename_i hg
    cases h
    exact .inl ⟨rfl, by simp [Region.wanted, hg]⟩
  · rename_i j want hg
    split at h
    rotate_left
    · cases h
    rename_i oj hj
    split at h
    rotate_left
    · cases h
    rename_i t ht
    split at h
    · rename_i b hb
      cases h
      obtain ⟨v, h1, h2⟩ := T.at (getD_some hb (by simp))
      cases rel_sc h2
      refine .inr ⟨_, rfl, ?_⟩
      simp only [Region.wanted, hg, yielded, hj, Option.bind_some, ht, h1]
      cases want <;> cases b <;> rfl
    · rename_i g b hb
      cases h
      obtain ⟨v, h1, h2⟩ := T.at (getD_some hb (by simp))
      refine .inr ⟨_, rfl, ?_⟩
      cases h2 with
      | gd k1 k2 =>
        cases g with
        | true =>
          cases rel_sc (k1 rfl)
          simp only [Region.wanted, hg, yielded, hj, Option.bind_some, ht, h1]
          cases want <;> cases b <;> rfl
        | false =>
          rw [k2 rfl] at h1
          simp only [Region.wanted, hg, yielded, hj, Option.bind_some, ht, h1, undef]
          cases want <;> rfl
    · cases h

section
variable {P : Program} {Ow Im0 : Nat → Prop} {w0 : World} {clk : Nat} {hints : List (Nat × List Hint)} {o : Oper} {tmps : List AV} {H : Heap} {a : Act} {w : World} {out : Out} {next : Act → World → Prop} {Q : Exit → Act → World → Prop}

/-- What a step's proof shows. -/
abbrev StepOk (P : Program) (Ow Im0 : Nat → Prop) (w0 : World) (clk : Nat) (o : Oper) (G : Option Bool) (H : Heap) (tmps : List AV) (out : Out) : Prop :=
  ∀ (a : Act) (w : World) (ρ : Rho) (Im : Nat → Prop) (next : Act → World → Prop) (Q : Exit → Act → World → Prop), Inv Ow Im0 w0 ρ w Im H clk → RelT ρ w Im tmps a → allP out.ph → EqP out.eq →
    (∀ a' w', Sys Ow Im0 w0 out.tmps out.H clk a' w' → next a' w') → ((∀ g, G = some g → g = true) → o.wp P a w next Q) ∧ ((∃ g, G = some g ∧ g = false) → next (a.put o.dst undef) w)

theorem EqP.left {l m : List (AV × AV)} (h : EqP (l ++ m)) : EqP l := fun p hp => h p (List.mem_append.2 (.inl hp))
theorem EqP.right {l m : List (AV × AV)} (h : EqP (l ++ m)) : EqP m := fun p hp => h p (List.mem_append.2 (.inr hp))

theorem mkG_rel {ρ : Rho} {w : World} {Im : Nat → Prop} {G : Option Bool} {x : AV} {v : Value} (hG : ∀ g, G = some g → g = true) (h : Rel ρ w Im x v) : Rel ρ w Im (mkG G x) v := by
  cases G with
  | none => exact h
  | some g => exact .gd (fun _ => h) (fun e => by rw [hG g rfl] at e; cases e)

/-- An operation that is passed over. -/
theorem skip_ok {ρ : Rho} {Im : Nat → Prop} (I : Inv Ow Im0 w0 ρ w Im H clk) (T : RelT ρ w Im tmps a) {G : Option Bool} (hG : ∃ g, G = some g ∧ g = false) (d : Nat) (x : AV) : Sys Ow Im0 w0 (tmps.set d (mkG G x)) H clk (a.put (some d) undef) w := by
  obtain ⟨g, rfl, rfl⟩ := hG
  exact ⟨ρ, Im, I, T.put d (.gd (fun h => by cases h) (fun _ => rfl))⟩

open Classical in
theorem plain_ok {G : Option Bool} {out : Core} (h : plainStep P clk hints o G tmps H = some out) : StepOk P Ow Im0 w0 clk o G H tmps (out.out tmps H) := by
  intro a w ρ Im next Q I T hph heq hn
  unfold plainStep at h
  split at h
  · rename_i d hd
    split at h
    · cases h
    rename_i hH
    split at h
    rotate_left
    · cases h
    rename_i r hr
    -- the operands that count
    let E2 : Operand → AV := fun x => if x ∈ o.op.operands.toList then stripG G (ev tmps) x else .any
    have hcong : act P o (clk * 8000 + d) (look (keyOf o) hints) E2 H = some r := by
      rw [← hr]
      exact act_congr fun x hx => by simp only [E2]; rw [if_pos hx]
    have hs := act_sound hcong
    have key : out = ⟨some (d, mkG G r.val), r.ups, phG G r.ph, pairsG G (ev tmps) o.op.operands.toList⟩ ∧ (G = none ∨ r.up = none) := by
      clear hr hcong hs heq hph hn E2
      cases G with
      | none => injection h with h; exact ⟨h.symm, .inl rfl⟩
      | some g =>
        cases hu : r.up with
        | none => rw [hu] at h; injection h with h; exact ⟨h.symm, .inr rfl⟩
        | some x => rw [hu] at h; cases h
    obtain ⟨rfl, hup⟩ := key
    refine ⟨fun hG => ?_, fun hG => ?_⟩
    · refine (hs Ow Im0 w0 ρ w Im clk a I (by omega) hH (fun x => ?_) (phG_spec hph hG)).wp fun v w' ht => ?_
      · simp only [E2]
        split
        · rename_i hx; exact stripG_rel hx heq hG (ev_rel T x)
        · exact .any _
      · obtain ⟨ρ', I', he, hsub, hv⟩ := ht
        rw [hd]
        exact hn _ _ ⟨ρ', Im, by show Inv _ _ _ _ _ _ (applyU r.ups H) _; rw [Res.applyU]; exact I', (T.mono he (fun _ h => h) hsub I.bnd).put d (mkG_rel hG hv)⟩
    · rw [hd]
      have : r.up = none := by
        rcases hup with h | h
        · obtain ⟨g, hg, _⟩ := hG; rw [h] at hg; cases hg
        · exact h
      have hheap : applyU r.ups H = H := by rw [Res.applyU]; simp [Res.heap, this]
      refine hn _ _ ?_
      show Sys Ow Im0 w0 (tmps.set d (mkG G r.val)) (applyU r.ups H) clk _ _
      rw [hheap]
      exact skip_ok I T hG d r.val
  · rename_i hd
    split at h
    · cases h
    split at h
    · cases h
    rename_i hH
    split at h
    rotate_left
    · cases h
    rename_i r hr
    cases h
    have hs := act_sound hr
    refine ⟨fun _ => ?_, fun hG => by obtain ⟨g, hg, _⟩ := hG; cases hg⟩
    refine (hs Ow Im0 w0 ρ w Im clk a I (by omega) hH (fun x => ev_rel T x) hph).wp fun v w' ht => ?_
    obtain ⟨ρ', I', he, hsub, hv⟩ := ht
    rw [hd]
    exact hn _ _ ⟨ρ', Im, by show Inv _ _ _ _ _ _ (applyU r.ups H) _; rw [Res.applyU]; exact I', (T.mono he (fun _ h => h) hsub I.bnd)⟩

theorem boolR_spec {b : Bool} {hs : List Hint} (h : allP (boolR b hs).ph) (ρ : Rho) (w : World) (Im : Nat → Prop) : Rel ρ w Im (boolR b hs).val (.bool b) := by
  unfold boolR at h ⊢
  split at h
  · rename_i c _
    have : b = c := by simpa [allP] using h
    rw [this]; exact .d (.sc _ rfl)
  · exact .d (.sc _ rfl)

theorem asB_spec {x : AV} {b : Bool} (h : asB x = some b) : x = bv b := by
  unfold asB at h
  split at h
  · cases h; rfl
  · cases h
theorem gdB_spec {x : AV} {g b : Bool} (h : gdB x = some (g, b)) : x = .gd g (bv b) := by
  unfold gdB at h
  split at h
  · cases h; rfl
  · cases h
theorem isTrue_spec {x : Operand} (h : isTrue x = true) : x = .const (.bool true) := by
  unfold isTrue at h
  split at h
  · rw [h]
  · cases h
theorem isFalse_spec {x : Operand} (h : isFalse x = true) : x = .const (.bool false) := by
  unfold isFalse at h
  split at h
  · rename_i b; cases b <;> simp_all
  · cases h

theorem conj_true {G : Option Bool} {b : Bool} (hG : ∀ g, G = some g → g = true) : conj G b = b := by
  cases G with
  | none => rfl
  | some g => rw [conj, hG g rfl, Bool.true_and]

theorem pick_ok {G : Option Bool} {c x y : Operand} {out : Core} (ho : o.op = .pick c x y) (h : pickStep hints o c x y G tmps = some out) : StepOk P Ow Im0 w0 clk o G H tmps (out.out tmps H) := by
  intro a w ρ Im next Q I T hph heq hn
  unfold pickStep at h
  split at h
  · cases h
  rename_i d hd
  split at h
  · cases h
  rename_i gc hgc
  have hgc' := asB_spec hgc
  split at h
  · rename_i hx
    have hxt := isTrue_spec hx
    split at h
    rotate_left
    · cases h
    rename_i g' v hgv
    have hgv' := gdB_spec hgv
    cases h
    refine ⟨fun hG => ?_, fun hG => by rw [hd]; exact hn _ _ (skip_ok I T hG d _)⟩
    have hc := stripG_rel (l := [c]) (x := c) (by simp) heq.left hG (ev_rel T c)
    rw [hgc'] at hc
    have hcv := rel_sc hc
    have hg' : g' = !gc := by
      have := bv_inj (heq.right (bv g', bv (conj G (!gc))) (by simp))
      rw [this, conj_true hG]
    have hy := ev_rel T y
    rw [hgv'] at hy
    have hrun : (execOp a.eval o).run P w = .ok (.value (.bool (gc || v))) w := by
      cases gc with
      | true =>
        have hxv : a.eval x = .bool true := by rw [hxt]; rfl
        simp [execOp, ho, hcv, asBool, hxv]
      | false =>
        cases hy with
        | gd k1 k2 =>
          have := rel_sc (k1 (by rw [hg']; rfl))
          simp [execOp, ho, hcv, asBool, this]
    simp only [Oper.wp, hrun, Oper.upon_value]
    rw [hd]
    exact hn _ _ ⟨ρ, Im, I, T.put d (mkG_rel hG (boolR_spec (phG_spec hph hG) ρ w Im))⟩
  · split at h
    rotate_left
    · cases h
    rename_i hx
    have hxt := isFalse_spec hx
    split at h
    rotate_left
    · cases h
    rename_i g' v hgv
    have hgv' := gdB_spec hgv
    cases h
    refine ⟨fun hG => ?_, fun hG => by rw [hd]; exact hn _ _ (skip_ok I T hG d _)⟩
    have hc := stripG_rel (l := [c]) (x := c) (by simp) heq.left hG (ev_rel T c)
    rw [hgc'] at hc
    have hcv := rel_sc hc
    have hg' : g' = gc := by
      have := bv_inj (heq.right (bv g', bv (conj G gc)) (by simp))
      rw [this, conj_true hG]
    have hy := ev_rel T x
    rw [hgv'] at hy
    have hrun : (execOp a.eval o).run P w = .ok (.value (.bool (gc && v))) w := by
      cases gc with
      | false =>
        have hxv : a.eval y = .bool false := by rw [hxt]; rfl
        simp [execOp, ho, hcv, asBool, hxv]
      | true =>
        cases hy with
        | gd k1 k2 =>
          have := rel_sc (k1 hg')
          simp [execOp, ho, hcv, asBool, this]
    simp only [Oper.wp, hrun, Oper.upon_value]
    rw [hd]
    exact hn _ _ ⟨ρ, Im, I, T.put d (mkG_rel hG (boolR_spec (phG_spec hph hG) ρ w Im))⟩

theorem callFunc_run {f : Nat} (h : callOk P f = true) (args : Array Value) (w : World) : (callFunc f args).run P w = .ok (.enter f args) w := by
  unfold callOk at h
  split at h
  · rename_i fn hf
    simp only [Bool.and_eq_true, Bool.not_eq_true'] at h
    obtain ⟨h1, h2⟩ := h
    have h3 : fn.body.isNone = false := by cases hb : fn.body <;> simp_all
    simp only [callFunc, Sem.run_bind, run_program, Result.andThen_ok, hf, h2, h3, Bool.false_eq_true, if_false, Sem.run_pure]
  · cases h

theorem call_ok {G : Option Bool} {c : Call} {f : Operand} {out : Core} (ho : o.op = .call c) (hc : c.callee = .value f) (h : callStep P clk hints o f c.args.toList G tmps H = some out) : StepOk P Ow Im0 w0 clk o G H tmps (out.out tmps H) := by
  intro a w ρ Im next Q I T hph heq hn
  unfold callStep at h
  split at h
  · cases h
  rename_i d hd
  split at h
  rotate_left
  · cases h
  rename_i k caps hf
  split at h
  rotate_left
  · cases h
  rename_i fr res news _ _
  split at h
  rotate_left
  · cases h
  rename_i as has
  split at h
  rotate_left
  · cases h
  rename_i hok
  simp only [Bool.and_eq_true] at hok
  have key : out = ⟨some (d, mkG G (mapT (renF d clk) res)), newsU d clk 0 news, phG G [GSpec P k as fr res news], pairsG G (ev tmps) (f :: c.args.toList)⟩ ∧ (G = none ∨ news = []) := by
    clear heq hph hn has hf hok
    cases G with
    | none => injection h with h; exact ⟨h.symm, .inl rfl⟩
    | some g =>
      cases news with
      | nil => injection h with h; exact ⟨h.symm, .inr rfl⟩
      | cons x l => cases h
  obtain ⟨rfl, hnews⟩ := key
  refine ⟨fun hG => ?_, fun hG => ?_⟩
  rotate_left
  · rw [hd]
    have : news = [] := by
      rcases hnews with h | h
      · obtain ⟨g, hg, _⟩ := hG; rw [h] at hg; cases hg
      · exact h
    subst this
    exact hn _ _ (skip_ok I T hG d _)
  have hspec : GSpec P k as fr res news := by simpa [allP] using phG_spec hph hG
  -- the callee and its arguments, as values
  have hfv := stripG_rel (l := f :: c.args.toList) (x := f) (by simp) heq hG (ev_rel T f)
  rw [hf] at hfv
  generalize hfe : a.eval f = fv at hfv
  cases hfv with
  | fn hcn hcr =>
    rename_i cs
    have hall : ∀ (i : Nat) (x : AV) (v : Value), ((c.args.toList.map (stripG G (ev tmps))) ++ caps)[i]? = some x → (c.args.map a.eval ++ cs)[i]? = some v → Rel ρ w Im x v := by
      intro i x v hx hv
      rw [List.getElem?_append] at hx
      rw [Array.getElem?_append] at hv
      simp only [List.length_map, Array.length_toList, Array.size_map] at hx hv
      split at hx
      · rename_i hi
        rw [if_pos hi] at hv
        simp only [List.getElem?_map, Option.map_eq_some_iff, Array.getElem?_map] at hx hv
        obtain ⟨y, hy, rfl⟩ := hx
        obtain ⟨y', hy', rfl⟩ := hv
        have : y = y' := by
          rw [Array.getElem?_toList] at hy
          rw [hy] at hy'; cases hy'; rfl
        subst this
        exact stripG_rel (List.mem_cons_of_mem _ (List.mem_of_getElem? hy)) heq hG (ev_rel T y)
      · rename_i hi
        rw [if_neg hi] at hv
        exact hcr _ x v hx hv
    have hsize : (c.args.map a.eval ++ cs).size = ((c.args.toList.map (stripG G (ev tmps))) ++ caps).length := by simp [hcn]
    -- the arguments as data, and the memory that they need
    have hdata : ∃ ImC : Nat → Prop, (∀ g, ImC g → g < w.heap.size) ∧ (fr = false → ∀ g, ImC g → Im g) ∧ as.length = ((c.args.toList.map (stripG G (ev tmps))) ++ caps).length ∧ ∀ (i : Nat) (x : AV) (v : Value), as[i]? = some x → (c.args.map a.eval ++ cs)[i]? = some v → Rel (fun _ => none) w ImC x v := by
      cases fr with
      | true =>
        simp only at has
        obtain ⟨h1, h2⟩ := toDD_get has
        refine ⟨ImAll ρ Im, fun g hg => ?_, fun h => by simp at h, h1, fun i x v hx hv => ?_⟩
        · rcases hg with hg | ⟨b, β, hb, hg⟩
          · exact I.imb g hg
          · exact I.bnd b β g hb hg
        · obtain ⟨y, hy, hd⟩ := h2 i x hx
          exact toD_rel I (hall i y v hy hv) hd
      | false =>
        simp only at has
        split at has
        rotate_left
        · cases has
        rename_i hp
        cases has
        simp only [List.all_eq_true] at hp
        exact ⟨Im, I.imb, fun _ g hg => hg, rfl, fun i x v hx hv => isPure_rel (hall i x v hx hv) (hp x (List.mem_of_getElem? hx))⟩
    obtain ⟨ImC, m1, m2, m3, m4⟩ := hdata
    have hcall := hspec w ImC (c.args.map a.eval ++ cs) m1 (by rw [hsize, m3]) m4
    have hrun : (execOp a.eval o).run P w = .ok (.enter k (c.args.map a.eval ++ cs)) w := by
      have := callFunc_run (P := P) hok.1 (c.args.map a.eval ++ cs) w
      simp [execOp, ho, resolve, hc, hfe, Deferred.ofValue, invoke, this]
    simp only [Oper.wp, hrun, Oper.upon_enter]
    refine hcall.mono fun e w' he => ?_
    obtain ⟨v, rfl, K, ρ', Im', r1, r2, r3, r4, r5, r6, r7⟩ := he
    have him' : ∀ g, Im' g → Im g ∨ w.heap.size ≤ g := fun g hg => (r1 g hg).imp (fun ⟨h1, h2⟩ => m2 h1 g h2) (fun h => h)
    obtain ⟨J, hext⟩ := I.called K Im' him' r2
    have hnm : ∀ (b : Nat) (β : Bi) (g : Nat), ρ' b = some β → β.g = some g → ¬ (Im g ∨ Im' g) := by
      intro b β g hb hg hor
      obtain ⟨q1, q2, q3⟩ := r3 b β g hb hg
      rcases hor with h | h
      · have := I.imb g h; omega
      · exact q3 h
    obtain ⟨ρ2, J2, s1, s2⟩ := adopt_all (ρ' := ρ') (dst := d) news 0 ρ H J hok.2 (fun i B hB => by
        obtain ⟨β, k1, k2⟩ := r6 i B hB
        refine ⟨β, by rw [Nat.zero_add]; exact k1, ?_, fun g hg => ⟨hnm i β g k1 hg, (r3 i β g k1 hg).2.1, ?_⟩⟩
        · have hB' : isArr B = true := by
            have := hok.2
            clear hnews hspec hcall r5 r6 h
            have : ∀ (l : List Blk) (k : Nat) (H : Heap), newsOk d clk k l H = true → ∀ B ∈ l, isArr B = true := by
              intro l
              induction l with
              | nil => intro k H _ B hB; simp at hB
              | cons x l ih =>
                intro k H h B hB
                simp only [newsOk, Bool.and_eq_true] at h
                rcases List.mem_cons.1 hB with e | e
                · rw [e]; exact h.1.1
                · exact ih _ _ h.2 B e
            exact this news 0 H hok.2 B (List.mem_of_getElem? hB)
          exact k2.arr_any hB' (fun g hg => .inr hg)
        · have := (r3 i β g k1 hg).1; have := I.kept.size; omega) r4 (fun i hi β g hb hg b κ hκ hκg => by
        have := (r3 _ β g hb hg).1
        have := I.bnd b κ g hκ hκg
        omega)
    rw [hd]
    refine hn _ _ ⟨ρ2, fun g => Im g ∨ Im' g, by show Inv _ _ _ _ _ _ (applyU (newsU d clk 0 news) H) _; rw [newsU_apply]; exact J2, (T.mono hext (fun _ h => .inl h) s1 I.bnd).put d (mkG_rel hG ?_)⟩
    have ren : ∀ k β, ρ' k = some β → ρ2 (nid d clk k) = some β := by
      intro k β hk
      have := s2 k β (r5 k β hk) (by rw [Nat.zero_add]; exact hk)
      rwa [Nat.zero_add] at this
    refine mapT_rel (ρ := ρ') (fun g hg => .inr hg) ?_ ?_ ?_ r7
    · intro b i oo v h
      obtain ⟨g, s, n, h1, rfl⟩ := rel_ptr h
      exact .pt (ren _ _ h1)
    · intro b oo n v h
      cases h with
      | os h1 h2 h3 h4 h5 => exact .os (ren _ _ h1) h2 h3 h4 h5
    · intro b v h
      cases h with
      | ow h1 h2 h3 h4 => exact .ow (ren _ _ h1) h2 h3 h4

theorem append_ok {c : Call} {out : Core} (ho : o.op = .call c) (hc : c.callee = .builtin .append) (h : appendStep P clk hints o c tmps H = some out) : StepOk P Ow Im0 w0 clk o none H tmps (out.out tmps H) := by
  intro a w ρ Im next Q I T hph heq hn
  unfold appendStep at h
  split at h
  · cases h
  rename_i d hd
  split at h
  rotate_left
  · cases h
  rename_i x y t t' h1 h2
  split at h
  · cases h
  rename_i hH
  split at h
  rotate_left
  · cases h
  rename_i b r hr
  cases h
  refine ⟨fun _ => ?_, fun hG => by obtain ⟨g, hg, _⟩ := hG; cases hg⟩
  have hop : o.op = .call ⟨.builtin .append, #[x, y], #[t, t']⟩ := by rw [ho, call_eq hc h1 h2]
  obtain ⟨v, w', ρ', k1, k2, k3, k4⟩ := append_run hop hr I T (by omega) hH (ev_rel T x) (ev_rel T y) hph
  simp only [Oper.wp, k1, Oper.upon_value]
  rw [hd]
  exact hn _ _ ⟨ρ', Im, by show Inv _ _ _ _ _ _ (applyU r.ups (updH H b .dead)) _; rw [Res.applyU]; exact k2, k3.put d k4⟩

theorem opStep_ok {ops : Array Oper} (h : opStep P clk ops hints o tmps H = some out) (hS : Sys Ow Im0 w0 tmps H clk a w) (hph : allP out.ph) (heq : EqP out.eq) (hn : ∀ a' w', Sys Ow Im0 w0 out.tmps out.H clk a' w' → next a' w') :
    (Region.wanted o (yielded ops a.tmps) = true → o.wp P a w next Q) ∧ (Region.wanted o (yielded ops a.tmps) = false → next (a.put o.dst undef) w) := by
  obtain ⟨ρ, Im, I, T⟩ := hS
  unfold opStep at h
  split at h
  rotate_left
  · cases h
  rename_i c h'
  cases h
  unfold coreStep at h'
  split at h'
  · cases h'
  rename_i G hG
  have hok : StepOk P Ow Im0 w0 clk o G H tmps (c.out tmps H) := by
    revert h'
    intro h
    split at h
    · exact pick_ok ‹_› h
    · rename_i c hop
      split at h
      · exact call_ok hop ‹_› h
      · split at h
        · exact append_ok hop ‹_› h
        · cases h
      · exact plain_ok h
    · exact plain_ok h
  obtain ⟨k1, k2⟩ := hok a w ρ Im next Q I T hph heq hn
  rcases guard_spec T hG with ⟨rfl, hw⟩ | ⟨g, rfl, hw⟩
  · exact ⟨fun _ => k1 (fun g hg => by cases hg), fun h => by rw [hw] at h; cases h⟩
  · exact ⟨fun h => k1 (fun g' hg' => by cases hg'; rw [← hw]; exact h), fun h => k2 ⟨g, rfl, by rw [← hw]; exact h⟩⟩
end

end Go.Sx
