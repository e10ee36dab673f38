/-
  The orders that a region may draw; the symbolic run of such a region.
  Conditions: none.
-/
import Derived.Test.YtkeimadhboefbaaSxS
namespace Go.Sx
open Go.Region

/-! Which steps stand before which -/
def edgeBits (acc : List Nat) : List Edge → Nat
  | [] => 0
  | e :: l => if binds .any e then edgeBits acc l ||| 2 ^ e.on ||| acc.getD e.on 0 else edgeBits acc l
theorem edgeBits_spec {acc : List Nat} {y : Nat} : ∀ {l : List Edge}, (edgeBits acc l).testBit y = true → ∃ e ∈ l, binds .any e = true ∧ (e.on = y ∨ (acc.getD e.on 0).testBit y = true)
  | [], h => by simp [edgeBits] at h
  | e :: l, h => by
    simp only [edgeBits] at h
    split at h
    · rename_i hb
      rw [Nat.testBit_or, Nat.testBit_or, Bool.or_eq_true, Bool.or_eq_true] at h
      rcases h with (h | h) | h
      · obtain ⟨e', h1, h2⟩ := edgeBits_spec h
        exact ⟨e', by simp [h1], h2⟩
      · rw [Nat.testBit_two_pow] at h
        exact ⟨e, by simp, hb, .inl (by simpa using h)⟩
      · exact ⟨e, by simp, hb, .inr h⟩
    · obtain ⟨e', h1, h2⟩ := edgeBits_spec h
      exact ⟨e', by simp [h1], h2⟩

def bitsL : List Oper → List Nat → List Nat
  | [], acc => acc
  | o :: l, acc => bitsL l (acc ++ [edgeBits acc o.after.toList])
theorem bitsL_prefix : ∀ {l : List Oper} {acc : List Nat} {k : Nat}, k < acc.length → (bitsL l acc).getD k 0 = acc.getD k 0
  | [], acc, k, h => rfl
  | o :: l, acc, k, h => by
    simp only [bitsL]
    rw [bitsL_prefix (by simp; omega)]
    simp [List.getD, List.getElem?_append_left h]
theorem bitsL_spec : ∀ {l : List Oper} {acc : List Nat} {i y : Nat}, acc.length ≤ i → ((bitsL l acc).getD i 0).testBit y = true → ∃ o, l[i - acc.length]? = some o ∧ ∃ e ∈ o.after.toList, binds .any e = true ∧ (e.on = y ∨ ((bitsL l acc).getD e.on 0).testBit y = true)
  | [], acc, i, y, hi, h => by
    simp only [bitsL] at h
    rw [show acc.getD i 0 = 0 from by simp [List.getD, List.getElem?_eq_none hi]] at h
    simp at h
  | o :: l, acc, i, y, hi, h => by
    simp only [bitsL] at h ⊢
    by_cases he : i = acc.length
    · subst he
      rw [bitsL_prefix (by simp)] at h
      rw [show (acc ++ [edgeBits acc o.after.toList]).getD acc.length 0 = edgeBits acc o.after.toList from by simp [List.getD]] at h
      obtain ⟨e, h1, h2, h3⟩ := edgeBits_spec h
      refine ⟨o, by simp, e, h1, h2, h3.imp (fun h => h) fun h => ?_⟩
      by_cases hlt : e.on < acc.length
      · rw [bitsL_prefix (by simp; omega)]
        rw [show (acc ++ [edgeBits acc o.after.toList]).getD e.on 0 = acc.getD e.on 0 from by simp [List.getD, List.getElem?_append_left hlt]]
        exact h
      · rw [show acc.getD e.on 0 = 0 from by simp [List.getD, List.getElem?_eq_none (Nat.le_of_not_lt hlt)]] at h
        simp at h
    · obtain ⟨o', h1, h2⟩ := bitsL_spec (l := l) (acc := acc ++ [edgeBits acc o.after.toList]) (i := i) (y := y) (by simp; omega) h
      refine ⟨o', ?_, h2⟩
      simp only [List.length_append, List.length_cons, List.length_nil] at h1
      rw [show i - acc.length = (i - (acc.length + (0 + 1))) + 1 from by omega]
      simpa using h1

def bitsOf (ops : Array Oper) : List Nat := bitsL ops.toList []
def ordered (bt : List Nat) (y x : Nat) : Bool := (bt.getD x 0).testBit y
theorem ordered_spec {ops : Array Oper} {i y : Nat} (h : ordered (bitsOf ops) y i = true) : ∃ o, ops[i]? = some o ∧ ∃ e ∈ o.after.toList, binds .any e = true ∧ (e.on = y ∨ ordered (bitsOf ops) y e.on = true) := by
  obtain ⟨o, h1, h2⟩ := bitsL_spec (l := ops.toList) (acc := []) (by simp) h
  exact ⟨o, by simpa using h1, h2⟩

/-- Every edge that binds leads back. -/
def backOk (n : Nat) : List Oper → Bool
  | [] => true
  | o :: l => o.after.toList.all (fun e => !(binds .any e) || decide (e.on < n)) && backOk (n + 1) l
theorem backOk_spec : ∀ {l : List Oper} {n : Nat}, backOk n l = true → ∀ (i : Nat) (o : Oper), l[i]? = some o → ∀ e ∈ o.after.toList, binds .any e = true → e.on < n + i
  | [], n, _, i, o, h => by simp at h
  | o0 :: l, n, h, i, o, hi => by
    simp only [backOk, Bool.and_eq_true, List.all_eq_true] at h
    intro e he hb
    cases i with
    | zero =>
      simp at hi; subst hi
      have := h.1 e he
      simpa [hb] using this
    | succ i =>
      have := backOk_spec h.2 i o (by simpa using hi) e he hb
      omega

section
variable {clk : Nat} {ops : Array Oper}

/-- Of two steps in the text's order: they are bound, or they may change places. -/
def PairsOk (clk : Nat) (ops : Array Oper) : List Rec → Prop
  | [] => True
  | y :: l => (∀ x ∈ l, ordered (bitsOf ops) y.i x.i = true ∨ Apart clk ops y x) ∧ PairsOk clk ops l

theorem PairsOk.mid : ∀ {r1 : List Rec} {x : Rec} {r2 : List Rec}, PairsOk clk ops (r1 ++ x :: r2) → ∀ y ∈ r1, ordered (bitsOf ops) y.i x.i = true ∨ Apart clk ops y x
  | [], _, _, _, y, hy => by simp at hy
  | z :: r1, x, r2, h, y, hy => by
    rcases List.mem_cons.1 hy with e | e
    · rw [e]; exact h.1 x (by simp)
    · exact PairsOk.mid h.2 y e
theorem PairsOk.drop : ∀ {r1 : List Rec} {x : Rec} {r2 : List Rec}, PairsOk clk ops (r1 ++ x :: r2) → PairsOk clk ops (r1 ++ r2)
  | [], _, _, h => h.2
  | z :: r1, x, r2, h => ⟨fun y hy => h.1 y (by
      rcases List.mem_append.1 hy with h | h
      · exact List.mem_append.2 (.inl h)
      · exact List.mem_append.2 (.inr (List.mem_cons_of_mem _ h))), PairsOk.drop h.2⟩

theorem nodup_mid {a : Nat} : ∀ {l1 l2 : List Nat}, (l1 ++ a :: l2).Nodup → a ∉ l1 ++ l2 ∧ (l1 ++ l2).Nodup := by
  intro l1 l2 h
  have := (List.perm_middle (a := a) (l₁ := l1) (l₂ := l2)).nodup_iff.1 h
  exact List.nodup_cons.1 this

theorem least0 {p : Nat → Prop} : (∃ n, p n) → ∃ n, p n ∧ ∀ m, p m → n ≤ m := by
  intro ⟨n, hn⟩
  induction n using Nat.strongRecOn with
  | ind n ih =>
    by_cases h : ∃ m, m < n ∧ p m
    · obtain ⟨m, h1, h2⟩ := h
      exact ih m h1 h2
    · refine ⟨n, hn, fun m hm => ?_⟩
      by_cases hlt : m < n
      · exact absurd ⟨m, hlt, hm⟩ h
      · omega

theorem go_sched (hback : backOk 0 ops.toList = true) : ∀ (fuel t : Nat) (listed : Array Bool) (acc : List Nat) (recs : List Rec), recs.length = fuel → listed.size = ops.size →
    (∀ i, i < ops.size → (listed.getD i true = false ↔ i ∈ recs.map (·.i))) → (∀ r ∈ recs, r.i < ops.size) → (recs.map (·.i)).Nodup → PairsOk clk ops recs →
    (∀ j, j < ops.size → listed.getD j true = true → ∀ y, ordered (bitsOf ops) y j = true → y ∉ recs.map (·.i)) →
    ∃ l, linearise.go .any ops fuel t listed acc = acc.reverse ++ l ∧ Sched clk ops l recs := by
  intro fuel
  induction fuel with
  | zero =>
    intro t listed acc recs hn _ _ _ _ _ _
    have : recs = [] := List.length_eq_zero_iff.1 hn
    subst this
    exact ⟨[], by simp [linearise.go], .nil⟩
  | succ fuel ih =>
    intro t listed acc recs hn hls hl hlt hnd hp hclos
    simp only [linearise.go]
    generalize hrs : (List.range ops.size).filter (fun i => !listed.getD i true && ((ops[i]?).map (·.after.all fun e => !binds .any e || listed.getD e.on false)).getD false) = rs
    -- there is one that may come next
    have hne : rs ≠ [] := by
      have hpos : recs.map (·.i) ≠ [] := by
        intro h
        have h2 : recs = [] := by simpa using h
        rw [h2] at hn
        simp at hn
      obtain ⟨m, hm1, hm2⟩ := least0 (p := fun i => i ∈ recs.map (·.i)) (List.exists_mem_of_ne_nil _ hpos)
      have hmlt : m < ops.size := by obtain ⟨r, hr, rfl⟩ := List.mem_map.1 hm1; exact hlt r hr
      intro hempty
      have : m ∈ rs := by
        rw [← hrs, List.mem_filter]
        refine ⟨List.mem_range.2 hmlt, ?_⟩
        have h1 := (hl m hmlt).2 hm1
        rw [h1, Array.getElem?_eq_getElem hmlt]
        simp only [Bool.not_false, Bool.true_and, Option.map_some, Option.getD_some]
        rw [Array.all_eq_true_iff_forall_mem]
        intro e he
        cases hb : binds .any e with
        | false => rfl
        | true =>
          simp only [Bool.not_true, Bool.false_or]
          have hon := backOk_spec hback m ops[m] (by simp [hmlt]) e (by simpa using he) hb
          have honlt : e.on < ops.size := by omega
          have hnot : e.on ∉ recs.map (·.i) := fun h => by have := hm2 e.on h; omega
          have : ¬ listed.getD e.on true = false := fun h => hnot ((hl e.on honlt).1 h)
          have hs : e.on < listed.size := by omega
          simp only [Array.getD, hs, dite_true] at this ⊢
          simpa using this
      rw [hempty] at this; simp at this
    have hidx : t % rs.length < rs.length := Nat.mod_lt _ (List.length_pos_iff.2 hne)
    rw [List.getElem?_eq_getElem hidx]
    simp only
    generalize hi : rs[t % rs.length] = i
    have hirs : i ∈ rs := by rw [← hi]; exact List.getElem_mem hidx
    rw [← hrs, List.mem_filter] at hirs
    obtain ⟨hir, hic⟩ := hirs
    have hilt := List.mem_range.1 hir
    simp only [Bool.and_eq_true, Bool.not_eq_true'] at hic
    obtain ⟨hi1, hi2⟩ := hic
    have himem := (hl i hilt).1 hi1
    obtain ⟨x, hx, hxi⟩ := List.mem_map.1 himem
    obtain ⟨r1, r2, rfl⟩ := List.append_of_mem hx
    rw [Array.getElem?_eq_getElem hilt] at hi2
    simp only [Option.map_some, Option.getD_some] at hi2
    rw [Array.all_eq_true_iff_forall_mem] at hi2
    -- nothing that is left stands before it
    have hfree : ∀ y, ordered (bitsOf ops) y i = true → y ∉ (r1 ++ x :: r2).map (·.i) := by
      intro y hy
      obtain ⟨o, ho, e, he, hb, hor⟩ := ordered_spec hy
      rw [Array.getElem?_eq_getElem hilt] at ho
      cases ho
      have hel := hi2 e (by simpa using he)
      rw [hb] at hel
      simp only [Bool.not_true, Bool.false_or] at hel
      have honlt : e.on < ops.size := by
        have := backOk_spec hback i ops[i] (by simp [hilt]) e he hb
        omega
      have hlisted : listed.getD e.on true = true := by
        have hs : e.on < listed.size := by omega
        simp only [Array.getD, hs, dite_true] at hel ⊢
        exact hel
      rcases hor with rfl | hor
      · intro h
        rw [(hl e.on honlt).2 h] at hlisted
        cases hlisted
      · exact hclos e.on honlt hlisted y hor
    have hapart : ∀ y ∈ r1, Apart clk ops y x := by
      intro y hy
      rcases hp.mid y hy with h | h
      · exfalso
        rw [hxi] at h
        exact hfree y.i h (List.mem_map.2 ⟨y, by simp [hy], rfl⟩)
      · exact h
    have hndm : i ∉ (r1 ++ r2).map (·.i) := by
      rw [← hxi]
      simp only [List.map_append, List.map_cons] at hnd ⊢
      exact (nodup_mid hnd).1
    have hnd2 : ((r1 ++ r2).map (·.i)).Nodup := by
      simp only [List.map_append, List.map_cons] at hnd ⊢
      exact (nodup_mid hnd).2
    have hls2 : (listed.setIfInBounds i true).size = ops.size := by simp [hls]
    have hget : ∀ j d, (listed.setIfInBounds i true).getD j d = if j = i then (if i < listed.size then true else d) else listed.getD j d := by
      intro j d
      simp only [Array.getD_eq_getD_getElem?, Array.getElem?_setIfInBounds]
      by_cases hji : i = j
      · subst hji
        simp only [if_true]
        split <;> rfl
      · simp only [hji, if_false]
        rw [if_neg (fun h => hji h.symm)]
    obtain ⟨l, h1, h2⟩ := ih (t / rs.length) (listed.setIfInBounds i true) (i :: acc) (r1 ++ r2) (by simp at hn ⊢; omega) hls2 (fun j hj => by
        rw [hget]
        by_cases hji : j = i
        · subst hji
          simp only [if_true, hls, hj]
          exact ⟨(fun h => nomatch h), fun h => absurd h hndm⟩
        · simp only [hji, if_false]
          rw [hl j hj]
          simp only [List.map_append, List.map_cons, List.mem_append, List.mem_cons, hxi, hji, false_or]) (fun r hr => hlt r (by
        rcases List.mem_append.1 hr with h | h
        · simp [h]
        · simp [h])) hnd2 hp.drop (fun j hj hjl y hy => by
        have hsub : y ∉ (r1 ++ x :: r2).map (·.i) → y ∉ (r1 ++ r2).map (·.i) := fun h h' => h (by
          simp only [List.map_append, List.map_cons, List.mem_append, List.mem_cons] at h' ⊢
          rcases h' with h' | h'
          · exact .inl h'
          · exact .inr (.inr h'))
        rw [hget] at hjl
        by_cases hji : j = i
        · subst hji; exact hsub (hfree y hy)
        · simp only [hji, if_false] at hjl
          exact hsub (hclos j hj hjl y hy))
    refine ⟨i :: l, ?_, .cons hxi hapart h2⟩
    rw [h1]
    simp
end

end Go.Sx
