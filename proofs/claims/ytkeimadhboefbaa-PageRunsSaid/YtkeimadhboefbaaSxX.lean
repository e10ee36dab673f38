/-
  Blocks renamed at the end of a stretch.
  Conditions: none.
-/
import Derived.Test.YtkeimadhboefbaaSxV
namespace Go.Sx

def renF1 (a b : Nat) : AV → AV
  | .pt k i o => match Nat.beq k a with
    | true => .pt b i o
    | false => match Nat.beq k b with | true => .any | false => .pt k i o
  | .os k o n => match Nat.beq k a with
    | true => .os b o n
    | false => match Nat.beq k b with | true => .any | false => .os k o n
  | .ow k => match Nat.beq k a with
    | true => .ow b
    | false => match Nat.beq k b with | true => .any | false => .ow k
  | x => x
def renB (a b : Nat) : Blk → Blk
  | .box ty cells => .box ty (cells.map (mapA (renF1 a b)))
  | .arr ty s els => .arr ty s els
  | .dead => .dead
def renH (a b : Nat) (H : Heap) : Heap := fun k => match Nat.beq k b with
  | true => match H a with | some B => some (renB a b B) | none => none
  | false => match Nat.beq k a with
    | true => none
    | false => match H k with | some B => some (renB a b B) | none => none
/-- Block a is called b from here on; what b was is forgotten. -/
def ren1 (a b : Nat) (s : St) : Option St := match Nat.beq a b with
  | true => none
  | false => match s.H a with
    | none => none
    | some _ => some ⟨s.tmps.map (mapT (renF1 a b)), renH a b s.H, s.clk⟩
def renS : List (Nat × Nat) → St → Option St
  | [], s => some s
  | (a, b) :: l, s => match ren1 a b s with
    | some s' => renS l s'
    | none => none

def renR (a b : Nat) (ρ : Rho) : Rho := fun k => if k = b then ρ a else if k = a then none else ρ k

section
variable {ρ : Rho} {w : World} {Im : Nat → Prop} {a b : Nat}
theorem renF1_ow {k : Nat} {v : Value} (h : Rel ρ w Im (.ow k) v) : Rel (renR a b ρ) w Im (renF1 a b (.ow k)) v := by
  simp only [renF1]
  cases h1 : Nat.beq k a with
  | true =>
    have e := Nat.eq_of_beq_eq_true h1
    subst e
    cases h with
    | ow hr hc hb ha => exact .ow (by simp only [renR, if_true]; exact hr) hc hb ha
  | false =>
    have e1 := Nat.ne_of_beq_eq_false h1
    cases h2 : Nat.beq k b with
    | true => exact .any _
    | false =>
      have e2 := Nat.ne_of_beq_eq_false h2
      cases h with
      | ow hr hc hb ha => exact .ow (by simp only [renR, if_neg e1, if_neg e2]; exact hr) hc hb ha
theorem renF1_os {k o n : Nat} {v : Value} (h : Rel ρ w Im (.os k o n) v) : Rel (renR a b ρ) w Im (renF1 a b (.os k o n)) v := by
  simp only [renF1]
  cases h1 : Nat.beq k a with
  | true =>
    have e := Nat.eq_of_beq_eq_true h1
    subst e
    cases h with
    | os hr hn hc hb ha => exact .os (by simp only [renR, if_true]; exact hr) hn hc hb ha
  | false =>
    have e1 := Nat.ne_of_beq_eq_false h1
    cases h2 : Nat.beq k b with
    | true => exact .any _
    | false =>
      have e2 := Nat.ne_of_beq_eq_false h2
      cases h with
      | os hr hn hc hb ha => exact .os (by simp only [renR, if_neg e1, if_neg e2]; exact hr) hn hc hb ha
theorem renF1_pt {k i o : Nat} {v : Value} (h : Rel ρ w Im (.pt k i o) v) : Rel (renR a b ρ) w Im (renF1 a b (.pt k i o)) v := by
  simp only [renF1]
  obtain ⟨g, s, n, hr, rfl⟩ := rel_ptr h
  cases h1 : Nat.beq k a with
  | true =>
    have e := Nat.eq_of_beq_eq_true h1
    subst e
    exact .pt (by simp only [renR, if_true]; exact hr)
  | false =>
    have e1 := Nat.ne_of_beq_eq_false h1
    cases h2 : Nat.beq k b with
    | true => exact .any _
    | false =>
      have e2 := Nat.ne_of_beq_eq_false h2
      exact .pt (by simp only [renR, if_neg e1, if_neg e2]; exact hr)
theorem ren_mapA {x : AV} {v : Value} (h : Rel ρ w Im x v) : Rel (renR a b ρ) w Im (mapA (renF1 a b) x) v :=
  mapA_rel (fun _ h => h) (fun _ _ _ _ h => renF1_pt h) (fun _ _ _ _ h => renF1_os h) (fun _ _ h => renF1_ow h) h
theorem ren_mapT {x : AV} {v : Value} (h : Rel ρ w Im x v) : Rel (renR a b ρ) w Im (mapT (renF1 a b) x) v :=
  mapT_rel (fun _ h => h) (fun _ _ _ _ h => renF1_pt h) (fun _ _ _ _ h => renF1_os h) (fun _ _ h => renF1_ow h) h
theorem renB_rel {β : Bi} {B : Blk} (h : RelB ρ w Im β B) : RelB (renR a b ρ) w Im β (renB a b B) := by
  cases B with
  | box ty cells =>
    obtain ⟨h0, h00, g, cs, h1, h2, h3, h3', h4⟩ := h
    refine ⟨by simpa using h0, h00, g, cs, h1, h2, by simpa using h3, h3', fun o x v hx hv => ?_⟩
    simp only [List.getElem?_map, Option.map_eq_some_iff] at hx
    obtain ⟨y, hy, rfl⟩ := hx
    exact ren_mapA (h4 o y v hy hv)
  | arr ty s els => exact h
  | dead => trivial

theorem renB_dead {B : Blk} (h : renB a b B ≠ .dead) : B ≠ .dead := by
  rintro rfl
  exact h rfl

theorem ren1_ok {s s' : St} (h : ren1 a b s = some s') {Ow Im0 : Nat → Prop} {w0 : World} {x : Act} {w : World} (hS : Sys Ow Im0 w0 s.tmps s.H s.clk x w) : Sys Ow Im0 w0 s'.tmps s'.H s'.clk x w := by
  unfold ren1 at h
  split at h
  · cases h
  rename_i hab
  have hne := Nat.ne_of_beq_eq_false hab
  split at h
  · cases h
  rename_i B0 hB0
  cases h
  obtain ⟨ρ, Im, I, T⟩ := hS
  have hH : ∀ k B, renH a b s.H k = some B → (k = b ∧ ∃ B', s.H a = some B' ∧ B = renB a b B') ∨ (k ≠ b ∧ k ≠ a ∧ ∃ B', s.H k = some B' ∧ B = renB a b B') := by
    intro k B hk
    simp only [renH] at hk
    cases h1 : Nat.beq k b with
    | true =>
      rw [h1, hB0] at hk
      simp only [Option.some.injEq] at hk
      exact .inl ⟨Nat.eq_of_beq_eq_true h1, B0, hB0, hk.symm⟩
    | false =>
      rw [h1] at hk
      cases h2 : Nat.beq k a with
      | true => rw [h2] at hk; simp at hk
      | false =>
        rw [h2] at hk
        cases h3 : s.H k with
        | none => rw [h3] at hk; simp at hk
        | some B' =>
          rw [h3] at hk
          simp only [Option.some.injEq] at hk
          exact .inr ⟨Nat.ne_of_beq_eq_false h1, Nat.ne_of_beq_eq_false h2, B', rfl, hk.symm⟩
  -- the name that a block had
  have hρ : ∀ k β, renR a b ρ k = some β → (k = b ∧ ρ a = some β) ∨ (k ≠ b ∧ k ≠ a ∧ ρ k = some β) := by
    intro k β hk
    simp only [renR] at hk
    split at hk
    · rename_i e; exact .inl ⟨e, hk⟩
    · rename_i e
      split at hk
      · cases hk
      · rename_i e2; exact .inr ⟨e, e2, hk⟩
  have hlive : ∀ k, live (renH a b s.H) k → (k = b ∧ live s.H a) ∨ (k ≠ b ∧ k ≠ a ∧ live s.H k) := by
    rintro k ⟨B, h1, h2⟩
    rcases hH k B h1 with ⟨e, B', h3, rfl⟩ | ⟨e1, e2, B', h3, rfl⟩
    · exact .inl ⟨e, B', h3, renB_dead h2⟩
    · exact .inr ⟨e1, e2, B', h3, renB_dead h2⟩
  refine ⟨renR a b ρ, Im, ⟨I.kept, fun k k' β β' g l1 l2 q1 q2 q3 q4 => ?_, fun k β g l q => ?_, fun k β g q => ?_, fun k β g q => ?_, I.imb, I.im0, fun k B q => ?_, fun k hk q => ?_⟩, ⟨by rw [T.size]; simp, fun i y v hy hv => ?_, T.defers⟩⟩
  · rcases hρ k β q1 with ⟨e1, r1⟩ | ⟨e1, f1, r1⟩ <;> rcases hρ k' β' q2 with ⟨e2, r2⟩ | ⟨e2, f2, r2⟩
    · rw [e1, e2]
    · rcases hlive k l1 with ⟨_, m1⟩ | ⟨m, _⟩
      · rcases hlive k' l2 with ⟨m, _⟩ | ⟨_, _, m2⟩
        · exact absurd m e2
        · exact absurd (I.inj a k' β β' g m1 m2 r1 r2 q3 q4).symm f2
      · exact absurd e1 m
    · rcases hlive k l1 with ⟨m, _⟩ | ⟨_, _, m1⟩
      · exact absurd m e1
      · rcases hlive k' l2 with ⟨_, m2⟩ | ⟨m, _⟩
        · exact absurd (I.inj k a β β' g m1 m2 r1 r2 q3 q4) f1
        · exact absurd e2 m
    · rcases hlive k l1 with ⟨m, _⟩ | ⟨_, _, m1⟩
      · exact absurd m e1
      · rcases hlive k' l2 with ⟨m, _⟩ | ⟨_, _, m2⟩
        · exact absurd m e2
        · exact I.inj k k' β β' g m1 m2 r1 r2 q3 q4
  · rcases hρ k β q with ⟨e1, r1⟩ | ⟨e1, f1, r1⟩
    · rcases hlive k l with ⟨_, m1⟩ | ⟨m, _⟩
      · exact I.notIm a β g m1 r1
      · exact absurd e1 m
    · rcases hlive k l with ⟨m, _⟩ | ⟨_, _, m1⟩
      · exact absurd m e1
      · exact I.notIm k β g m1 r1
  · rcases hρ k β q with ⟨_, r1⟩ | ⟨_, _, r1⟩
    · exact I.bnd a β g r1
    · exact I.bnd k β g r1
  · rcases hρ k β q with ⟨_, r1⟩ | ⟨_, _, r1⟩
    · exact I.own a β g r1
    · exact I.own k β g r1
  · rcases hH k B q with ⟨rfl, B', h3, rfl⟩ | ⟨e1, e2, B', h3, rfl⟩
    · obtain ⟨β, h4, h5⟩ := I.blk a B' h3
      exact ⟨β, by simp only [renR, if_true]; exact h4, renB_rel h5⟩
    · obtain ⟨β, h4, h5⟩ := I.blk k B' h3
      exact ⟨β, by simp only [renR, if_neg e1, if_neg e2]; exact h4, renB_rel h5⟩
  · simp only [renH] at q
    simp only [renR]
    cases h1 : Nat.beq k b with
    | true => rw [h1, hB0] at q; simp at q
    | false =>
      rw [h1] at q
      rw [if_neg (Nat.ne_of_beq_eq_false h1)]
      cases h2 : Nat.beq k a with
      | true => rw [if_pos (Nat.eq_of_beq_eq_true h2)]
      | false =>
        rw [if_neg (Nat.ne_of_beq_eq_false h2)]
        rw [h2] at q
        cases h3 : s.H k with
        | none => exact I.fresh k hk h3
        | some B' => rw [h3] at q; simp at q
  · simp only [List.getElem?_map, Option.map_eq_some_iff] at hy
    obtain ⟨z, hz, rfl⟩ := hy
    exact ren_mapT (T.tmp i z v hz hv)
end

theorem renS_ok : ∀ {l : List (Nat × Nat)} {s s' : St}, renS l s = some s' → ∀ {Ow Im0 : Nat → Prop} {w0 : World} {x : Act} {w : World}, Sys Ow Im0 w0 s.tmps s.H s.clk x w → Sys Ow Im0 w0 s'.tmps s'.H s'.clk x w
  | [], s, s', h, _, _, _, _, _, hS => by
    simp only [renS, Option.some.injEq] at h
    subst h; exact hS
  | (a, b) :: l, s, s', h, _, _, _, _, _, hS => by
    simp only [renS] at h
    split at h
    · rename_i s1 h1
      exact renS_ok h (ren1_ok h1 hS)
    · cases h

def runToR (P : Program) (hints : List (Nat × List Hint)) (cuts : List (Nat × Tg × Ex × Tg)) (ren : List (Nat × Nat)) (c : Code) (s : St) (t : Tg) : Option Run :=
  match runC P hints cuts c s with
  | none => none
  | some r => match renS ren r.s with
    | none => none
    | some s' => match wk s' t with
      | some l => some ⟨r.e, s', r.ph, r.eq ++ l⟩
      | none => none
theorem stretchR {P : Program} (hints : List (Nat × List Hint)) (cuts : List (Nat × Tg × Ex × Tg)) (ren : List (Nat × Nat)) {c : Code} {s : St} {e : Ex} {t : Tg} {φ : Prop} (hφ : φ)
    (h1 : oblO (runToR P hints cuts ren c s t) = φ) (h2 : lefO (runToR P hints cuts ren c s t) = rigO (runToR P hints cuts ren c s t)) (h3 : exO (runToR P hints cuts ren c s t) = some e) : CSpec P c s e t.st := by
  rw [← h1] at hφ
  cases hr : runToR P hints cuts ren c s t with
  | none => rw [hr] at hφ; exact hφ.elim
  | some r =>
    rw [hr] at hφ h2 h3
    have heq : EqP r.eq := eqP_of h2
    have he : r.e = e := by simpa [exO] using h3
    unfold runToR at hr
    split at hr
    · cases hr
    rename_i q hq
    split at hr
    · cases hr
    rename_i s' hs'
    split at hr
    rotate_left
    · cases hr
    rename_i l hl
    cases hr
    intro Ow Im0 w0 a w hS
    refine wp_mono (runC_ok hq hφ heq.left Ow Im0 w0 a w hS) ?_
    rintro e' a' w' ⟨rfl, hS'⟩
    exact ⟨by rw [← he], wk_ok hl heq.right (renS_ok hs' hS')⟩

end Go.Sx
