/-
  A region that draws its order: whatever the order, what the text's order gives.
  Conditions: none.
-/
import Derived.Test.YtkeimadhboefbaaSxR
namespace Go.Sx

theorem applyU_get {us : List (Nat × Blk)} {H : Heap} {b : Nat} (h : b ∉ us.map (·.1)) : applyU us H b = H b := by
  induction us generalizing H with
  | nil => rfl
  | cons u us ih =>
    obtain ⟨k, B⟩ := u
    simp only [List.map_cons, List.mem_cons, not_or] at h
    simp only [applyU]
    rw [ih h.2]
    unfold updH
    rw [if_neg h.1]

theorem applyU_congr {us : List (Nat × Blk)} {H H' : Heap} {b : Nat} (h : b ∈ us.map (·.1) ∨ H b = H' b) : applyU us H b = applyU us H' b := by
  induction us generalizing H H' with
  | nil =>
    rcases h with h | h
    · simp at h
    · exact h
  | cons u us ih =>
    obtain ⟨k, B⟩ := u
    simp only [applyU]
    refine ih ?_
    by_cases hb : b = k
    · right; unfold updH; simp [hb]
    · rcases h with h | h
      · simp only [List.map_cons, List.mem_cons] at h
        exact .inl (h.resolve_left hb)
      · right; unfold updH; simp [hb, h]

theorem applyU_comm {us vs : List (Nat × Blk)} {H : Heap} (h : ∀ b, b ∈ us.map (·.1) → b ∉ vs.map (·.1)) : applyU us (applyU vs H) = applyU vs (applyU us H) := by
  funext b
  by_cases h1 : b ∈ us.map (·.1)
  · rw [applyU_get (h b h1)]
    exact applyU_congr (.inl h1)
  · rw [applyU_get h1]
    by_cases h2 : b ∈ vs.map (·.1)
    · exact applyU_congr (.inl h2)
    · rw [applyU_get h2, applyU_get h2, applyU_get h1]

/-- One step of a region, as it was done: its place, the blocks that it looked at, what it gave. -/
structure Rec where
  i : Nat
  rs : List Nat
  c : Core

def Core.slot (c : Core) (tmps : List AV) : List AV := match c.sl with | some (d, v) => tmps.set d v | none => tmps

section
variable (P : Program) (clk : Nat) (ops : Array Oper) (hints : List (Nat × List Hint))

def Chain : List Rec → List AV → Heap → Prop
  | [], _, _ => True
  | r :: l, t, H => ∃ o, ops[r.i]? = some o ∧ coreStep P clk ops hints o t H = some r.c ∧ r.rs = footR t o ∧ Chain l (r.c.slot t) (applyU r.c.ups H)
end
def finT' : List Rec → List AV → List AV
  | [], t => t
  | r :: l, t => finT' l (r.c.slot t)
def finH' : List Rec → Heap → Heap
  | [], H => H
  | r :: l, H => finH' l (applyU r.c.ups H)

/-- Two steps that may change places. -/
structure Apart (clk : Nat) (ops : Array Oper) (y x : Rec) : Prop where
  slots : ∀ oy ox, ops[y.i]? = some oy → ops[x.i]? = some ox → (∀ d, oy.dst = some d → d ∉ readsOf ops ox ∧ ox.dst ≠ some d) ∧ (∀ d, ox.dst = some d → d ∉ readsOf ops oy)
  heapY : ∀ ox, ops[x.i]? = some ox → ∀ b ∈ y.c.ups.map (·.1), b ∉ x.rs ∧ b ∉ ownIds clk ox ∧ b ∉ x.c.ups.map (·.1)
  heapX : ∀ oy, ops[y.i]? = some oy → ∀ b ∈ x.c.ups.map (·.1), b ∉ y.rs ∧ b ∉ ownIds clk oy

section
variable {P : Program} {clk : Nat} {ops : Array Oper} {hints : List (Nat × List Hint)}

/-- A step writes the slot that its operation names. -/
theorem core_dst {o : Oper} {t : List AV} {H : Heap} {c : Core} (h : coreStep P clk ops hints o t H = some c) : ∀ d v, c.sl = some (d, v) → o.dst = some d := by
  intro d v hc
  unfold coreStep at h
  split at h
  · cases h
  rename_i G hG
  have plain : plainStep P clk hints o G t H = some c → o.dst = some d := by
    intro h
    unfold plainStep at h
    split at h
    · rename_i d' hd
      split at h
      · cases h
      split at h
      rotate_left
      · cases h
      split at h
      · cases h
      · cases h; cases hc; exact hd
    · split at h
      · cases h
      split at h
      · cases h
      split at h
      · cases h; cases hc
      · cases h
  split at h
  · unfold pickStep at h
    split at h
    · cases h
    rename_i d' hd
    split at h
    · cases h
    split at h
    · split at h
      · cases h; cases hc; exact hd
      · cases h
    · split at h
      · split at h
        · cases h; cases hc; exact hd
        · cases h
      · cases h
  · split at h
    · unfold callStep at h
      split at h
      · cases h
      rename_i d' hd
      split at h
      rotate_left
      · cases h
      split at h
      rotate_left
      · cases h
      split at h
      rotate_left
      · cases h
      split at h
      rotate_left
      · cases h
      split at h
      · cases h
      · cases h; cases hc; exact hd
    · split at h
      · unfold appendStep at h
        split at h
        · cases h
        rename_i d' hd
        split at h
        rotate_left
        · cases h
        split at h
        · cases h
        split at h
        · cases h; cases hc; exact hd
        · cases h
      · cases h
    · exact plain h
  · exact plain h

def NewsFit (ops : Array Oper) (hints : List (Nat × List Hint)) : Prop := ∀ (i : Nat) (o : Oper), ops[i]? = some o → ∀ d, o.dst = some d → ∀ fr res news r, look d hints = .call fr res news :: r → news.length ≤ 7

theorem slot_get {c : Core} {t : List AV} {k : Nat} (h : ∀ d v, c.sl = some (d, v) → d ≠ k) : (c.slot t).getD k .any = t.getD k .any := by
  unfold Core.slot
  cases hs : c.sl with
  | none => rfl
  | some p =>
    obtain ⟨d, v⟩ := p
    have := h d v hs
    simp only [List.getD]
    rw [List.getElem?_set]
    rw [if_neg this]

theorem footR_congr {t t' : List AV} {o : Oper} (h : ∀ k ∈ readsOf ops o, t.getD k .any = t'.getD k .any) : footR t o = footR t' o := by
  unfold footR
  have : ∀ x ∈ o.op.operands.toList, idV (ev t x) = idV (ev t' x) := by
    intro x hx
    cases x with
    | tmp k => simp only [ev]; rw [h k (by simp only [readsOf, List.mem_append, List.mem_flatMap]; exact .inl ⟨_, hx, by simp [slotOf]⟩)]
    | _ => rfl
  revert this
  generalize o.op.operands.toList = l
  intro this
  induction l with
  | nil => rfl
  | cons x l ih => rw [List.flatMap_cons, List.flatMap_cons, this x (by simp), ih (fun y hy => this y (by simp [hy]))]

theorem swap {y x : Rec} {l : List Rec} {t : List AV} {H : Heap} (hnf : NewsFit ops hints) (ha : Apart clk ops y x) (h : Chain P clk ops hints (y :: x :: l) t H) :
    Chain P clk ops hints (x :: y :: l) t H ∧ x.c.slot (y.c.slot t) = y.c.slot (x.c.slot t) ∧ applyU x.c.ups (applyU y.c.ups H) = applyU y.c.ups (applyU x.c.ups H) := by
  obtain ⟨oy, hy1, hy2, hy3, ox, hx1, hx2, hx3, hl⟩ := h
  obtain ⟨s1, s2⟩ := ha.slots oy ox hy1 hx1
  have dy := core_dst hy2
  have dx := core_dst hx2
  have hkeys := ha.heapY ox hx1
  have hkeyx := ha.heapX oy hy1
  -- x sees the same before y
  have tx : ∀ k ∈ readsOf ops ox, (y.c.slot t).getD k .any = t.getD k .any := fun k hk => slot_get fun d v hd => by
    have := (s1 d (dy d v hd)).1
    rintro rfl; exact this hk
  have fx := footR_congr (o := ox) tx
  have hx2' : coreStep P clk ops hints ox t H = some x.c := by
    refine coreStep_local tx (fun b hb => ?_) (fun d hd fr res news r hl => hnf x.i ox hx1 d hd fr res news r hl) hx2
    refine applyU_get fun hbu => ?_
    obtain ⟨q1, q2, _⟩ := hkeys b hbu
    rcases List.mem_append.1 hb with hb | hb
    · exact q1 (by rw [hx3]; exact hb)
    · exact q2 hb
  have ty : ∀ k ∈ readsOf ops oy, t.getD k .any = (x.c.slot t).getD k .any := fun k hk => (slot_get fun d v hd => by
    have := s2 d (dx d v hd)
    rintro rfl; exact this hk).symm
  have fy := footR_congr (o := oy) ty
  have hy2' : coreStep P clk ops hints oy (x.c.slot t) (applyU x.c.ups H) = some y.c := by
    refine coreStep_local ty (fun b hb => ?_) (fun d hd fr res news r hl => hnf y.i oy hy1 d hd fr res news r hl) hy2
    refine (applyU_get fun hbu => ?_).symm
    obtain ⟨q1, q2⟩ := hkeyx b hbu
    rcases List.mem_append.1 hb with hb | hb
    · exact q1 (by rw [hy3]; exact hb)
    · exact q2 hb
  have es : x.c.slot (y.c.slot t) = y.c.slot (x.c.slot t) := by
    unfold Core.slot
    cases hsx : x.c.sl with
    | none => cases hsy : y.c.sl <;> rfl
    | some p =>
      obtain ⟨d, v⟩ := p
      cases hsy : y.c.sl with
      | none => rfl
      | some q =>
        obtain ⟨d', v'⟩ := q
        have h1 := dx d v hsx
        have h2 := dy d' v' hsy
        have := (s1 d' h2).2
        rw [h1] at this
        have hne : d ≠ d' := fun e => this (by rw [e])
        simp only
        exact List.set_comm _ _ (by omega)
  have eh : applyU x.c.ups (applyU y.c.ups H) = applyU y.c.ups (applyU x.c.ups H) := (applyU_comm fun b hb hbx => (hkeys b hb).2.2 hbx).symm
  refine ⟨⟨ox, hx1, hx2', by rw [hx3, fx], oy, hy1, hy2', by rw [hy3, fy], ?_⟩, es, eh⟩
  rw [← es, ← eh]; exact hl

/-- A step is taken ahead of all that stands before it. -/
theorem toFront (hnf : NewsFit ops hints) : ∀ {r1 : List Rec} {x : Rec} {r2 : List Rec} {t : List AV} {H : Heap}, (∀ y ∈ r1, Apart clk ops y x) → Chain P clk ops hints (r1 ++ x :: r2) t H →
    Chain P clk ops hints (x :: (r1 ++ r2)) t H ∧ finT' (r1 ++ x :: r2) t = finT' (x :: (r1 ++ r2)) t ∧ finH' (r1 ++ x :: r2) H = finH' (x :: (r1 ++ r2)) H
  | [], x, r2, t, H, _, h => ⟨h, rfl, rfl⟩
  | y :: r1, x, r2, t, H, ha, h => by
    obtain ⟨oy, hy1, hy2, hy3, hl⟩ := h
    obtain ⟨k1, k2, k3⟩ := toFront hnf (fun z hz => ha z (by simp [hz])) hl
    have hc : Chain P clk ops hints (y :: x :: (r1 ++ r2)) t H := ⟨oy, hy1, hy2, hy3, k1⟩
    obtain ⟨m1, m2, m3⟩ := swap hnf (ha y (by simp)) hc
    refine ⟨m1, ?_, ?_⟩
    · show finT' (r1 ++ x :: r2) (y.c.slot t) = finT' (y :: (r1 ++ r2)) (x.c.slot t)
      rw [k2]
      show finT' (r1 ++ r2) (x.c.slot (y.c.slot t)) = finT' (r1 ++ r2) (y.c.slot (x.c.slot t))
      rw [m2]
    · show finH' (r1 ++ x :: r2) (applyU y.c.ups H) = finH' (y :: (r1 ++ r2)) (applyU x.c.ups H)
      rw [k3]
      show finH' (r1 ++ r2) (applyU x.c.ups (applyU y.c.ups H)) = finH' (r1 ++ r2) (applyU y.c.ups (applyU x.c.ups H))
      rw [m3]

/-- The order l takes the steps recs, each when all that stand before it in recs and bind it are done. -/
inductive Sched (clk : Nat) (ops : Array Oper) : List Nat → List Rec → Prop
  | nil : Sched clk ops [] []
  | cons {i : Nat} {l : List Nat} {r1 r2 : List Rec} {x : Rec} (hi : x.i = i) (ha : ∀ y ∈ r1, Apart clk ops y x) (h : Sched clk ops l (r1 ++ r2)) : Sched clk ops (i :: l) (r1 ++ x :: r2)

theorem sched_ok (hnf : NewsFit ops hints) {Ow Im0 : Nat → Prop} {w0 : World} {Q : Exit → Act → World → Prop} : ∀ {l : List Nat} {recs : List Rec}, Sched clk ops l recs → ∀ {t : List AV} {H : Heap} {a : Act} {w : World}, Chain P clk ops hints recs t H →
    Sys Ow Im0 w0 t H clk a w → (∀ r ∈ recs, allP r.c.ph ∧ EqP r.c.eq) → (∀ a' w', Sys Ow Im0 w0 (finT' recs t) (finH' recs H) clk a' w' → Q .normal a' w') → wpOps P ops Q l a w := by
  intro l recs hs
  induction hs with
  | nil => intro t H a w _ hS _ hQ; exact hQ a w hS
  | cons hi ha hrest ih =>
    rename_i i l r1 r2 x
    intro t H a w hc hS hp hQ
    obtain ⟨k1, k2, k3⟩ := toFront hnf ha hc
    obtain ⟨o, ho, hstep, _, hl⟩ := k1
    rw [hi] at ho
    have hop : opStep P clk ops hints o t H = some (x.c.out t H) := by unfold opStep; rw [hstep]
    have hx := hp x (by simp)
    have key := opStep_ok (next := wpOps P ops Q l) (Q := Q) hop hS hx.1 hx.2 fun a' w' hS' => ih (t := x.c.slot t) (H := applyU x.c.ups H) hl hS' (fun r hr => hp r (by
      rcases List.mem_append.1 hr with h | h
      · simp [h]
      · simp [h])) (fun a'' w'' hS'' => hQ a'' w'' (by rw [k2, k3]; exact hS''))
    simp only [wpOps, ho]
    split
    · exact .inl (key.1 ‹_›)
    · rename_i hw; exact key.2 ((Bool.not_eq_true _).mp hw)
end

end Go.Sx
