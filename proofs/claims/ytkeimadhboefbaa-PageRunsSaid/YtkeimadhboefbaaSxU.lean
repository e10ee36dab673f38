/-
  The symbolic run of a region that draws its order.
  Conditions: none.
-/
import Derived.Test.YtkeimadhboefbaaSxT
namespace Go.Sx
open Go.Region

def runRecs (P : Program) (clk : Nat) (ops : Array Oper) (hints : List (Nat × List Hint)) : List Nat → List AV → Heap → Option (List Rec)
  | [], _, _ => some []
  | i :: l, t, H => match ops[i]? with
    | none => none
    | some o => match coreStep P clk ops hints o t H with
      | none => none
      | some c => match runRecs P clk ops hints l (c.slot t) (applyU c.ups H) with
        | none => none
        | some rs => some (⟨i, footR t o, c⟩ :: rs)
theorem runRecs_chain {P : Program} {clk : Nat} {ops : Array Oper} {hints : List (Nat × List Hint)} : ∀ {l : List Nat} {t : List AV} {H : Heap} {recs : List Rec}, runRecs P clk ops hints l t H = some recs → Chain P clk ops hints recs t H ∧ recs.map (·.i) = l
  | [], t, H, recs, h => by
    simp only [runRecs, Option.some.injEq] at h
    subst h
    exact ⟨trivial, rfl⟩
  | i :: l, t, H, recs, h => by
    simp only [runRecs] at h
    split at h
    · cases h
    rename_i o ho
    split at h
    · cases h
    rename_i c hc
    split at h
    · cases h
    rename_i rs hrs
    cases h
    obtain ⟨h1, h2⟩ := runRecs_chain hrs
    exact ⟨⟨o, ho, hc, rfl, h1⟩, by simp [h2]⟩

def phs : List Rec → List Prop
  | [] => []
  | r :: l => r.c.ph ++ phs l
def eqs : List Rec → List (AV × AV)
  | [] => []
  | r :: l => r.c.eq ++ eqs l
theorem phs_all : ∀ {l : List Rec}, allP (phs l) → ∀ r ∈ l, allP r.c.ph
  | [], _, r, hr => by simp at hr
  | x :: l, h, r, hr => by
    obtain ⟨h1, h2⟩ := allP_append.1 h
    rcases List.mem_cons.1 hr with e | e
    · rw [e]; exact h1
    · exact phs_all h2 r e
theorem eqs_all : ∀ {l : List Rec}, EqP (eqs l) → ∀ r ∈ l, EqP r.c.eq
  | [], _, r, hr => by simp at hr
  | x :: l, h, r, hr => by
    rcases List.mem_cons.1 hr with e | e
    · rw [e]; exact h.left
    · exact eqs_all h.right r e

/-! What a step touches -/
structure Foot where
  i : Nat
  bits : Nat
  dst : Option Nat
  reads : List Nat
  rs : List Nat
  own : List Nat
  keys : List Nat
def mem2 (b : Nat) : List Nat → Bool
  | [] => false
  | x :: l => match Nat.beq x b with
    | true => true
    | false => mem2 b l
theorem mem2_iff {b : Nat} {l : List Nat} : mem2 b l = false ↔ b ∉ l := by
  induction l with
  | nil => simp [mem2]
  | cons x l ih =>
    simp only [mem2]
    cases h : Nat.beq x b with
    | true =>
      have := Nat.eq_of_beq_eq_true h
      simp [this]
    | false =>
      have := Nat.ne_of_beq_eq_false h
      simp only [ih, List.mem_cons, not_or]
      exact ⟨fun h => ⟨fun e => this e.symm, h⟩, fun h => h.2⟩
def feet (clk : Nat) (ops : Array Oper) (bt : List Nat) : List Rec → Option (List Foot)
  | [] => some []
  | r :: l => match ops[r.i]? with
    | none => none
    | some o => match feet clk ops bt l with
      | none => none
      | some fs => some (⟨r.i, bt.getD r.i 0, o.dst, readsOf ops o, r.rs, ownIds clk o, r.c.ups.map (·.1)⟩ :: fs)
def apartF (y x : Foot) : Bool :=
  (match y.dst with
   | some d => !mem2 d x.reads && (match x.dst with | some d' => !Nat.beq d' d | none => true)
   | none => true) &&
  (match x.dst with
   | some d => !mem2 d y.reads
   | none => true) &&
  (y.keys.all fun b => !mem2 b x.rs && !mem2 b x.own && !mem2 b x.keys) &&
  (x.keys.all fun b => !mem2 b y.rs && !mem2 b y.own)
def pairsF : List Foot → Bool
  | [] => true
  | y :: l => (l.all fun x => x.bits.testBit y.i || apartF y x) && pairsF l

section
variable {clk : Nat} {ops : Array Oper}
def IsFoot (clk : Nat) (ops : Array Oper) (bt : List Nat) (r : Rec) (f : Foot) : Prop :=
  ∃ o, ops[r.i]? = some o ∧ f = ⟨r.i, bt.getD r.i 0, o.dst, readsOf ops o, r.rs, ownIds clk o, r.c.ups.map (·.1)⟩

theorem apartF_ok {bt : List Nat} {y x : Rec} {fy fx : Foot} (hy : IsFoot clk ops bt y fy) (hx : IsFoot clk ops bt x fx) (h : apartF fy fx = true) : Apart clk ops y x := by
  obtain ⟨oy, hy1, rfl⟩ := hy
  obtain ⟨ox, hx1, rfl⟩ := hx
  unfold apartF at h
  simp only [Bool.and_eq_true, List.all_eq_true, Bool.not_eq_true', mem2_iff] at h
  obtain ⟨⟨⟨h1, h2⟩, h3⟩, h4⟩ := h
  refine ⟨fun oy' ox' hy' hx' => ?_, fun ox' hx' b hb => ?_, fun oy' hy' b hb => ?_⟩
  · rw [hy1] at hy'; rw [hx1] at hx'
    cases hy'; cases hx'
    refine ⟨fun d hd => ?_, fun d hd => ?_⟩
    · rw [hd] at h1
      simp only [Bool.and_eq_true, Bool.not_eq_true', mem2_iff] at h1
      refine ⟨h1.1, fun hd' => ?_⟩
      have h1 := h1.2
      rw [hd'] at h1
      simp at h1
    · rw [hd] at h2
      simpa [mem2_iff] using h2
  · rw [hx1] at hx'; cases hx'
    obtain ⟨⟨q1, q2⟩, q3⟩ := h3 b hb
    exact ⟨q1, q2, q3⟩
  · rw [hy1] at hy'; cases hy'
    exact h4 b hb

theorem feet_mem {bt : List Nat} : ∀ {l : List Rec} {fs : List Foot}, feet clk ops bt l = some fs → ∀ r ∈ l, ∃ f ∈ fs, IsFoot clk ops bt r f
  | [], _, _, r, hr => by simp at hr
  | x :: l, fs, h, r, hr => by
    simp only [feet] at h
    split at h
    · cases h
    rename_i o ho
    split at h
    · cases h
    rename_i gs hgs
    cases h
    rcases List.mem_cons.1 hr with e | e
    · subst e
      exact ⟨_, by simp, o, ho, rfl⟩
    · obtain ⟨f, hf, hi⟩ := feet_mem hgs r e
      exact ⟨f, by simp [hf], hi⟩

theorem pairsF_ok : ∀ {l : List Rec} {fs : List Foot}, feet clk ops (bitsOf ops) l = some fs → pairsF fs = true → PairsOk clk ops l
  | [], _, _, _ => trivial
  | y :: l, fs, h, hp => by
    simp only [feet] at h
    split at h
    · cases h
    rename_i o ho
    split at h
    · cases h
    rename_i gs hgs
    cases h
    simp only [pairsF, Bool.and_eq_true, List.all_eq_true, Bool.or_eq_true] at hp
    refine ⟨fun x hx => ?_, pairsF_ok hgs hp.2⟩
    obtain ⟨f, hf, hi⟩ := feet_mem hgs x hx
    have hi' := hi
    obtain ⟨ox, hox, e⟩ := hi'
    rcases hp.1 f hf with h1 | h1
    · left
      rw [e] at h1
      exact h1
    · right
      exact apartF_ok ⟨o, ho, rfl⟩ hi h1
end

def hintsFit : List (Nat × List Hint) → Bool
  | [] => true
  | (_, .call _ _ news :: _) :: l => Nat.ble news.length 7 && hintsFit l
  | _ :: l => hintsFit l
theorem hintsFit_ok : ∀ {hints : List (Nat × List Hint)}, hintsFit hints = true → ∀ (d : Nat) fr res news r, look d hints = .call fr res news :: r → news.length ≤ 7
  | [], _, d, fr, res, news, r, h => by simp [look] at h
  | (j, hs) :: l, hf, d, fr, res, news, r, h => by
    have hl : hintsFit l = true := by
      unfold hintsFit at hf
      split at hf
      · cases ‹_ = []›
      · rename_i h1; cases h1
        exact (Bool.and_eq_true _ _ ▸ hf).2
      · rename_i h1; cases h1
        exact hf
    simp only [look] at h
    split at h
    · subst h
      simp only [hintsFit, Bool.and_eq_true] at hf
      exact Nat.le_of_ble_eq_true hf.1
    · exact hintsFit_ok hl d fr res news r h

def drawRun (P : Program) (clk : Nat) (ops : Array Oper) (hints : List (Nat × List Hint)) (t : List AV) (H : Heap) : Option Out :=
  match runRecs P clk ops hints (List.range ops.size) t H with
  | none => none
  | some recs => match feet clk ops (bitsOf ops) recs with
    | none => none
    | some fs => match (P.follows .mixedOrders || !departs ops) && (backOk 0 ops.toList && (hintsFit hints && pairsF fs)) with
      | true => some ⟨finT' recs t, finH' recs H, phs recs, eqs recs⟩
      | false => none

theorem drawRun_ok {P : Program} {Ow Im0 : Nat → Prop} {w0 : World} {clk : Nat} {hints : List (Nat × List Hint)} {ops : Array Oper} {Q : Exit → Act → World → Prop} {tmps : List AV} {H : Heap} {a : Act} {w : World} {out : Out} {id : Nat}
    (h : drawRun P clk ops hints tmps H = some out) (hS : Sys Ow Im0 w0 tmps H clk a w) (hph : allP out.ph) (heq : EqP out.eq) (hQ : ∀ a' w', Sys Ow Im0 w0 out.tmps out.H clk a' w' → Q .normal a' w') : (Code.region id ops true).wp P Q a w := by
  unfold drawRun at h
  split at h
  · cases h
  rename_i recs hrecs
  split at h
  · cases h
  rename_i fs hfs
  split at h
  rotate_left
  · cases h
  rename_i hb
  cases h
  simp only [Bool.and_eq_true] at hb
  obtain ⟨hm, hback, hfit, hpairs⟩ := hb
  obtain ⟨hchain, hmap⟩ := runRecs_chain hrecs
  have hnf : NewsFit ops hints := fun i o _ d _ fr res news r hl => hintsFit_ok hfit d fr res news r hl
  refine wp_region_draw fun n => ?_
  have hsch : schedule (P.follows .mixedOrders) ops n = linearise .any ops n := by
    unfold schedule
    rw [if_pos hm]
  rw [hsch]
  unfold linearise
  have hlen : recs.length = ops.size := by
    have := congrArg List.length hmap
    simpa using this
  have hget : ∀ i, i < ops.size → (Array.replicate ops.size false).getD i true = false := by
    intro i hi
    simp [Array.getD, hi]
  obtain ⟨l, h1, h2⟩ := go_sched (clk := clk) (ops := ops) hback ops.size n (Array.replicate ops.size false) [] recs hlen (by simp) (fun i hi => by
      rw [hmap]
      exact ⟨fun _ => List.mem_range.2 hi, fun _ => hget i hi⟩) (fun r hr => by
      have : r.i ∈ recs.map (·.i) := List.mem_map.2 ⟨r, hr, rfl⟩
      rw [hmap] at this
      exact List.mem_range.1 this) (by rw [hmap]; exact List.nodup_range) (pairsF_ok hfs hpairs) (fun j hj hl => by rw [hget j hj] at hl; cases hl)
  rw [h1]
  have hS' : Sys Ow Im0 w0 tmps H clk a { w with drawn := w.drawn + 1 } := by
    obtain ⟨ρ, Im, I, T⟩ := hS
    exact ⟨ρ, Im, I.draw, T.mono (w' := w.drew) (Ext.draw Im w) (fun _ h => h) (fun _ _ h => h) I.bnd⟩
  exact sched_ok hnf h2 hchain hS' (fun r hr => ⟨phs_all hph r hr, eqs_all heq r hr⟩) hQ

end Go.Sx
