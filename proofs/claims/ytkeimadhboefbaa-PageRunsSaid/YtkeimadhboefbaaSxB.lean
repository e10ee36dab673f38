/-
  The heap's invariant through a new block and a store; the first operations of the symbolic executor, each proved against the model.
  Conditions: none.
-/
import Derived.Test.YtkeimadhboefbaaSxA
namespace Go.Sx

def updR (ρ : Rho) (b : Nat) (β : Bi) : Rho := fun k => if k = b then some β else ρ k
def updH (H : Heap) (b : Nat) (B : Blk) : Heap := fun k => if k = b then some B else H k

theorem live_upd {H : Heap} {b : Nat} {B : Blk} {k : Nat} (h : live (updH H b B) k) (hk : ¬ k = b) : live H k := by
  obtain ⟨B', h1, h2⟩ := h
  unfold updH at h1
  rw [if_neg hk] at h1
  exact ⟨B', h1, h2⟩
theorem live_iff {H : Heap} {b : Nat} {B : Blk} {k : Nat} (hl : live H b) (h : live (updH H b B) k) : live H k := by
  by_cases hk : k = b
  · rw [hk]; exact hl
  · exact live_upd h hk
theorem updR_same (ρ : Rho) (b : Nat) (β : Bi) : updR ρ b β b = some β := by simp [updR]
theorem updR_sub {ρ : Rho} {b : Nat} {β : Bi} (h : ρ b = none) : ∀ k κ, ρ k = some κ → updR ρ b β k = some κ := by
  intro k κ hk
  unfold updR
  split
  · subst k; rw [h] at hk; cases hk
  · exact hk

theorem Ext.alloc (Im : Nat → Prop) (w : World) (o : Obj) (h : ∀ g, Im g → g < w.heap.size) : Ext Im w (w.alloc o) :=
  ⟨by simp, fun g hg => Go.RowKit.Below.heap_alloc _ _ _ (h g hg), fun g hg => by unfold Sx.rows; rw [Go.RowKit.Below.heap_alloc _ _ _ hg]⟩

theorem heap_alloc_new (w : World) (o : Obj) : (w.alloc o).heap[w.heap.size]? = some o := by show (w.heap.push o)[w.heap.size]? = some o; simp

section
variable {Ow Im0 : Nat → Prop} {w0 : World} {ρ : Rho} {w : World} {Im : Nat → Prop} {H : Heap} {clk : Nat}

/-- A new block of cells that nobody knows of. -/
theorem Inv.junk (I : Inv Ow Im0 w0 ρ w Im H clk) (o : Obj) : Inv Ow Im0 w0 ρ (w.alloc o) Im H clk := by
  have he := Ext.alloc Im w o I.imb
  refine ⟨?_, I.inj, I.notIm, fun b β g h h' => ?_, I.own, fun g h => ?_, I.im0, fun b B h => ?_, I.fresh⟩
  · have k := I.kept
    refine ⟨k.os, k.tape, k.output, by have := k.size; simp; omega, fun i hi ho => ?_, fun i hi => ?_⟩
    · rw [Go.RowKit.Below.heap_alloc _ _ _ (Nat.lt_of_lt_of_le hi k.size)]; exact k.block i hi ho
    · rw [he.rows i (Nat.lt_of_lt_of_le hi k.size)]; exact k.rows i hi
  · have := I.bnd b β g h h'; simp; omega
  · have := I.imb g h; simp; omega
  · obtain ⟨β, h1, h2⟩ := I.blk b B h
    exact ⟨β, h1, h2.mono he (fun _ h => h) (fun _ _ h => h) I.bnd (fun g hg => Go.RowKit.Below.heap_alloc _ _ _ (I.bnd b β g h1 hg))⟩

theorem Inv.draw (I : Inv Ow Im0 w0 ρ w Im H clk) : Inv Ow Im0 w0 ρ w.drew Im H clk :=
  ⟨⟨I.kept.os, I.kept.tape, I.kept.output, I.kept.size, I.kept.block, I.kept.rows⟩, I.inj, I.notIm, I.bnd, I.own, I.imb, I.im0,
    fun b B h => let ⟨β, h1, h2⟩ := I.blk b B h; ⟨β, h1, h2.mono (w' := w.drew) ⟨Nat.le_refl _, fun _ _ => rfl, fun _ _ => rfl⟩ (fun _ h => h) (fun _ _ h => h) I.bnd (fun _ _ => rfl)⟩, I.fresh⟩
theorem Ext.draw (Im : Nat → Prop) (w : World) : Ext Im w w.drew := ⟨Nat.le_refl _, fun _ _ => rfl, fun _ _ => rfl⟩

/-- A new block of the call's own. -/
theorem Inv.add (I : Inv Ow Im0 w0 ρ w Im H clk) (id : Nat) (hid : clk * 8000 ≤ id) (hH : H id = none) (cs : Array Value) (ty s n : Nat) (B : Blk)
    (hB : RelB (updR ρ id ⟨some w.heap.size, s, n⟩) (w.alloc (.cells cs ty)) Im ⟨some w.heap.size, s, n⟩ B) :
    Inv Ow Im0 w0 (updR ρ id ⟨some w.heap.size, s, n⟩) (w.alloc (.cells cs ty)) Im (updH H id B) clk := by
  have hn := I.fresh id hid hH
  have he := Ext.alloc Im w (.cells cs ty) I.imb
  have J := I.junk (.cells cs ty)
  refine ⟨J.kept, ?_, ?_, ?_, ?_, J.imb, J.im0, ?_, ?_⟩
  · intro b b' β β' g l1 l2 h1 h2 h3 h4
    unfold updR at h1 h2
    split at h1 <;> split at h2
    · omega
    · cases h1; simp at h3; have := I.bnd b' β' g h2 h4; omega
    · cases h2; simp at h4; have := I.bnd b β g h1 h3; omega
    · exact I.inj b b' β β' g (live_upd l1 ‹_›) (live_upd l2 ‹_›) h1 h2 h3 h4
  · intro b β g l h h'
    unfold updR at h
    split at h
    · cases h; simp at h'; intro hi; have := I.imb g hi; omega
    · exact I.notIm b β g (live_upd l ‹_›) h h'
  · intro b β g h h'
    unfold updR at h
    split at h
    · cases h; simp at h'; simp; omega
    · have := I.bnd b β g h h'; simp; omega
  · intro b β g h h'
    unfold updR at h
    split at h
    · cases h; simp at h'; have := I.kept.size; omega
    · exact I.own b β g h h'
  · intro b B' h
    unfold updH at h
    split at h
    · cases h; rename_i hb; exact ⟨_, by rw [hb]; exact updR_same _ _ _, hB⟩
    · obtain ⟨β, h1, h2⟩ := I.blk b B' h
      exact ⟨β, updR_sub hn _ _ h1, h2.mono he (fun _ h => h) (updR_sub hn) I.bnd (fun g hg => Go.RowKit.Below.heap_alloc _ _ _ (I.bnd b β g h1 hg))⟩
  · intro b hb h
    unfold updH at h
    unfold updR
    split
    · rename_i hbi; simp [hbi] at h
    · rename_i hbi; simp only [hbi, if_false] at h; exact I.fresh b hb h

theorem rows_setRow (w : World) (g : Nat) (cs cs' : Array Value) (ty : Nat) (hg : w.heap[g]? = some (.cells cs ty (0, 0))) (hs : cs'.size = cs.size) (k : Nat) :
    rows (w.setRow g cs') k = rows w k := by
  by_cases hk : k = g
  · subst hk
    unfold rows
    rw [setRow_heap w k cs cs' ty (0, 0) hg, hg]
    simpa using hs
  · unfold rows
    rw [setRow_other w g k cs' hk]

/-- A store into a block of the call's own. -/
theorem Inv.put (I : Inv Ow Im0 w0 ρ w Im H clk) (b : Nat) (g s n : Nat) (cs cs' : Array Value) (ty : Nat) (B : Blk) (hb : ρ b = some ⟨some g, s, n⟩)
    (hg : w.heap[g]? = some (.cells cs ty (0, 0))) (hs : cs'.size = cs.size) (hlive : live H b)
    (hB : Ext Im w (w.setRow g cs') → RelB ρ (w.setRow g cs') Im ⟨some g, s, n⟩ B) : Inv Ow Im0 w0 ρ (w.setRow g cs') Im (updH H b B) clk ∧ Ext Im w (w.setRow g cs') := by
  have hsz : (w.setRow g cs').heap.size = w.heap.size := by simp [World.setRow]
  have he : Ext Im w (w.setRow g cs') := by
    refine ⟨by omega, fun k hk => ?_, fun k _ => rows_setRow w g cs cs' ty hg hs k⟩
    exact setRow_other w g k cs' (fun e => I.notIm b _ g hlive hb rfl (e ▸ hk))
  refine ⟨⟨?_, fun b b' β β' g l1 l2 => I.inj b b' β β' g (live_iff hlive l1) (live_iff hlive l2), fun b β g l => I.notIm b β g (live_iff hlive l), fun b β g h h' => by rw [hsz]; exact I.bnd b β g h h', I.own, fun g h => by rw [hsz]; exact I.imb g h, I.im0, ?_, ?_⟩, he⟩
  · have k := I.kept
    refine ⟨k.os, k.tape, k.output, by rw [hsz]; exact k.size, fun i hi ho => ?_, fun i hi => ?_⟩
    · have : i ≠ g := by
        rintro rfl
        rcases I.own b _ i hb rfl with h | h
        · omega
        · exact ho h
      rw [setRow_other w g i cs' this]; exact k.block i hi ho
    · rw [rows_setRow w g cs cs' ty hg hs]; exact k.rows i hi
  · intro b' B' h
    unfold updH at h
    split at h
    · cases h; rename_i e; rw [e]; exact ⟨_, hb, hB he⟩
    · rename_i hne
      obtain ⟨β, h1, h2⟩ := I.blk b' B' h
      cases B' with
      | dead => exact ⟨β, h1, trivial⟩
      | _ =>
        refine ⟨β, h1, h2.mono he (fun _ h => h) (fun _ _ h => h) I.bnd (fun g' hg' => setRow_other w g g' cs' ?_)⟩
        rintro rfl
        exact hne (I.inj b' b β _ g' ⟨_, h, by simp⟩ hlive h1 hb hg' rfl)
  · intro b' hb' h
    unfold updH at h
    split at h
    · cases h
    · exact I.fresh b' hb' h
end

/-- What one operation (no call) may do. -/
def Goes (P : Program) (o : Oper) (a : Act) (w : World) (K : Value → World → Prop) : Prop :=
  (∃ v w', (execOp a.eval o).run P w = .ok (.value v) w' ∧ K v w') ∨ ∃ w', (execOp a.eval o).run P w = .ok .skip w' ∧ K undef w'

theorem Goes.wp {P : Program} {o : Oper} {a : Act} {w : World} {K : Value → World → Prop} {next : Act → World → Prop} {Q : Exit → Act → World → Prop}
    (h : Goes P o a w K) (hn : ∀ v w', K v w' → next (a.put o.dst v) w') : o.wp P a w next Q := by
  rcases h with ⟨v, w', h, k⟩ | ⟨w', h, k⟩
  · simp only [Oper.wp, h, Oper.upon_value]; exact hn v w' k
  · simp only [Oper.wp, h, Oper.upon_skip]; exact hn undef w' k

/-- Behind one operation: the heap is H', the value reads as x; all that was known of other values is known still. -/
def Then (Ow Im0 : Nat → Prop) (w0 : World) (ρ : Rho) (w : World) (Im : Nat → Prop) (clk : Nat) (H' : Heap) (x : AV) (v : Value) (w' : World) : Prop :=
  ∃ ρ', Inv Ow Im0 w0 ρ' w' Im H' clk ∧ Ext Im w w' ∧ (∀ b β, ρ b = some β → ρ' b = some β) ∧ Rel ρ' w' Im x v

/-- A constant's cells and value. -/
def cv1 : Value → AV
  | .slice none 0 0 => .d (.sl 0 [])
  | v => .d (.sc v)
def oneAll (l : List Value) : Bool := l.all (·.oneCell')
def cv : Value → AV
  | .agg cs => if oneAll cs.toList then .ag (cs.toList.map cv1) else .any
  | .tuple _ => .any
  | v => cv1 v

theorem cv1_rel (ρ : Rho) (w : World) (Im : Nat → Prop) (v : Value) (h : v.oneCell' = true) : Rel ρ w Im (cv1 v) v := by
  unfold cv1
  split
  · exact .d (.slNil 0 none 0)
  · exact .d (.sc _ h)
theorem cv_rel (ρ : Rho) (w : World) (Im : Nat → Prop) (v : Value) : Rel ρ w Im (cv v) v := by
  unfold cv
  split
  · rename_i cs
    split
    · rename_i h
      simp only [oneAll, List.all_eq_true] at h
      have h1 : ∀ (i : Nat) (u : Value), cs[i]? = some u → u.oneCell' = true := fun i u hu => h u (by
        have := Array.mem_of_getElem? hu; simpa using this)
      refine .ag _ _ (by simp) h1 fun i a u ha hu => ?_
      have he : cs.toList[i]? = some u := by simpa using hu
      simp only [List.getElem?_map, he, Option.map_some, Option.some.injEq] at ha
      subst ha
      exact cv1_rel ρ w Im u (h1 i u hu)
    · exact .any _
  · exact .any _
  · rename_i h1 h2
    exact cv1_rel ρ w Im v (by cases v <;> first | rfl | (exfalso; first | exact h1 _ rfl | exact h2 _ rfl))

def ev (tmps : List AV) : Operand → AV
  | .tmp t => tmps.getD t .any
  | .const v => cv v
  | .global _ => .any
  | .func f => .fn f []

theorem ev_rel {ρ : Rho} {w : World} {Im : Nat → Prop} {tmps : List AV} {a : Act} (h : RelT ρ w Im tmps a) (x : Operand) : Rel ρ w Im (ev tmps x) (a.eval x) := by
  cases x with
  | tmp t =>
    simp only [ev, Act.eval]
    by_cases ht : t < tmps.length
    · have ht' : t < a.tmps.size := by rw [h.size]; exact ht
      have h1 : tmps[t]? = some (tmps.getD t .any) := by simp [List.getD, List.getElem?_eq_getElem ht]
      have h2 : a.tmps[t]? = some (a.tmps.getD t undef) := by simp [Array.getD, ht']
      exact h.tmp t _ _ h1 h2
    · rw [show tmps.getD t .any = .any from by simp [List.getD, List.getElem?_eq_none (Nat.le_of_not_lt ht)]]
      exact .any _
  | const v => exact cv_rel ρ w Im v
  | global g => exact .any _
  | func f => exact .fn (by simp) (by simp)

/-- A value behind its guard. -/
def strip : AV → AV
  | .gd _ a => a
  | a => a

inductive Hint where
  | br (b : Bool)
  | int (n : Int)
  | el (e : List DV)
  | els (l : List (List DV))
  | own
  | call (fr : Bool) (res : AV) (news : List Blk)

def allP : List Prop → Prop
  | [] => True
  | [p] => p
  | p :: q :: r => p ∧ allP (q :: r)
theorem allP_cons {p : Prop} {l : List Prop} : allP (p :: l) ↔ p ∧ allP l := by
  cases l <;> simp [allP]
theorem allP_append {l l' : List Prop} : allP (l ++ l') ↔ allP l ∧ allP l' := by
  induction l with
  | nil => simp [allP]
  | cons p l ih => rw [List.cons_append, allP_cons, allP_cons, ih, and_assoc]

end Go.Sx
