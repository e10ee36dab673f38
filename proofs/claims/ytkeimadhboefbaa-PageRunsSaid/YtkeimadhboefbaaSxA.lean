/-
  The abstract values of the symbolic executor and their relation to the model's values and worlds: pure data, no program in sight.
  Conditions: none.
-/
import Derived.WalkKit
namespace Go.Sx

/-- Immutable data: a one-cell value, or a slice that reads as a list of elements (each a list of s cells). -/
inductive DV where
  | sc (v : Value)
  | sl (s : Nat) (els : List (List DV))

/-- Abstract values: data, structs, pointers to and slices of blocks of the call's own, pointers into immutable memory, functions, guarded values. -/
inductive AV where
  | d (x : DV)
  | ag (l : List AV)
  | pt (b i o : Nat)
  | os (b o n : Nat)
  | ow (b : Nat)
  | rp (e : List DV) (o : Nat)
  | fn (f : Nat) (caps : List AV)
  | ic (t : Nat) (a : AV)
  | tu (l : List AV)
  | gd (g : Bool) (a : AV)
  | any

inductive Blk where
  | box (ty : Nat) (cells : List AV)
  | arr (ty s : Nat) (els : List (List DV))
  | dead

/-- A block of the call's own in the world: its number (none: no memory yet), cells of an element, elements. -/
structure Bi where
  g : Option Nat
  s : Nat
  n : Nat

def rows (w : World) (g : Nat) : Nat := match w.heap[g]? with | some (.cells cs _ _) => cs.size | _ => 0

/-- The greatest length that a slice is known to have. -/
def big : Nat := 2 ^ 48
theorem big_eq : big = 281474976710656 := by decide

inductive RelD (w : World) (Im : Nat → Prop) : DV → Value → Prop
  | sc (v : Value) (h : v.oneCell' = true) : RelD w Im (.sc v) v
  | slNil (s : Nat) (a : Option Addr) (c : Nat) : RelD w Im (.sl s []) (.slice a 0 c)
  | sl (s : Nat) (els : List (List DV)) (p : Addr) (n c : Nat) (f : Nat → Nat → Value) (hn : els.length = n) (hc : n ≤ c) (hb : n ≤ big)
      (hs : ∀ e ∈ els, e.length = s) (hp : p.spot = none) (him : Im p.block)
      (hcell : ∀ (i : Nat) (e : List DV) (o : Nat) (x : DV), els[i]? = some e → e[o]? = some x → w.cell? ⟨p.block, p.off + (i * s + o), none⟩ = some (f i o))
      (hrel : ∀ (i : Nat) (e : List DV) (o : Nat) (x : DV), els[i]? = some e → e[o]? = some x → RelD w Im x (f i o)) : RelD w Im (.sl s els) (.slice (some p) n c)

/-- The world w' has the blocks of Im as w had them, and no block is gone or has another size. -/
structure Ext (Im : Nat → Prop) (w w' : World) : Prop where
  size : w.heap.size ≤ w'.heap.size
  im : ∀ g, Im g → w'.heap[g]? = w.heap[g]?
  rows : ∀ g, g < w.heap.size → rows w' g = rows w g

theorem Ext.refl (Im : Nat → Prop) (w : World) : Ext Im w w := ⟨Nat.le_refl _, fun _ _ => rfl, fun _ _ => rfl⟩
theorem Ext.trans {Im : Nat → Prop} {a b c : World} (h : Ext Im a b) (k : Ext Im b c) : Ext Im a c :=
  ⟨Nat.le_trans h.size k.size, fun g hg => (k.im g hg).trans (h.im g hg), fun g hg => (k.rows g (Nat.lt_of_lt_of_le hg h.size)).trans (h.rows g hg)⟩

theorem RelD.one {w : World} {Im : Nat → Prop} {x : DV} {v : Value} (h : RelD w Im x v) : v.oneCell' = true := by
  cases h <;> first | assumption | rfl

theorem RelD.mono {w w' : World} {Im Im' : Nat → Prop} {x : DV} {v : Value} (h : RelD w Im x v) (he : Ext Im w w') (hi : ∀ g, Im g → Im' g) : RelD w' Im' x v := by
  induction h with
  | sc v h => exact .sc v h
  | slNil s a c => exact .slNil s a c
  | sl s els p n c f hn hc hb hs hp him hcell _ ih =>
    refine .sl s els p n c f hn hc hb hs hp (hi _ him) (fun i e o x h1 h2 => ?_) (fun i e o x h1 h2 => ih i e o x h1 h2)
    rw [← hcell i e o x h1 h2]
    exact World.cell?_of_block (w := w) (he.im _ him)

abbrev Rho := Nat → Option Bi

inductive Rel (ρ : Rho) (w : World) (Im : Nat → Prop) : AV → Value → Prop
  | d {x : DV} {v : Value} (h : RelD w Im x v) : Rel ρ w Im (.d x) v
  | ag (l : List AV) (cs : Array Value) (hn : cs.size = l.length) (hone : ∀ (i : Nat) (v : Value), cs[i]? = some v → v.oneCell' = true) (h : ∀ (i : Nat) (a : AV) (v : Value), l[i]? = some a → cs[i]? = some v → Rel ρ w Im a v) : Rel ρ w Im (.ag l) (.agg cs)
  | pt {b i o g s n : Nat} (h : ρ b = some ⟨some g, s, n⟩) : Rel ρ w Im (.pt b i o) (.pointer (some ⟨g, i * s + o, none⟩))
  | os {b o n c : Nat} {a : Option Addr} {β : Bi} (h : ρ b = some β) (hn : o + n ≤ β.n) (hc : n ≤ c) (hb : n ≤ big) (ha : c = 0 ∨ ∃ g, β.g = some g ∧ a = some ⟨g, o * β.s, none⟩ ∧ (o + c) * β.s ≤ rows w g) : Rel ρ w Im (.os b o n) (.slice a n c)
  | ow {b c : Nat} {a : Option Addr} {β : Bi} (h : ρ b = some β) (hc : β.n ≤ c) (hb : β.n ≤ big) (ha : c = 0 ∨ ∃ g, β.g = some g ∧ a = some ⟨g, 0, none⟩ ∧ c * β.s ≤ rows w g) : Rel ρ w Im (.ow b) (.slice a β.n c)
  | rp {e : List DV} {o : Nat} {p : Addr} (hp : p.spot = none) (him : Im p.block) (h : ∀ (j : Nat) (x : DV), e[j]? = some x → ∃ v, w.cell? ⟨p.block, p.off + j, none⟩ = some v ∧ RelD w Im x v) :
      Rel ρ w Im (.rp e o) (.pointer (some ⟨p.block, p.off + o, none⟩))
  | fn {f : Nat} {caps : List AV} {cs : Array Value} (hn : cs.size = caps.length) (h : ∀ (i : Nat) (a : AV) (v : Value), caps[i]? = some a → cs[i]? = some v → Rel ρ w Im a v) : Rel ρ w Im (.fn f caps) (.func (.func f) #[] cs)
  | ic {t : Nat} {a : AV} {v : Value} (h : Rel ρ w Im a v) : Rel ρ w Im (.ic t a) (.iface t v)
  | tu (l : List AV) (cs : Array Value) (hn : cs.size = l.length) (h : ∀ (i : Nat) (a : AV) (v : Value), l[i]? = some a → cs[i]? = some v → Rel ρ w Im a v) : Rel ρ w Im (.tu l) (.tuple cs)
  | gd {g : Bool} {a : AV} {v : Value} (h : g = true → Rel ρ w Im a v) (h' : g = false → v = undef) : Rel ρ w Im (.gd g a) v
  | any (v : Value) : Rel ρ w Im .any v

theorem Rel.mono {ρ ρ' : Rho} {w w' : World} {Im Im' : Nat → Prop} {a : AV} {v : Value} (h : Rel ρ w Im a v) (he : Ext Im w w') (hi : ∀ g, Im g → Im' g)
    (hρ : ∀ b β, ρ b = some β → ρ' b = some β) (hb : ∀ b β g, ρ b = some β → β.g = some g → g < w.heap.size) : Rel ρ' w' Im' a v := by
  induction h with
  | d h => exact .d (h.mono he hi)
  | ag l cs hn hone _ ih => exact .ag l cs hn hone ih
  | pt h => exact .pt (hρ _ _ h)
  | os h hn hc hb' ha =>
    refine .os (hρ _ _ h) hn hc hb' (ha.imp id fun ⟨g, h1, h2, h3⟩ => ⟨g, h1, h2, ?_⟩)
    rw [he.rows g (hb _ _ g h h1)]; exact h3
  | ow h hc hb' ha =>
    refine .ow (hρ _ _ h) hc hb' (ha.imp id fun ⟨g, h1, h2, h3⟩ => ⟨g, h1, h2, ?_⟩)
    rw [he.rows g (hb _ _ g h h1)]; exact h3
  | rp hp him h =>
    refine .rp hp (hi _ him) fun j x hx => ?_
    obtain ⟨v, h1, h2⟩ := h j x hx
    exact ⟨v, by rw [← h1]; exact World.cell?_of_block (w := w) (he.im _ him), h2.mono he hi⟩
  | fn hn _ ih => exact .fn hn ih
  | ic _ ih => exact .ic ih
  | tu l cs hn _ ih => exact .tu l cs hn ih
  | gd _ h' ih => exact .gd ih h'
  | any v => exact .any v

/-- Surely one cell. -/
def AV.one : AV → Bool
  | .d _ | .pt .. | .os .. | .ow _ | .rp .. | .fn .. | .ic .. => true
  | _ => false
theorem Rel.one {ρ : Rho} {w : World} {Im : Nat → Prop} {a : AV} {v : Value} (h : Rel ρ w Im a v) (ha : a.one = true) : v.oneCell' = true := by
  cases h <;> first | (exact RelD.one ‹_›) | rfl | simp [AV.one] at ha

/-- The cells of an abstract value. -/
def AV.cells : AV → Option (List AV)
  | .ag l => some l
  | .d x => some [.d x]
  | .pt b i o => some [.pt b i o]
  | .os b o n => some [.os b o n]
  | .ow b => some [.ow b]
  | .rp e o => some [.rp e o]
  | .fn f c => some [.fn f c]
  | .ic t a => some [.ic t a]
  | _ => none

theorem oneCell_cells {v : Value} (h : v.oneCell' = true) : v.cells = #[v] := by
  cases v <;> first | rfl | simp [Value.oneCell'] at h

theorem Rel.cells {ρ : Rho} {w : World} {Im : Nat → Prop} {a : AV} {v : Value} {l : List AV} (h : Rel ρ w Im a v) (hl : a.cells = some l) :
    v.cells.size = l.length ∧ (∀ (i : Nat) (a : AV) (u : Value), l[i]? = some a → v.cells[i]? = some u → Rel ρ w Im a u) ∧ ∀ (i : Nat) (u : Value), v.cells[i]? = some u → u.oneCell' = true := by
  have key : ∀ {a : AV}, a.one = true → Rel ρ w Im a v → l = [a] →
      v.cells.size = l.length ∧ (∀ (i : Nat) (a : AV) (u : Value), l[i]? = some a → v.cells[i]? = some u → Rel ρ w Im a u) ∧ ∀ (i : Nat) (u : Value), v.cells[i]? = some u → u.oneCell' = true := by
    intro a ha h hl
    subst hl
    have h1 := h.one ha
    rw [oneCell_cells h1]
    refine ⟨rfl, ?_, ?_⟩
    · intro i a' u h2 h3
      cases i with
      | zero => simp at h2 h3; subst h2; subst h3; exact h
      | succ i => simp at h2
    · intro i u h3
      cases i with
      | zero => simp at h3; subst h3; exact h1
      | succ i => simp at h3
  cases h with
  | ag l' cs hn hone h =>
    simp only [AV.cells, Option.some.injEq] at hl
    subst hl
    exact ⟨hn, h, hone⟩
  | d h => exact key (by rfl) (.d h) (by simpa [AV.cells] using hl.symm)
  | pt h => exact key (by rfl) (.pt h) (by simpa [AV.cells] using hl.symm)
  | os h a b c d => exact key (by rfl) (.os h a b c d) (by simpa [AV.cells] using hl.symm)
  | ow h b c d => exact key (by rfl) (.ow h b c d) (by simpa [AV.cells] using hl.symm)
  | rp a b c => exact key (by rfl) (.rp a b c) (by simpa [AV.cells] using hl.symm)
  | fn a b => exact key (by rfl) (.fn a b) (by simpa [AV.cells] using hl.symm)
  | ic a => exact key (by rfl) (.ic a) (by simpa [AV.cells] using hl.symm)
  | tu => simp [AV.cells] at hl
  | gd => simp [AV.cells] at hl
  | any => simp [AV.cells] at hl

/-- A block of the call's own in the world. -/
def RelB (ρ : Rho) (w : World) (Im : Nat → Prop) (β : Bi) : Blk → Prop
  | .box ty cells => β.s = cells.length ∧ β.n = 1 ∧ ∃ g cs, β.g = some g ∧ w.heap[g]? = some (.cells cs ty (0, 0)) ∧ cs.size = cells.length ∧ (∀ (i : Nat) (v : Value), cs[i]? = some v → v.oneCell' = true) ∧
      ∀ (o : Nat) (a : AV) (v : Value), cells[o]? = some a → cs[o]? = some v → Rel ρ w Im a v
  | .arr ty s els => β.s = s ∧ β.n = els.length ∧ els.length ≤ big ∧ (∀ e ∈ els, e.length = s) ∧ ((β.g = none ∧ els = []) ∨ ∃ g cs, β.g = some g ∧ w.heap[g]? = some (.cells cs ty (0, 0)) ∧ els.length * s ≤ cs.size ∧
      ∀ (i : Nat) (e : List DV) (o : Nat) (x : DV), els[i]? = some e → e[o]? = some x → ∃ v, cs[i * s + o]? = some v ∧ RelD w Im x v)
  | .dead => True

/-- A world at which nothing but the blocks of Ow and new ones has changed. -/
structure Kept (Ow : Nat → Prop) (w0 w : World) : Prop where
  os : w.os = w0.os
  tape : w.tape = w0.tape
  output : w.output = w0.output
  size : w0.heap.size ≤ w.heap.size
  block : ∀ k, k < w0.heap.size → ¬ Ow k → w.heap[k]? = w0.heap[k]?
  rows : ∀ k, k < w0.heap.size → rows w k = rows w0 k

theorem Kept.refl (Ow : Nat → Prop) (w : World) : Kept Ow w w := ⟨rfl, rfl, rfl, Nat.le_refl _, fun _ _ _ => rfl, fun _ _ => rfl⟩

abbrev Heap := Nat → Option Blk

structure St where
  tmps : List AV
  H : Heap
  clk : Nat

/-- A block that is still the call's own. -/
def live (H : Heap) (b : Nat) : Prop := ∃ B, H b = some B ∧ B ≠ .dead

/-- What holds of the heap at every moment of a call that began in w0 with the immutable blocks Im0 and the lent blocks Ow. -/
structure Inv (Ow : Nat → Prop) (Im0 : Nat → Prop) (w0 : World) (ρ : Rho) (w : World) (Im : Nat → Prop) (H : Heap) (clk : Nat) : Prop where
  kept : Kept Ow w0 w
  inj : ∀ b b' β β' g, live H b → live H b' → ρ b = some β → ρ b' = some β' → β.g = some g → β'.g = some g → b = b'
  notIm : ∀ b β g, live H b → ρ b = some β → β.g = some g → ¬ Im g
  bnd : ∀ b β g, ρ b = some β → β.g = some g → g < w.heap.size
  own : ∀ b β g, ρ b = some β → β.g = some g → w0.heap.size ≤ g ∨ Ow g
  imb : ∀ g, Im g → g < w.heap.size
  im0 : ∀ g, Im g → Im0 g ∨ w0.heap.size ≤ g
  blk : ∀ b B, H b = some B → ∃ β, ρ b = some β ∧ RelB ρ w Im β B
  fresh : ∀ b, clk * 8000 ≤ b → H b = none → ρ b = none

theorem RelB.mono {ρ ρ' : Rho} {w w' : World} {Im Im' : Nat → Prop} {β : Bi} {B : Blk} (h : RelB ρ w Im β B) (he : Ext Im w w') (hi : ∀ g, Im g → Im' g)
    (hρ : ∀ b β, ρ b = some β → ρ' b = some β) (hb : ∀ b β g, ρ b = some β → β.g = some g → g < w.heap.size)
    (hg : ∀ g, β.g = some g → w'.heap[g]? = w.heap[g]?) : RelB ρ' w' Im' β B := by
  cases B with
  | box ty cells =>
    obtain ⟨h0, h00, g, cs, h1, h2, h3, h3', h4⟩ := h
    exact ⟨h0, h00, g, cs, h1, by rw [hg g h1]; exact h2, h3, h3', fun o a v ha hv => (h4 o a v ha hv).mono he hi hρ hb⟩
  | arr ty s els =>
    obtain ⟨h0, h1, hb', h2, h3⟩ := h
    refine ⟨h0, h1, hb', h2, h3.imp id fun ⟨g, cs, h4, h5, h6, h7⟩ => ⟨g, cs, h4, by rw [hg g h4]; exact h5, h6, fun i e o x hx hy => ?_⟩⟩
    obtain ⟨v, h8, h9⟩ := h7 i e o x hx hy
    exact ⟨v, h8, h9.mono he hi⟩
  | dead => trivial

/-- The frame. -/
structure RelT (ρ : Rho) (w : World) (Im : Nat → Prop) (tmps : List AV) (a : Act) : Prop where
  size : a.tmps.size = tmps.length
  tmp : ∀ (i : Nat) (x : AV) (v : Value), tmps[i]? = some x → a.tmps[i]? = some v → Rel ρ w Im x v
  defers : a.defers = []

theorem RelT.mono {ρ ρ' : Rho} {w w' : World} {Im Im' : Nat → Prop} {tmps : List AV} {a : Act} (h : RelT ρ w Im tmps a) (he : Ext Im w w') (hi : ∀ g, Im g → Im' g)
    (hρ : ∀ b β, ρ b = some β → ρ' b = some β) (hb : ∀ b β g, ρ b = some β → β.g = some g → g < w.heap.size) : RelT ρ' w' Im' tmps a :=
  ⟨h.size, fun i x v h1 h2 => (h.tmp i x v h1 h2).mono he hi hρ hb, h.defers⟩

theorem RelT.put {ρ : Rho} {w : World} {Im : Nat → Prop} {tmps : List AV} {a : Act} (h : RelT ρ w Im tmps a) (t : Nat) {x : AV} {v : Value} (hx : Rel ρ w Im x v) :
    RelT ρ w Im (tmps.set t x) (a.put (some t) v) := by
  refine ⟨by simp [Act.put, h.size], fun i y u h1 h2 => ?_, h.defers⟩
  simp only [Act.put, Array.getElem?_setIfInBounds] at h2
  rw [List.getElem?_set] at h1
  by_cases hi : t = i
  · subst hi
    simp only [if_true] at h1 h2
    split at h1 <;> split at h2 <;> simp_all
  · simp only [hi, if_false] at h1 h2
    exact h.tmp i y u h1 h2

theorem RelT.put_none {ρ : Rho} {w : World} {Im : Nat → Prop} {tmps : List AV} {a : Act} (h : RelT ρ w Im tmps a) (v : Value) : RelT ρ w Im tmps (a.put none v) := h

end Go.Sx
