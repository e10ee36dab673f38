/-
  The operations of the symbolic executor that make no call, each proved against the model.
  Conditions: none.
-/
import Derived.Test.YtkeimadhboefbaaSxB
namespace Go.Sx

/-- What an operation gives: its value, the block that it makes or turns, what it owes. -/
structure Res where
  val : AV
  up : Option (Nat × Blk)
  ph : List Prop

def Res.heap (r : Res) (H : Heap) : Heap := match r.up with | none => H | some (k, B) => updH H k B

def szOf (P : Program) (t : Nat) : Nat := match P.info? t with | some i => i.size | none => 0
def zeroOf (P : Program) (t : Nat) : Option Value := match P.info? t with | some i => i.zero | none => none
def bytesOf (P : Program) (t : Nat) : Nat := match P.info? t with | some i => i.bytes | none => 0
def isAggB (P : Program) (t : Nat) : Option Bool := match P.underlying t with | some (.struct _) => some true | some (.array _ _) => some true | some _ => some false | none => none

/-- What every operation's proof is handed and what it hands back. -/
abbrev Sound (P : Program) (o : Oper) (id : Nat) (E : Operand → AV) (H : Heap) (r : Res) : Prop :=
  ∀ (Ow Im0 : Nat → Prop) (w0 : World) (ρ : Rho) (w : World) (Im : Nat → Prop) (clk : Nat) (a : Act), Inv Ow Im0 w0 ρ w Im H clk → clk * 8000 ≤ id → H id = none →
    (∀ x, Rel ρ w Im (E x) (a.eval x)) → allP r.ph → Goes P o a w fun v w' => Then Ow Im0 w0 ρ w Im clk (r.heap H) r.val v w'

theorem Then.same {Ow Im0 : Nat → Prop} {w0 : World} {ρ : Rho} {w : World} {Im : Nat → Prop} {clk : Nat} {H : Heap} {x : AV} {v : Value}
    (I : Inv Ow Im0 w0 ρ w Im H clk) (h : Rel ρ w Im x v) : Then Ow Im0 w0 ρ w Im clk H x v w := ⟨ρ, I, Ext.refl _ _, fun _ _ h => h, h⟩

/-- A value is laid in a new block of its own. -/
theorem Then.box {Ow Im0 : Nat → Prop} {w0 : World} {ρ : Rho} {w : World} {Im : Nat → Prop} {clk : Nat} {H : Heap} {id ty : Nat} {x : AV} {v : Value} {l : List AV}
    (I : Inv Ow Im0 w0 ρ w Im H clk) (hid : clk * 8000 ≤ id) (hH : H id = none) (h : Rel ρ w Im x v) (hl : x.cells = some l) :
    Then Ow Im0 w0 ρ w Im clk (updH H id (.box ty l)) (.pt id 0 0) (.pointer (some ⟨w.heap.size, 0, none⟩)) (w.alloc (.cells v.cells ty)) := by
  obtain ⟨h1, h2, h3⟩ := h.cells hl
  have hsub := updR_sub (β := ⟨some w.heap.size, l.length, 1⟩) (I.fresh id hid hH)
  have he := Ext.alloc Im w (.cells v.cells ty) I.imb
  refine ⟨updR ρ id ⟨some w.heap.size, l.length, 1⟩, I.add id hid hH _ _ _ _ _ ?_, he, hsub, ?_⟩
  · exact ⟨rfl, rfl, w.heap.size, v.cells, rfl, heap_alloc_new _ _, h1, h3, fun o a u ha hu => (h2 o a u ha hu).mono he (fun _ h => h) hsub I.bnd⟩
  · have := Rel.pt (ρ := updR ρ id ⟨some w.heap.size, l.length, 1⟩) (w := w.alloc (.cells v.cells ty)) (Im := Im) (i := 0) (o := 0) (updR_same ρ id ⟨some w.heap.size, l.length, 1⟩)
    simpa using this

def actMove (x : AV) : Res := ⟨x, none, []⟩
theorem sound_move {P : Program} {o : Oper} {id : Nat} {E : Operand → AV} {H : Heap} {x : Operand} (ho : o.op = .move x ∨ o.op = .assign x) : Sound P o id E H (actMove (E x)) := by
  intro Ow Im0 w0 ρ w Im clk a I _ _ hE _
  refine .inl ⟨a.eval x, w, ?_, .same I (hE x)⟩
  rcases ho with ho | ho <;> simp [execOp, ho]

/-- A nil slice taken as a slice of the call's own. -/
def actOwn (P : Program) (t id : Nat) : Option Res := match P.underlying t with | some (.slice e) => some ⟨.ow id, some (id, .arr e (szOf P e) []), []⟩ | _ => none
theorem sound_own {P : Program} {o : Oper} {id : Nat} {E : Operand → AV} {H : Heap} {r : Res} (ho : o.op = .assign (.const (.slice none 0 0))) (h : actOwn P o.type id = some r) : Sound P o id E H r := by
  intro Ow Im0 w0 ρ w Im clk a I hid hH _ _
  unfold actOwn at h
  split at h
  · rename_i e he
    cases h
    have hn := I.fresh id hid hH
    have hsub := updR_sub (β := ⟨none, szOf P e, 0⟩) hn
    refine .inl ⟨.slice none 0 0, w, by simp [execOp, ho, Act.eval], updR ρ id ⟨none, szOf P e, 0⟩, ?_, Ext.refl _ _, hsub, ?_⟩
    · refine ⟨I.kept, ?_, ?_, ?_, ?_, I.imb, I.im0, ?_, ?_⟩
      · intro b b' β β' g l1 l2 h1 h2 h3 h4
        unfold updR at h1 h2
        split at h1 <;> split at h2
        · omega
        · cases h1; cases h3
        · cases h2; cases h4
        · exact I.inj b b' β β' g (live_upd l1 ‹_›) (live_upd l2 ‹_›) h1 h2 h3 h4
      · intro b β g l h h'
        unfold updR at h
        split at h
        · cases h; cases h'
        · exact I.notIm b β g (live_upd l ‹_›) h h'
      · intro b β g h h'
        unfold updR at h
        split at h
        · cases h; cases h'
        · exact I.bnd b β g h h'
      · intro b β g h h'
        unfold updR at h
        split at h
        · cases h; cases h'
        · exact I.own b β g h h'
      · intro b B h
        simp only [Res.heap] at h
        unfold updH at h
        split at h
        · cases h; rename_i hb; exact ⟨_, by rw [hb]; exact updR_same _ _ _, rfl, rfl, by simp [big], by simp, .inl ⟨rfl, rfl⟩⟩
        · obtain ⟨β, h1, h2⟩ := I.blk b B h
          exact ⟨β, hsub _ _ h1, h2.mono (Ext.refl _ _) (fun _ h => h) hsub I.bnd (fun _ _ => rfl)⟩
      · intro b hb h
        simp only [Res.heap] at h
        unfold updH at h
        unfold updR
        split
        · rename_i hbi; simp [hbi] at h
        · rename_i hbi; simp only [hbi, if_false] at h; exact I.fresh b hb h
    · have := Rel.ow (ρ := updR ρ id ⟨none, szOf P e, 0⟩) (w := w) (Im := Im) (c := 0) (a := none) (updR_same ρ id ⟨none, szOf P e, 0⟩) (Nat.le_refl _) (by simp [big]) (.inl rfl)
      exact this
  · cases h

def actAlloc (P : Program) (t id : Nat) : Option Res := match zeroOf P t with
  | some z => match (cv z).cells with
    | some l => some ⟨.pt id 0 0, some (id, .box t l), []⟩
    | none => none
  | none => none
theorem sound_alloc {P : Program} {o : Oper} {id t : Nat} {E : Operand → AV} {H : Heap} {r : Res} (ho : o.op = .alloc t) (h : actAlloc P t id = some r) : Sound P o id E H r := by
  intro Ow Im0 w0 ρ w Im clk a I hid hH _ _
  unfold actAlloc at h
  split at h
  · rename_i z hz
    split at h
    · rename_i l hl
      cases h
      refine .inl ⟨_, _, ?_, Then.box I hid hH (cv_rel ρ w Im z) hl⟩
      unfold zeroOf at hz
      split at hz
      · rename_i i hi
        simp [execOp, ho, Instr.alloc, zeroValue, typeInfo, hi, hz, newVar, newRow]
      · cases hz
    · cases h
  · cases h

def actBox (t id : Nat) (x : AV) : Option Res := match x.cells with | some l => some ⟨.pt id 0 0, some (id, .box t l), []⟩ | none => none
theorem sound_box {P : Program} {o : Oper} {id t : Nat} {E : Operand → AV} {H : Heap} {r : Res} {x : Operand} (ho : o.op = .box t x) (h : actBox t id (E x) = some r) : Sound P o id E H r := by
  intro Ow Im0 w0 ρ w Im clk a I hid hH hE _
  unfold actBox at h
  split at h
  · rename_i l hl
    cases h
    exact .inl ⟨_, _, by simp [execOp, ho, Instr.box, newVar, newRow], Then.box I hid hH (hE x) hl⟩
  · cases h

/-! Loads -/
def seg (l : List AV) (o k : Nat) : List AV := (l.drop o).take k
/-- The value of type t at offset o of a row of cells. -/
def pick1 (P : Program) (t : Nat) (l : List AV) (o : Nat) : Option AV :=
  match isAggB P t with
  | some true => if (seg l o (szOf P t)).length = szOf P t then some (.ag (seg l o (szOf P t))) else none
  | some false => l[o]?
  | none => none

theorem isAgg_run {P : Program} {t : Nat} {b : Bool} (h : isAggB P t = some b) (w : World) : (isAgg t).run P w = .ok b w := by
  unfold isAggB at h
  split at h
  · rename_i fs hu; cases h; simp [isAgg, run_underlying hu]
  · rename_i n e hu; cases h; simp [isAgg, run_underlying hu]
  · rename_i d h1 h2 hu; cases h
    simp only [isAgg, Sem.run_bind, run_underlying hu, Result.andThen_ok]
    cases d <;> first | rfl | (exfalso; first | exact h1 _ rfl | exact h2 _ _ rfl)
  · cases h

theorem size_run {P : Program} {t : Nat} {n : Nat} (h : szOf P t = n) (hn : n ≠ 0) (w : World) : (sizeOf t).run P w = .ok n w := by
  unfold szOf at h
  split at h
  · rename_i i hi; subst h; simp [sizeOf, typeInfo, hi]
  · omega

/-- A load out of a row of cells that are known. -/
theorem run_loadVar_cells {P : Program} {w : World} {t : Nat} {g off : Nat} {l : List AV} {o : Nat} {x : AV} {ρ : Rho} {Im : Nat → Prop}
    (hc : ∀ (j : Nat) (a : AV), l[j]? = some a → ∃ v, w.cell? ⟨g, off + j, none⟩ = some v ∧ v.oneCell' = true ∧ Rel ρ w Im a v) (hx : pick1 P t l o = some x) :
    ∃ v, (loadVar t ⟨g, off + o, none⟩).run P w = .ok v w ∧ Rel ρ w Im x v := by
  unfold pick1 at hx
  split at hx
  · rename_i hagg
    split at hx
    · rename_i hlen
      cases hx
      have hex : ∀ j, j < szOf P t → ∃ v, w.cell? ⟨g, off + o + j, none⟩ = some v ∧ v.oneCell' = true ∧ ∀ a, (seg l o (szOf P t))[j]? = some a → Rel ρ w Im a v := by
        intro j hj
        have h1 : (seg l o (szOf P t))[j]? = l[o + j]? := by simp [seg, hj]
        have h2 : j < (seg l o (szOf P t)).length := by omega
        have h3 : l[o + j]? = some (seg l o (szOf P t))[j] := by rw [← h1]; exact List.getElem?_eq_getElem h2
        obtain ⟨v, k1, k2, k3⟩ := hc (o + j) _ h3
        refine ⟨v, by rw [Nat.add_assoc]; exact k1, k2, fun a ha => ?_⟩
        rw [h1, h3] at ha
        cases ha
        exact k3
      have hval : ∀ j, j < szOf P t → w.cell? ((⟨g, off + o, none⟩ : Addr).add j) = some ((w.cell? ⟨g, off + o + j, none⟩).getD undef) := by
        intro j hj
        obtain ⟨v, k1, _⟩ := hex j hj
        rw [Addr.add_lit, k1]; rfl
      have hrun := run_loadCells (P := P) w ⟨g, off + o, none⟩ (szOf P t) (fun j => (w.cell? ⟨g, off + o + j, none⟩).getD undef) hval
      refine ⟨.agg _, ?_, .ag _ (((List.range (szOf P t)).map fun j => (w.cell? ⟨g, off + o + j, none⟩).getD undef).toArray) ?_ ?_ ?_⟩
      · have hs : (sizeOf t).run P w = .ok (szOf P t) w := by
          unfold isAggB at hagg
          unfold szOf
          cases hi : P.info? t with
          | none => simp [Program.underlying, hi] at hagg
          | some i => simp [sizeOf, typeInfo, hi]
        simp [loadVar, isAgg_run hagg, hs, hrun]
      · simp [hlen]
      · intro i v hv
        simp only [List.getElem?_toArray, List.getElem?_map] at hv
        by_cases hi : i < szOf P t
        · obtain ⟨u, k1, k2, _⟩ := hex i hi
          simp [hi, k1] at hv
          subst hv; exact k2
        · simp [hi] at hv
      · intro i a v ha hv
        simp only [List.getElem?_toArray, List.getElem?_map] at hv
        by_cases hi : i < szOf P t
        · obtain ⟨u, k1, _, k3⟩ := hex i hi
          simp [hi, k1] at hv
          subst hv; exact k3 a ha
        · simp [hi] at hv
    · cases hx
  · rename_i hagg
    obtain ⟨v, k1, k2, k3⟩ := hc o x hx
    exact ⟨v, by simp [loadVar, isAgg_run hagg, k1], k3⟩
  · cases hx

def dvs (e : List DV) : List AV := e.map .d

def actLoad (P : Program) (t : Nat) (hs : List Hint) (x : AV) (H : Heap) : Option Res :=
  match x with
  | .pt b i o => match H b with
    | some (.box _ l) => match i with
      | 0 => (pick1 P t l o).map fun x => ⟨x, none, []⟩
      | _ + 1 => none
    | some (.arr _ _ els) => match hs with
      | .el e :: _ => (pick1 P t (dvs e) o).map fun x => ⟨x, none, [els[i]? = some e]⟩
      | _ => none
    | _ => none
  | .rp e o => (pick1 P t (dvs e) o).map fun x => ⟨x, none, []⟩
  | _ => none

theorem rel_ptr {ρ : Rho} {w : World} {Im : Nat → Prop} {b i o : Nat} {v : Value} (h : Rel ρ w Im (.pt b i o) v) : ∃ g s n, ρ b = some ⟨some g, s, n⟩ ∧ v = .pointer (some ⟨g, i * s + o, none⟩) := by
  cases h; exact ⟨_, _, _, ‹_›, rfl⟩

theorem mul_succ_le {i s o n m : Nat} (hi : i < n) (ho : o < s) (h : n * s ≤ m) : i * s + o < m := by
  have : (i + 1) * s ≤ n * s := Nat.mul_le_mul_right s hi
  rw [Nat.add_mul] at this
  omega

theorem load_run {P : Program} {t : Nat} {H : Heap} {r : Res} {x : AV} {xv : Value} {hs : List Hint} {Ow Im0 : Nat → Prop} {w0 : World} {ρ : Rho} {w : World} {Im : Nat → Prop} {clk : Nat}
    (I : Inv Ow Im0 w0 ρ w Im H clk) (hx : Rel ρ w Im x xv) (h : actLoad P t hs x H = some r) (hph : allP r.ph) : ∃ p v, xv = .pointer (some p) ∧ (loadVar t p).run P w = .ok v w ∧ Rel ρ w Im r.val v ∧ r.up = none := by
  have fin : ∀ (g off oo : Nat) (l : List AV) (y : AV), xv = .pointer (some ⟨g, off + oo, none⟩) → pick1 P t l oo = some y →
      (∀ (j : Nat) (a : AV), l[j]? = some a → ∃ v, w.cell? ⟨g, off + j, none⟩ = some v ∧ v.oneCell' = true ∧ Rel ρ w Im a v) →
      ∃ p v, xv = .pointer (some p) ∧ (loadVar t p).run P w = .ok v w ∧ Rel ρ w Im y v ∧ (none : Option (Nat × Blk)) = none := by
    intro g off oo l y hv hp hc
    obtain ⟨v, k1, k2⟩ := run_loadVar_cells hc hp
    exact ⟨_, v, hv, k1, k2, rfl⟩
  unfold actLoad at h
  split at h
  · rename_i b i oo
    obtain ⟨g, s, n, hρ, hv⟩ := rel_ptr hx
    split at h
    · rename_i ty l hb
      split at h
      · simp only [Option.map_eq_some_iff] at h
        obtain ⟨y, hy, rfl⟩ := h
        obtain ⟨β, h1, h2⟩ := I.blk b _ hb
        rw [hρ] at h1; cases h1
        obtain ⟨_, _, g', cs, hg, hw, hsz, hone, hcell⟩ := h2
        cases hg
        refine fin g 0 oo l y (by simpa using hv) hy fun j a' ha => ?_
        have hj : j < cs.size := by rw [hsz]; exact (List.getElem?_eq_some_iff.1 ha).1
        exact ⟨cs[j], by simp [World.cell?, hw, hj], hone j _ (by simp [hj]), hcell j a' _ ha (by simp [hj])⟩
      · cases h
    · rename_i ty s' els hb
      split at h
      · rename_i e _
        simp only [Option.map_eq_some_iff] at h
        obtain ⟨y, hy, rfl⟩ := h
        have hel : els[i]? = some e := by simpa [allP] using hph
        obtain ⟨β, h1, h2⟩ := I.blk b _ hb
        rw [hρ] at h1; cases h1
        obtain ⟨hs', hn', _, hlen, h3⟩ := h2
        simp only at hs' hn'
        subst hs'
        rcases h3 with ⟨h3, _⟩ | ⟨g', cs, hg, hw, hsz, hcell⟩
        · cases h3
        cases hg
        refine fin g (i * s) oo (dvs e) y hv hy fun j a' ha => ?_
        simp only [dvs, List.getElem?_map, Option.map_eq_some_iff] at ha
        obtain ⟨d, hd, rfl⟩ := ha
        obtain ⟨v, k1, k2⟩ := hcell i e j d hel hd
        have hj : i * s + j < cs.size := (Array.getElem?_eq_some_iff.1 k1).1
        exact ⟨v, by simp [World.cell?, hw, k1], k2.one, .d k2⟩
      · cases h
    · cases h
  · rename_i e oo
    simp only [Option.map_eq_some_iff] at h
    obtain ⟨y, hy, rfl⟩ := h
    cases hx with
    | rp hp him hc =>
      rename_i p
      refine fin p.block p.off oo (dvs e) y rfl hy fun j a' ha => ?_
      simp only [dvs, List.getElem?_map, Option.map_eq_some_iff] at ha
      obtain ⟨d, hd, rfl⟩ := ha
      obtain ⟨v, k1, k2⟩ := hc j d hd
      exact ⟨v, k1, k2.one, .d k2⟩
  · cases h

theorem sound_load {P : Program} {o : Oper} {id t : Nat} {E : Operand → AV} {H : Heap} {r : Res} {x : Operand} {hs : List Hint} (ho : o.op = .load t x) (h : actLoad P t hs (E x) H = some r) : Sound P o id E H r := by
  intro Ow Im0 w0 ρ w Im clk a I hid hH hE hph
  obtain ⟨p, v, h1, h2, h3, h4⟩ := load_run I (hE x) h hph
  have : r.heap H = H := by simp [Res.heap, h4]
  rw [this]
  exact .inl ⟨v, w, by simp [execOp, ho, Instr.loadAt, Instr.sureAddr, h1, h2], .same I h3⟩

end Go.Sx
