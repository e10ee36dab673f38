/-
  Slice literals, copy and append: operations of the symbolic executor.
  Conditions: none.
-/
import Derived.Test.YtkeimadhboefbaaSxH
namespace Go.Sx

/-- One element of a row is written anew. -/
theorem relE_set {w : World} {Im : Nat → Prop} {s : Nat} {els : List (List DV)} {cs cs' : Array Value} {i : Nat} {ds : List DV} {u : Array Value} (h : RelE w Im s els cs) (hi : i < els.length) (hd : ds.length = s) (hu : u.size = s)
    (hr : ∀ (j : Nat) (x : DV) (v : Value), ds[j]? = some x → u[j]? = some v → RelD w Im x v) (hone : ∀ (j : Nat) (v : Value), u[j]? = some v → v.oneCell' = true) (hsz : cs'.size = cs.size)
    (hget : ∀ j, cs'[j]? = if j < i * s then cs[j]? else if j < i * s + u.size then u[j - i * s]? else cs[j]?) : RelE w Im s (els.set i ds) cs' := by
  obtain ⟨h1, h2, h3, h4⟩ := h
  refine ⟨fun e he => ?_, by simpa [hsz] using h2, fun j v hv hj => ?_, fun k e o x hk ho => ?_⟩
  · rcases List.mem_or_eq_of_mem_set he with h | h
    · exact h1 e h
    · rw [h]; exact hd
  · simp only [List.length_set] at hj
    rw [hget] at hv
    split at hv
    · exact h3 j v hv hj
    · split at hv
      · exact hone _ v hv
      · exact h3 j v hv hj
  · rw [List.getElem?_set] at hk
    by_cases hki : i = k
    · subst hki
      simp only [if_true, hi] at hk
      cases hk
      have hos : o < s := by rw [← hd]; exact (List.getElem?_eq_some_iff.1 ho).1
      have hou : o < u.size := by omega
      refine ⟨u[o], ?_, hr o x _ ho (Array.getElem?_eq_getElem hou)⟩
      rw [hget, if_neg (by omega), if_pos (by omega), show i * s + o - i * s = o from by omega]
      exact Array.getElem?_eq_getElem hou
    · simp only [hki, if_false] at hk
      obtain ⟨v, k1, k2⟩ := h4 k e o x hk ho
      have hes : e.length = s := h1 e (List.mem_of_getElem? hk)
      have hos : o < s := by rw [← hes]; exact (List.getElem?_eq_some_iff.1 ho).1
      refine ⟨v, ?_, k2⟩
      rw [hget]
      rcases Nat.lt_or_ge k i with hlt | hge
      · have : (k + 1) * s ≤ i * s := Nat.mul_le_mul_right s hlt
        rw [Nat.add_mul] at this
        rw [if_pos (by omega)]; exact k1
      · have : (i + 1) * s ≤ k * s := Nat.mul_le_mul_right s (by omega)
        rw [Nat.add_mul] at this
        rw [if_neg (by omega), if_neg (by omega)]; exact k1

def fillE (s : Nat) (els : List (List DV)) : List (Nat × AV) → Option (List (List DV))
  | [] => some els
  | (i, x) :: r => match x.cells with
    | some xs => match undvs xs with
      | some ds => if ds.length = s ∧ i < els.length then fillE s (els.set i ds) r else none
      | none => none
    | none => none

theorem fillE_rel {ρ : Rho} {w : World} {Im : Nat → Prop} {s : Nat} : ∀ {parts : List (Nat × AV)} {vals : List (Nat × Value)} {els els' : List (List DV)} {cs : Array Value},
    parts.length = vals.length → (∀ (k : Nat) (p : Nat × AV) (q : Nat × Value), parts[k]? = some p → vals[k]? = some q → p.1 = q.1 ∧ Rel ρ w Im p.2 q.2) → RelE w Im s els cs → cs.size = els.length * s → fillE s els parts = some els' →
    ∃ cs', Instr.fill (fun i => some (i * s, s)) cs vals = some cs' ∧ RelE w Im s els' cs' ∧ cs'.size = els'.length * s ∧ els'.length = els.length
  | [], vals, els, els', cs, hn, _, hr, hz, h => by
    cases vals with
    | nil => simp [fillE] at h; subst h; exact ⟨cs, rfl, hr, hz, rfl⟩
    | cons _ _ => simp at hn
  | (i, x) :: parts, vals, els, els', cs, hn, hp, hr, hz, h => by
    cases vals with
    | nil => simp at hn
    | cons q vals =>
      obtain ⟨i', v⟩ := q
      obtain ⟨h1, h2⟩ := hp 0 _ _ rfl rfl
      simp only at h1 h2
      subst h1
      simp only [fillE] at h
      split at h
      rotate_left
      · cases h
      rename_i xs hxs
      split at h
      rotate_left
      · cases h
      rename_i ds hds
      split at h
      rotate_left
      · cases h
      rename_i hc
      obtain ⟨c1, c2, c3⟩ := h2.cells hxs
      have hxd := undvs_spec hds
      have hvs : v.cells.size = s := by rw [c1, hxd]; simp [dvs, hc.1]
      have hfit : i * s + v.cells.size ≤ cs.size := by
        have : (i + 1) * s ≤ els.length * s := Nat.mul_le_mul_right s hc.2
        rw [Nat.add_mul] at this; omega
      have key := fold_cells v (i * s) cs hfit
      have hrel := relE_set hr hc.2 hc.1 hvs (fun j y u hy hu => by
        have : xs[j]? = some (.d y) := by rw [hxd]; simp [dvs, hy]
        cases c2 j _ u this hu with
        | d h => exact h) c3 key.1 key.2
      obtain ⟨cs', h3, h4, h5, h6⟩ := fillE_rel (ρ := ρ) (by simpa using hn) (fun k p q hk hq => hp (k + 1) p q (by simpa using hk) (by simpa using hq)) hrel (by rw [key.1, hz]; simp) h
      refine ⟨cs', ?_, h4, h5, by rw [h6]; simp⟩
      simp only [Instr.fill]
      rw [if_neg (by simp; omega)]
      exact h3

def actBuildSlice (P : Program) (t len id : Nat) (hs : List Hint) (parts : List (Nat × AV)) : Option Res :=
  match elemOfSl P t with
  | none => none
  | some e => match zeroEl P e with
    | none => none
    | some zs => match szOf P e with
      | 0 => none
      | s + 1 => if zs.length = s + 1 ∧ len * (s + 1) ≤ 16777216 then
        match fillE (s + 1) (List.replicate len zs) parts with
        | some els => match hs with
          | .els l' :: _ => some ⟨.ow id, some (id, .arr e (s + 1) l'), [els = l']⟩
          | _ => some ⟨.ow id, some (id, .arr e (s + 1) els), []⟩
        | none => none
        else none

theorem sound_buildSlice {P : Program} {o : Oper} {id : Nat} {E : Operand → AV} {H : Heap} {r : Res} {t len : Nat} {parts : Array (Nat × Operand)} {hs : List Hint}
    (ho : o.op = .buildSlice t len parts) (h : actBuildSlice P t len id hs (parts.toList.map fun p => (p.1, E p.2)) = some r) : Sound P o id E H r := by
  intro Ow Im0 w0 ρ w Im clk a I hid hH hE hph
  unfold actBuildSlice at h
  split at h
  · cases h
  rename_i e he
  split at h
  · cases h
  rename_i zs hzs
  split at h
  · cases h
  rename_i s hsz
  split at h
  rotate_left
  · cases h
  rename_i hlen
  split at h
  rotate_left
  · cases h
  rename_i els hels
  have fin : Goes P o a w fun v w' => Then Ow Im0 w0 ρ w Im clk (updH H id (.arr e (s + 1) els)) (.ow id) v w' := by
    unfold zeroEl at hzs
    split at hzs
    rotate_left
    · cases hzs
    rename_i z hz
    split at hzs
    rotate_left
    · cases hzs
    rename_i l hl
    have hzr := zero_run (P := P) hz w
    unfold elemOfSl at he
    split at he
    rotate_left
    · cases he
    rename_i e' hu
    cases he
    have hsr : (sizeOf e).run P w = .ok (s + 1) w := size_run hsz (by simp) w
    have hcell := relE_zero (w := w) (Im := Im) len hl hzs hlen.1
    have hparts : ∀ (k : Nat) (p : Nat × AV) (q : Nat × Value), (parts.toList.map fun p => (p.1, E p.2))[k]? = some p → (parts.toList.map fun p => (p.1, a.eval p.2))[k]? = some q → p.1 = q.1 ∧ Rel ρ w Im p.2 q.2 := by
      intro k p q hp hq
      simp only [List.getElem?_map, Option.map_eq_some_iff] at hp hq
      obtain ⟨x, hx, rfl⟩ := hp
      obtain ⟨y, hy, rfl⟩ := hq
      rw [hx] at hy; cases hy
      exact ⟨rfl, hE _⟩
    obtain ⟨cs, h1, h2, h3, h4⟩ := fillE_rel (ρ := ρ) (vals := parts.toList.map fun p => (p.1, a.eval p.2)) (by simp) hparts hcell (by simp) hels
    have hl' : els.length = len := by rw [h4]; simp
    have hle : len ≤ len * (s + 1) := Nat.le_mul_of_pos_right _ (by omega)
    have := Then.arr (ty := e) (c := els.length) I hid hH h2 (by simp [big]; omega) (Nat.le_refl _) (by omega)
    refine .inl ⟨.slice (some ⟨w.heap.size, 0, none⟩) els.length els.length, w.alloc (.cells cs e), ?_, this⟩
    have tl : ¬ (len * (s + 1) > 2 ^ 24) := by omega
    have hpl : (parts.map fun x => (x.1, a.eval x.2)).toList = parts.toList.map fun p => (p.1, a.eval p.2) := by simp
    have mk : (Instr.buildSlice t len (parts.map fun x => (x.1, a.eval x.2))).run P w = .ok (.slice (some ⟨w.heap.size, 0, none⟩) els.length els.length) (w.alloc (.cells cs e)) := by
      unfold Instr.buildSlice
      rw [hpl]
      simp only [Sem.run_bind, run_underlying hu, Result.andThen_ok, hsr, tl, if_false]
      by_cases hc0 : len * (s + 1) = 0
      · rw [hc0] at h1
        simp only [Array.range_zero', Array.map_empty] at h1
        simp only [hc0, if_true, Sem.run_bind, Sem.run_pure, Result.andThen_ok, Array.range_zero', Array.map_empty]
        rw [h1]
        simp [newRow, hl']
      · simp only [hc0, if_false, Sem.run_bind, hzr, Result.andThen_ok, Sem.run_pure]
        rw [h1]
        simp [newRow, hl']
    simp only [execOp, ho]
    simp only [Sem.run_bind, mk, Result.andThen_ok, Sem.run_pure]
  split at h
  · rename_i l' _
    cases h
    have p2 : els = l' := by simpa [allP] using hph
    rw [← p2]; exact fin
  · cases h
    exact fin

/-! What a slice reads as -/
def content (H : Heap) : AV → Option (Nat × List (List DV))
  | .d (.sl s els) => some (s, els)
  | .ow b => match H b with | some (.arr _ s els) => some (s, els) | _ => none
  | .os b o n => match H b with | some (.arr _ s els) => some (s, (els.drop o).take n) | _ => none
  | _ => none

theorem content_spec {Ow Im0 : Nat → Prop} {w0 : World} {ρ : Rho} {w : World} {Im : Nat → Prop} {H : Heap} {clk : Nat} {x : AV} {v : Value} {s : Nat} {els : List (List DV)}
    (I : Inv Ow Im0 w0 ρ w Im H clk) (hx : Rel ρ w Im x v) (h : content H x = some (s, els)) : ∃ p c, v = .slice p els.length c ∧ els.length ≤ big ∧ els.length ≤ c ∧ (els ≠ [] → ∀ e ∈ els, e.length = s) ∧ (els = [] ∨ ∃ q, p = some q ∧ q.spot = none ∧
      ∀ (i : Nat) (e : List DV) (o : Nat) (y : DV), els[i]? = some e → e[o]? = some y → ∃ u, w.cell? ⟨q.block, q.off + (i * s + o), none⟩ = some u ∧ RelD w Im y u) := by
  unfold content at h
  split at h
  · cases h
    cases hx with
    | d hx =>
      cases hx with
      | slNil s p c => exact ⟨p, c, rfl, by simp, by simp, by simp, .inl rfl⟩
      | sl s els p n c f hn hc hb hs hp him hcell hrel =>
        subst hn
        exact ⟨some p, c, rfl, hb, hc, fun _ => hs, .inr ⟨p, rfl, hp, fun i e o y hi ho => ⟨f i o, hcell i e o y hi ho, hrel i e o y hi ho⟩⟩⟩
  · split at h
    rotate_left
    · cases h
    rename_i b _ ty s' els' hb
    cases h
    cases hx with
    | ow hρ hc hbg ha =>
      rename_i c ad β
      obtain ⟨β', h1, h2⟩ := I.blk b _ hb
      rw [hρ] at h1; cases h1
      obtain ⟨g1, g2, _, g3, g4⟩ := h2
      refine ⟨ad, c, by rw [g2], by omega, by omega, fun _ => g3, ?_⟩
      by_cases he : els = []
      · exact .inl he
      · right
        have hpos : 0 < els.length := List.length_pos_iff.2 he
        rcases g4 with ⟨_, g4⟩ | ⟨g, cs, hg, hw, hsz, hcell⟩
        · exact absurd g4 he
        rcases ha with ha | ⟨g', hg', rfl, _⟩
        · omega
        rw [hg] at hg'; cases hg'
        refine ⟨⟨g, 0, none⟩, rfl, rfl, fun i e o y hi ho => ?_⟩
        obtain ⟨u, k1, k2⟩ := hcell i e o y hi ho
        exact ⟨u, by simp [World.cell?, hw, k1], k2⟩
  · split at h
    rotate_left
    · cases h
    rename_i b oo m _ ty s' els' hb
    cases h
    cases hx with
    | os hρ hn hc hbg ha =>
      rename_i c ad β
      obtain ⟨β', h1, h2⟩ := I.blk b _ hb
      rw [hρ] at h1; cases h1
      obtain ⟨g1, g2, _, g3, g4⟩ := h2
      have hl : ((els'.drop oo).take m).length = m := by simp; omega
      refine ⟨ad, c, by rw [hl], by omega, by omega, fun _ e he => g3 e (List.mem_of_mem_drop (List.mem_of_mem_take he)), ?_⟩
      by_cases he : (els'.drop oo).take m = []
      · exact .inl he
      · right
        have hpos : 0 < m := by
          rw [← hl]; exact List.length_pos_iff.2 he
        rcases g4 with ⟨_, g4⟩ | ⟨g, cs, hg, hw, hsz, hcell⟩
        · subst g4; simp at he
        rcases ha with ha | ⟨g', hg', rfl, _⟩
        · omega
        rw [hg] at hg'; cases hg'
        refine ⟨⟨g, oo * β.s, none⟩, rfl, rfl, fun i e o y hi ho => ?_⟩
        have hi' : els'[oo + i]? = some e := by
          rw [List.getElem?_take] at hi
          split at hi
          · rwa [List.getElem?_drop] at hi
          · cases hi
        obtain ⟨u, k1, k2⟩ := hcell (oo + i) e o y hi' ho
        refine ⟨u, ?_, k2⟩
        rw [Nat.add_mul] at k1
        simp only [World.cell?, hw, g1]
        simpa [Nat.add_assoc] using k1
  · cases h

/-- The cells of such a slice, read in one go. -/
theorem firstCells_run {P : Program} {w : World} {Im : Nat → Prop} {s : Nat} {els : List (List DV)} {p : Option Addr} {n c : Nat} (hs0 : 0 < s) (hlen : els ≠ [] → ∀ e ∈ els, e.length = s)
    (h : els = [] ∨ ∃ q, p = some q ∧ q.spot = none ∧ ∀ (i : Nat) (e : List DV) (o : Nat) (y : DV), els[i]? = some e → e[o]? = some y → ∃ u, w.cell? ⟨q.block, q.off + (i * s + o), none⟩ = some u ∧ RelD w Im y u) :
    ∃ cs, (Builtin.firstCells s els.length (.slice p n c)).run P w = .ok cs w ∧ RelE w Im s els cs ∧ cs.size = els.length * s := by
  rcases h with h | ⟨q, rfl, hq, h⟩
  · subst h
    refine ⟨#[], ?_, ⟨by simp, by simp, by simp, by simp⟩, by simp⟩
    cases p with
    | none => simp [Builtin.firstCells]
    | some q => simp [Builtin.firstCells, loadCells, loadCellsFrom]
  · have hex : ∀ j, j < els.length * s → ∃ e y u, els[j / s]? = some e ∧ e[j % s]? = some y ∧ w.cell? ⟨q.block, q.off + j, none⟩ = some u ∧ RelD w Im y u := by
      intro j hj
      have h1 : j / s < els.length := by rw [Nat.div_lt_iff_lt_mul hs0]; exact hj
      have h2 : els ≠ [] := by intro h; subst h; simp at h1
      have h3 : (els[j / s]).length = s := hlen h2 _ (List.getElem_mem h1)
      have h4 : j % s < (els[j / s]).length := by rw [h3]; exact Nat.mod_lt _ hs0
      obtain ⟨u, k1, k2⟩ := h (j / s) _ (j % s) _ (List.getElem?_eq_getElem h1) (List.getElem?_eq_getElem h4)
      refine ⟨_, _, u, List.getElem?_eq_getElem h1, List.getElem?_eq_getElem h4, ?_, k2⟩
      rw [show j / s * s + j % s = j from by rw [Nat.mul_comm]; exact Nat.div_add_mod j s] at k1
      exact k1
    have hrun := run_loadCells (P := P) w q (els.length * s) (fun j => (w.cell? ⟨q.block, q.off + j, none⟩).getD undef) (fun j hj => by
      obtain ⟨e, y, u, _, _, k, _⟩ := hex j hj
      rw [addr_add hq, k]; rfl)
    refine ⟨_, by simpa [Builtin.firstCells] using hrun, ⟨fun e he => hlen (by intro h; subst h; simp at he) e he, by simp, ?_, ?_⟩, by simp⟩
    · intro j v hv hj
      obtain ⟨e, y, u, _, _, k, k2⟩ := hex j hj
      simp [hj, k] at hv
      subst hv; exact k2.one
    · intro i e o y hi ho
      have hes : e.length = s := hlen (by intro h; subst h; simp at hi) e (List.mem_of_getElem? hi)
      have hos : o < s := by rw [← hes]; exact (List.getElem?_eq_some_iff.1 ho).1
      have hj : i * s + o < els.length * s := by
        have : (i + 1) * s ≤ els.length * s := Nat.mul_le_mul_right s (List.getElem?_eq_some_iff.1 hi).1
        rw [Nat.add_mul] at this; omega
      obtain ⟨u, k1, k2⟩ := h i e o y hi ho
      exact ⟨u, by simp [hj, k1], k2⟩

end Go.Sx
