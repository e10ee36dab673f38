/-
  append, and what becomes of a block that the call gives up.
  Conditions: none.
-/
import Derived.Test.YtkeimadhboefbaaSxJ
namespace Go.Sx

/-- The state of the executor and a moment of the call belong together. -/
def Sys (Ow Im0 : Nat → Prop) (w0 : World) (tmps : List AV) (H : Heap) (clk : Nat) (a : Act) (w : World) : Prop :=
  ∃ ρ Im, Inv Ow Im0 w0 ρ w Im H clk ∧ RelT ρ w Im tmps a

/-! A map over what refers to blocks -/
def leafA (f : AV → AV) : AV → AV
  | .pt b i o => f (.pt b i o)
  | .os b o n => f (.os b o n)
  | .ow b => f (.ow b)
  | .d x => .d x
  | .rp e o => .rp e o
  | _ => .any
def mapA (f : AV → AV) : AV → AV
  | .ag l => .ag (l.map (leafA f))
  | .fn g caps => .fn g (caps.map (leafA f))
  | .ic t a => .ic t (leafA f a)
  | a => leafA f a

section
variable {ρ ρ' : Rho} {w : World} {Im Im' : Nat → Prop} {f : AV → AV}

theorem leafA_rel (hi : ∀ g, Im g → Im' g) (hpt : ∀ b i o v, Rel ρ w Im (.pt b i o) v → Rel ρ' w Im' (f (.pt b i o)) v) (hos : ∀ b o n v, Rel ρ w Im (.os b o n) v → Rel ρ' w Im' (f (.os b o n)) v)
    (how : ∀ b v, Rel ρ w Im (.ow b) v → Rel ρ' w Im' (f (.ow b)) v) {a : AV} {v : Value} (h : Rel ρ w Im a v) : Rel ρ' w Im' (leafA f a) v := by
  cases a with
  | pt b i o => exact hpt _ _ _ _ h
  | os b o n => exact hos _ _ _ _ h
  | ow b => exact how _ _ h
  | d x => cases h with | d h => exact .d (h.mono (Ext.refl _ _) hi)
  | rp e o => cases h with | rp h1 h2 h3 => exact .rp h1 (hi _ h2) (fun j x hx => let ⟨v, k1, k2⟩ := h3 j x hx; ⟨v, k1, k2.mono (Ext.refl _ _) hi⟩)
  | _ => exact .any _

theorem mapA_rel (hi : ∀ g, Im g → Im' g) (hpt : ∀ b i o v, Rel ρ w Im (.pt b i o) v → Rel ρ' w Im' (f (.pt b i o)) v) (hos : ∀ b o n v, Rel ρ w Im (.os b o n) v → Rel ρ' w Im' (f (.os b o n)) v)
    (how : ∀ b v, Rel ρ w Im (.ow b) v → Rel ρ' w Im' (f (.ow b)) v) {a : AV} {v : Value} (h : Rel ρ w Im a v) : Rel ρ' w Im' (mapA f a) v := by
  have leaf : ∀ {a : AV} {v : Value}, Rel ρ w Im a v → Rel ρ' w Im' (leafA f a) v := fun h => leafA_rel hi hpt hos how h
  cases a with
  | ag l =>
    obtain ⟨cs, rfl, h1, h2, h3⟩ := rel_ag h
    refine .ag _ cs (by simpa using h1) h2 fun i x v hx hv => ?_
    simp only [List.getElem?_map, Option.map_eq_some_iff] at hx
    obtain ⟨y, hy, rfl⟩ := hx
    exact leaf (h3 i y v hy hv)
  | fn g caps =>
    cases h with
    | fn h1 h3 =>
      refine .fn (by simpa using h1) fun i x v hx hv => ?_
      simp only [List.getElem?_map, Option.map_eq_some_iff] at hx
      obtain ⟨y, hy, rfl⟩ := hx
      exact leaf (h3 i y v hy hv)
  | ic t a =>
    cases h with
    | ic h => exact .ic (leaf h)
  | pt b i o => exact leaf h
  | os b o n => exact leaf h
  | ow b => exact leaf h
  | d x => exact leaf h
  | rp e o => exact leaf h
  | tu l => exact .any _
  | gd g a => exact .any _
  | any => exact .any _
end

section
variable {Ow Im0 : Nat → Prop} {w0 : World} {ρ : Rho} {w : World} {Im : Nat → Prop} {H : Heap} {clk : Nat}

/-- A block is given up. -/
theorem Inv.kill (I : Inv Ow Im0 w0 ρ w Im H clk) {b : Nat} {B : Blk} (hb : H b = some B) : Inv Ow Im0 w0 ρ w Im (updH H b .dead) clk := by
  have hl : ∀ k, live (updH H b .dead) k → k ≠ b ∧ live H k := by
    intro k h
    have hk : k ≠ b := by
      rintro rfl
      obtain ⟨B', h1, h2⟩ := h
      simp only [updH, if_true, Option.some.injEq] at h1
      exact h2 h1.symm
    exact ⟨hk, live_upd h hk⟩
  refine ⟨I.kept, fun k k' β β' g l1 l2 => I.inj k k' β β' g (hl k l1).2 (hl k' l2).2, fun k β g l => I.notIm k β g (hl k l).2, I.bnd, I.own, I.imb, I.im0, fun k B' h => ?_, fun k hk h => ?_⟩
  · unfold updH at h
    split at h
    · rename_i e
      cases h
      obtain ⟨β, h1, _⟩ := I.blk b B hb
      exact ⟨β, by rw [e]; exact h1, trivial⟩
    · exact I.blk k B' h
  · unfold updH at h
    split at h
    · cases h
    · exact I.fresh k hk h

/-- A block that was given up is taken up again under another name, its cells written. -/
theorem Inv.take (I : Inv Ow Im0 w0 ρ w Im H clk) (id : Nat) (hid : clk * 8000 ≤ id) (hH : H id = none) (g s n : Nat) (cs cs' : Array Value) (ty : Nat) (B : Blk)
    (hfree : ∀ k κ, live H k → ρ k = some κ → κ.g ≠ some g) (him : ¬ Im g) (hown : w0.heap.size ≤ g ∨ Ow g)
    (hg : w.heap[g]? = some (.cells cs ty (0, 0))) (hs : cs'.size = cs.size)
    (hB : Ext Im w (w.setRow g cs') → RelB (updR ρ id ⟨some g, s, n⟩) (w.setRow g cs') Im ⟨some g, s, n⟩ B) :
    Inv Ow Im0 w0 (updR ρ id ⟨some g, s, n⟩) (w.setRow g cs') Im (updH H id B) clk ∧ Ext Im w (w.setRow g cs') := by
  have hsz : (w.setRow g cs').heap.size = w.heap.size := by simp [World.setRow]
  have hgl : g < w.heap.size := by
    rcases Nat.lt_or_ge g w.heap.size with h | h
    · exact h
    · rw [Array.getElem?_eq_none h] at hg; cases hg
  have he : Ext Im w (w.setRow g cs') := ⟨by omega, fun k hk => setRow_other w g k cs' (fun e => him (e ▸ hk)), fun k _ => rows_setRow w g cs cs' ty hg hs k⟩
  have hn := I.fresh id hid hH
  refine ⟨⟨?_, ?_, ?_, ?_, ?_, fun g h => by rw [hsz]; exact I.imb g h, I.im0, ?_, ?_⟩, he⟩
  · have k := I.kept
    refine ⟨k.os, k.tape, k.output, by rw [hsz]; exact k.size, fun i hi ho => ?_, fun i hi => ?_⟩
    · have : i ≠ g := by
        rintro rfl
        rcases hown with h | h
        · omega
        · exact ho h
      rw [setRow_other w g i cs' this]; exact k.block i hi ho
    · rw [rows_setRow w g cs cs' ty hg hs]; exact k.rows i hi
  · intro b b' β β' g' l1 l2 h1 h2 h3 h4
    unfold updR at h1 h2
    split at h1 <;> split at h2
    · omega
    · cases h1; cases h3; exact absurd h4 (hfree b' β' (live_upd l2 ‹_›) h2)
    · cases h2; cases h4; exact absurd h3 (hfree b β (live_upd l1 ‹_›) h1)
    · exact I.inj b b' β β' g' (live_upd l1 ‹_›) (live_upd l2 ‹_›) h1 h2 h3 h4
  · intro b β g' l h h'
    unfold updR at h
    split at h
    · cases h; cases h'; exact him
    · exact I.notIm b β g' (live_upd l ‹_›) h h'
  · intro b β g' h h'
    rw [hsz]
    unfold updR at h
    split at h
    · cases h; cases h'; exact hgl
    · exact I.bnd b β g' h h'
  · intro b β g' h h'
    unfold updR at h
    split at h
    · cases h; cases h'; exact hown
    · exact I.own b β g' h h'
  · intro b B' h
    unfold updH at h
    split at h
    · cases h; rename_i hb; exact ⟨_, by rw [hb]; exact updR_same _ _ _, hB he⟩
    · obtain ⟨β, h1, h2⟩ := I.blk b B' h
      cases B' with
      | dead => exact ⟨β, updR_sub hn _ _ h1, trivial⟩
      | _ =>
        refine ⟨β, updR_sub hn _ _ h1, h2.mono he (fun _ h => h) (updR_sub hn) I.bnd (fun g' hg' => setRow_other w g g' cs' ?_)⟩
        rintro rfl
        exact hfree b β ⟨_, h, by simp⟩ h1 hg'
  · intro b hb h
    unfold updH at h
    unfold updR
    split
    · rename_i hbi; simp [hbi] at h
    · rename_i hbi; simp only [hbi, if_false] at h; exact I.fresh b hb h
end

theorem growBy_le (n : Nat) : ∀ (r c : Nat), Builtin.growBy n r c ≤ max c (n + (n + 768) / 4)
  | 0, c => by simp only [Builtin.growBy]; omega
  | r + 1, c => by
    simp only [Builtin.growBy]
    split
    · omega
    · have := growBy_le n r (c + (c + 768) / 4)
      omega
theorem nextslicecap_le (n c : Nat) (h : c < n) : Builtin.nextslicecap n c ≤ 2 * n + 192 := by
  unfold Builtin.nextslicecap
  split
  · omega
  · split
    · omega
    · have := growBy_le n 4 c
      omega

/-- The zero value has the cells of its type. -/
def zeroFits (P : Program) (e : Nat) : Bool := match zeroEl P e with | some zs => zs.length == szOf P e | none => false
/-- append(x, y...), x a whole slice of the call's own. -/
def actAppend (P : Program) (t t' id : Nat) (hs : List Hint) (x y : AV) (H : Heap) : Option (Nat × Res) :=
  match x with
  | .ow b => match H b with
    | some (.arr ty s els) => match elemOfSl P t, elemOfSl P t' with
      | some e, some _ => match content H y with
        | some (s', xs) => if szOf P e = s ∧ s ≠ 0 ∧ s' = s ∧ e = ty ∧ bytesOf P e ≤ 65536 ∧ bytesOf P e ≠ 0 ∧ zeroFits P e = true then
          match hs with
          | .els l' :: _ => some (b, ⟨.ow id, some (id, .arr ty s l'), [els.length + xs.length ≤ 2 ^ 30, els ++ xs = l']⟩)
          | _ => some (b, ⟨.ow id, some (id, .arr ty s (els ++ xs)), [els.length + xs.length ≤ 2 ^ 30]⟩)
          else none
        | none => none
      | _, _ => none
    | _ => none
  | _ => none

theorem relE_append {w : World} {Im : Nat → Prop} {s : Nat} {els xs : List (List DV)} {cs : Array Value} {a b : Array Value} (h : RelE w Im s els a) (hx : RelE w Im s xs b)
    (hcs : (els.length + xs.length) * s ≤ cs.size) (h1 : ∀ j, j < els.length * s → cs[j]? = a[j]?) (h2 : ∀ j, j < xs.length * s → cs[els.length * s + j]? = b[j]?) : RelE w Im s (els ++ xs) cs := by
  obtain ⟨a1, a2, a3, a4⟩ := h
  obtain ⟨b1, b2, b3, b4⟩ := hx
  refine ⟨fun e he => ?_, by rw [List.length_append]; exact hcs, fun j v hv hj => ?_, fun i e o x hi ho => ?_⟩
  · rcases List.mem_append.1 he with h | h
    · exact a1 e h
    · exact b1 e h
  · rw [List.length_append, Nat.add_mul] at hj
    by_cases hlt : j < els.length * s
    · rw [h1 j hlt] at hv; exact a3 j v hv hlt
    · have := h2 (j - els.length * s) (by omega)
      rw [show els.length * s + (j - els.length * s) = j from by omega, hv] at this
      exact b3 _ v this.symm (by omega)
  · have hes : e.length = s := by
      rcases List.mem_append.1 (List.mem_of_getElem? hi) with h | h
      · exact a1 e h
      · exact b1 e h
    have hos : o < s := by rw [← hes]; exact (List.getElem?_eq_some_iff.1 ho).1
    rw [List.getElem?_append] at hi
    split at hi
    · rename_i hlt
      obtain ⟨v, k1, k2⟩ := a4 i e o x hi ho
      have : (i + 1) * s ≤ els.length * s := Nat.mul_le_mul_right s hlt
      rw [Nat.add_mul] at this
      exact ⟨v, by rw [h1 _ (by omega)]; exact k1, k2⟩
    · rename_i hge
      obtain ⟨v, k1, k2⟩ := b4 (i - els.length) e o x hi ho
      have hlt := (List.getElem?_eq_some_iff.1 hi).1
      have : (i - els.length + 1) * s ≤ xs.length * s := Nat.mul_le_mul_right s hlt
      rw [Nat.add_mul] at this
      have e1 : i * s = els.length * s + (i - els.length) * s := by rw [← Nat.add_mul]; congr 1; omega
      exact ⟨v, by rw [e1, Nat.add_assoc, h2 _ (by omega)]; exact k1, k2⟩

theorem append_run {P : Program} {o : Oper} {id t t' : Nat} {x y : Operand} {hs : List Hint} {H : Heap} {E : Operand → AV} {b : Nat} {r : Res} {Ow Im0 : Nat → Prop} {w0 : World} {ρ : Rho} {w : World} {Im : Nat → Prop} {clk : Nat} {a : Act} {tmps : List AV}
    (ho : o.op = .call ⟨.builtin .append, #[x, y], #[t, t']⟩) (h : actAppend P t t' id hs (E x) (E y) H = some (b, r)) (I : Inv Ow Im0 w0 ρ w Im H clk) (T : RelT ρ w Im tmps a)
    (hid : clk * 8000 ≤ id) (hH : H id = none) (hx : Rel ρ w Im (E x) (a.eval x)) (hy : Rel ρ w Im (E y) (a.eval y)) (hph : allP r.ph) :
    ∃ v w' ρ', (execOp a.eval o).run P w = .ok (.value v) w' ∧ Inv Ow Im0 w0 ρ' w' Im (r.heap (updH H b .dead)) clk ∧ RelT ρ' w' Im tmps a ∧ Rel ρ' w' Im r.val v := by
  unfold actAppend at h
  split at h
  rotate_left
  · cases h
  rename_i b' hE1
  split at h
  rotate_left
  · cases h
  rename_i ty s els hb
  split at h
  rotate_left
  · cases h
  rename_i e e2 he he2
  split at h
  rotate_left
  · cases h
  rename_i s' xs hcont
  split at h
  rotate_left
  · cases h
  rename_i hc
  obtain ⟨hsz, hs0, hss, rfl, hby, hby0, hz⟩ := hc
  obtain rfl : s = s' := hss.symm
  have hs1 : 0 < s := Nat.pos_of_ne_zero hs0
  have fin : els.length + xs.length ≤ 2 ^ 30 → b' = b → ∃ v w' ρ', (execOp a.eval o).run P w = .ok (.value v) w' ∧ Inv Ow Im0 w0 ρ' w' Im (updH (updH H b .dead) id (.arr e s (els ++ xs))) clk ∧ RelT ρ' w' Im tmps a ∧ Rel ρ' w' Im (.ow id) v := by
    rintro hbig rfl
    rw [hE1] at hx
    obtain ⟨p, cy, hvy, hbx, hcx, hlx, hcellx⟩ := content_spec I hy hcont
    obtain ⟨u, hu1, hu2, hu3⟩ := firstCells_run (P := P) (p := p) (n := xs.length) (c := cy) hs1 hlx hcellx
    have hcontx : content H (.ow b') = some (s, els) := by simp [content, hb]
    obtain ⟨px, cx, hvx0, _, _, hlxx, hcellxx⟩ := content_spec I hx hcontx
    obtain ⟨ux, hux1, hux2, hux3⟩ := firstCells_run (P := P) (p := px) (n := els.length) (c := cx) hs1 hlxx hcellxx
    have hut : P.underlying t = some (.slice e) := by
      unfold elemOfSl at he
      split at he
      · cases he; assumption
      · cases he
    have hut' : P.underlying t' = some (.slice e2) := by
      unfold elemOfSl at he2
      split at he2
      · cases he2; assumption
      · cases he2
    have hsr : (sizeOf e).run P w = .ok s w := size_run hsz hs0 w
    have hinfo : ∃ i, P.info? e = some i ∧ i.bytes = bytesOf P e := by
      unfold bytesOf at hby0 ⊢
      cases hi : P.info? e with
      | none => simp [hi] at hby0
      | some i => exact ⟨i, rfl, rfl⟩
    obtain ⟨i, hi, hib⟩ := hinfo
    generalize hvx : a.eval x = v at hx
    cases hx with
    | ow hρ hc hbg ha =>
      rename_i c ad β
      obtain ⟨β', h1, h2⟩ := I.blk b' _ hb
      rw [hρ] at h1; cases h1
      have h2' := h2
      obtain ⟨g1, g2, g3, g4, g5⟩ := h2
      rw [hvx] at hvx0
      obtain ⟨rfl, _, rfl⟩ : ad = px ∧ β.n = els.length ∧ c = cx := by injection hvx0 with q1 q2 q3; exact ⟨q1, q2, q3⟩
      have ID := I.kill hb
      have TD := T
      have hidb : id ≠ b' := by rintro rfl; rw [hb] at hH; cases hH
      have hHd : updH H b' .dead id = none := by unfold updH; rw [if_neg hidb]; exact hH
      have hdead : ∀ k κ g, live (updH H b' .dead) k → ρ k = some κ → β.g = some g → κ.g ≠ some g := by
        intro k κ g hl hk hg hkg
        have hkb : k ≠ b' := by
          rintro rfl
          obtain ⟨B', q1, q2⟩ := hl
          simp only [updH, if_true, Option.some.injEq] at q1
          exact q2 q1.symm
        exact hkb (I.inj k b' κ β g (live_upd hl hkb) ⟨_, hb, by simp⟩ hk hρ hkg hg)
      by_cases hfit : els.length + xs.length ≤ c
      · -- there is room
        have run0 : ∀ w', (match ad with | some q => storeCells (q.add (els.length * s)) u.toList | none => pure () : Sem Unit).run P w = .ok () w' →
            (execOp a.eval o).run P w = .ok (.value (.slice ad (els.length + xs.length) c)) w' := by
          intro w' hw'
          have : (Builtin.append_ #[t, t'] o.type #[.slice ad els.length c, .slice p xs.length cy]).run P w = .ok (.slice ad (els.length + xs.length) c) w' := by
            unfold Builtin.append_
            simp only [List.getElem?_toArray, List.getElem?_cons_zero, List.getElem?_cons_succ, Sem.run_bind, run_underlying hut, run_underlying hut', Result.andThen_ok, Builtin.lenOf, Sem.run_pure, hsr, Bool.false_eq_true, if_false, hfit, if_true, Bool.not_false, hu1]
            cases ad with
            | none => simp only [Sem.run_pure] at hw' ⊢; cases hw'; simp
            | some q => simp only at hw' ⊢; simp [hw']
          simp [execOp, ho, resolve, hvx, hvy, invoke, builtin, g2, this]
        rcases g5 with ⟨g5, rfl⟩ | ⟨g, cs, hg, hw, hszc, hcell⟩
        · -- no memory yet, nothing comes
          rcases ha with ha | ⟨g', hg', _⟩
          rotate_left
          · rw [g5] at hg'; cases hg'
          subst ha
          have hxs : xs = [] := by cases xs with | nil => rfl | cons _ _ => simp at hfit
          subst hxs
          have hu0 : u = #[] := by apply Array.eq_empty_of_size_eq_zero; simpa using hu3
          have hrun := run0 w (by cases ad <;> simp [hu0, storeCells])
          have hn := ID.fresh id hid hHd
          have hsub := updR_sub (β := ⟨none, s, 0⟩) hn
          refine ⟨_, w, updR ρ id ⟨none, s, 0⟩, hrun, ?_, TD.mono (Ext.refl _ _) (fun _ h => h) hsub ID.bnd, ?_⟩
          · refine ⟨ID.kept, ?_, ?_, ?_, ?_, ID.imb, ID.im0, ?_, ?_⟩
            · intro k k' κ κ' g l1 l2 h1 h2 h3 h4
              unfold updR at h1 h2
              split at h1 <;> split at h2
              · omega
              · cases h1; cases h3
              · cases h2; cases h4
              · exact ID.inj k k' κ κ' g (live_upd l1 ‹_›) (live_upd l2 ‹_›) h1 h2 h3 h4
            · intro k κ g l h h'
              unfold updR at h
              split at h
              · cases h; cases h'
              · exact ID.notIm k κ g (live_upd l ‹_›) h h'
            · intro k κ g h h'
              unfold updR at h
              split at h
              · cases h; cases h'
              · exact ID.bnd k κ g h h'
            · intro k κ g h h'
              unfold updR at h
              split at h
              · cases h; cases h'
              · exact ID.own k κ g h h'
            · intro k B h
              unfold updH at h
              split at h
              · cases h; rename_i hk; exact ⟨_, by rw [hk]; exact updR_same _ _ _, rfl, rfl, by simp [big], by simp, .inl ⟨rfl, rfl⟩⟩
              · obtain ⟨κ, h1, h2⟩ := ID.blk k B h
                exact ⟨κ, hsub _ _ h1, h2.mono (Ext.refl _ _) (fun _ h => h) hsub ID.bnd (fun _ _ => rfl)⟩
            · intro k hk h
              unfold updH at h
              unfold updR
              split
              · rename_i hbi; simp [hbi] at h
              · rename_i hbi; simp only [hbi, if_false] at h; exact ID.fresh k hk h
          · have := Rel.ow (ρ := updR ρ id ⟨none, s, 0⟩) (w := w) (Im := Im) (c := 0) (a := ad) (updR_same ρ id ⟨none, s, 0⟩) (Nat.le_refl _) (by simp [big]) (.inl rfl)
            simpa using this
        · -- the row's own spare cells
          by_cases hc0 : c = 0
          · -- no cell: nothing comes
            subst hc0
            have hl0 : els = [] := by cases els with | nil => rfl | cons _ _ => simp at hfit
            have hxs : xs = [] := by cases xs with | nil => rfl | cons _ _ => simp at hfit
            subst hl0; subst hxs
            have hu0 : u = #[] := by apply Array.eq_empty_of_size_eq_zero; simpa using hu3
            have hrun := run0 w (by cases ad <;> simp [hu0, storeCells])
            have hset : w.setRow g cs = w := setRow_self w g cs e (0, 0) hw
            have htake := ID.take id hid hHd g s 0 cs cs e (.arr e s ([] ++ [])) (fun k κ hl hk => hdead k κ g hl hk hg) (I.notIm b' β g ⟨_, hb, by simp⟩ hρ hg) (I.own b' β g hρ hg) hw rfl (fun he => by
              rw [hset]; exact ⟨rfl, rfl, by simp [big], by simp, .inr ⟨g, cs, rfl, hw, by simp, by simp⟩⟩)
            rw [hset] at htake
            have hsub := updR_sub (β := ⟨some g, s, 0⟩) (ID.fresh id hid hHd)
            refine ⟨_, w, _, hrun, htake.1, TD.mono (Ext.refl _ _) (fun _ h => h) hsub ID.bnd, ?_⟩
            have := Rel.ow (ρ := updR ρ id ⟨some g, s, 0⟩) (w := w) (Im := Im) (c := 0) (a := ad) (updR_same ρ id ⟨some g, s, 0⟩) (Nat.le_refl _) (by simp [big]) (.inl rfl)
            simpa using this
          · rcases ha with ha | ⟨g', hg', rfl, hrow⟩
            · omega
            rw [hg] at hg'; cases hg'
            have hcs : c * s ≤ cs.size := by
              have : rows w g = cs.size := by unfold Sx.rows; rw [hw]
              rw [this, g1] at hrow; exact hrow
            have hE1' := relE_of h2' hg hw
            have hroom : (els.length + xs.length) * s ≤ cs.size := Nat.le_trans (Nat.mul_le_mul_right s hfit) hcs
            have hfitl : els.length * s + u.toList.length ≤ cs.toList.length := by
              rw [Nat.add_mul] at hroom; simp [hu3]; omega
            have hone : ∀ v ∈ u.toList, v.oneCell' = true := by
              intro v hv
              obtain ⟨k, hk⟩ := List.getElem?_of_mem hv
              have hk' : u[k]? = some v := by simpa using hk
              exact hu2.2.2.1 k v hk' (by rw [← hu3]; exact (Array.getElem?_eq_some_iff.1 hk').1)
            have hst := run_storeCells_at P g (els.length * s) e u.toList 0 cs w hw (by simpa using hfitl) hone
            simp only [Nat.add_zero] at hst
            have hrun := run0 _ (by simp only [Addr.add_lit, Nat.zero_add]; exact hst)
            have hlen : ((cs.toList.take (els.length * s) ++ u.toList ++ cs.toList.drop (els.length * s + u.toList.length)).toArray).size = cs.size := by
              rw [List.size_toArray, splice_length hfitl]; simp
            have hget : ∀ j, ((cs.toList.take (els.length * s) ++ u.toList ++ cs.toList.drop (els.length * s + u.toList.length)).toArray)[j]? = if j < els.length * s then cs[j]? else if j < els.length * s + u.size then u[j - els.length * s]? else cs[j]? := by
              intro j
              rw [List.getElem?_toArray, splice_get hfitl]
              simp
            have hrel := relE_append hE1' hu2 (cs := (cs.toList.take (els.length * s) ++ u.toList ++ cs.toList.drop (els.length * s + u.toList.length)).toArray) (by rw [hlen]; exact hroom)
              (fun j hj => by rw [hget, if_pos hj]) (fun j hj => by rw [hget, if_neg (by omega), if_pos (by omega), show els.length * s + j - els.length * s = j from by omega])
            have hlb : (els ++ xs).length ≤ big := by rw [List.length_append]; simp [big]; omega
            have htake := ID.take id hid hHd g s (els ++ xs).length cs _ e (.arr e s (els ++ xs)) (fun k κ hl hk => hdead k κ g hl hk hg) (I.notIm b' β g ⟨_, hb, by simp⟩ hρ hg) (I.own b' β g hρ hg) hw hlen (fun he => by
              refine ⟨rfl, rfl, hlb, hrel.1, .inr ⟨g, _, rfl, setRow_heap w g cs _ e _ hw, hrel.2.1, fun i e o y hi ho => ?_⟩⟩
              obtain ⟨v, k1, k2⟩ := hrel.2.2.2 i e o y hi ho
              exact ⟨v, k1, k2.mono he (fun _ h => h)⟩)
            have hsub := updR_sub (β := ⟨some g, s, (els ++ xs).length⟩) (ID.fresh id hid hHd)
            refine ⟨_, _, _, hrun, htake.1, TD.mono htake.2 (fun _ h => h) hsub ID.bnd, ?_⟩
            have := Rel.ow (ρ := updR ρ id ⟨some g, s, (els ++ xs).length⟩) (w := w.setRow g (cs.toList.take (els.length * s) ++ u.toList ++ cs.toList.drop (els.length * s + u.toList.length)).toArray) (Im := Im) (c := c) (a := some ⟨g, 0, none⟩) (updR_same ρ id ⟨some g, s, (els ++ xs).length⟩)
              (by rw [List.length_append]; exact hfit) hlb (.inr ⟨g, rfl, rfl, by rw [rows_setRow w g cs _ e hw hlen]; unfold Sx.rows; rw [hw]; exact hcs⟩)
            simpa using this
      · -- a new row
        unfold zeroFits at hz
        split at hz
        rotate_left
        · cases hz
        rename_i zs hzs
        have hzlen0 : zs.length = s := by rw [← hsz]; simpa using hz
        unfold zeroEl at hzs
        split at hzs
        rotate_left
        · cases hzs
        rename_i z hzz
        have hzr : ∀ w, (zeroValue e).run P w = .ok z w := fun w => zero_run (P := P) hzz w
        generalize hcap : (Question.appendCap (els.length + xs.length) c e).cut (w.tape w.drawn (.appendCap (els.length + xs.length) c e)) = newCap
        have hcapge : els.length + xs.length ≤ newCap := by rw [← hcap]; exact Nat.le_add_right _ _
        have hnot : ¬ els.length + xs.length ≤ c := hfit
        have hroom : ¬ (Builtin.nextslicecap (els.length + xs.length) c * i.bytes > 2 ^ 48) := by
          have h1 := nextslicecap_le (els.length + xs.length) c (by omega)
          have h2 : Builtin.nextslicecap (els.length + xs.length) c * i.bytes ≤ (2 * (els.length + xs.length) + 192) * 65536 := Nat.mul_le_mul h1 (by rw [hib]; exact hby)
          omega
        split at hzs
        rotate_left
        · cases hzs
        rename_i l hl
        have hzc := (cv_rel (fun _ => none) w Im z).cells hl
        obtain ⟨ux', m1, m2, m3⟩ := firstCells_run (P := P) (w := w.drew) (Im := Im) (p := ad) (n := els.length) (c := c) (s := s) (els := els) hs1 hlxx (hcellxx.imp (fun h => h) fun ⟨q, k1, k2, k3⟩ => ⟨q, k1, k2, fun i e o y hi ho => let ⟨u, m1, m2⟩ := k3 i e o y hi ho; ⟨u, m1, m2.mono (Ext.draw Im w) (fun _ h => h)⟩⟩)
        obtain ⟨u', n1, n2, n3⟩ := firstCells_run (P := P) (w := w.drew) (Im := Im) (p := p) (n := xs.length) (c := cy) (s := s) (els := xs) hs1 hlx (hcellx.imp (fun h => h) fun ⟨q, k1, k2, k3⟩ => ⟨q, k1, k2, fun i e o y hi ho => let ⟨u, m1, m2⟩ := k3 i e o y hi ho; ⟨u, m1, m2.mono (Ext.draw Im w) (fun _ h => h)⟩⟩)
        have hzlen : z.cells.size = s := by
          rw [hzc.1, undvs_spec hzs]
          simpa [dvs] using hzlen0
        have hsize : (ux' ++ u' ++ Builtin.zeroCells z.cells (newCap - (els.length + xs.length))).size = newCap * s := by
          simp only [Array.size_append, Builtin.zeroCells, Array.size_map, Array.size_range, m3, n3, hzlen, ← Nat.add_mul]
          congr 1; omega
        have hrel := relE_append m2 n2 (cs := ux' ++ u' ++ Builtin.zeroCells z.cells (newCap - (els.length + xs.length))) (by rw [hsize]; exact Nat.mul_le_mul_right s hcapge)
          (fun j hj => by rw [Array.append_assoc, Array.getElem?_append_left (by omega)])
          (fun j hj => by rw [Array.append_assoc, Array.getElem?_append_right (by omega), Array.getElem?_append_left (by omega)]; congr 1; omega)
        have hlb : (els ++ xs).length ≤ big := by rw [List.length_append]; simp [big]; omega
        obtain ⟨ρ', q1, q2, q3, q4⟩ := Then.arr (ty := e) (c := newCap) ID.draw hid hHd hrel hlb (by rw [List.length_append]; exact hcapge) (by rw [hsize]; exact Nat.le_refl _)
        refine ⟨_, _, ρ', ?_, q1, (TD.mono (Ext.draw Im w) (fun _ h => h) (fun _ _ h => h) ID.bnd).mono q2 (fun _ h => h) q3 ID.draw.bnd, q4⟩
        have hmax : ¬ (((els.length + xs.length : Nat) : Int) > IntKind.i64.max ∧ (False ∨ i.bytes = 0)) := by
          rintro ⟨_, h | h⟩
          · exact h
          · rw [hib] at h; exact hby0 h
        have hti : ∀ w, (typeInfo e).run P w = .ok i w := fun w => by simp [typeInfo, hi]
        have hforced : (Question.appendCap (els.length + xs.length) c e).forced = false := rfl
        have : (Builtin.append_ #[t, t'] o.type #[.slice ad els.length c, .slice p xs.length cy]).run P w = .ok (.slice (some ⟨w.drew.heap.size, 0, none⟩) (els.length + xs.length) newCap) (w.drew.alloc (.cells (ux' ++ u' ++ Builtin.zeroCells z.cells (newCap - (els.length + xs.length))) e)) := by
          unfold Builtin.append_
          simp only [List.getElem?_toArray, List.getElem?_cons_zero, List.getElem?_cons_succ, Sem.run_bind, run_underlying hut, run_underlying hut', Result.andThen_ok, Builtin.lenOf, Sem.run_pure, hsr, Bool.false_eq_true, if_false, hnot, Bool.not_false, if_true, hti]
          rw [if_neg hmax]
          simp only [Sem.run_pure, Sem.run_ite, hroom, if_false, run_choose, hforced, Bool.false_eq_true, World.drew_eq, hcap, Result.andThen_ok, run_askRoom, m1, n1, hzr, Sem.run_bind, newRow, run_newObj, World.alloc_eq, hti]
        rw [List.length_append]
        simp [execOp, ho, resolve, hvx, hvy, invoke, builtin, g2, this]
  split at h
  · rename_i l' _
    cases h
    obtain ⟨p1, p2⟩ := allP_cons.1 hph
    have p2' : els ++ xs = l' := by simpa [allP] using p2
    rw [Res.heap, ← p2']
    exact fin p1 rfl
  · cases h
    exact fin (by simpa [allP] using hph) rfl

end Go.Sx
