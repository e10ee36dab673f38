/-
  copy and append: operations of the symbolic executor.
  Conditions: none.
-/
import Derived.Test.YtkeimadhboefbaaSxI
namespace Go.Sx

/-- Elements with others from o on. -/
def spliceE (els : List (List DV)) (o : Nat) (xs : List (List DV)) : List (List DV) := els.take o ++ xs ++ els.drop (o + xs.length)

theorem relE_splice {w : World} {Im : Nat → Prop} {s o : Nat} {els xs : List (List DV)} {cs cs' u : Array Value} (h : RelE w Im s els cs) (hx : RelE w Im s xs u) (hu : u.size = xs.length * s) (ho : o + xs.length ≤ els.length)
    (hsz : cs'.size = cs.size) (hget : ∀ j, cs'[j]? = if j < o * s then cs[j]? else if j < o * s + u.size then u[j - o * s]? else cs[j]?) : RelE w Im s (spliceE els o xs) cs' := by
  obtain ⟨h1, h2, h3, h4⟩ := h
  obtain ⟨k1, k2, k3, k4⟩ := hx
  have hl : (spliceE els o xs).length = els.length := splice_length ho
  refine ⟨fun e he => ?_, by rw [hl, hsz]; exact h2, fun j v hv hj => ?_, fun k e q x hk hq => ?_⟩
  · simp only [spliceE, List.mem_append] at he
    rcases he with (he | he) | he
    · exact h1 e (List.mem_of_mem_take he)
    · exact k1 e he
    · exact h1 e (List.mem_of_mem_drop he)
  · rw [hl] at hj
    rw [hget] at hv
    split at hv
    · exact h3 j v hv hj
    · split at hv
      · exact k3 _ v hv (by omega)
      · exact h3 j v hv hj
  · simp only [spliceE] at hk
    rw [splice_get ho] at hk
    have hes : e.length = s := by
      split at hk
      · exact h1 e (List.mem_of_getElem? hk)
      · split at hk
        · exact k1 e (List.mem_of_getElem? hk)
        · exact h1 e (List.mem_of_getElem? hk)
    have hqs : q < s := by rw [← hes]; exact (List.getElem?_eq_some_iff.1 hq).1
    split at hk
    · rename_i hlt
      obtain ⟨v, a1, a2⟩ := h4 k e q x hk hq
      have : (k + 1) * s ≤ o * s := Nat.mul_le_mul_right s hlt
      rw [Nat.add_mul] at this
      exact ⟨v, by rw [hget, if_pos (by omega)]; exact a1, a2⟩
    · rename_i hge
      split at hk
      · rename_i hlt
        obtain ⟨v, a1, a2⟩ := k4 (k - o) e q x hk hq
        have e1 : k * s = o * s + (k - o) * s := by rw [← Nat.add_mul]; congr 1; omega
        have : (k - o + 1) * s ≤ xs.length * s := Nat.mul_le_mul_right s (by omega)
        rw [Nat.add_mul] at this
        exact ⟨v, by rw [hget, if_neg (by omega), if_pos (by omega), show k * s + q - o * s = (k - o) * s + q from by omega]; exact a1, a2⟩
      · rename_i hge2
        obtain ⟨v, a1, a2⟩ := h4 k e q x hk hq
        have : (o + xs.length) * s ≤ k * s := Nat.mul_le_mul_right s (by omega)
        rw [Nat.add_mul] at this
        exact ⟨v, by rw [hget, if_neg (by omega), if_neg (by omega)]; exact a1, a2⟩

/-- What is known of a row of the call's own, once more. -/
theorem relE_of {ρ : Rho} {w : World} {Im : Nat → Prop} {β : Bi} {ty s : Nat} {els : List (List DV)} {g : Nat} {cs : Array Value} (h : RelB ρ w Im β (.arr ty s els)) (hg : β.g = some g) (hw : w.heap[g]? = some (.cells cs ty (0, 0))) : RelE w Im s els cs := by
  obtain ⟨g1, g2, _, g3, g4⟩ := h
  rcases g4 with ⟨g4, _⟩ | ⟨g', cs', hg', hw', hsz, hcell⟩
  · rw [hg] at g4; cases g4
  · rw [hg] at hg'; cases hg'
    rw [hw] at hw'; cases hw'
    refine ⟨g3, hsz, fun i v hv hi => ?_, hcell⟩
    have hs0 : 0 < s := by
      rcases Nat.eq_zero_or_pos s with h | h
      · subst h; simp at hi
      · exact h
    have h1 : i / s < els.length := by rw [Nat.div_lt_iff_lt_mul hs0]; exact hi
    have h3 : (els[i / s]).length = s := g3 _ (List.getElem_mem h1)
    have h4 : i % s < (els[i / s]).length := by rw [h3]; exact Nat.mod_lt _ hs0
    obtain ⟨u, k1, k2⟩ := hcell (i / s) _ (i % s) _ (List.getElem?_eq_getElem h1) (List.getElem?_eq_getElem h4)
    rw [show i / s * s + i % s = i from by rw [Nat.mul_comm]; exact Nat.div_add_mod i s, hv] at k1
    cases k1
    exact k2.one

def actCopy (P : Program) (t : Nat) (hs : List Hint) (x y : AV) (H : Heap) : Option Res :=
  match elemOfSl P t with
  | none => none
  | some e => match szOf P e with
    | 0 => none
    | s + 1 => match content H y with
      | some (s', xs) => if s' = s + 1 then
        match x with
        | .ow b => match H b with
          | some (.arr ty s2 els) => if s2 = s + 1 then
            match hs with
            | .els l' :: _ => some ⟨.d (.sc (.int .i64 xs.length)), some (b, .arr ty s2 l'), [xs.length ≤ els.length, spliceE els 0 xs = l']⟩
            | _ => some ⟨.d (.sc (.int .i64 xs.length)), some (b, .arr ty s2 (spliceE els 0 xs)), [xs.length ≤ els.length]⟩
            else none
          | _ => none
        | .os b o n => match H b with
          | some (.arr ty s2 els) => if s2 = s + 1 then
            match hs with
            | .els l' :: _ => some ⟨.d (.sc (.int .i64 xs.length)), some (b, .arr ty s2 l'), [xs.length ≤ n, spliceE els o xs = l']⟩
            | _ => some ⟨.d (.sc (.int .i64 xs.length)), some (b, .arr ty s2 (spliceE els o xs)), [xs.length ≤ n]⟩
            else none
          | _ => none
        | _ => none
        else none
      | none => none

theorem sound_copy {P : Program} {o : Oper} {id : Nat} {E : Operand → AV} {H : Heap} {r : Res} {x y : Operand} {t t' : Nat} {hs : List Hint}
    (ho : o.op = .call ⟨.builtin .copy, #[x, y], #[t, t']⟩) (h : actCopy P t hs (E x) (E y) H = some r) : Sound P o id E H r := by
  intro Ow Im0 w0 ρ w Im clk a I hid hH hE hph
  have hx := hE x
  have hy := hE y
  unfold actCopy at h
  split at h
  · cases h
  rename_i e he
  split at h
  · cases h
  rename_i s hsz
  split at h
  rotate_left
  · cases h
  rename_i s' xs hcont
  split at h
  rotate_left
  · cases h
  rename_i hs'
  subst hs'
  obtain ⟨p, c, hvy, hbx, hcx, hlx, hcellx⟩ := content_spec I hy hcont
  obtain ⟨u, hu1, hu2, hu3⟩ := firstCells_run (P := P) (p := p) (n := xs.length) (c := c) (by omega) hlx hcellx
  unfold elemOfSl at he
  split at he
  rotate_left
  · cases he
  rename_i e' hut
  cases he
  have hsr : (sizeOf e).run P w = .ok (s + 1) w := size_run hsz (by simp) w
  -- the copy into block b at element oo
  have fin : ∀ (b oo n g c' : Nat) (ty : Nat) (els : List (List DV)) (β : Bi), ρ b = some β → H b = some (.arr ty (s + 1) els) → β.g = some g → a.eval x = .slice (some ⟨g, oo * (s + 1), none⟩) n c' → xs.length ≤ n → oo + n ≤ els.length →
      Goes P o a w fun v w' => Then Ow Im0 w0 ρ w Im clk (updH H b (.arr ty (s + 1) (spliceE els oo xs))) (.d (.sc (.int .i64 xs.length))) v w' := by
    intro b oo n g c' ty els β hρ hb hg hvx hxn hon
    obtain ⟨β', h1, h2⟩ := I.blk b _ hb
    rw [hρ] at h1; cases h1
    have h2' := h2
    obtain ⟨g1, g2, g3, g4, g5⟩ := h2
    rcases g5 with ⟨g5, _⟩ | ⟨g', cs, hg', hw, hszc, hcell⟩
    · rw [hg] at g5; cases g5
    rw [hg] at hg'; cases hg'
    have hE1 := relE_of h2' hg hw
    have hfit : oo * (s + 1) + u.toList.length ≤ cs.toList.length := by
      have : (oo + xs.length) * (s + 1) ≤ els.length * (s + 1) := Nat.mul_le_mul_right _ (by omega)
      rw [Nat.add_mul] at this
      simp [hu3]; omega
    have hone : ∀ v ∈ u.toList, v.oneCell' = true := by
      intro v hv
      obtain ⟨k, hk⟩ := List.getElem?_of_mem hv
      have hk' : u[k]? = some v := by simpa using hk
      exact hu2.2.2.1 k v hk' (by rw [← hu3]; exact (Array.getElem?_eq_some_iff.1 hk').1)
    have hst := run_storeCells_at P g (oo * (s + 1)) ty u.toList 0 cs w hw (by simpa using hfit) hone
    simp only [Nat.add_zero] at hst
    obtain ⟨bg, bs, bn⟩ := β
    simp only at hg g1 g2
    subst hg; subst g1; subst g2
    have hlen : ((cs.toList.take (oo * (s + 1)) ++ u.toList ++ cs.toList.drop (oo * (s + 1) + u.toList.length)).toArray).size = cs.size := by
      rw [List.size_toArray, splice_length hfit]; simp
    have hget : ∀ j, ((cs.toList.take (oo * (s + 1)) ++ u.toList ++ cs.toList.drop (oo * (s + 1) + u.toList.length)).toArray)[j]? = if j < oo * (s + 1) then cs[j]? else if j < oo * (s + 1) + u.size then u[j - oo * (s + 1)]? else cs[j]? := by
      intro j
      rw [List.getElem?_toArray, splice_get hfit]
      simp
    have hsp := relE_splice hE1 hu2 hu3 (show oo + xs.length ≤ els.length by omega) hlen hget
    have hput := I.put b g (s + 1) els.length cs _ ty (.arr ty (s + 1) (spliceE els oo xs)) hρ hw hlen ⟨_, hb, by simp⟩ (fun he => by
      have hl : (spliceE els oo xs).length = els.length := splice_length (by omega)
      refine ⟨rfl, hl.symm, by rw [hl]; exact g3, hsp.1, .inr ⟨g, _, rfl, setRow_heap w g cs _ ty _ hw, by rw [hlen, hl]; exact hszc, fun i e o y hi ho => ?_⟩⟩
      obtain ⟨v, k1, k2⟩ := hsp.2.2.2 i e o y hi ho
      exact ⟨v, k1, k2.mono he (fun _ h => h)⟩)
    refine .inl ⟨.int .i64 xs.length, _, ?_, ρ, hput.1, hput.2, fun _ _ h => h, .d (.sc _ rfl)⟩
    have hmin : Nat.min xs.length n = xs.length := Nat.min_eq_left hxn
    have hcp : (Builtin.copy_ #[t, t'] o.type #[.slice (some ⟨g, oo * (s + 1), none⟩) n c', .slice p xs.length c]).run P w = .ok (goInt xs.length) (w.setRow g (cs.toList.take (oo * (s + 1)) ++ u.toList ++ cs.toList.drop (oo * (s + 1) + u.toList.length)).toArray) := by
      unfold Builtin.copy_
      simp only [List.getElem?_toArray, List.getElem?_cons_zero, List.getElem?_cons_succ, Sem.run_bind, run_underlying hut, Result.andThen_ok, Builtin.lenOf, Sem.run_pure, hsr, hmin, hu1, hst]
    simp [execOp, ho, resolve, hvx, hvy, invoke, builtin, hcp, goInt]
  split at h
  · rename_i b hE1
    rw [hE1] at hx
    split at h
    rotate_left
    · cases h
    rename_i ty s2 els hb
    split at h
    rotate_left
    · cases h
    rename_i hs2
    subst hs2
    generalize hvx : a.eval x = v at hx
    cases hx with
    | ow hρ hc hbg ha =>
      rename_i c' ad β
      obtain ⟨β', h1, h2⟩ := I.blk b _ hb
      rw [hρ] at h1; cases h1
      have h2' := h2
      obtain ⟨g1, g2, _, _, _⟩ := h2
      have base : xs.length ≤ els.length → Goes P o a w fun v w' => Then Ow Im0 w0 ρ w Im clk (updH H b (.arr ty (s + 1) (spliceE els 0 xs))) (.d (.sc (.int .i64 xs.length))) v w' := by
        intro hle
        by_cases hx0 : xs = []
        · -- nothing is copied
          subst hx0
          have hsame : spliceE els 0 [] = els := by simp [spliceE]
          have hupd : updH H b (.arr ty (s + 1) els) = H := by funext k; unfold updH; split <;> simp_all
          rw [hsame, hupd]
          have hu0 : u = #[] := by apply Array.eq_empty_of_size_eq_zero; simpa using hu3
          refine .inl ⟨.int .i64 0, w, ?_, .same I (.d (.sc _ rfl))⟩
          have hcp : (Builtin.copy_ #[t, t'] o.type #[.slice ad β.n c', .slice p 0 c]).run P w = .ok (goInt 0) w := by
            unfold Builtin.copy_
            simp only [List.length_nil] at hu1
            have hmin : Nat.min 0 β.n = 0 := Nat.zero_min _
            simp only [List.getElem?_toArray, List.getElem?_cons_zero, List.getElem?_cons_succ, Sem.run_bind, run_underlying hut, Result.andThen_ok, Builtin.lenOf, Sem.run_pure, hsr, hmin, hu1, hu0]
            cases ad <;> simp [storeCells]
          have hvy' : a.eval y = .slice p 0 c := by simpa using hvy
          simp [execOp, ho, resolve, hvx, hvy', invoke, builtin, hcp, goInt]
        · have hpos : 0 < xs.length := List.length_pos_iff.2 hx0
          rcases ha with ha | ⟨g, hg, rfl, hrow⟩
          · omega
          · exact fin b 0 β.n g c' ty els β hρ hb hg (by simpa using hvx) (by omega) (by omega)
      split at h
      · rename_i l' _
        cases h
        obtain ⟨p1, p2⟩ : xs.length ≤ els.length ∧ spliceE els 0 xs = l' := by simpa [allP] using hph
        rw [← p2]; exact base p1
      · cases h
        exact base (by simpa [allP] using hph)
  · rename_i b oo n hE1
    rw [hE1] at hx
    split at h
    rotate_left
    · cases h
    rename_i ty s2 els hb
    split at h
    rotate_left
    · cases h
    rename_i hs2
    subst hs2
    generalize hvx : a.eval x = v at hx
    cases hx with
    | os hρ hn hc hbg ha =>
      rename_i c' ad β
      obtain ⟨β', h1, h2⟩ := I.blk b _ hb
      rw [hρ] at h1; cases h1
      have h2' := h2
      obtain ⟨g1, g2, _, _, _⟩ := h2
      have base : xs.length ≤ n → Goes P o a w fun v w' => Then Ow Im0 w0 ρ w Im clk (updH H b (.arr ty (s + 1) (spliceE els oo xs))) (.d (.sc (.int .i64 xs.length))) v w' := by
        intro hle
        by_cases hx0 : xs = []
        · subst hx0
          have hsame : spliceE els oo [] = els := by simp [spliceE]
          have hupd : updH H b (.arr ty (s + 1) els) = H := by funext k; unfold updH; split <;> simp_all
          rw [hsame, hupd]
          have hu0 : u = #[] := by apply Array.eq_empty_of_size_eq_zero; simpa using hu3
          refine .inl ⟨.int .i64 0, w, ?_, .same I (.d (.sc _ rfl))⟩
          have hcp : (Builtin.copy_ #[t, t'] o.type #[.slice ad n c', .slice p 0 c]).run P w = .ok (goInt 0) w := by
            unfold Builtin.copy_
            simp only [List.length_nil] at hu1
            have hmin : Nat.min 0 n = 0 := Nat.zero_min _
            simp only [List.getElem?_toArray, List.getElem?_cons_zero, List.getElem?_cons_succ, Sem.run_bind, run_underlying hut, Result.andThen_ok, Builtin.lenOf, Sem.run_pure, hsr, hmin, hu1, hu0]
            cases ad <;> simp [storeCells]
          have hvy' : a.eval y = .slice p 0 c := by simpa using hvy
          simp [execOp, ho, resolve, hvx, hvy', invoke, builtin, hcp, goInt]
        · have hpos : 0 < xs.length := List.length_pos_iff.2 hx0
          rcases ha with ha | ⟨g, hg, rfl, hrow⟩
          · omega
          · exact fin b oo n g c' ty els β hρ hb hg (by rw [← g1]; exact hvx) hle (by omega)
      split at h
      · rename_i l' _
        cases h
        obtain ⟨p1, p2⟩ : xs.length ≤ n ∧ spliceE els oo xs = l' := by simpa [allP] using hph
        rw [← p2]; exact base p1
      · cases h
        exact base (by simpa [allP] using hph)
  · cases h

end Go.Sx
