/-
  Slices of slices, new slices, literals of structs and slices, copy: operations of the symbolic executor.
  Conditions: none.
-/
import Derived.Test.YtkeimadhboefbaaSxF
namespace Go.Sx

/-! x[lo:hi] -/
theorem relD_sub {w : World} {Im : Nat → Prop} {s : Nat} {els : List (List DV)} {a : Option Addr} {n c l h : Nat} (hx : RelD w Im (.sl s els) (.slice a n c)) (h1 : l ≤ h) (h2 : h ≤ els.length) (sz : Nat) (hsz : sz = s ∨ els = []) :
    n = els.length ∧ n ≤ c ∨ els = [] → RelD w Im (.sl s ((els.drop l).take (h - l))) (.slice (if c = l then a else a.map (·.add (l * sz))) (h - l) (c - l)) := by
  intro _
  by_cases he : h - l = 0
  · rw [he]; simpa using RelD.slNil s _ _
  · cases hx with
    | slNil => simp at h2; omega
    | sl s els p n c f hn hc hb hs hp him hcell hrel =>
      have hsz' : sz = s := by
        rcases hsz with h | h
        · exact h
        · subst h; simp at h2; omega
      subst hsz'
      rw [if_neg (by omega)]
      simp only [Option.map_some]
      rw [addr_add hp]
      have get : ∀ i e, ((els.drop l).take (h - l))[i]? = some e → els[l + i]? = some e := by
        intro i e hi
        rw [List.getElem?_take] at hi
        split at hi
        · rwa [List.getElem?_drop] at hi
        · cases hi
      refine .sl sz _ _ _ _ (fun i o => f (l + i) o) (by simp; omega) (by omega) (by omega) (fun e he' => hs e (List.mem_of_mem_drop (List.mem_of_mem_take he'))) rfl him ?_ ?_
      · intro i e o x hi ho
        have := hcell (l + i) e o x (get i e hi) ho
        rw [Nat.add_mul] at this
        simpa [Nat.add_assoc] using this
      · intro i e o x hi ho
        exact hrel (l + i) e o x (get i e hi) ho

def bnd (d : Int) : Option AV → Option Int
  | none => some d
  | some (.d (.sc (.int _ n))) => some n
  | _ => none

/-- The elements from l to h. -/
def sub (els : List (List DV)) (lo hi : Option AV) (l h : Int) : List (List DV) :=
  match lo, hi with
  | none, none => els
  | some _, none => els.drop l.toNat
  | none, some _ => els.take h.toNat
  | some _, some _ => (els.drop l.toNat).take (h.toNat - l.toNat)

def slP (lo hi : Option AV) (l h n : Int) : List Prop :=
  match lo, hi with
  | none, none => []
  | some _, none => [0 ≤ l ∧ l ≤ n]
  | none, some _ => [0 ≤ h ∧ h ≤ n]
  | some _, some _ => [0 ≤ l ∧ l ≤ h ∧ h ≤ n]

def actSlice (P : Program) (t : Nat) (hs : List Hint) (x : AV) (lo hi : Option AV) (H : Heap) : Option Res :=
  match elemOfSl P t with
  | none => none
  | some e => match x with
    | .d (.sl s els) => if szOf P e = s then
      match bnd 0 lo, bnd els.length hi with
      | some l, some h => match hs with
        | .els l' :: _ => some ⟨.d (.sl s l'), none, slP lo hi l h els.length ++ [sub els lo hi l h = l']⟩
        | _ => some ⟨.d (.sl s (sub els lo hi l h)), none, slP lo hi l h els.length⟩
      | _, _ => none
      else none
    | .ow b => match H b with
      | some (.arr _ s els) => if szOf P e = s then
        match bnd 0 lo, bnd els.length hi with
        | some l, some h => some ⟨.os b l.toNat (h.toNat - l.toNat), none, slP lo hi l h els.length⟩
        | _, _ => none
        else none
      | _ => none
    | .os b o n => match H b with
      | some (.arr _ s _) => if szOf P e = s then
        match bnd 0 lo, bnd n hi with
        | some l, some h => some ⟨.os b (o + l.toNat) (h.toNat - l.toNat), none, slP lo hi l h n⟩
        | _, _ => none
        else none
      | _ => none
    | _ => none

theorem szOf_run {P : Program} {e : Nat} (he : (P.info? e).isSome = true) (w : World) : (sizeOf e).run P w = .ok (szOf P e) w := by
  obtain ⟨i, hi⟩ := Option.isSome_iff_exists.1 he
  simp [sizeOf, typeInfo, hi, szOf]

/-- The run of a slice expression whose bounds are met. -/
theorem run_slice_ok {P : Program} {w : World} {t e : Nat} {a : Option Addr} {n c l h : Nat} {lo hi : Option Value} (ht : elemOfSl P t = some e) (he : (P.info? e).isSome = true)
    (hlo : lo = none ∧ l = 0 ∨ ∃ k, lo = some (.int k l)) (hhi : hi = none ∧ h = n ∨ ∃ k, hi = some (.int k h)) (h1 : l ≤ h) (h2 : h ≤ n) (h3 : n ≤ c) :
    (Instr.sliceAt t (.slice a n c) lo hi none).run P w = .ok (.slice (if c = l then a else a.map (·.add (l * szOf P e))) (h - l) (c - l)) w := by
  unfold elemOfSl at ht
  split at ht
  rotate_left
  · cases ht
  rename_i e' hu
  cases ht
  have hs := szOf_run he w
  have c1 : h ≤ c := by omega
  rcases hlo with ⟨rfl, rfl⟩ | ⟨k, rfl⟩ <;> rcases hhi with ⟨rfl, rfl⟩ | ⟨k', rfl⟩ <;>
    simp [Instr.sliceAt, Instr.slice, run_underlying hu, Instr.sliceBounds, Instr.sliceBound, asIntOf, hs, c1, h1]

theorem bnd_spec {d : Int} {x : Option AV} {n : Int} (h : bnd d x = some n) : (x = none ∧ n = d) ∨ ∃ k, x = some (.d (.sc (.int k n))) := by
  unfold bnd at h
  split at h
  · cases h; exact .inl ⟨rfl, rfl⟩
  · cases h; exact .inr ⟨_, rfl⟩
  · cases h

theorem slP_spec {lo hi : Option AV} {l h n : Int} (hp : allP (slP lo hi l h n)) (h0 : 0 ≤ n) (hl : lo = none → l = 0) (hh : hi = none → h = n) : 0 ≤ l ∧ l ≤ h ∧ h ≤ n := by
  unfold slP at hp
  split at hp
  · have := hl rfl; have := hh rfl; omega
  · have := hh rfl; simp [allP] at hp; omega
  · have := hl rfl; simp [allP] at hp; omega
  · simp [allP] at hp; omega

theorem sub_eq {els : List (List DV)} {lo hi : Option AV} {l h : Int} (h0 : 0 ≤ l) (hl : lo = none → l = 0) (hh : hi = none → h = els.length) : sub els lo hi l h = (els.drop l.toNat).take (h.toNat - l.toNat) := by
  unfold sub
  split
  · have := hl rfl; have := hh rfl; subst_vars; simp
  · have := hh rfl; subst this; simp
    rw [List.take_of_length_le (by simp)]
  · have := hl rfl; subst this; simp
  · rfl

theorem sound_slice {P : Program} {o : Oper} {id : Nat} {E : Operand → AV} {H : Heap} {r : Res} {x : Operand} {lo hi : Option Operand} {t : Nat} {hs : List Hint}
    (ho : o.op = .slice t x lo hi none) (hinfo : ∀ e, elemOfSl P t = some e → (P.info? e).isSome = true) (h : actSlice P t hs (E x) (lo.map E) (hi.map E) H = some r) : Sound P o id E H r := by
  intro Ow Im0 w0 ρ w Im clk a I _ _ hE hph
  have hx := hE x
  unfold actSlice at h
  split at h
  · cases h
  rename_i e he
  have hi' := hinfo e he
  -- the bounds as the run sees them
  have lov : ∀ (d l : Int), bnd d (lo.map E) = some l → 0 ≤ l → (lo.map a.eval = none ∧ l = d) ∨ ∃ k, lo.map a.eval = some (.int k (l.toNat : Int)) := by
    intro d l hb h0
    rcases bnd_spec hb with ⟨h1, h2⟩ | ⟨k, h1⟩
    · cases lo with
      | none => exact .inl ⟨rfl, h2⟩
      | some y => simp at h1
    · cases lo with
      | none => simp at h1
      | some y =>
        simp only [Option.map_some, Option.some.injEq] at h1
        have := rel_sc (h1 ▸ hE y)
        exact .inr ⟨k, by simp [this]; omega⟩
  have hiv : ∀ (d l : Int), bnd d (hi.map E) = some l → 0 ≤ l → (hi.map a.eval = none ∧ l = d) ∨ ∃ k, hi.map a.eval = some (.int k (l.toNat : Int)) := by
    intro d l hb h0
    rcases bnd_spec hb with ⟨h1, h2⟩ | ⟨k, h1⟩
    · cases hi with
      | none => exact .inl ⟨rfl, h2⟩
      | some y => simp at h1
    · cases hi with
      | none => simp at h1
      | some y =>
        simp only [Option.map_some, Option.some.injEq] at h1
        have := rel_sc (h1 ▸ hE y)
        exact .inr ⟨k, by simp [this]; omega⟩
  have none1 : ∀ {d l : Int} {y : Option AV}, bnd d y = some l → y = none → l = d := by
    intro d l y hb hy; subst hy; simp [bnd] at hb; exact hb.symm
  have run : ∀ (p : Option Addr) (n c : Nat) (l h : Int), a.eval x = .slice p n c → n ≤ c → bnd 0 (lo.map E) = some l → bnd (n : Int) (hi.map E) = some h → 0 ≤ l → l ≤ h → h ≤ n →
      (execOp a.eval o).run P w = .ok (.value (.slice (if c = l.toNat then p else p.map (·.add (l.toNat * szOf P e))) (h.toNat - l.toNat) (c - l.toNat))) w := by
    intro p n c l h hv hc hl hh h1 h2 h3
    have e1 := lov 0 l hl h1
    have e2 := hiv n h hh (by omega)
    have := run_slice_ok (P := P) (w := w) (a := p) (n := n) (c := c) (l := l.toNat) (h := h.toNat) he hi' (e1.imp (fun ⟨p, q⟩ => ⟨p, by omega⟩) (fun h => h)) (e2.imp (fun ⟨p, q⟩ => ⟨p, by omega⟩) (fun h => h)) (by omega) (by omega) hc
    simp [execOp, ho, hv, this]
  split at h
  · rename_i s els hE1
    rw [hE1] at hx
    split at h
    rotate_left
    · cases h
    rename_i hsz
    split at h
    rotate_left
    · cases h
    rename_i l hh hl1 hh1
    have fin : allP (slP (lo.map E) (hi.map E) l hh els.length) → Goes P o a w fun v w' => Then Ow Im0 w0 ρ w Im clk H (.d (.sl s (sub els (lo.map E) (hi.map E) l hh))) v w' := by
      intro hp
      obtain ⟨p1, p2, p3⟩ := slP_spec hp (by omega) (none1 hl1) (none1 hh1)
      rw [sub_eq p1 (none1 hl1) (none1 hh1)]
      generalize hv : a.eval x = v at hx
      cases hx with
      | d hx =>
        have hlen : ∃ p n c, v = .slice p n c ∧ n = els.length ∧ n ≤ c := by
          cases hx with
          | slNil s p c => exact ⟨p, 0, c, rfl, rfl, Nat.zero_le _⟩
          | sl s els p n c f hn hc => exact ⟨some p, n, c, rfl, hn.symm, hc⟩
        obtain ⟨p, n, c, rfl, hn, hc⟩ := hlen
        refine .inl ⟨_, w, run p n c l hh hv hc hl1 (by rw [hn]; exact hh1) p1 p2 (by omega), .same I (.d ?_)⟩
        exact relD_sub hx (by omega) (by omega) (szOf P e) (.inl hsz) (.inl ⟨hn, hc⟩)
    split at h
    · rename_i l' _
      cases h
      obtain ⟨p1, p2⟩ := allP_append.1 hph
      have p2' : sub els (lo.map E) (hi.map E) l hh = l' := by simpa [allP] using p2
      have := fin p1
      rw [p2'] at this
      exact this
    · cases h
      exact fin hph
  · rename_i b hE1
    rw [hE1] at hx
    split at h
    rotate_left
    · cases h
    rename_i ty s els hb
    split at h
    rotate_left
    · cases h
    rename_i hsz
    split at h
    rotate_left
    · cases h
    rename_i l hh hl1 hh1
    cases h
    obtain ⟨p1, p2, p3⟩ := slP_spec hph (by omega) (none1 hl1) (none1 hh1)
    generalize hv : a.eval x = v at hx
    cases hx with
    | ow hρ hc hbg ha =>
      rename_i c ad β
      obtain ⟨β', h1, h2⟩ := I.blk b _ hb
      rw [hρ] at h1; cases h1
      obtain ⟨g1, g2, _, _, _⟩ := h2
      refine .inl ⟨_, w, run ad β.n c l hh hv hc hl1 (by rw [g2]; exact hh1) p1 p2 (by omega), .same I (.os hρ (by omega) (by omega) (by omega) ?_)⟩
      rcases ha with ha | ⟨g, hg, rfl, hrow⟩
      · exact .inl (by omega)
      · by_cases hcl : c = l.toNat
        · exact .inl (by omega)
        · refine .inr ⟨g, hg, by rw [if_neg hcl]; simp [Addr.add_lit, hsz, g1], ?_⟩
          rw [show l.toNat + (c - l.toNat) = c from by omega]; exact hrow
  · rename_i b oo m hE1
    rw [hE1] at hx
    split at h
    rotate_left
    · cases h
    rename_i ty s els hb
    split at h
    rotate_left
    · cases h
    rename_i hsz
    split at h
    rotate_left
    · cases h
    rename_i l hh hl1 hh1
    cases h
    obtain ⟨p1, p2, p3⟩ := slP_spec hph (by omega) (none1 hl1) (none1 hh1)
    generalize hv : a.eval x = v at hx
    cases hx with
    | os hρ hn hc hbg ha =>
      rename_i c ad β
      obtain ⟨β', h1, h2⟩ := I.blk b _ hb
      rw [hρ] at h1; cases h1
      obtain ⟨g1, g2, _, _, _⟩ := h2
      refine .inl ⟨_, w, run ad m c l hh hv hc hl1 hh1 p1 p2 (by omega), .same I (.os hρ (by omega) (by omega) (by omega) ?_)⟩
      rcases ha with ha | ⟨g, hg, rfl, hrow⟩
      · exact .inl (by omega)
      · by_cases hcl : c = l.toNat
        · exact .inl (by omega)
        · refine .inr ⟨g, hg, by rw [if_neg hcl]; simp [Addr.add_lit, hsz, g1, Nat.add_mul], ?_⟩
          rw [show oo + l.toNat + (c - l.toNat) = oo + c from by omega]; exact hrow
  · cases h

end Go.Sx
