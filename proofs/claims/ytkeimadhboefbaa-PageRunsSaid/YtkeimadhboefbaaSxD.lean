/-
  More operations of the symbolic executor: stores, arithmetic, addresses, slices, lengths.
  Conditions: none.
-/
import Derived.Test.YtkeimadhboefbaaSxC
namespace Go.Sx

/-! Stores -/
/-- A row of cells with others from o on. -/
def splice (l : List AV) (o : Nat) (xs : List AV) : List AV := l.take o ++ xs ++ l.drop (o + xs.length)
def spliceD (l : List DV) (o : Nat) (xs : List DV) : List DV := l.take o ++ xs ++ l.drop (o + xs.length)
def undv : AV → Option DV
  | .d x => some x
  | _ => none
def undvs : List AV → Option (List DV)
  | [] => some []
  | a :: l => match undv a, undvs l with
    | some x, some r => some (x :: r)
    | _, _ => none
theorem undvs_spec : ∀ {l : List AV} {e : List DV}, undvs l = some e → l = dvs e
  | [], e, h => by simp [undvs] at h; subst h; rfl
  | a :: l, e, h => by
    simp only [undvs] at h
    split at h
    · rename_i x r hx hr
      cases h
      rw [undvs_spec hr]
      cases a <;> simp [undv] at hx
      subst hx; rfl
    · cases h

def actStore (P : Program) (t : Nat) (hs : List Hint) (x y : AV) (H : Heap) : Option Res :=
  match y.cells with
  | none => none
  | some ys => if ys.length = szOf P t then
    match x with
    | .pt b i o => match H b with
      | some (.box ty l) => match i with
        | 0 => if o + ys.length ≤ l.length then some ⟨.any, some (b, .box ty (splice l o ys)), []⟩ else none
        | _ + 1 => none
      | some (.arr ty s els) => match undvs ys with
        | some ds => match hs with
          | .el e :: .els l' :: _ => if o + ds.length ≤ s then some ⟨.any, some (b, .arr ty s l'), [els[i]? = some e, els.set i (spliceD e o ds) = l']⟩ else none
          | .el e :: _ => if o + ds.length ≤ s then some ⟨.any, some (b, .arr ty s (els.set i (spliceD e o ds))), [els[i]? = some e]⟩ else none
          | .els l' :: _ => if o = 0 ∧ ds.length = s then some ⟨.any, some (b, .arr ty s l'), [i < els.length, els.set i ds = l']⟩ else none
          | _ => if o = 0 ∧ ds.length = s then some ⟨.any, some (b, .arr ty s (els.set i ds)), [i < els.length]⟩ else none
        | none => none
      | _ => none
    | _ => none
    else none

theorem splice_length {α : Type} {l xs : List α} {o : Nat} (h : o + xs.length ≤ l.length) : (l.take o ++ xs ++ l.drop (o + xs.length)).length = l.length := by
  simp; omega
theorem splice_get {α : Type} {l xs : List α} {o : Nat} (h : o + xs.length ≤ l.length) (j : Nat) :
    (l.take o ++ xs ++ l.drop (o + xs.length))[j]? = if j < o then l[j]? else if j < o + xs.length then xs[j - o]? else l[j]? := by
  have e1 : (l.take o).length = o := by simp; omega
  by_cases h1 : j < o
  · simp only [h1, if_true, List.append_assoc]
    rw [List.getElem?_append_left (by omega), List.getElem?_take_of_lt h1]
  · simp only [h1, if_false]
    by_cases h2 : j < o + xs.length
    · simp only [h2, if_true]
      rw [List.getElem?_append_left (by simp; omega), List.getElem?_append_right (by omega), e1]
    · simp only [h2, if_false]
      rw [List.getElem?_append_right (by simp; omega), List.getElem?_drop]
      congr 1
      simp
      omega

theorem run_storeVar_own {P : Program} {w : World} {t g off : Nat} {cs : Array Value} {ty : Nat} {v : Value} (hg : w.heap[g]? = some (.cells cs ty (0, 0)))
    (hsz : v.cells.size = szOf P t) (hinfo : (P.info? t).isSome = true) (hfit : off + v.cells.size ≤ cs.size) (hone : ∀ (i : Nat) (u : Value), v.cells[i]? = some u → u.oneCell' = true) :
    (storeVar t ⟨g, off, none⟩ v).run P w = .ok () (w.setRow g (cs.toList.take off ++ v.cells.toList ++ cs.toList.drop (off + v.cells.toList.length)).toArray) := by
  obtain ⟨i, hi⟩ := Option.isSome_iff_exists.1 hinfo
  have hs : i.size = v.cells.size := by unfold szOf at hsz; rw [hi] at hsz; exact hsz.symm
  have := run_storeCells_at P g off ty v.cells.toList 0 cs w hg (by simpa using hfit) (fun u hu => by
    obtain ⟨k, hk⟩ := List.getElem?_of_mem hu
    exact hone k u (by simpa using hk))
  simp only [Nat.add_zero] at this
  simp [storeVar, sizeOf, typeInfo, hi, hs, this]

/-- A store's run, all cases: the row of the block with the value's cells laid over it. -/
theorem goes_store {P : Program} {o : Oper} {t : Nat} {x y : Operand} {Ow Im0 : Nat → Prop} {w0 : World} {ρ : Rho} {w : World} {Im : Nat → Prop} {H : Heap} {clk : Nat} {a : Act}
    (ho : o.op = .store t x y) (I : Inv Ow Im0 w0 ρ w Im H clk) {b g s n off : Nat} {cs : Array Value} {ty : Nat} {B B' : Blk} (hb : ρ b = some ⟨some g, s, n⟩) (hH : H b = some B) (hBd : B ≠ .dead)
    (hg : w.heap[g]? = some (.cells cs ty (0, 0))) (hv : a.eval x = .pointer (some ⟨g, off, none⟩)) (hinfo : (P.info? t).isSome = true)
    (hsz : (a.eval y).cells.size = szOf P t) (hfit : off + (a.eval y).cells.size ≤ cs.size) (hone : ∀ (i : Nat) (u : Value), (a.eval y).cells[i]? = some u → u.oneCell' = true)
    (hB : ∀ w', Ext Im w w' → ∀ cs' : Array Value, w'.heap[g]? = some (.cells cs' ty (0, 0)) → cs'.size = cs.size →
      (∀ j, cs'[j]? = if j < off then cs[j]? else if j < off + (a.eval y).cells.size then (a.eval y).cells[j - off]? else cs[j]?) → RelB ρ w' Im ⟨some g, s, n⟩ B') :
    Goes P o a w fun v w' => Then Ow Im0 w0 ρ w Im clk (updH H b B') .any v w' := by
  have hrun := run_storeVar_own (P := P) (t := t) hg hsz hinfo hfit hone
  have hl : off + (a.eval y).cells.toList.length ≤ cs.toList.length := by simpa using hfit
  have hlen : ((cs.toList.take off ++ (a.eval y).cells.toList ++ cs.toList.drop (off + (a.eval y).cells.toList.length)).toArray).size = cs.size := by
    rw [List.size_toArray, splice_length hl]; simp
  have hput := I.put b g s n cs _ ty B' hb hg hlen ⟨B, hH, hBd⟩ (fun he => hB _ he _ (setRow_heap w g cs _ ty _ hg) hlen (fun j => by
    rw [List.getElem?_toArray, splice_get hl]
    simp))
  refine .inr ⟨_, ?_, ρ, hput.1, hput.2, fun _ _ h => h, .any _⟩
  simp [execOp, ho, Instr.storeAt, Instr.sureAddr, hv, hrun]

theorem info_of_sz {P : Program} {t : Nat} (h : szOf P t ≠ 0) : (P.info? t).isSome = true := by
  unfold szOf at h
  cases hi : P.info? t with
  | none => simp [hi] at h
  | some i => rfl

theorem sound_store {P : Program} {o : Oper} {id t : Nat} {E : Operand → AV} {H : Heap} {r : Res} {x y : Operand} {hs : List Hint} (ho : o.op = .store t x y) (hz : szOf P t ≠ 0)
    (h : actStore P t hs (E x) (E y) H = some r) : Sound P o id E H r := by
  intro Ow Im0 w0 ρ w Im clk a I hid hH hE hph
  have hx := hE x
  have hy := hE y
  unfold actStore at h
  split at h
  · cases h
  rename_i ys hys
  obtain ⟨c1, c2, c3⟩ := hy.cells hys
  split at h
  rotate_left
  · cases h
  rename_i hlen
  have hsz : (a.eval y).cells.size = szOf P t := by rw [c1, hlen]
  split at h
  rotate_left
  · cases h
  rename_i b i oo hE'
  rw [hE'] at hx
  obtain ⟨g, s, n, hρ, hv⟩ := rel_ptr hx
  split at h
  · rename_i ty l hb
    split at h
    rotate_left
    · cases h
    split at h
    rotate_left
    · cases h
    rename_i hfit
    cases h
    obtain ⟨β, h1, h2⟩ := I.blk b _ hb
    rw [hρ] at h1; cases h1
    obtain ⟨hs1, hn1, g', cs, hg, hw, hsz1, hone, hcell⟩ := h2
    cases hg
    refine goes_store ho I hρ hb (by simp) hw (off := oo) (by simpa using hv) (info_of_sz hz) hsz (by rw [c1]; omega) c3 fun w' he cs' hw' hsz' hget => ?_
    refine ⟨?_, hn1, g, cs', rfl, hw', ?_, ?_, ?_⟩
    · simp only [splice]; rw [splice_length hfit]; exact hs1
    · rw [hsz', hsz1]; simp only [splice]; rw [splice_length hfit]
    · intro j u hu
      rw [hget] at hu
      split at hu
      · exact hone j u hu
      · split at hu
        · exact c3 _ u hu
        · exact hone j u hu
    · intro j a' u ha hu
      rw [hget] at hu
      simp only [splice] at ha
      rw [splice_get hfit] at ha
      rw [c1] at hu
      split at hu
      · rename_i h1; simp only [h1, if_true] at ha
        exact (hcell j a' u ha hu).mono he (fun _ h => h) (fun _ _ h => h) I.bnd
      · rename_i h1; simp only [h1, if_false] at ha
        split at hu
        · rename_i h2; simp only [h2, if_true] at ha
          exact (c2 _ a' u ha hu).mono he (fun _ h => h) (fun _ _ h => h) I.bnd
        · rename_i h2; simp only [h2, if_false] at ha
          exact (hcell j a' u ha hu).mono he (fun _ h => h) (fun _ _ h => h) I.bnd
  · rename_i ty s' els hb
    split at h
    rotate_left
    · cases h
    rename_i ds hds
    have hyd := undvs_spec hds
    have hdl : ds.length = ys.length := by rw [hyd]; simp [dvs]
    obtain ⟨β, h1, h2⟩ := I.blk b _ hb
    rw [hρ] at h1; cases h1
    obtain ⟨hs1, hn1, hbig, hel, h3⟩ := h2
    simp only at hs1 hn1
    subst hs1
    -- one element changes to e'
    have fin : ∀ (e' : List DV), e'.length = s → i < els.length → oo + ys.length ≤ s → (∀ j, e'[j]? = if j < oo then (els[i]?.getD [])[j]? else if j < oo + ds.length then ds[j - oo]? else (els[i]?.getD [])[j]?) →
        Goes P o a w fun v w' => Then Ow Im0 w0 ρ w Im clk (updH H b (.arr ty s (els.set i e'))) .any v w' := by
      intro e' hl' hi hfit hget'
      rcases h3 with ⟨_, h3⟩ | ⟨g', cs, hg, hw, hsz1, hcell⟩
      · subst h3; simp at hi
      cases hg
      have hin : i * s + s ≤ cs.size := by
        have : (i + 1) * s ≤ els.length * s := Nat.mul_le_mul_right s hi
        rw [Nat.add_mul] at this; omega
      refine goes_store ho I hρ hb (by simp) hw (off := i * s + oo) hv (info_of_sz hz) hsz (by rw [c1]; omega) c3 fun w' he cs' hw' hsz' hget => ?_
      refine ⟨rfl, by simp [hn1], by simpa using hbig, ?_, .inr ⟨g, cs', rfl, hw', by rw [hsz']; simpa using hsz1, ?_⟩⟩
      · intro e he'
        rcases List.mem_or_eq_of_mem_set he' with h | h
        · exact hel e h
        · rw [h]; exact hl'
      · intro k e j d hk hj
        rw [List.getElem?_set] at hk
        by_cases hki : i = k
        · subst hki
          simp only [if_true, hi] at hk
          cases hk
          have hjs : j < s := by rw [← hl']; exact (List.getElem?_eq_some_iff.1 hj).1
          rw [hget'] at hj
          have hei : els[i]? = some (els[i]?.getD []) := by rw [List.getElem?_eq_getElem hi]; rfl
          by_cases hj1 : j < oo
          · simp only [hj1, if_true] at hj
            obtain ⟨v, k1, k2⟩ := hcell i _ j d hei hj
            exact ⟨v, by rw [hget]; simp [hj1, k1], k2.mono he (fun _ h => h)⟩
          · simp only [hj1, if_false] at hj
            by_cases hj2 : j < oo + ds.length
            · simp only [hj2, if_true] at hj
              have hyj : ys[j - oo]? = some (.d d) := by rw [hyd]; simp [dvs, hj]
              have hcj : j - oo < (a.eval y).cells.size := by rw [c1, ← hdl]; omega
              have hr := c2 (j - oo) _ _ hyj (Array.getElem?_eq_getElem hcj)
              refine ⟨_, by rw [hget, if_neg (by omega), if_pos (by rw [c1, ← hdl]; omega), show i * s + j - (i * s + oo) = j - oo from by omega]; exact Array.getElem?_eq_getElem hcj, ?_⟩
              cases hr with
              | d hr => exact hr.mono he (fun _ h => h)
            · simp only [hj2, if_false] at hj
              obtain ⟨v, k1, k2⟩ := hcell i _ j d hei hj
              exact ⟨v, by rw [hget, if_neg (by omega), if_neg (by rw [c1, ← hdl]; omega)]; exact k1, k2.mono he (fun _ h => h)⟩
        · simp only [hki, if_false] at hk
          obtain ⟨v, k1, k2⟩ := hcell k e j d hk hj
          have hes : e.length = s := hel e (List.mem_of_getElem? hk)
          have hjs : j < s := by rw [← hes]; exact (List.getElem?_eq_some_iff.1 hj).1
          refine ⟨v, ?_, k2.mono he (fun _ h => h)⟩
          rw [hget]
          rcases Nat.lt_or_ge k i with hlt | hge
          · have : (k + 1) * s ≤ i * s := Nat.mul_le_mul_right s hlt
            rw [Nat.add_mul] at this
            rw [if_pos (by omega)]; exact k1
          · have : (i + 1) * s ≤ k * s := Nat.mul_le_mul_right s (by omega)
            rw [Nat.add_mul] at this
            rw [if_neg (by omega), if_neg (by rw [c1]; omega)]; exact k1
    have whole : oo = 0 ∧ ds.length = s → i < els.length → Goes P o a w fun v w' => Then Ow Im0 w0 ρ w Im clk (updH H b (.arr ty s (els.set i ds))) .any v w' := by
      rintro ⟨rfl, hds'⟩ hi
      refine fin ds hds' hi (by omega) fun j => ?_
      by_cases hj : j < ds.length
      · simp [hj]
      · simp only [Nat.not_lt_zero, if_false, Nat.zero_add, hj]
        rw [List.getElem?_eq_none (by omega)]
        have : (els[i]?.getD []).length = s := by rw [List.getElem?_eq_getElem hi]; exact hel _ (List.getElem_mem hi)
        rw [List.getElem?_eq_none (by omega)]
    have part : ∀ e, els[i]? = some e → oo + ds.length ≤ s → Goes P o a w fun v w' => Then Ow Im0 w0 ρ w Im clk (updH H b (.arr ty s (els.set i (spliceD e oo ds)))) .any v w' := by
      intro e he hfit
      have hes : e.length = s := hel e (List.mem_of_getElem? he)
      refine fin _ (by simp only [spliceD]; rw [splice_length (by omega)]; exact hes) (List.getElem?_eq_some_iff.1 he).1 (by omega) fun j => ?_
      simp only [spliceD]
      rw [splice_get (by omega), he]
      rfl
    split at h
    · rename_i e l' _
      split at h
      · cases h
        obtain ⟨p1, p2⟩ : els[i]? = some e ∧ els.set i (spliceD e oo ds) = l' := by simpa [allP] using hph
        rw [Res.heap, ← p2]; exact part e p1 ‹_›
      · cases h
    · rename_i e _ _
      split at h
      · cases h
        exact part e (by simpa [allP] using hph) ‹_›
      · cases h
    · rename_i l' _
      split at h
      · cases h
        obtain ⟨p1, p2⟩ : i < els.length ∧ els.set i ds = l' := by simpa [allP] using hph
        rw [Res.heap, ← p2]; exact whole ‹_› p1
      · cases h
    · split at h
      · cases h
        exact whole ‹_› (by simpa [allP] using hph)
      · cases h
  · cases h

end Go.Sx
