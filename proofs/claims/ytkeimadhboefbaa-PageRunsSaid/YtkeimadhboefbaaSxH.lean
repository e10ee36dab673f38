/-
  Literals of structs and slices, make, copy, append: operations of the symbolic executor.
  Conditions: none.
-/
import Derived.Test.YtkeimadhboefbaaSxG
namespace Go.Sx

theorem foldl_set (u : List Value) : ∀ (off k : Nat) (cells : Array Value), off + k + u.length ≤ cells.size →
    ((u.zipIdx k).foldl (fun cs (p : Value × Nat) => cs.setIfInBounds (off + p.2) p.1) cells).size = cells.size ∧
    ∀ j, ((u.zipIdx k).foldl (fun cs (p : Value × Nat) => cs.setIfInBounds (off + p.2) p.1) cells)[j]? = if j < off + k then cells[j]? else if j < off + k + u.length then u[j - (off + k)]? else cells[j]? := by
  induction u with
  | nil => intro off k cells _; refine ⟨rfl, fun j => ?_⟩; simp only [List.zipIdx_nil, List.foldl_nil, List.length_nil, Nat.add_zero]; split <;> rfl
  | cons x u ih =>
    intro off k cells h
    simp only [List.length_cons] at h
    have := ih off (k + 1) (cells.setIfInBounds (off + k) x) (by simp; omega)
    simp only [List.zipIdx_cons, List.foldl_cons]
    refine ⟨by rw [this.1]; simp, fun j => ?_⟩
    rw [this.2 j]
    simp only [Array.getElem?_setIfInBounds, List.length_cons]
    by_cases h1 : j < off + k
    · rw [if_pos (by omega), if_neg (by omega), if_pos h1]
    · rw [if_neg h1]
      by_cases h2 : j = off + k
      · subst h2
        rw [if_pos (by omega), if_pos rfl, if_pos (by omega), if_pos (by omega)]
        simp
      · rw [if_neg (show ¬ j < off + (k + 1) by omega)]
        by_cases h3 : j < off + (k + 1) + u.length
        · rw [if_pos h3, if_pos (by omega)]
          have e : j - (off + k) = (j - (off + (k + 1))) + 1 := by omega
          rw [e]; simp
        · rw [if_neg h3, if_neg (by omega), if_neg (by omega)]

/-- What one part of a literal does. -/
theorem fold_cells (v : Value) (off : Nat) (cells : Array Value) (h : off + v.cells.size ≤ cells.size) :
    (v.cells.zipIdx.foldl (fun cs (p : Value × Nat) => cs.setIfInBounds (off + p.2) p.1) cells).size = cells.size ∧
    ∀ j, (v.cells.zipIdx.foldl (fun cs (p : Value × Nat) => cs.setIfInBounds (off + p.2) p.1) cells)[j]? = if j < off then cells[j]? else if j < off + v.cells.size then v.cells[j - off]? else cells[j]? := by
  have e : v.cells.zipIdx.foldl (fun cs (p : Value × Nat) => cs.setIfInBounds (off + p.2) p.1) cells = (v.cells.toList.zipIdx 0).foldl (fun cs (p : Value × Nat) => cs.setIfInBounds (off + p.2) p.1) cells := by
    rw [← Array.foldl_toList]; simp
  have := foldl_set v.cells.toList off 0 cells (by simpa using h)
  rw [e]
  refine ⟨this.1, fun j => ?_⟩
  rw [this.2 j]
  simp

def fillA (place : Nat → Option (Nat × Nat)) (l : List AV) : List (Nat × AV) → Option (List AV)
  | [] => some l
  | (i, x) :: r => match place i, x.cells with
    | some (off, size), some xs => if xs.length = size ∧ off + size ≤ l.length then fillA place (splice l off xs) r else none
    | _, _ => none

/-- A row of values reads as a row of abstract cells. -/
def RelL (ρ : Rho) (w : World) (Im : Nat → Prop) (l : List AV) (cs : Array Value) : Prop :=
  cs.size = l.length ∧ (∀ (i : Nat) (v : Value), cs[i]? = some v → v.oneCell' = true) ∧ ∀ (i : Nat) (a : AV) (v : Value), l[i]? = some a → cs[i]? = some v → Rel ρ w Im a v

theorem fill_rel {ρ : Rho} {w : World} {Im : Nat → Prop} {place : Nat → Option (Nat × Nat)} : ∀ {parts : List (Nat × AV)} {vals : List (Nat × Value)} {l l' : List AV} {cs : Array Value},
    parts.length = vals.length → (∀ (k : Nat) (p : Nat × AV) (q : Nat × Value), parts[k]? = some p → vals[k]? = some q → p.1 = q.1 ∧ Rel ρ w Im p.2 q.2) → RelL ρ w Im l cs → fillA place l parts = some l' →
    ∃ cs', Instr.fill place cs vals = some cs' ∧ RelL ρ w Im l' cs'
  | [], vals, l, l', cs, hn, _, hr, h => by
    cases vals with
    | nil => simp [fillA] at h; subst h; exact ⟨cs, rfl, hr⟩
    | cons _ _ => simp at hn
  | (i, x) :: parts, vals, l, l', cs, hn, hp, hr, h => by
    cases vals with
    | nil => simp at hn
    | cons q vals =>
      obtain ⟨i', v⟩ := q
      obtain ⟨h1, h2⟩ := hp 0 _ _ rfl rfl
      simp only at h1 h2
      subst h1
      simp only [fillA] at h
      split at h
      rotate_left
      · cases h
      rename_i off size xs hpl hxs
      split at h
      rotate_left
      · cases h
      rename_i hc
      obtain ⟨c1, c2, c3⟩ := h2.cells hxs
      obtain ⟨r1, r2, r3⟩ := hr
      have hfit : off + v.cells.size ≤ cs.size := by omega
      have hfl : off + xs.length ≤ l.length := by omega
      have key := fold_cells v off cs hfit
      have hrel : RelL ρ w Im (splice l off xs) (v.cells.zipIdx.foldl (fun cs (p : Value × Nat) => cs.setIfInBounds (off + p.2) p.1) cs) := by
        refine ⟨?_, ?_, ?_⟩
        · rw [key.1, r1]; simp only [splice]; rw [splice_length hfl]
        · intro j u hu
          rw [key.2 j] at hu
          split at hu
          · exact r2 j u hu
          · split at hu
            · exact c3 _ u hu
            · exact r2 j u hu
        · intro j a u ha hu
          rw [key.2 j] at hu
          simp only [splice] at ha
          rw [splice_get hfl, ← c1] at ha
          by_cases k1 : j < off
          · simp only [k1, if_true] at ha hu; exact r3 j a u ha hu
          · simp only [k1, if_false] at ha hu
            by_cases k2 : j < off + v.cells.size
            · simp only [k2, if_true] at ha hu; exact c2 _ a u ha hu
            · simp only [k2, if_false] at ha hu; exact r3 j a u ha hu
      obtain ⟨cs', h3, h4⟩ := fill_rel (place := place) (by simpa using hn) (fun k p q hk hq => hp (k + 1) p q (by simpa using hk) (by simpa using hq)) hrel h
      refine ⟨cs', ?_, h4⟩
      simp only [Instr.fill, hpl]
      rw [if_neg (by simp; omega)]
      exact h3

theorem run_mapM_list {P : Program} {w : World} {α β : Type} (f : α → Sem β) (g : α → β) : ∀ (l : List α), (∀ x ∈ l, (f x).run P w = .ok (g x) w) → (l.mapM f).run P w = .ok (l.map g) w
  | [], _ => rfl
  | x :: l, h => by
    rw [List.mapM_cons]
    simp [h x (by simp), run_mapM_list f g l (fun y hy => h y (by simp [hy]))]

theorem run_places {P : Program} {w : World} (fs : Array Field) (h : ∀ f ∈ fs.toList, (P.info? f.type).isSome = true) :
    (fs.mapM fun f => do pure (f.offset, ← sizeOf f.type) : Sem (Array (Nat × Nat))).run P w = .ok (fs.map fun f => (f.offset, szOf P f.type)) w := by
  obtain ⟨l⟩ := fs
  rw [List.mapM_toArray]
  have := run_mapM_list (P := P) (w := w) (fun f : Field => (do pure (f.offset, ← sizeOf f.type) : Sem (Nat × Nat))) (fun f => (f.offset, szOf P f.type)) l (fun f hf => by
    simp [szOf_run (h f hf) w])
  simp only [Sem.run_map, this, Result.andThen_ok]
  simp

def placeS (P : Program) (fs : List Field) (i : Nat) : Option (Nat × Nat) := match fs[i]? with | some f => some (f.offset, szOf P f.type) | none => none

def actBuild (P : Program) (t : Nat) (parts : List (Nat × AV)) : Option Res :=
  match zeroOf P t with
  | none => none
  | some z => match (cv z).cells with
    | none => none
    | some l0 => match P.underlying t with
      | some (.struct fs) => if fs.toList.all (fun f => (P.info? f.type).isSome) then (fillA (placeS P fs.toList) l0 parts).map fun l => ⟨.ag l, none, []⟩ else none
      | some (.array _ e) => if (P.info? e).isSome then (fillA (fun i => some (i * szOf P e, szOf P e)) l0 parts).map fun l => ⟨.ag l, none, []⟩ else none
      | _ => none

theorem zero_run {P : Program} {t : Nat} {z : Value} (h : zeroOf P t = some z) (w : World) : (zeroValue t).run P w = .ok z w := by
  unfold zeroOf at h
  split at h
  · rename_i i hi; simp [zeroValue, typeInfo, hi, h]
  · cases h

theorem sound_build {P : Program} {o : Oper} {id : Nat} {E : Operand → AV} {H : Heap} {r : Res} {t : Nat} {parts : Array (Nat × Operand)}
    (ho : o.op = .build t parts) (h : actBuild P t (parts.toList.map fun p => (p.1, E p.2)) = some r) : Sound P o id E H r := by
  intro Ow Im0 w0 ρ w Im clk a I _ _ hE _
  unfold actBuild at h
  split at h
  · cases h
  rename_i z hz
  split at h
  · cases h
  rename_i l0 hl0
  have hz0 := (cv_rel ρ w Im z).cells hl0
  have hzr := zero_run (P := P) hz w
  have hrel0 : RelL ρ w Im l0 z.cells := ⟨hz0.1, hz0.2.2, hz0.2.1⟩
  have hparts : ∀ (k : Nat) (p : Nat × AV) (q : Nat × Value), (parts.toList.map fun p => (p.1, E p.2))[k]? = some p → (parts.toList.map fun p => (p.1, a.eval p.2))[k]? = some q → p.1 = q.1 ∧ Rel ρ w Im p.2 q.2 := by
    intro k p q hp hq
    simp only [List.getElem?_map, Option.map_eq_some_iff] at hp hq
    obtain ⟨x, hx, rfl⟩ := hp
    obtain ⟨y, hy, rfl⟩ := hq
    rw [hx] at hy; cases hy
    exact ⟨rfl, hE _⟩
  split at h
  · rename_i fs hu
    split at h
    rotate_left
    · cases h
    rename_i hall
    simp only [Option.map_eq_some_iff] at h
    obtain ⟨l, hl, rfl⟩ := h
    obtain ⟨cs, h1, h2⟩ := fill_rel (vals := parts.toList.map fun p => (p.1, a.eval p.2)) (by simp) hparts hrel0 hl
    have hpl := run_places (P := P) (w := w) fs (fun f hf => by simp only [List.all_eq_true] at hall; exact hall f hf)
    have hpeq : (fun i => (fs.map fun f => (f.offset, szOf P f.type))[i]?) = placeS P fs.toList := by
      funext i
      simp only [placeS, Array.getElem?_map, Array.getElem?_toList]
      cases fs[i]? <;> rfl
    refine .inl ⟨.agg cs, w, ?_, .same I (.ag l cs h2.1 h2.2.1 h2.2.2)⟩
    simp only [execOp, ho, Instr.build, Sem.run_bind, hzr, Result.andThen_ok, run_underlying hu, hpl, hpeq]
    simp [h1]
  · rename_i n e hu
    split at h
    rotate_left
    · cases h
    rename_i hall
    simp only [Option.map_eq_some_iff] at h
    obtain ⟨l, hl, rfl⟩ := h
    obtain ⟨cs, h1, h2⟩ := fill_rel (vals := parts.toList.map fun p => (p.1, a.eval p.2)) (by simp) hparts hrel0 hl
    refine .inl ⟨.agg cs, w, ?_, .same I (.ag l cs h2.1 h2.2.1 h2.2.2)⟩
    simp only [execOp, ho, Instr.build, Sem.run_bind, hzr, Result.andThen_ok, run_underlying hu, szOf_run hall w]
    simp [h1]
  · cases h

/-! Rows of elements -/
/-- A row of values reads as a list of elements of s cells. -/
def RelE (w : World) (Im : Nat → Prop) (s : Nat) (els : List (List DV)) (cs : Array Value) : Prop :=
  (∀ e ∈ els, e.length = s) ∧ els.length * s ≤ cs.size ∧ (∀ (i : Nat) (v : Value), cs[i]? = some v → i < els.length * s → v.oneCell' = true) ∧
    ∀ (i : Nat) (e : List DV) (o : Nat) (x : DV), els[i]? = some e → e[o]? = some x → ∃ v, cs[i * s + o]? = some v ∧ RelD w Im x v

/-- An array of the call's own that has just been made. -/
theorem Then.arr {Ow Im0 : Nat → Prop} {w0 : World} {ρ : Rho} {w : World} {Im : Nat → Prop} {clk : Nat} {H : Heap} {id ty s : Nat} {els : List (List DV)} {cs : Array Value} {c : Nat}
    (I : Inv Ow Im0 w0 ρ w Im H clk) (hid : clk * 8000 ≤ id) (hH : H id = none) (h : RelE w Im s els cs) (hb : els.length ≤ big) (hc : els.length ≤ c) (hcs : c * s ≤ cs.size) :
    Then Ow Im0 w0 ρ w Im clk (updH H id (.arr ty s els)) (.ow id) (.slice (some ⟨w.heap.size, 0, none⟩) els.length c) (w.alloc (.cells cs ty)) := by
  have hsub := updR_sub (β := ⟨some w.heap.size, s, els.length⟩) (I.fresh id hid hH)
  have he := Ext.alloc Im w (.cells cs ty) I.imb
  obtain ⟨h1, h2, _, h4⟩ := h
  refine ⟨updR ρ id ⟨some w.heap.size, s, els.length⟩, I.add id hid hH cs ty s els.length _ ?_, he, hsub, ?_⟩
  · exact ⟨rfl, rfl, hb, h1, .inr ⟨w.heap.size, cs, rfl, heap_alloc_new _ _, h2, fun i e o x hi ho => let ⟨v, k1, k2⟩ := h4 i e o x hi ho; ⟨v, k1, k2.mono he (fun _ h => h)⟩⟩⟩
  · have := Rel.ow (ρ := updR ρ id ⟨some w.heap.size, s, els.length⟩) (w := w.alloc (.cells cs ty)) (Im := Im) (c := c) (a := some ⟨w.heap.size, 0, none⟩) (updR_same ρ id ⟨some w.heap.size, s, els.length⟩) hc hb
      (.inr ⟨w.heap.size, rfl, rfl, by unfold Sx.rows; rw [heap_alloc_new]; exact hcs⟩)
    exact this

theorem zeroRow_get (z : Array Value) (n s : Nat) (hz : z.size = s) (i o : Nat) (ho : o < s) (hi : i < n) :
    ((Array.range (n * s)).map (z[· % z.size]!))[i * s + o]? = z[o]? := by
  have h1 : i * s + o < n * s := by
    have : (i + 1) * s ≤ n * s := Nat.mul_le_mul_right s hi
    rw [Nat.add_mul] at this; omega
  have h2 : (i * s + o) % z.size = o := by
    rw [hz, Nat.add_comm, Nat.add_mul_mod_self_right, Nat.mod_eq_of_lt ho]
  simp only [Array.getElem?_map, Array.getElem?_range, h1, if_true, Option.map_some, h2]
  rw [Array.getElem!_eq_getD, Array.getElem?_eq_getElem (by omega)]
  simp [Array.getD, hz, ho]

/-- n elements that are zero. -/
theorem relE_zero {w : World} {Im : Nat → Prop} {z : Value} {zs : List DV} {l : List AV} {s : Nat} (n : Nat) (hl : (cv z).cells = some l) (hz : undvs l = some zs) (hs : zs.length = s) :
    RelE w Im s (List.replicate n zs) ((Array.range (n * s)).map (z.cells[· % z.cells.size]!)) := by
  have hc := (cv_rel (fun _ => none) w Im z).cells hl
  have e := undvs_spec hz
  have hsz : z.cells.size = s := by rw [hc.1, e]; simp [dvs, hs]
  refine ⟨fun e he => by rw [(List.mem_replicate.1 he).2]; exact hs, by simp, ?_, ?_⟩
  · intro i v hv hi
    simp only [List.length_replicate] at hi
    have hs0 : 0 < s := by
      rcases Nat.eq_zero_or_pos s with h | h
      · subst h; simp at hi
      · exact h
    have hdm : i = i / s * s + i % s := by rw [Nat.mul_comm]; exact (Nat.div_add_mod i s).symm
    have hq : i / s < n := by rw [Nat.div_lt_iff_lt_mul hs0]; exact hi
    rw [hdm, zeroRow_get z.cells n s hsz (i / s) (i % s) (Nat.mod_lt _ hs0) hq] at hv
    exact hc.2.2 _ v hv
  · intro i e' o x hi ho
    have hi' : i < n := by have := (List.getElem?_eq_some_iff.1 hi).1; simpa using this
    have he' : e' = zs := by
      have := List.mem_of_getElem? hi
      exact (List.mem_replicate.1 this).2
    subst he'
    have hos : o < s := by rw [← hs]; exact (List.getElem?_eq_some_iff.1 ho).1
    have ho2 : o < z.cells.size := by omega
    refine ⟨z.cells[o], by rw [zeroRow_get z.cells n s hsz i o hos hi']; exact Array.getElem?_eq_getElem ho2, ?_⟩
    have hlo : l[o]? = some (.d x) := by rw [e]; simp [dvs, ho]
    have := hc.2.1 o _ _ hlo (Array.getElem?_eq_getElem ho2)
    cases this with
    | d h => exact h

def zeroEl (P : Program) (e : Nat) : Option (List DV) := match zeroOf P e with | some z => (match (cv z).cells with | some l => undvs l | none => none) | none => none

def actMakeSlice (P : Program) (t id : Nat) (hs : List Hint) (x y : AV) : Option Res :=
  match elemOfSl P t with
  | none => none
  | some e => match zeroEl P e with
    | none => none
    | some zs => match bytesOf P e, szOf P e with
      | b + 1, s + 1 => if zs.length = s + 1 then
        match x, y with
        | .d (.sc (.int _ n)), .d (.sc (.int _ c)) => match hs with
          | .els l' :: _ => some ⟨.ow id, some (id, .arr e (s + 1) l'), [0 ≤ n ∧ n ≤ c ∧ c * (b + 1) ≤ 2 ^ 48, List.replicate n.toNat zs = l']⟩
          | _ => some ⟨.ow id, some (id, .arr e (s + 1) (List.replicate n.toNat zs)), [0 ≤ n ∧ n ≤ c ∧ c * (b + 1) ≤ 2 ^ 48]⟩
        | _, _ => none
        else none
      | _, _ => none

theorem sound_makeSlice {P : Program} {o : Oper} {id : Nat} {E : Operand → AV} {H : Heap} {r : Res} {x y : Operand} {t : Nat} {hs : List Hint}
    (ho : o.op = .makeSlice t x y) (h : actMakeSlice P t id hs (E x) (E y) = some r) : Sound P o id E H r := by
  intro Ow Im0 w0 ρ w Im clk a I hid hH hE hph
  unfold actMakeSlice at h
  split at h
  · cases h
  rename_i e he
  split at h
  · cases h
  rename_i zs hzs
  split at h
  rotate_left
  · cases h
  rename_i b s hb hsz
  split at h
  rotate_left
  · cases h
  rename_i hlen
  split at h
  rotate_left
  · cases h
  rename_i k n k' c hx hy
  have v1 := rel_sc (hx ▸ hE x)
  have v2 := rel_sc (hy ▸ hE y)
  have fin : 0 ≤ n ∧ n ≤ c ∧ c * (b + 1) ≤ 2 ^ 48 → Goes P o a w fun v w' => Then Ow Im0 w0 ρ w Im clk (updH H id (.arr e (s + 1) (List.replicate n.toNat zs))) (.ow id) v w' := by
    rintro ⟨p1, p2, p3⟩
    have pc : c ≤ c * (b + 1) := by
      rw [Int.mul_add, Int.mul_one]
      have : 0 ≤ c * (b : Int) := Int.mul_nonneg (by omega) (by omega)
      omega
    unfold zeroEl at hzs
    split at hzs
    rotate_left
    · cases hzs
    rename_i z hz
    split at hzs
    rotate_left
    · cases hzs
    rename_i l hl
    have hzr := zero_run (P := P) hz w
    unfold elemOfSl at he
    split at he
    rotate_left
    · cases he
    rename_i e' hu
    cases he
    have hw1 : IntKind.i64.wrap n = n := IntWalk.i64_in _ (by omega)
    have hw2 : IntKind.i64.wrap c = c := IntWalk.i64_in _ (by omega)
    have hcell := relE_zero (w := w) (Im := Im) c.toNat hl hzs hlen
    have hrel : RelE w Im (s + 1) (List.replicate n.toNat zs) ((Array.range (c.toNat * (s + 1))).map (z.cells[· % z.cells.size]!)) := by
      obtain ⟨h1, h2, h3, h4⟩ := hcell
      have hnc : n.toNat ≤ c.toNat := by omega
      have hmul : n.toNat * (s + 1) ≤ c.toNat * (s + 1) := Nat.mul_le_mul_right _ hnc
      refine ⟨fun e he => by rw [(List.mem_replicate.1 he).2]; exact hlen, by simpa using hmul, fun i v hv hi => h3 i v hv (by simp at hi ⊢; omega), fun i e o x hi ho => h4 i e o x ?_ ho⟩
      have hi1 := (List.getElem?_eq_some_iff.1 hi).1
      simp only [List.length_replicate] at hi1
      rw [List.getElem?_replicate, if_pos (by omega)]
      rw [List.getElem?_replicate, if_pos hi1] at hi
      exact hi
    have hinfo : ∃ i, P.info? e = some i ∧ i.bytes = b + 1 ∧ i.size = s + 1 := by
      unfold bytesOf at hb; unfold szOf at hsz
      cases hi : P.info? e with
      | none => simp [hi] at hb
      | some i => simp only [hi] at hb hsz; exact ⟨i, rfl, hb, hsz⟩
    obtain ⟨i, hi, hib, his⟩ := hinfo
    have hsr : (sizeOf e).run P w = .ok (s + 1) w := by simp [sizeOf, typeInfo, hi, his]
    have hne : ¬ c.toNat = 0 ∨ c.toNat = 0 := by omega
    have t1 : ¬ (c < 0) := by omega
    have t2 : ¬ ((b + 1 : Int) * c > 2 ^ 48) := by rw [Int.mul_comm]; omega
    have t3 : ¬ (n < 0) := by omega
    have t4 : ¬ (n > c) := by omega
    have := Then.arr (ty := e) (c := c.toNat) I hid hH hrel (by simp [big]; omega) (by simp; omega) (by simp)
    refine .inl ⟨.slice (some ⟨w.heap.size, 0, none⟩) n.toNat c.toNat, w.alloc (.cells ((Array.range (c.toNat * (s + 1))).map (z.cells[· % z.cells.size]!)) e), ?_, by simpa using this⟩
    have hib' : (i.bytes : Int) = b + 1 := by rw [hib]; rfl
    have tl : (decide (c < 0) || decide ((i.bytes : Int) * c > 2 ^ 48)) = false := by
      rw [Bool.or_eq_false_iff]
      exact ⟨decide_eq_false t1, decide_eq_false (by rw [hib']; exact t2)⟩
    have tm : (decide (c < 0) || decide ((i.bytes : Int) * c > 2 ^ 48) || decide (n < 0) || decide (n > c)) = false := by
      rw [tl, Bool.false_or, Bool.or_eq_false_iff]
      exact ⟨decide_eq_false t3, decide_eq_false t4⟩
    have mk : (Instr.makeSlice t (.int k n) (.int k' c)).run P w = .ok (.slice (some ⟨w.heap.size, 0, none⟩) n.toNat c.toNat) (w.alloc (.cells ((Array.range (c.toNat * (s + 1))).map (z.cells[· % z.cells.size]!)) e)) := by
      unfold Instr.makeSlice
      simp only [Sem.run_bind, run_underlying hu, Result.andThen_ok, asInt, asIntOf, Sem.run_pure, typeInfo, run_program, hi, hw1, hw2, tm, Bool.false_eq_true, if_false, run_askRoom, hsr]
      by_cases hc0 : c.toNat * (s + 1) = 0
      · simp [hc0, newRow, Array.range_zero']
      · simp [newRow, hzr]
        intro h; exact absurd h hc0
    simp [execOp, ho, v1, v2, mk]
  split at h
  · rename_i l' _
    cases h
    obtain ⟨p1, p2⟩ := allP_cons.1 hph
    have p2' : List.replicate n.toNat zs = l' := by simpa [allP] using p2
    rw [← p2']
    exact fin p1
  · cases h
    exact fin (by simpa [allP] using hph)

end Go.Sx
