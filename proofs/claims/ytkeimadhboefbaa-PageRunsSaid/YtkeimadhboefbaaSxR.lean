/-
  A region that draws its order: whatever the order, what the text's order gives.
  Conditions: none.
-/
import Derived.Test.YtkeimadhboefbaaSxN
namespace Go.Sx

/-! What a step looks at -/
/-- The blocks that a value names. -/
def idL : AV → List Nat
  | .pt b _ _ => [b]
  | .os b _ _ => [b]
  | .ow b => [b]
  | _ => []
def idM : AV → List Nat
  | .ag l => l.flatMap idL
  | .fn _ l => l.flatMap idL
  | .ic _ a => idL a
  | a => idL a
def idA : AV → List Nat
  | .fn _ l => l.flatMap idM
  | a => idM a
theorem idL_M {x : AV} {b : Nat} (h : b ∈ idL x) : b ∈ idM x := by
  cases x <;> first | exact h | simp [idL] at h
theorem idM_A {x : AV} {b : Nat} (h : b ∈ idM x) : b ∈ idA x := by
  cases x with
  | fn f l =>
    obtain ⟨y, hy, hb⟩ := List.mem_flatMap.1 h
    exact List.mem_flatMap.2 ⟨y, hy, idL_M hb⟩
  | _ => exact h
def idV : AV → List Nat
  | .gd _ a => idA a
  | a => idA a

def slotOf : Operand → List Nat
  | .tmp t => [t]
  | _ => []
/-- The slots that a step reads. -/
def readsOf (ops : Array Oper) (o : Oper) : List Nat := o.op.operands.toList.flatMap slotOf ++ (match o.guard with | none => [] | some (j, _) => match ops[j]? with | some oj => (match oj.dst with | some t => [t] | none => []) | none => [])
/-- The blocks that a step looks at. -/
def footR (tmps : List AV) (o : Oper) : List Nat := o.op.operands.toList.flatMap fun x => idV (ev tmps x)
/-- The names that are a step's own. -/
def ownIds (clk : Nat) (o : Oper) : List Nat := match o.dst with
  | some d => (clk * 8000 + d) :: (List.range 7).map fun k => nid d clk k
  | none => [clk * 8000 + 7999]

theorem idV_strip (G : Option Bool) (R : Operand → AV) (x : Operand) : ∀ b, b ∈ idA (stripG G R x) → b ∈ idV (R x) := by
  intro b hb
  cases G with
  | none =>
    simp only [stripG] at hb
    cases h : R x with
    | gd g a => rw [h] at hb; simp [idA, idM, idL] at hb
    | _ => rw [h] at hb; exact hb
  | some g =>
    simp only [stripG] at hb
    cases h : R x with
    | gd g' a => rw [h] at hb; exact hb
    | _ => rw [h] at hb; exact hb

section
variable {P : Program} {H H' : Heap}

theorem content_heap {x : AV} (h : ∀ b ∈ idA x, H b = H' b) : content H x = content H' x := by
  cases x with
  | ow b => simp only [content]; rw [h b (by simp [idA, idM, idL])]
  | os b o n => simp only [content]; rw [h b (by simp [idA, idM, idL])]
  | d x => cases x <;> rfl
  | _ => rfl

theorem act_heap {o : Oper} {id : Nat} {hs : List Hint} {E : Operand → AV} (h : ∀ x ∈ o.op.operands.toList, ∀ b ∈ idA (E x), H b = H' b) : act P o id hs E H = act P o id hs E H' := by
  unfold act
  cases hop : o.op with
  | load t x =>
    have hx := h x (by simp [hop, Op.operands])
    simp only [actLoad]
    cases hE : E x with
    | pt b i o => simp only; rw [hx b (by rw [hE]; simp [idA, idM, idL])]
    | _ => rfl
  | store t x y =>
    have hx := h x (by simp [hop, Op.operands])
    dsimp only
    split
    · rfl
    · simp only [actStore]
      cases hE : E x with
      | pt b i o => simp only; rw [hx b (by rw [hE]; simp [idA, idM, idL])]
      | _ => rfl
  | slice t x lo hi mx =>
    have hx := h x (by simp [hop, Op.operands])
    simp only [actSlice]
    cases hE : E x with
    | ow b => simp only; rw [hx b (by rw [hE]; simp [idA, idM, idL])]
    | os b o n => simp only; rw [hx b (by rw [hE]; simp [idA, idM, idL])]
    | d x => cases x <;> rfl
    | _ => rfl
  | indexAddr t x y =>
    have hx := h x (by simp [hop, Op.operands])
    simp only [actIndexAddr]
    cases hE : E x with
    | ow b => simp only; rw [hx b (by rw [hE]; simp [idA, idM, idL])]
    | os b o n => simp only; rw [hx b (by rw [hE]; simp [idA, idM, idL])]
    | d x => cases x <;> rfl
    | _ => rfl
  | call c =>
    have hm : ∀ x ∈ c.args.toList, ∀ b ∈ idA (E x), H b = H' b := fun x hx => h x (by simp only [hop, Op.operands, Call.operands, Array.toList_append, List.mem_append]; exact .inr hx)
    dsimp only
    split
    · split
      · rename_i x t h1 h2
        have hx := hm x (by rw [h1]; simp)
        simp only [actLen]
        cases hE : E x with
        | ow b => simp only; rw [hx b (by rw [hE]; simp [idA, idM, idL])]
        | d x => cases x <;> rfl
        | _ => rfl
      · rfl
    · split
      · rename_i x y t t' h1 h2
        have hx := hm x (by rw [h1]; simp)
        have hy := hm y (by rw [h1]; simp)
        simp only [actCopy]
        rw [content_heap hy]
        cases hE : E x with
        | ow b => simp only; rw [hx b (by rw [hE]; simp [idA, idM, idL])]
        | os b o n => simp only; rw [hx b (by rw [hE]; simp [idA, idM, idL])]
        | _ => rfl
      · rfl
    · rfl
  | _ => rfl

theorem toD1_heap {x : AV} (h : ∀ b ∈ idL x, H b = H' b) : toD1 H x = toD1 H' x := by
  cases x with
  | ow b => simp only [toD1]; rw [content_heap (x := .ow b) (fun b hb => h b (by simpa [idA, idM] using hb))]
  | os b o n => simp only [toD1]; rw [content_heap (x := .os b o n) (fun b hb => h b (by simpa [idA, idM] using hb))]
  | _ => rfl
theorem toDs_heap : ∀ {l : List AV}, (∀ b ∈ l.flatMap idL, H b = H' b) → toDs H l = toDs H' l
  | [], _ => rfl
  | a :: l, h => by
    simp only [toDs]
    rw [toD1_heap (fun b hb => h b (by simp [hb])), toDs_heap (l := l) (fun b hb => h b (by
      simp only [List.flatMap_cons, List.mem_append]; exact .inr hb))]
theorem toD_heap {x : AV} (h : ∀ b ∈ idM x, H b = H' b) : toD H x = toD H' x := by
  cases x with
  | ag l => simp only [toD]; rw [toDs_heap h]
  | fn f l => simp only [toD]; rw [toDs_heap h]
  | ic t a => simp only [toD]; rw [toD1_heap h]
  | ow b => exact toD1_heap (x := .ow b) h
  | os b o n => exact toD1_heap (x := .os b o n) h
  | _ => rfl
theorem toDD_heap : ∀ {l : List AV}, (∀ x ∈ l, ∀ b ∈ idM x, H b = H' b) → toDD H l = toDD H' l
  | [], _ => rfl
  | a :: l, h => by
    simp only [toDD]
    rw [toD_heap (h a (by simp)), toDD_heap (l := l) (fun x hx => h x (by simp [hx]))]

theorem newsOk_heap {d clk : Nat} : ∀ {news : List Blk} {k : Nat} {H H' : Heap}, (∀ i, k ≤ i → i < k + news.length → H (nid d clk i) = H' (nid d clk i)) → newsOk d clk k news H = newsOk d clk k news H'
  | [], k, H, H', _ => rfl
  | B :: r, k, H, H', h => by
    simp only [newsOk]
    rw [h k (Nat.le_refl _) (by simp), newsOk_heap (news := r) (k := k + 1) (H := updH H (nid d clk k) B) (H' := updH H' (nid d clk k) B) (fun i h1 h2 => by
      unfold updH
      split
      · rfl
      · exact h i (by omega) (by simp; omega))]

theorem actAppend_heap {t t' id : Nat} {hs : List Hint} {x y : AV} (hx : ∀ b ∈ idA x, H b = H' b) (hy : ∀ b ∈ idA y, H b = H' b) : actAppend P t t' id hs x y H = actAppend P t t' id hs x y H' := by
  unfold actAppend
  rw [content_heap hy]
  cases x with
  | ow b => simp only; rw [hx b (by simp [idA, idM, idL])]
  | _ => rfl
end

theorem pairsG_congr {G : Option Bool} {R R' : Operand → AV} : ∀ {l : List Operand}, (∀ x ∈ l, R x = R' x) → pairsG G R l = pairsG G R' l
  | [], _ => rfl
  | x :: l, h => by
    simp only [pairsG]
    rw [h x (by simp), pairsG_congr (l := l) (fun y hy => h y (by simp [hy]))]

/-- A step at two states that look alike to it. -/
theorem coreStep_local {P : Program} {clk : Nat} {ops : Array Oper} {hints : List (Nat × List Hint)} {o : Oper} {tmps tmps' : List AV} {H H' : Heap} {c : Core}
    (ht : ∀ t ∈ readsOf ops o, tmps.getD t .any = tmps'.getD t .any) (hH : ∀ b ∈ footR tmps o ++ ownIds clk o, H b = H' b) (hn : ∀ d, o.dst = some d → ∀ fr res news r, look d hints = .call fr res news :: r → news.length ≤ 7)
    (h : coreStep P clk ops hints o tmps H = some c) : coreStep P clk ops hints o tmps' H' = some c := by
  rw [← h]
  have hev : ∀ x ∈ o.op.operands.toList, ev tmps' x = ev tmps x := by
    intro x hx
    cases x with
    | tmp t => exact (ht t (by simp only [readsOf, List.mem_append, List.mem_flatMap]; exact .inl ⟨_, hx, by simp [slotOf]⟩)).symm
    | _ => rfl
  have hg : guardOf ops tmps' o.guard = guardOf ops tmps o.guard := by
    cases hgd : o.guard with
    | none => rfl
    | some p =>
      obtain ⟨j, want⟩ := p
      simp only [guardOf]
      cases hj : ops[j]? with
      | none => rfl
      | some oj =>
        cases hd : oj.dst with
        | none => simp only [hd]
        | some t =>
          have := ht t (by simp [readsOf, hgd, hj, hd])
          simp only [hd]
          rw [this]
  have hstrip : ∀ G, ∀ x ∈ o.op.operands.toList, stripG G (ev tmps') x = stripG G (ev tmps) x := by
    intro G x hx
    cases G <;> simp only [stripG, hev x hx]
  have hfoot : ∀ G, ∀ x ∈ o.op.operands.toList, ∀ b ∈ idA (stripG G (ev tmps) x), H b = H' b := by
    intro G x hx b hb
    exact hH b (List.mem_append.2 (.inl (List.mem_flatMap.2 ⟨x, hx, idV_strip G _ x b hb⟩)))
  have hown : ∀ b ∈ ownIds clk o, H b = H' b := fun b hb => hH b (List.mem_append.2 (.inr hb))
  have hplain : ∀ G, plainStep P clk hints o G tmps' H' = plainStep P clk hints o G tmps H := by
    intro G
    unfold plainStep
    cases hd : o.dst with
    | some d =>
      simp only
      rw [← hown (clk * 8000 + d) (by simp [ownIds, hd])]
      rw [act_congr (E := stripG G (ev tmps')) (E' := stripG G (ev tmps)) (hstrip G), ← act_heap (hfoot G), pairsG_congr hev]
    | none =>
      cases G with
      | some g => rfl
      | none =>
        simp only
        rw [← hown (clk * 8000 + 7999) (by simp [ownIds, hd])]
        have e1 : act P o (clk * 8000 + 7999) (look (keyOf o) hints) (ev tmps') H' = act P o (clk * 8000 + 7999) (look (keyOf o) hints) (ev tmps) H' := act_congr hev
        have e2 : act P o (clk * 8000 + 7999) (look (keyOf o) hints) (ev tmps) H' = act P o (clk * 8000 + 7999) (look (keyOf o) hints) (ev tmps) H := (act_heap (hfoot none)).symm
        rw [e1, e2]
  unfold coreStep
  rw [hg]
  cases guardOf ops tmps o.guard with
  | none => rfl
  | some G =>
    simp only
    cases hop : o.op with
    | pick x y z =>
      have h1 := hstrip G x (by simp [hop, Op.operands])
      have h2 := hev y (by simp [hop, Op.operands])
      have h3 := hev z (by simp [hop, Op.operands])
      have h4 := hev x (by simp [hop, Op.operands])
      simp only [pickStep]
      rw [h1, h2, h3, pairsG_congr (G := G) (l := [x]) (R := ev tmps') (R' := ev tmps) (by simpa using h4)]
    | call cl =>
      simp only
      cases hcal : cl.callee with
      | value f =>
        have hops : o.op.operands.toList = f :: cl.args.toList := by simp [hop, Op.operands, Call.operands, hcal]
        have hargs : cl.args.toList.map (stripG G (ev tmps')) = cl.args.toList.map (stripG G (ev tmps)) := List.map_congr_left fun x hx => hstrip G x (by rw [hops]; exact List.mem_cons_of_mem _ hx)
        have hfe := hstrip G f (by rw [hops]; simp)
        simp only [callStep]
        cases hd : o.dst with
        | none => rfl
        | some d =>
          simp only
          rw [hfe, hargs, pairsG_congr (G := G) (l := f :: cl.args.toList) (R := ev tmps') (R' := ev tmps) (by rw [← hops]; exact hev)]
          cases hfv : stripG G (ev tmps) f with
          | fn k caps =>
            simp only
            cases hl : look d hints with
            | nil => rfl
            | cons hh r =>
              cases hh with
              | call fr res news =>
                simp only
                have hdd : toDD H' (cl.args.toList.map (stripG G (ev tmps)) ++ caps) = toDD H (cl.args.toList.map (stripG G (ev tmps)) ++ caps) := by
                  refine (toDD_heap fun x hx b hb => ?_).symm
                  rcases List.mem_append.1 hx with hx | hx
                  · obtain ⟨y, hy, rfl⟩ := List.mem_map.1 hx
                    exact hfoot G y (by rw [hops]; exact List.mem_cons_of_mem _ hy) b (idM_A hb)
                  · refine hfoot G f (by rw [hops]; simp) b ?_
                    rw [hfv]
                    exact List.mem_flatMap.2 ⟨x, hx, hb⟩
                have hnews : newsOk d clk 0 news H' = newsOk d clk 0 news H := by
                  have hlen := hn d hd fr res news r hl
                  refine (newsOk_heap fun i _ hi => ?_).symm
                  refine hown _ ?_
                  simp only [ownIds, hd, List.mem_cons, List.mem_map, List.mem_range]
                  exact .inr ⟨i, by omega, rfl⟩
                rw [hdd, hnews]
              | _ => rfl
          | _ => rfl
      | builtin b =>
        cases b with
        | append =>
          cases G with
          | some g => rfl
          | none =>
            simp only [appendStep]
            cases hd : o.dst with
            | none => rfl
            | some d =>
              simp only
              split
              · rename_i x y t t' h1 h2
                have hxm : x ∈ o.op.operands.toList := by simp [hop, Op.operands, Call.operands, hcal, h1]
                have hym : y ∈ o.op.operands.toList := by simp [hop, Op.operands, Call.operands, hcal, h1]
                rw [← hown (clk * 8000 + d) (by simp [ownIds, hd]), hev x hxm, hev y hym]
                have e := actAppend_heap (P := P) (t := t) (t' := t') (id := clk * 8000 + d) (hs := look d hints) (hfoot none x hxm) (hfoot none y hym)
                simp only [stripG] at e
                rw [e]
              · rfl
        | _ => exact hplain G
      | invoke r m => exact hplain G
    | _ => exact hplain G

end Go.Sx
