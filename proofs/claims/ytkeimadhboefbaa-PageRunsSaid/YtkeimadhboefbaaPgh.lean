/-
  Layer 4 of the program: pages in use, runs of free pages.
  Conditions: none.
-/
import Derived.Test.YtkeimadhboefbaaSxX
import Derived.Test.YtkeimadhboefbaaPgf
namespace Go.Proofs.Ytkeimadhboefbaa
open Go.Sx

structure Run where
  frm : Int
  len : Int
  deriving DecidableEq
def Run.dv (r : Run) : List DV := [dint r.frm, dint r.len]
def runsV (l : List Run) : AV := .d (.sl 2 (l.map Run.dv))
def lastRun (out : List Run) : Run := out.getLast?.getD ⟨0, 0⟩
def runsStep (out : List Run) (i : Int) (p : Page) : List Run :=
  if p.kind = 0 then (if out ≠ [] ∧ (lastRun out).frm + (lastRun out).len = i then out.dropLast ++ [⟨(lastRun out).frm, (lastRun out).len + 1⟩] else out ++ [⟨i, 1⟩]) else out
def runsUp (l : List Page) : Nat → List Run
  | 0 => []
  | i + 1 => runsStep (runsUp l i) i (pageAt l i)

theorem lastRun_at {out : List Run} (h : out ≠ []) : out[out.length - 1]? = some (lastRun out) := by
  rw [← List.getLast?_eq_getElem?, lastRun, List.getLast?_eq_some_getLast h]
  rfl
theorem runsUp_ok (l : List Page) : ∀ i, (runsUp l i).length ≤ i ∧ ∀ r ∈ runsUp l i, 0 ≤ r.frm ∧ 1 ≤ r.len ∧ r.frm + r.len ≤ i
  | 0 => ⟨by simp [runsUp], by simp [runsUp]⟩
  | i + 1 => by
    obtain ⟨h1, h2⟩ := runsUp_ok l i
    simp only [runsUp, runsStep]
    split
    · split
      · rename_i hc
        have hl := h2 _ (List.mem_of_getElem? (lastRun_at hc.1))
        have hp : 0 < (runsUp l i).length := List.length_pos_iff.2 hc.1
        refine ⟨by simp; omega, fun r hr => ?_⟩
        rcases List.mem_append.1 hr with hr | hr
        · have := h2 r (List.dropLast_subset _ hr)
          omega
        · simp at hr; subst hr; simp only; omega
      · refine ⟨by simp; omega, fun r hr => ?_⟩
        rcases List.mem_append.1 hr with hr | hr
        · have := h2 r hr; omega
        · simp at hr; subst hr; simp only; omega
    · refine ⟨by omega, fun r hr => ?_⟩
      have := h2 r hr
      omega
theorem map_at {out : List Run} {i : Nat} {r : Run} (h : out[i]? = some r) : (out.map Run.dv)[i]? = some r.dv := by simp [h]
theorem set_last {out : List Run} (h : out ≠ []) (r : Run) : (out.map Run.dv).set (out.length - 1) r.dv = (out.dropLast ++ [r]).map Run.dv := by
  obtain ⟨a, b, rfl⟩ : ∃ a b, out = a ++ [b] := ⟨out.dropLast, out.getLast h, (List.dropLast_concat_getLast h).symm⟩
  simp

def runsL (l : List Page) (i : Nat) : Tg := ⟨tm 54 [(3, .ow 16003), (7, pagesV l), (8, int l.length), (9, int i)], [(16003, .arr 58 2 ((runsUp l i).map Run.dv))], 20⟩
set_option maxRecDepth 100000 in
theorem runsRound_used (l : List Page) (hl : l.length ≤ 1048576) (i : Nat) (p : Page) (hp : l[i]? = some p) (hk : p.kind ≠ 0) : CSpec Try.prog (rndF Try.f27 0) (runsL l i).st .nrm (runsL l (i + 1)).st := by
  have hi : i < l.length := (List.getElem?_eq_some_iff.1 hp).1
  obtain ⟨o1, o2⟩ := runsUp_ok l i
  have e : runsL l (i + 1) = ⟨tm 54 [(3, .ow 16003), (7, pagesV l), (8, int l.length), (9, int ((i + 1 : Nat) : Int))], [(16003, .arr 58 2 ((runsUp l i).map Run.dv))], 20⟩ := by
    have hpa : pageAt l i = p := by simp [pageAt, hp]
    rw [runsL, runsUp, runsStep, hpa, if_neg hk]
  rw [e]
  refine stretchR [(10, [.br true]), (12, [.el p.dv]), (15, [.int (runsUp l i).length]), (16, [.int ((runsUp l i).length - 1 : Int)]), (25, [.br true]), (52, [.int ((i + 1 : Nat) : Int)])] [] [] (φ := decide ((↑i : Int) < (↑l.length : Int)) = true ∧ true = true ∧ ((0 : Int) ≤ (↑i : Int) ∧ (List.map Page.dv l)[(↑i : Int).toNat]? = some p.dv) ∧ (↑(List.map Run.dv (runsUp l i)).length : Int) = (↑(runsUp l i).length : Int) ∧ IntKind.i64.wrap ((↑(runsUp l i).length : Int) - (1 : Int)) = (↑(runsUp l i).length : Int) - (1 : Int) ∧ (p.kind != (0 : Int)) = true ∧ IntKind.i64.wrap ((↑i : Int) + (1 : Int)) = (↑(i + (1 : Nat)) : Int)) ?_ (by kernel_rfl) (by kernel_rfl) (by kernel_rfl)
  exact ⟨decide_eq_true (by omega), rfl, ⟨by omega, pages_at hp⟩, by rw [List.length_map], wrapI (by omega) (by omega), by simp [hk], wrapI (by omega) (by omega)⟩
set_option maxRecDepth 100000 in
theorem runsRound_more (l : List Page) (hl : l.length ≤ 1048576) (i : Nat) (p : Page) (hp : l[i]? = some p) (hk : p.kind = 0) (ho : runsUp l i ≠ []) (hm : (lastRun (runsUp l i)).frm + (lastRun (runsUp l i)).len = i) : CSpec Try.prog (rndF Try.f27 0) (runsL l i).st .nrm (runsL l (i + 1)).st := by
  have hi : i < l.length := (List.getElem?_eq_some_iff.1 hp).1
  obtain ⟨o1, o2⟩ := runsUp_ok l i
  have hlast := o2 _ (List.mem_of_getElem? (lastRun_at ho))
  have hpos : 0 < (runsUp l i).length := List.length_pos_iff.2 ho
  have e : runsUp l (i + 1) = (runsUp l i).dropLast ++ [⟨(lastRun (runsUp l i)).frm, (lastRun (runsUp l i)).len + 1⟩] := by
    have hpa : pageAt l i = p := by simp [pageAt, hp]
    rw [runsUp, runsStep, hpa, if_pos hk, if_pos ⟨ho, hm⟩]
  refine stretchR [(10, [.br true]), (12, [.el p.dv]), (15, [.int (runsUp l i).length]), (16, [.int ((runsUp l i).length - 1 : Int)]), (25, [.br false]), (34, [.el (lastRun (runsUp l i)).dv]), (39, [.el (lastRun (runsUp l i)).dv]), (40, [.int i]), (43, [.br true]), (48, [.el (lastRun (runsUp l i)).dv]), (49, [.int ((lastRun (runsUp l i)).len + 1)]), (10051, [.el (lastRun (runsUp l i)).dv, .els ((runsUp l (i + 1)).map Run.dv)]), (52, [.int ((i + 1 : Nat) : Int)])] [] [] (φ := decide ((↑i : Int) < (↑l.length : Int)) = true ∧ true = true ∧ ((0 : Int) ≤ (↑i : Int) ∧ (List.map Page.dv l)[(↑i : Int).toNat]? = some p.dv) ∧ (↑(List.map Run.dv (runsUp l i)).length : Int) = (↑(runsUp l i).length : Int) ∧ IntKind.i64.wrap ((↑(runsUp l i).length : Int) - (1 : Int)) = (↑(runsUp l i).length : Int) - (1 : Int) ∧ (p.kind != (0 : Int)) = false ∧ (decide ((0 : Int) ≤ (↑(runsUp l i).length : Int) - (1 : Int)) = true → (0 : Int) ≤ (↑(runsUp l i).length : Int) - (1 : Int) ∧ ((↑(runsUp l i).length : Int) - (1 : Int)).toNat < (List.map Run.dv (runsUp l i)).length) ∧ (decide ((0 : Int) ≤ (↑(runsUp l i).length : Int) - (1 : Int)) = true → (List.map Run.dv (runsUp l i))[((↑(runsUp l i).length : Int) - (1 : Int)).toNat]? = some (lastRun (runsUp l i)).dv) ∧ (decide ((0 : Int) ≤ (↑(runsUp l i).length : Int) - (1 : Int)) = true → (0 : Int) ≤ (↑(runsUp l i).length : Int) - (1 : Int) ∧ ((↑(runsUp l i).length : Int) - (1 : Int)).toNat < (List.map Run.dv (runsUp l i)).length) ∧ (decide ((0 : Int) ≤ (↑(runsUp l i).length : Int) - (1 : Int)) = true → (List.map Run.dv (runsUp l i))[((↑(runsUp l i).length : Int) - (1 : Int)).toNat]? = some (lastRun (runsUp l i)).dv) ∧ (decide ((0 : Int) ≤ (↑(runsUp l i).length : Int) - (1 : Int)) = true → IntKind.i64.wrap ((lastRun (runsUp l i)).frm + (lastRun (runsUp l i)).len) = (↑i : Int)) ∧ (decide ((0 : Int) ≤ (↑(runsUp l i).length : Int) - (1 : Int)) && (↑i : Int) == (↑i : Int)) = true ∧ ((0 : Int) ≤ (↑(runsUp l i).length : Int) - (1 : Int) ∧ ((↑(runsUp l i).length : Int) - (1 : Int)).toNat < (List.map Run.dv (runsUp l i)).length) ∧ (List.map Run.dv (runsUp l i))[((↑(runsUp l i).length : Int) - (1 : Int)).toNat]? = some (lastRun (runsUp l i)).dv ∧ IntKind.i64.wrap ((lastRun (runsUp l i)).len + (1 : Int)) = (lastRun (runsUp l i)).len + (1 : Int) ∧ ((0 : Int) ≤ (↑(runsUp l i).length : Int) - (1 : Int) ∧ ((↑(runsUp l i).length : Int) - (1 : Int)).toNat < (List.map Run.dv (runsUp l i)).length) ∧ (List.map Run.dv (runsUp l i))[((↑(runsUp l i).length : Int) - (1 : Int)).toNat]? = some (lastRun (runsUp l i)).dv ∧ (List.map Run.dv (runsUp l i)).set ((↑(runsUp l i).length : Int) - (1 : Int)).toNat (spliceD (lastRun (runsUp l i)).dv ((0 : Nat) + #[Field.mk "From" (3 : Nat) (0 : Nat) false "" "" (0 : Nat), Field.mk "Len" (3 : Nat) (1 : Nat) false "" "" (8 : Nat)][(1 : Nat)].3) [dint ((lastRun (runsUp l i)).len + (1 : Int))]) = List.map Run.dv (runsUp l (i + (1 : Nat))) ∧ IntKind.i64.wrap ((↑i : Int) + (1 : Int)) = (↑(i + (1 : Nat)) : Int)) ?_ (by kernel_rfl) (by kernel_rfl) (by kernel_rfl)
  have hidx : 0 ≤ ((runsUp l i).length : Int) - 1 ∧ (((runsUp l i).length : Int) - 1).toNat < (List.map Run.dv (runsUp l i)).length := by rw [List.length_map]; omega
  have hat : (List.map Run.dv (runsUp l i))[(((runsUp l i).length : Int) - 1).toNat]? = some (lastRun (runsUp l i)).dv := by
    rw [show (((runsUp l i).length : Int) - 1).toNat = (runsUp l i).length - 1 from by omega]
    exact map_at (lastRun_at ho)
  refine ⟨decide_eq_true (by omega), rfl, ⟨by omega, pages_at hp⟩, by rw [List.length_map], wrapI (by omega) (by omega), by simp [hk], fun _ => hidx, fun _ => hat, fun _ => hidx, fun _ => hat, fun _ => by rw [hm]; exact wrapI (by omega) (by omega), by simp; omega, hidx, hat, wrapI (by omega) (by omega), hidx, hat, ?_, wrapI (by omega) (by omega)⟩
  rw [e, ← set_last ho, show (((runsUp l i).length : Int) - 1).toNat = (runsUp l i).length - 1 from by omega]
  rfl
set_option maxRecDepth 100000 in
theorem runsRound_new (l : List Page) (hl : l.length ≤ 1048576) (i : Nat) (p : Page) (hp : l[i]? = some p) (hk : p.kind = 0) (ho : ¬ (runsUp l i ≠ [] ∧ (lastRun (runsUp l i)).frm + (lastRun (runsUp l i)).len = i)) : CSpec Try.prog (rndF Try.f27 0) (runsL l i).st .nrm (runsL l (i + 1)).st := by
  have hi : i < l.length := (List.getElem?_eq_some_iff.1 hp).1
  obtain ⟨o1, o2⟩ := runsUp_ok l i
  have e : runsUp l (i + 1) = runsUp l i ++ [⟨i, 1⟩] := by
    have hpa : pageAt l i = p := by simp [pageAt, hp]
    rw [runsUp, runsStep, hpa, if_pos hk, if_neg ho]
  refine stretchR [(10, [.br true]), (12, [.el p.dv]), (15, [.int (runsUp l i).length]), (16, [.int ((runsUp l i).length - 1 : Int)]), (25, [.br false]), (34, [.el (lastRun (runsUp l i)).dv]), (39, [.el (lastRun (runsUp l i)).dv]), (43, [.br false]), (21, [.els ((runsUp l (i + 1)).map Run.dv)]), (52, [.int ((i + 1 : Nat) : Int)])] [] [(200021, 16003)] (φ := decide ((↑i : Int) < (↑l.length : Int)) = true ∧ true = true ∧ ((0 : Int) ≤ (↑i : Int) ∧ (List.map Page.dv l)[(↑i : Int).toNat]? = some p.dv) ∧ (↑(List.map Run.dv (runsUp l i)).length : Int) = (↑(runsUp l i).length : Int) ∧ IntKind.i64.wrap ((↑(runsUp l i).length : Int) - (1 : Int)) = (↑(runsUp l i).length : Int) - (1 : Int) ∧ (p.kind != (0 : Int)) = false ∧ (decide ((0 : Int) ≤ (↑(runsUp l i).length : Int) - (1 : Int)) = true → (0 : Int) ≤ (↑(runsUp l i).length : Int) - (1 : Int) ∧ ((↑(runsUp l i).length : Int) - (1 : Int)).toNat < (List.map Run.dv (runsUp l i)).length) ∧ (decide ((0 : Int) ≤ (↑(runsUp l i).length : Int) - (1 : Int)) = true → (List.map Run.dv (runsUp l i))[((↑(runsUp l i).length : Int) - (1 : Int)).toNat]? = some (lastRun (runsUp l i)).dv) ∧ (decide ((0 : Int) ≤ (↑(runsUp l i).length : Int) - (1 : Int)) = true → (0 : Int) ≤ (↑(runsUp l i).length : Int) - (1 : Int) ∧ ((↑(runsUp l i).length : Int) - (1 : Int)).toNat < (List.map Run.dv (runsUp l i)).length) ∧ (decide ((0 : Int) ≤ (↑(runsUp l i).length : Int) - (1 : Int)) = true → (List.map Run.dv (runsUp l i))[((↑(runsUp l i).length : Int) - (1 : Int)).toNat]? = some (lastRun (runsUp l i)).dv) ∧ (decide ((0 : Int) ≤ (↑(runsUp l i).length : Int) - (1 : Int)) && IntKind.i64.wrap ((lastRun (runsUp l i)).frm + (lastRun (runsUp l i)).len) == (↑i : Int)) = false ∧ (List.map Run.dv (runsUp l i)).length + ((List.replicate (1 : Nat) [dint (0 : Int), dint (0 : Int)]).set (0 : Nat) [dint (↑i : Int), dint (1 : Int)]).length ≤ (2 : Nat) ^ (30 : Nat) ∧ List.map Run.dv (runsUp l i) ++ (List.replicate (1 : Nat) [dint (0 : Int), dint (0 : Int)]).set (0 : Nat) [dint (↑i : Int), dint (1 : Int)] = List.map Run.dv (runsUp l (i + (1 : Nat))) ∧ IntKind.i64.wrap ((↑i : Int) + (1 : Int)) = (↑(i + (1 : Nat)) : Int)) ?_ (by kernel_rfl) (by kernel_rfl) (by kernel_rfl)
  have hne : decide (0 ≤ ((runsUp l i).length : Int) - 1) = true → runsUp l i ≠ [] := by
    intro hd h0
    rw [h0] at hd
    simp at hd
  have hidx : decide (0 ≤ ((runsUp l i).length : Int) - 1) = true → 0 ≤ ((runsUp l i).length : Int) - 1 ∧ (((runsUp l i).length : Int) - 1).toNat < (List.map Run.dv (runsUp l i)).length := by
    intro hd
    have := of_decide_eq_true hd
    rw [List.length_map]; omega
  have hat : decide (0 ≤ ((runsUp l i).length : Int) - 1) = true → (List.map Run.dv (runsUp l i))[(((runsUp l i).length : Int) - 1).toNat]? = some (lastRun (runsUp l i)).dv := by
    intro hd
    rw [show (((runsUp l i).length : Int) - 1).toNat = (runsUp l i).length - 1 from by omega]
    exact map_at (lastRun_at (hne hd))
  refine ⟨decide_eq_true (by omega), rfl, ⟨by omega, pages_at hp⟩, by rw [List.length_map], wrapI (by omega) (by omega), by simp [hk], hidx, hat, hidx, hat, ?_, by rw [List.length_map]; simp; omega, by rw [e]; simp [Run.dv], wrapI (by omega) (by omega)⟩
  cases hd : decide (0 ≤ ((runsUp l i).length : Int) - 1) with
  | false => simp
  | true =>
    have h1 := hne hd
    have hlast := o2 _ (List.mem_of_getElem? (lastRun_at h1))
    rw [wrapI (by omega) (by omega)]
    simp
    intro hh
    exact ho ⟨h1, hh⟩

theorem runsRound (l : List Page) (hl : l.length ≤ 1048576) (i : Nat) (hi : i < l.length) : CSpec Try.prog (rndF Try.f27 0) (runsL l i).st .nrm (runsL l (i + 1)).st := by
  have hp := List.getElem?_eq_getElem hi
  by_cases hk : l[i].kind = 0
  · by_cases ho : runsUp l i ≠ [] ∧ (lastRun (runsUp l i)).frm + (lastRun (runsUp l i)).len = i
    · exact runsRound_more l hl i _ hp hk ho.1 ho.2
    · exact runsRound_new l hl i _ hp hk ho
  · exact runsRound_used l hl i _ hp hk
set_option maxRecDepth 100000 in
theorem runsEnd (l : List Page) : CSpec Try.prog (rndF Try.f27 0) (runsL l l.length).st (.ext 0) (Tg.st ⟨tm 54 [(3, .ow 16003)], [(16003, .arr 58 2 ((runsUp l l.length).map Run.dv))], 60⟩) := by
  refine stretch [(10, [.br false])] [] (φ := decide ((↑l.length : Int) < (↑l.length : Int)) = false ∧ false = false) ?_ (by kernel_rfl) (by kernel_rfl) (by kernel_rfl)
  exact ⟨decide_eq_false (by omega), rfl⟩
def runs (l : List Page) : List Run := runsUp l l.length
set_option maxRecDepth 100000 in
theorem pageRuns (l : List Page) (hl : l.length ≤ 1048576) : GSpec Try.prog 27 [pagesV l] false (runsV (runs l)) [] := by
  refine gspec_of [(3, [.own]), (8, [.int l.length])] [(0, runsL l 0, .nrm, ⟨tm 54 [(3, .ow 16003)], [(16003, .arr 58 2 ((runsUp l l.length).map Run.dv))], 60⟩)] [] (by decide) Try.func27 (φ := (↑(List.map Page.dv l).length : Int) = (↑l.length : Int) ∧ CSpec Try.prog (blkF Try.f27 (0 : Nat)) (runsL l (0 : Nat)).st Ex.nrm (Tg.mk (tm (54 : Nat) [((3 : Nat), AV.ow (16003 : Nat))]) [((16003 : Nat), Blk.arr (58 : Nat) (2 : Nat) (List.map Run.dv (runsUp l l.length)))] (60 : Nat)).st) ?_ (by kernel_rfl) (by kernel_rfl)
  exact ⟨by rw [List.length_map], loop_ext_of (S := fun i => (runsL l i).st) l.length (by kernel_rfl) (fun i hi => runsRound l hl i hi) (runsEnd l)⟩
end Go.Proofs.Ytkeimadhboefbaa
