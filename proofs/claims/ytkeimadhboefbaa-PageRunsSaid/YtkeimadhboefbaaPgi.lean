/-
  Layer 4 of the program: runs of free pages as the reference counts them; pages in use; equal lists of runs.
  Conditions: none.
-/
import Derived.Test.YtkeimadhboefbaaPgh
namespace Go.Proofs.Ytkeimadhboefbaa
open Go.Sx

def rrunsL (l : List Page) (i : Nat) : Tg := ⟨tm 54 [(0, pagesV l), (3, .ow 16003), (4, int i)], [(16003, .arr 58 2 ((runsUp l i).map Run.dv))], 20⟩
set_option maxRecDepth 100000 in
theorem rrunsRound_used (l : List Page) (hl : l.length ≤ 1048576) (i : Nat) (p : Page) (hp : l[i]? = some p) (hk : p.kind ≠ 0) : CSpec Try.prog (rndF Try.f28 0) (rrunsL l i).st .nrm (rrunsL l (i + 1)).st := by
  have hi : i < l.length := (List.getElem?_eq_some_iff.1 hp).1
  have e : rrunsL l (i + 1) = ⟨tm 54 [(0, pagesV l), (3, .ow 16003), (4, int ((i + 1 : Nat) : Int))], [(16003, .arr 58 2 ((runsUp l i).map Run.dv))], 20⟩ := by
    have hpa : pageAt l i = p := by simp [pageAt, hp]
    rw [rrunsL, runsUp, runsStep, hpa, if_neg hk]
  rw [e]
  refine stretchR [(8, [.int l.length]), (9, [.br true]), (14, [.el p.dv]), (17, [.br true]), (11, [.int ((i + 1 : Nat) : Int)])] [] [] (φ := (↑(List.map Page.dv l).length : Int) = (↑l.length : Int) ∧ decide ((↑i : Int) < (↑l.length : Int)) = true ∧ true = true ∧ ((0 : Int) ≤ (↑i : Int) ∧ (List.map Page.dv l)[(↑i : Int).toNat]? = some p.dv) ∧ (p.kind != (0 : Int)) = true ∧ true = true ∧ IntKind.i64.wrap ((↑i : Int) + (1 : Int)) = (↑(i + (1 : Nat)) : Int)) ?_ (by kernel_rfl) (by kernel_rfl) (by kernel_rfl)
  exact ⟨by rw [List.length_map], decide_eq_true (by omega), rfl, ⟨by omega, pages_at hp⟩, by simp [hk], rfl, wrapI (by omega) (by omega)⟩
set_option maxRecDepth 100000 in
theorem rrunsRound_more (l : List Page) (hl : l.length ≤ 1048576) (i : Nat) (p : Page) (hp : l[i]? = some p) (hk : p.kind = 0) (ho : runsUp l i ≠ []) (hm : (lastRun (runsUp l i)).frm + (lastRun (runsUp l i)).len = i) : CSpec Try.prog (rndF Try.f28 0) (rrunsL l i).st .nrm (rrunsL l (i + 1)).st := by
  have hi : i < l.length := (List.getElem?_eq_some_iff.1 hp).1
  obtain ⟨o1, o2⟩ := runsUp_ok l i
  have hlast := o2 _ (List.mem_of_getElem? (lastRun_at ho))
  have hpos : 0 < (runsUp l i).length := List.length_pos_iff.2 ho
  have e : runsUp l (i + 1) = (runsUp l i).dropLast ++ [⟨(lastRun (runsUp l i)).frm, (lastRun (runsUp l i)).len + 1⟩] := by
    have hpa : pageAt l i = p := by simp [pageAt, hp]
    rw [runsUp, runsStep, hpa, if_pos hk, if_pos ⟨ho, hm⟩]
  have hidx : 0 ≤ ((runsUp l i).length : Int) - 1 ∧ (((runsUp l i).length : Int) - 1).toNat < (List.map Run.dv (runsUp l i)).length := by rw [List.length_map]; omega
  have hat : (List.map Run.dv (runsUp l i))[(((runsUp l i).length : Int) - 1).toNat]? = some (lastRun (runsUp l i)).dv := by
    rw [show (((runsUp l i).length : Int) - 1).toNat = (runsUp l i).length - 1 from by omega]
    exact map_at (lastRun_at ho)
  have hset : (List.map Run.dv (runsUp l i)).set (((runsUp l i).length : Int) - 1).toNat [dint (lastRun (runsUp l i)).frm, dint ((lastRun (runsUp l i)).len + 1)] = List.map Run.dv (runsUp l (i + 1)) := by
    rw [e, ← set_last ho, show (((runsUp l i).length : Int) - 1).toNat = (runsUp l i).length - 1 from by omega]
    rfl
  have hw : IntKind.i64.wrap (((runsUp l i).length : Int) - 1) = ((runsUp l i).length : Int) - 1 := wrapI (by omega) (by omega)
  refine stretchR [(8, [.int l.length]), (9, [.br true]), (14, [.el p.dv]), (17, [.br false]), (19, [.int (runsUp l i).length]), (25, [.int ((runsUp l i).length - 1 : Int)]), (28, [.el (lastRun (runsUp l i)).dv]), (31, [.int ((runsUp l i).length - 1 : Int)]), (34, [.el (lastRun (runsUp l i)).dv]), (35, [.int i]), (38, [.br true]), (41, [.int ((runsUp l i).length - 1 : Int)]), (44, [.el (lastRun (runsUp l i)).dv]), (45, [.int ((lastRun (runsUp l i)).len + 1)]), (10047, [.el (lastRun (runsUp l i)).dv, .els ((runsUp l (i + 1)).map Run.dv)]), (11, [.int ((i + 1 : Nat) : Int)])] [] [] (φ := (↑(List.map Page.dv l).length : Int) = (↑l.length : Int) ∧ decide ((↑i : Int) < (↑l.length : Int)) = true ∧ true = true ∧ ((0 : Int) ≤ (↑i : Int) ∧ (List.map Page.dv l)[(↑i : Int).toNat]? = some p.dv) ∧ (p.kind != (0 : Int)) = false ∧ false = false ∧ (↑(List.map Run.dv (runsUp l i)).length : Int) = (↑(runsUp l i).length : Int) ∧ (decide ((0 : Int) < (↑(runsUp l i).length : Int)) = true → IntKind.i64.wrap ((↑(runsUp l i).length : Int) - (1 : Int)) = (↑(runsUp l i).length : Int) - (1 : Int)) ∧ (decide ((0 : Int) < (↑(runsUp l i).length : Int)) = true → (0 : Int) ≤ (↑(runsUp l i).length : Int) - (1 : Int) ∧ ((↑(runsUp l i).length : Int) - (1 : Int)).toNat < (List.map Run.dv (runsUp l i)).length) ∧ (decide ((0 : Int) < (↑(runsUp l i).length : Int)) = true → (List.map Run.dv (runsUp l i))[((↑(runsUp l i).length : Int) - (1 : Int)).toNat]? = some (lastRun (runsUp l i)).dv) ∧ (decide ((0 : Int) < (↑(runsUp l i).length : Int)) = true → IntKind.i64.wrap ((↑(runsUp l i).length : Int) - (1 : Int)) = (↑(runsUp l i).length : Int) - (1 : Int)) ∧ (decide ((0 : Int) < (↑(runsUp l i).length : Int)) = true → (0 : Int) ≤ (↑(runsUp l i).length : Int) - (1 : Int) ∧ ((↑(runsUp l i).length : Int) - (1 : Int)).toNat < (List.map Run.dv (runsUp l i)).length) ∧ (decide ((0 : Int) < (↑(runsUp l i).length : Int)) = true → (List.map Run.dv (runsUp l i))[((↑(runsUp l i).length : Int) - (1 : Int)).toNat]? = some (lastRun (runsUp l i)).dv) ∧ (decide ((0 : Int) < (↑(runsUp l i).length : Int)) = true → IntKind.i64.wrap ((lastRun (runsUp l i)).frm + (lastRun (runsUp l i)).len) = (↑i : Int)) ∧ (decide ((0 : Int) < (↑(runsUp l i).length : Int)) && (↑i : Int) == (↑i : Int)) = true ∧ true = true ∧ IntKind.i64.wrap ((↑(runsUp l i).length : Int) - (1 : Int)) = (↑(runsUp l i).length : Int) - (1 : Int) ∧ ((0 : Int) ≤ (↑(runsUp l i).length : Int) - (1 : Int) ∧ ((↑(runsUp l i).length : Int) - (1 : Int)).toNat < (List.map Run.dv (runsUp l i)).length) ∧ (List.map Run.dv (runsUp l i))[((↑(runsUp l i).length : Int) - (1 : Int)).toNat]? = some (lastRun (runsUp l i)).dv ∧ IntKind.i64.wrap ((lastRun (runsUp l i)).len + (1 : Int)) = (lastRun (runsUp l i)).len + (1 : Int) ∧ ((0 : Int) ≤ (↑(runsUp l i).length : Int) - (1 : Int) ∧ ((↑(runsUp l i).length : Int) - (1 : Int)).toNat < (List.map Run.dv (runsUp l i)).length) ∧ (List.map Run.dv (runsUp l i))[((↑(runsUp l i).length : Int) - (1 : Int)).toNat]? = some (lastRun (runsUp l i)).dv ∧ (List.map Run.dv (runsUp l i)).set ((↑(runsUp l i).length : Int) - (1 : Int)).toNat (spliceD (lastRun (runsUp l i)).dv ((0 : Nat) + #[Field.mk "From" (3 : Nat) (0 : Nat) false "" "" (0 : Nat), Field.mk "Len" (3 : Nat) (1 : Nat) false "" "" (8 : Nat)][(1 : Nat)].3) [dint ((lastRun (runsUp l i)).len + (1 : Int))]) = List.map Run.dv (runsUp l (i + (1 : Nat))) ∧ IntKind.i64.wrap ((↑i : Int) + (1 : Int)) = (↑(i + (1 : Nat)) : Int)) ?_ (by kernel_rfl) (by kernel_rfl) (by kernel_rfl)
  exact ⟨by rw [List.length_map], decide_eq_true (by omega), rfl, ⟨by omega, pages_at hp⟩, by simp [hk], rfl, by rw [List.length_map], fun _ => hw, fun _ => hidx, fun _ => hat, fun _ => hw, fun _ => hidx, fun _ => hat, fun _ => by rw [hm]; exact wrapI (by omega) (by omega), by simp; omega, rfl, hw, hidx, hat, wrapI (by omega) (by omega), hidx, hat, hset, wrapI (by omega) (by omega)⟩
set_option maxRecDepth 100000 in
theorem rrunsRound_new (l : List Page) (hl : l.length ≤ 1048576) (i : Nat) (p : Page) (hp : l[i]? = some p) (hk : p.kind = 0) (ho : ¬ (runsUp l i ≠ [] ∧ (lastRun (runsUp l i)).frm + (lastRun (runsUp l i)).len = i)) : CSpec Try.prog (rndF Try.f28 0) (rrunsL l i).st .nrm (rrunsL l (i + 1)).st := by
  have hi : i < l.length := (List.getElem?_eq_some_iff.1 hp).1
  obtain ⟨o1, o2⟩ := runsUp_ok l i
  have e : runsUp l (i + 1) = runsUp l i ++ [⟨i, 1⟩] := by
    have hpa : pageAt l i = p := by simp [pageAt, hp]
    rw [runsUp, runsStep, hpa, if_pos hk, if_neg ho]
  have hne : decide (0 < ((runsUp l i).length : Int)) = true → runsUp l i ≠ [] := by
    intro hd h0
    rw [h0] at hd
    simp at hd
  have hidx : decide (0 < ((runsUp l i).length : Int)) = true → 0 ≤ ((runsUp l i).length : Int) - 1 ∧ (((runsUp l i).length : Int) - 1).toNat < (List.map Run.dv (runsUp l i)).length := by
    intro hd
    have := of_decide_eq_true hd
    rw [List.length_map]; omega
  have hat : decide (0 < ((runsUp l i).length : Int)) = true → (List.map Run.dv (runsUp l i))[(((runsUp l i).length : Int) - 1).toNat]? = some (lastRun (runsUp l i)).dv := by
    intro hd
    rw [show (((runsUp l i).length : Int) - 1).toNat = (runsUp l i).length - 1 from by omega]
    exact map_at (lastRun_at (hne hd))
  have hw : IntKind.i64.wrap (((runsUp l i).length : Int) - 1) = ((runsUp l i).length : Int) - 1 := wrapI (by omega) (by omega)
  refine stretchR [(8, [.int l.length]), (9, [.br true]), (14, [.el p.dv]), (17, [.br false]), (19, [.int (runsUp l i).length]), (25, [.int ((runsUp l i).length - 1 : Int)]), (28, [.el (lastRun (runsUp l i)).dv]), (31, [.int ((runsUp l i).length - 1 : Int)]), (34, [.el (lastRun (runsUp l i)).dv]), (38, [.br false]), (52, [.els ((runsUp l (i + 1)).map Run.dv)]), (11, [.int ((i + 1 : Nat) : Int)])] [] [(192052, 16003)] (φ := (↑(List.map Page.dv l).length : Int) = (↑l.length : Int) ∧ decide ((↑i : Int) < (↑l.length : Int)) = true ∧ true = true ∧ ((0 : Int) ≤ (↑i : Int) ∧ (List.map Page.dv l)[(↑i : Int).toNat]? = some p.dv) ∧ (p.kind != (0 : Int)) = false ∧ false = false ∧ (↑(List.map Run.dv (runsUp l i)).length : Int) = (↑(runsUp l i).length : Int) ∧ (decide ((0 : Int) < (↑(runsUp l i).length : Int)) = true → IntKind.i64.wrap ((↑(runsUp l i).length : Int) - (1 : Int)) = (↑(runsUp l i).length : Int) - (1 : Int)) ∧ (decide ((0 : Int) < (↑(runsUp l i).length : Int)) = true → (0 : Int) ≤ (↑(runsUp l i).length : Int) - (1 : Int) ∧ ((↑(runsUp l i).length : Int) - (1 : Int)).toNat < (List.map Run.dv (runsUp l i)).length) ∧ (decide ((0 : Int) < (↑(runsUp l i).length : Int)) = true → (List.map Run.dv (runsUp l i))[((↑(runsUp l i).length : Int) - (1 : Int)).toNat]? = some (lastRun (runsUp l i)).dv) ∧ (decide ((0 : Int) < (↑(runsUp l i).length : Int)) = true → IntKind.i64.wrap ((↑(runsUp l i).length : Int) - (1 : Int)) = (↑(runsUp l i).length : Int) - (1 : Int)) ∧ (decide ((0 : Int) < (↑(runsUp l i).length : Int)) = true → (0 : Int) ≤ (↑(runsUp l i).length : Int) - (1 : Int) ∧ ((↑(runsUp l i).length : Int) - (1 : Int)).toNat < (List.map Run.dv (runsUp l i)).length) ∧ (decide ((0 : Int) < (↑(runsUp l i).length : Int)) = true → (List.map Run.dv (runsUp l i))[((↑(runsUp l i).length : Int) - (1 : Int)).toNat]? = some (lastRun (runsUp l i)).dv) ∧ (decide ((0 : Int) < (↑(runsUp l i).length : Int)) && IntKind.i64.wrap ((lastRun (runsUp l i)).frm + (lastRun (runsUp l i)).len) == (↑i : Int)) = false ∧ false = false ∧ (List.map Run.dv (runsUp l i)).length + ((List.replicate (1 : Nat) [dint (0 : Int), dint (0 : Int)]).set (0 : Nat) [dint (↑i : Int), dint (1 : Int)]).length ≤ (2 : Nat) ^ (30 : Nat) ∧ List.map Run.dv (runsUp l i) ++ (List.replicate (1 : Nat) [dint (0 : Int), dint (0 : Int)]).set (0 : Nat) [dint (↑i : Int), dint (1 : Int)] = List.map Run.dv (runsUp l (i + (1 : Nat))) ∧ IntKind.i64.wrap ((↑i : Int) + (1 : Int)) = (↑(i + (1 : Nat)) : Int)) ?_ (by kernel_rfl) (by kernel_rfl) (by kernel_rfl)
  refine ⟨by rw [List.length_map], decide_eq_true (by omega), rfl, ⟨by omega, pages_at hp⟩, by simp [hk], rfl, by rw [List.length_map], fun _ => hw, hidx, hat, fun _ => hw, hidx, hat, ?_, rfl, by rw [List.length_map]; simp; omega, by rw [e]; simp [Run.dv], wrapI (by omega) (by omega)⟩
  cases hd : decide (0 < ((runsUp l i).length : Int)) with
  | false => simp
  | true =>
    have h1 := hne hd
    have hlast := o2 _ (List.mem_of_getElem? (lastRun_at h1))
    rw [wrapI (by omega) (by omega)]
    simp
    intro hh
    exact ho ⟨h1, hh⟩
theorem rrunsRound (l : List Page) (hl : l.length ≤ 1048576) (i : Nat) (hi : i < l.length) : CSpec Try.prog (rndF Try.f28 0) (rrunsL l i).st .nrm (rrunsL l (i + 1)).st := by
  have hp := List.getElem?_eq_getElem hi
  by_cases hk : l[i].kind = 0
  · by_cases ho : runsUp l i ≠ [] ∧ (lastRun (runsUp l i)).frm + (lastRun (runsUp l i)).len = i
    · exact rrunsRound_more l hl i _ hp hk ho.1 ho.2
    · exact rrunsRound_new l hl i _ hp hk ho
  · exact rrunsRound_used l hl i _ hp hk
set_option maxRecDepth 100000 in
theorem rrunsEnd (l : List Page) : CSpec Try.prog (rndF Try.f28 0) (rrunsL l l.length).st (.ext 0) (Tg.st ⟨tm 54 [(3, .ow 16003)], [(16003, .arr 58 2 ((runsUp l l.length).map Run.dv))], 60⟩) := by
  refine stretch [(8, [.int l.length]), (9, [.br false])] [] (φ := (↑(List.map Page.dv l).length : Int) = (↑l.length : Int) ∧ decide ((↑l.length : Int) < (↑l.length : Int)) = false ∧ false = false) ?_ (by kernel_rfl) (by kernel_rfl) (by kernel_rfl)
  exact ⟨by rw [List.length_map], decide_eq_false (by omega), rfl⟩
set_option maxRecDepth 100000 in
theorem refRuns (l : List Page) (hl : l.length ≤ 1048576) : GSpec Try.prog 28 [pagesV l] false (runsV (runs l)) [] := by
  refine gspec_of [(3, [.own])] [(0, rrunsL l 0, .nrm, ⟨tm 54 [(3, .ow 16003)], [(16003, .arr 58 2 ((runsUp l l.length).map Run.dv))], 60⟩)] [] (by decide) Try.func28 (φ := CSpec Try.prog (blkF Try.f28 (0 : Nat)) (rrunsL l (0 : Nat)).st Ex.nrm (Tg.mk (tm (54 : Nat) [((3 : Nat), AV.ow (16003 : Nat))]) [((16003 : Nat), Blk.arr (58 : Nat) (2 : Nat) (List.map Run.dv (runsUp l l.length)))] (60 : Nat)).st) ?_ (by kernel_rfl) (by kernel_rfl)
  exact loop_ext_of (S := fun i => (rrunsL l i).st) l.length (by kernel_rfl) (fun i hi => rrunsRound l hl i hi) (rrunsEnd l)

/-! Equal lists of runs -/
theorem runs_at {l : List Run} {i : Nat} {p : Run} (h : l[i]? = some p) : (l.map Run.dv)[((i : Nat) : Int).toNat]? = some p.dv := by simp [h]
def sameRunsL (a b : List Run) (i : Nat) : Tg := ⟨tm 26 [(0, runsV a), (1, runsV b), (4, bool false), (5, int i)], [], 40⟩
set_option maxRecDepth 100000 in
theorem sameRunsRound (a : List Run) (i : Nat) (p : Run) (hl : a.length ≤ 281474976710656) (ha : a[i]? = some p) : CSpec Try.prog (rndF Try.f26 0) (sameRunsL a a i).st .nrm (sameRunsL a a (i + 1)).st := by
  have hi : i < a.length := (List.getElem?_eq_some_iff.1 ha).1
  refine stretch [(13, [.int a.length]), (14, [.br true]), (19, [.el p.dv]), (23, [.el p.dv]), (25, [.br false]), (16, [.int ((i + 1 : Nat) : Int)])] [] (φ := (↑(List.map Run.dv a).length : Int) = (↑a.length : Int) ∧ decide ((↑i : Int) < (↑a.length : Int)) = true ∧ true = true ∧ ((0 : Int) ≤ (↑i : Int) ∧ (List.map Run.dv a)[(↑i : Int).toNat]? = some p.dv) ∧ ((0 : Int) ≤ (↑i : Int) ∧ (List.map Run.dv a)[(↑i : Int).toNat]? = some p.dv) ∧ (!(p.frm == p.frm && p.len == p.len)) = false ∧ false = false ∧ IntKind.i64.wrap ((↑i : Int) + (1 : Int)) = (↑(i + (1 : Nat)) : Int)) ?_ (by kernel_rfl) (by kernel_rfl) (by kernel_rfl)
  exact ⟨by rw [List.length_map], decide_eq_true (by omega), rfl, ⟨by omega, runs_at ha⟩, ⟨by omega, runs_at ha⟩, by simp, rfl, wrapI (by omega) (by omega)⟩
set_option maxRecDepth 100000 in
theorem sameRunsEnd (a : List Run) : CSpec Try.prog (rndF Try.f26 0) (sameRunsL a a a.length).st (.ext 0) (Tg.st ⟨tm 26 [], [], 60⟩) := by
  refine stretch [(13, [.int a.length]), (14, [.br false])] [] (φ := (↑(List.map Run.dv a).length : Int) = (↑a.length : Int) ∧ decide ((↑a.length : Int) < (↑a.length : Int)) = false ∧ false = false) ?_ (by kernel_rfl) (by kernel_rfl) (by kernel_rfl)
  exact ⟨by rw [List.length_map], decide_eq_false (by omega), rfl⟩
set_option maxRecDepth 100000 in
theorem lawSameRuns (a : List Run) (hl : a.length ≤ 281474976710656) : GSpec Try.prog 26 [runsV a, runsV a] true (bool true) [] := by
  refine gspec_of [(7, [.int a.length]), (9, [.int a.length]), (10, [.br false])] [(0, sameRunsL a a 0, .nrm, ⟨tm 26 [], [], 60⟩)] [] (by decide) Try.func26 (φ := (↑(List.map Run.dv a).length : Int) = (↑a.length : Int) ∧ (↑(List.map Run.dv a).length : Int) = (↑a.length : Int) ∧ ((↑a.length : Int) != (↑a.length : Int)) = false ∧ false = false ∧ CSpec Try.prog (blkF Try.f26 (0 : Nat)) (sameRunsL a a (0 : Nat)).st Ex.nrm (Tg.mk (tm (26 : Nat) []) [] (60 : Nat)).st) ?_ (by kernel_rfl) (by kernel_rfl)
  exact ⟨by rw [List.length_map], by rw [List.length_map], by simp, rfl, loop_ext_of (S := fun i => (sameRunsL a a i).st) a.length (by kernel_rfl) (fun i hi => sameRunsRound a i a[i] hl (List.getElem?_eq_getElem hi)) (sameRunsEnd a)⟩
end Go.Proofs.Ytkeimadhboefbaa
