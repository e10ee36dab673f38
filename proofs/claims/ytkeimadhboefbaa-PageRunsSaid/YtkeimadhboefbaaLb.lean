/-
  PageRuns: whatever the arguments, the law returns true, and the arguments read as they did.
  Conditions: none.
-/
import Derived.Test.YtkeimadhboefbaaSh
import Derived.Test.YtkeimadhboefbaaPgj
namespace Go.Proofs.Ytkeimadhboefbaa
open Go.Sx Go.RowKit

set_option maxRecDepth 100000 in
theorem pageRuns_lifted (os : Os) (started : os.Started) (H : Type) (enc : TypeId × Value → H) :
    ReturnsInHanded {} Try.checked os 6 .any (Rows.pageRunsSpec.pre6 enc Try.prog Try.f6 Rows.pageRunsRow.domain false) (Rows.pageRunsSpec.post enc Try.prog Try.f6 false true false false) := by
  refine law_of_gspec (C := Try.checked) (tb := 4) 4 own0 started (by kernel_rfl) Try.func6
    (ChangeSpec.witness6 (enc := enc) (C := Try.checked) false ⟨#[], #[.slice none 0 0, .int .i64 0], []⟩ 8 (by kernel_rfl) (by kernel_rfl) (by kernel_rfl) (by kernel_rfl))
    laidOut0 (by kernel_rfl) (by kernel_rfl) (by kernel_rfl) (by kernel_rfl) rfl (fun ds hd => ?_) (fun ls hl h => ?_)
  · match ds, hd with
    | [a, b], _ => rfl
  · match ls, hl with
    | [a, b], _ =>
      obtain ⟨m, rfl, _⟩ := shp_pages (n := 1) (h 0 30 a (by kernel_rfl) rfl)
      obtain ⟨x, rfl, _⟩ := shp_int (n := 3) (h 1 3 b (by kernel_rfl) rfl)
      have e : zipAv Try.prog Try.f6.params.toList [[.sl 4 (m.map Page.dv)], [dint x]] = [pagesV m, int x] := by kernel_rfl
      exact ⟨true, e ▸ lawPageRuns m x⟩

theorem pageRuns_holds : Rows.PageRunsSaid :=
  OpenClaim.holds_of_wide 6 Try.f6 rfl rfl rfl rfl rfl rfl rfl ⟨rfl, rfl, rfl, rfl, rfl⟩ rfl rfl rfl rfl rfl (by kernel_rfl) Try.func6 (by kernel_rfl)
    (of_decide_eq_true (by kernel_rfl)) (by unfold Func.isWrapper; first | (rw [if_pos (by decide +kernel)]; kernel_rfl) | (rw [if_neg (by decide +kernel)]; exact ⟨rfl, rfl⟩))
    (fun os started H enc _ => pageRuns_lifted os started H enc)

end Go.Proofs.Ytkeimadhboefbaa
