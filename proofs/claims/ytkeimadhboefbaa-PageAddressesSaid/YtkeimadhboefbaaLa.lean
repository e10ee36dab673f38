/-
  PageConfs, PageNew and PageAddresses: whatever the arguments, the law returns true, and the arguments read as they did.
  Conditions: none.
-/
import Derived.Test.YtkeimadhboefbaaSxW
import Derived.Test.YtkeimadhboefbaaPgg
namespace Go.Proofs.Ytkeimadhboefbaa
open Go.Sx Go.RowKit

theorem own0 : ownKnob Try.prog.godebug = none := by kernel_rfl
theorem laidOut0 : laidOutB Try.prog = true := by kernel_rfl

theorem shp_int {n : Nat} {l : List DV} (h : shp Try.prog (n + 1) 3 l) : ∃ x : Int, l = [dint x] ∧ (Lit.int .i64 x).wf = true := by
  have e : shp Try.prog (n + 1) 3 l = (∃ x : Int, l = [.sc (.int .i64 x)] ∧ (Lit.int .i64 x).wf = true) := by kernel_rfl
  rw [e] at h
  exact h
theorem shp_u64 {n : Nat} {l : List DV} (h : shp Try.prog (n + 1) 38 l) : ∃ x : Int, l = [du64 x] ∧ (Lit.int .u64 x).wf = true := by
  have e : shp Try.prog (n + 1) 38 l = (∃ x : Int, l = [.sc (.int .u64 x)] ∧ (Lit.int .u64 x).wf = true) := by kernel_rfl
  rw [e] at h
  exact h
theorem shp_conf {n : Nat} {l : List DV} (h : shp Try.prog (n + 2) 23 l) : ∃ c : Conf, l = [dint c.pw, dint c.pg] := by
  have e : shp Try.prog (n + 2) 23 l = (∃ a b, l = a ++ b ∧ (∃ x : Int, a = [.sc (.int .i64 x)] ∧ (Lit.int .i64 x).wf = true) ∧ ∃ a' b', b = a' ++ b' ∧ (∃ x : Int, a' = [.sc (.int .i64 x)] ∧ (Lit.int .i64 x).wf = true) ∧ b' = []) := by kernel_rfl
  rw [e] at h
  obtain ⟨a, b, rfl, ⟨x, rfl, _⟩, a', b', rfl, ⟨y, rfl, _⟩, rfl⟩ := h
  exact ⟨⟨x, y⟩, rfl⟩

theorem range_u64 {n : Int} (h : (Lit.int .u64 n).wf = true) : 0 ≤ n ∧ n ≤ 18446744073709551615 := by
  simp [Lit.wf, IntKind.min, IntKind.max, IntKind.signed, IntKind.bits] at h
  omega

set_option maxRecDepth 100000 in
theorem pageConfs_lifted (os : Os) (started : os.Started) (H : Type) (enc : TypeId × Value → H) :
    ReturnsInHanded {} Try.checked os 3 .any (Rows.pageConfsSpec.pre6 enc Try.prog Try.f3 Rows.pageConfsRow.domain false) (Rows.pageConfsSpec.post enc Try.prog Try.f3 false true false false) := by
  refine law_of_gspec (C := Try.checked) (tb := 4) 3 own0 started (by kernel_rfl) Try.func3
    (ChangeSpec.witness6 (enc := enc) (C := Try.checked) false ⟨#[], #[.agg #[.int .i64 0, .int .i64 0], .int .i64 0], []⟩ 8 (by kernel_rfl) (by kernel_rfl) (by kernel_rfl) (by kernel_rfl))
    laidOut0 (by kernel_rfl) (by kernel_rfl) (by kernel_rfl) (by kernel_rfl) rfl (fun ds hd => ?_) (fun ls hl h => ?_)
  · match ds, hd with
    | [a, b], _ => rfl
  · match ls, hl with
    | [a, b], _ =>
      obtain ⟨c, rfl⟩ := shp_conf (n := 1) (h 0 23 a (by kernel_rfl) rfl)
      obtain ⟨x, rfl, _⟩ := shp_int (n := 2) (h 1 3 b (by kernel_rfl) rfl)
      have e : zipAv Try.prog Try.f3.params.toList [[dint c.pw, dint c.pg], [dint x]] = [c.av, int x] := by kernel_rfl
      exact ⟨true, e ▸ lawPageConfs c x⟩

theorem pageConfs_holds : Rows.PageConfsSaid :=
  OpenClaim.holds_of_wide 3 Try.f3 rfl rfl rfl rfl rfl rfl rfl ⟨rfl, rfl, rfl, rfl, rfl⟩ rfl rfl rfl rfl rfl (by kernel_rfl) Try.func3 (by kernel_rfl)
    (of_decide_eq_true (by kernel_rfl)) (by unfold Func.isWrapper; first | (rw [if_pos (by decide +kernel)]; kernel_rfl) | (rw [if_neg (by decide +kernel)]; exact ⟨rfl, rfl⟩))
    (fun os started H enc _ => pageConfs_lifted os started H enc)


set_option maxRecDepth 100000 in
theorem pageNew_lifted (os : Os) (started : os.Started) (H : Type) (enc : TypeId × Value → H) :
    ReturnsInHanded {} Try.checked os 4 .any (Rows.pageNewSpec.pre6 enc Try.prog Try.f4 Rows.pageNewRow.domain false) (Rows.pageNewSpec.post enc Try.prog Try.f4 false true false false) := by
  refine law_of_gspec (C := Try.checked) (tb := 4) 3 own0 started (by kernel_rfl) Try.func4
    (ChangeSpec.witness6 (enc := enc) (C := Try.checked) false ⟨#[], #[.agg #[.int .i64 0, .int .i64 0]], []⟩ 8 (by kernel_rfl) (by kernel_rfl) (by kernel_rfl) (by kernel_rfl))
    laidOut0 (by kernel_rfl) (by kernel_rfl) (by kernel_rfl) (by kernel_rfl) rfl (fun ds hd => ?_) (fun ls hl h => ?_)
  · match ds, hd with
    | [a], _ => rfl
  · match ls, hl with
    | [a], _ =>
      obtain ⟨c, rfl⟩ := shp_conf (n := 1) (h 0 23 a (by kernel_rfl) rfl)
      have e : zipAv Try.prog Try.f4.params.toList [[dint c.pw, dint c.pg]] = [c.av] := by kernel_rfl
      exact ⟨true, e ▸ lawPageNew c⟩

theorem pageNew_holds : Rows.PageNewSaid :=
  OpenClaim.holds_of_wide 4 Try.f4 rfl rfl rfl rfl rfl rfl rfl ⟨rfl, rfl, rfl, rfl, rfl⟩ rfl rfl rfl rfl rfl (by kernel_rfl) Try.func4 (by kernel_rfl)
    (of_decide_eq_true (by kernel_rfl)) (by unfold Func.isWrapper; first | (rw [if_pos (by decide +kernel)]; kernel_rfl) | (rw [if_neg (by decide +kernel)]; exact ⟨rfl, rfl⟩))
    (fun os started H enc _ => pageNew_lifted os started H enc)

set_option maxRecDepth 100000 in
theorem pageAddresses_lifted (os : Os) (started : os.Started) (H : Type) (enc : TypeId × Value → H) :
    ReturnsInHanded {} Try.checked os 5 .any (Rows.pageAddressesSpec.pre6 enc Try.prog Try.f5 Rows.pageAddressesRow.domain false) (Rows.pageAddressesSpec.post enc Try.prog Try.f5 false true false false) := by
  refine law_of_gspec (C := Try.checked) (tb := 4) 3 own0 started (by kernel_rfl) Try.func5
    (ChangeSpec.witness6 (enc := enc) (C := Try.checked) false ⟨#[], #[.agg #[.int .i64 0, .int .i64 0], .int .i64 0, .int .i64 0, .int .u64 0], []⟩ 8 (by kernel_rfl) (by kernel_rfl) (by kernel_rfl) (by kernel_rfl))
    laidOut0 (by kernel_rfl) (by kernel_rfl) (by kernel_rfl) (by kernel_rfl) rfl (fun ds hd => ?_) (fun ls hl h => ?_)
  · match ds, hd with
    | [a, b, c, d], _ => rfl
  · match ls, hl with
    | [a, b, c, d], _ =>
      obtain ⟨k, rfl⟩ := shp_conf (n := 1) (h 0 23 a (by kernel_rfl) rfl)
      obtain ⟨x, rfl, _⟩ := shp_int (n := 2) (h 1 3 b (by kernel_rfl) rfl)
      obtain ⟨y, rfl, _⟩ := shp_int (n := 2) (h 2 3 c (by kernel_rfl) rfl)
      obtain ⟨z, rfl, hz⟩ := shp_u64 (n := 2) (h 3 38 d (by kernel_rfl) rfl)
      have e : zipAv Try.prog Try.f5.params.toList [[dint k.pw, dint k.pg], [dint x], [dint y], [du64 z]] = [k.av, int x, int y, u64 z] := by kernel_rfl
      have hb := range_u64 hz
      exact ⟨true, e ▸ lawPageAddresses k x y z hb.1 hb.2⟩

theorem pageAddresses_holds : Rows.PageAddressesSaid :=
  OpenClaim.holds_of_wide 5 Try.f5 rfl rfl rfl rfl rfl rfl rfl ⟨rfl, rfl, rfl, rfl, rfl⟩ rfl rfl rfl rfl rfl (by kernel_rfl) Try.func5 (by kernel_rfl)
    (of_decide_eq_true (by kernel_rfl)) (by unfold Func.isWrapper; first | (rw [if_pos (by decide +kernel)]; kernel_rfl) | (rw [if_neg (by decide +kernel)]; exact ⟨rfl, rfl⟩))
    (fun os started H enc _ => pageAddresses_lifted os started H enc)

end Go.Proofs.Ytkeimadhboefbaa
