/-
  Which data the types of the laws' arguments have.
  Conditions: none.
-/
import Derived.Test.YtkeimadhboefbaaSxW
import Derived.Test.YtkeimadhboefbaaPge
namespace Go.Proofs.Ytkeimadhboefbaa
open Go.Sx Go.RowKit

theorem own0 : ownKnob Try.prog.godebug = none := by kernel_rfl
theorem laidOut0 : laidOutB Try.prog = true := by kernel_rfl

theorem shp_int {n : Nat} {l : List DV} (h : shp Try.prog (n + 1) 3 l) : ∃ x : Int, l = [dint x] ∧ (Lit.int .i64 x).wf = true := by
  have e : shp Try.prog (n + 1) 3 l = (∃ x : Int, l = [.sc (.int .i64 x)] ∧ (Lit.int .i64 x).wf = true) := by kernel_rfl
  rw [e] at h
  exact h
theorem shp_u64 {n : Nat} {l : List DV} (h : shp Try.prog (n + 1) 38 l) : ∃ x : Int, l = [du64 x] ∧ (Lit.int .u64 x).wf = true := by
  have e : shp Try.prog (n + 1) 38 l = (∃ x : Int, l = [.sc (.int .u64 x)] ∧ (Lit.int .u64 x).wf = true) := by kernel_rfl
  rw [e] at h
  exact h
theorem shp_conf {n : Nat} {l : List DV} (h : shp Try.prog (n + 2) 23 l) : ∃ c : Conf, l = [dint c.pw, dint c.pg] := by
  have e : shp Try.prog (n + 2) 23 l = (∃ a b, l = a ++ b ∧ (∃ x : Int, a = [.sc (.int .i64 x)] ∧ (Lit.int .i64 x).wf = true) ∧ ∃ a' b', b = a' ++ b' ∧ (∃ x : Int, a' = [.sc (.int .i64 x)] ∧ (Lit.int .i64 x).wf = true) ∧ b' = []) := by kernel_rfl
  rw [e] at h
  obtain ⟨a, b, rfl, ⟨x, rfl, _⟩, a', b', rfl, ⟨y, rfl, _⟩, rfl⟩ := h
  exact ⟨⟨x, y⟩, rfl⟩

theorem range_u64 {n : Int} (h : (Lit.int .u64 n).wf = true) : 0 ≤ n ∧ n ≤ 18446744073709551615 := by
  simp [Lit.wf, IntKind.min, IntKind.max, IntKind.signed, IntKind.bits] at h
  omega

theorem range_i64 {n : Int} (h : (Lit.int .i64 n).wf = true) : -9223372036854775808 ≤ n ∧ n ≤ 9223372036854775807 := by
  simp [Lit.wf, IntKind.min, IntKind.max, IntKind.signed, IntKind.bits] at h
  omega
theorem exists_map {α β : Type} {f : α → β} : ∀ {l : List β}, (∀ x ∈ l, ∃ a, x = f a) → ∃ m : List α, l = m.map f
  | [], _ => ⟨[], rfl⟩
  | x :: l, h => by
    obtain ⟨a, rfl⟩ := h x (by simp)
    obtain ⟨m, rfl⟩ := exists_map (l := l) fun y hy => h y (by simp [hy])
    exact ⟨a :: m, rfl⟩
theorem shp_page {n : Nat} {l : List DV} (h : shp Try.prog (n + 2) 55 l) : ∃ p : Page, l = p.dv := by
  have e : shp Try.prog (n + 2) 55 l = (∃ a b, l = a ++ b ∧ (∃ x : Int, a = [.sc (.int .i64 x)] ∧ (Lit.int .i64 x).wf = true) ∧ ∃ a' b', b = a' ++ b' ∧ (∃ x : Int, a' = [.sc (.int .i64 x)] ∧ (Lit.int .i64 x).wf = true) ∧
    ∃ a'' b'', b' = a'' ++ b'' ∧ (∃ x : Int, a'' = [.sc (.int .i64 x)] ∧ (Lit.int .i64 x).wf = true) ∧ ∃ a3 b3, b'' = a3 ++ b3 ∧ (∃ x : Int, a3 = [.sc (.int .i64 x)] ∧ (Lit.int .i64 x).wf = true) ∧ b3 = []) := by kernel_rfl
  rw [e] at h
  obtain ⟨a, b, rfl, ⟨x, rfl, _⟩, a', b', rfl, ⟨y, rfl, _⟩, a2, b2, rfl, ⟨z, rfl, _⟩, a3, b3, rfl, ⟨u, rfl, _⟩, rfl⟩ := h
  exact ⟨⟨x, y, z, u⟩, rfl⟩
theorem shp_pages {n : Nat} {l : List DV} (h : shp Try.prog (n + 3) 30 l) : ∃ m : List Page, l = [.sl 4 (m.map Page.dv)] ∧ m.length ≤ 140737488355328 := by
  have e : shp Try.prog (n + 3) 30 l = (∃ els : List (List DV), l = [.sl 4 els] ∧ els.length ≤ 140737488355328 ∧ ∀ x ∈ els, shp Try.prog (n + 2) 55 x) := by kernel_rfl
  rw [e] at h
  obtain ⟨els, rfl, h1, h2⟩ := h
  obtain ⟨m, rfl⟩ := exists_map (f := Page.dv) fun x hx => shp_page (h2 x hx)
  exact ⟨m, rfl, by simpa using h1⟩
end Go.Proofs.Ytkeimadhboefbaa
