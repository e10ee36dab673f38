/-
  Layer 4 of the program, the part about configurations: plain functions, and the contracts of the code.
  Conditions: none.
-/
import Derived.Test.YtkeimadhboefbaaSxV
import Derived.Test.YtkeimadhboefbaaRows
import Derived.IntWalk
namespace Go.Proofs.Ytkeimadhboefbaa
open Go.Sx

structure Conf where
  pw : Int
  pg : Int
  deriving DecidableEq
def Conf.av (c : Conf) : AV := .ag [int c.pw, int c.pg]
def validB (c : Conf) : Bool := decide (16 ≤ c.pw) && decide (c.pw ≤ 64) && (c.pw.tmod 4 == 0) && decide (8 ≤ c.pg) && decide (c.pg ≤ 64)
theorem validB_iff {c : Conf} : validB c = true ↔ 16 ≤ c.pw ∧ c.pw ≤ 64 ∧ c.pw.tmod 4 = 0 ∧ 8 ≤ c.pg ∧ c.pg ≤ 64 := by
  simp [validB, and_assoc]
def limit (c : Conf) : Int := if validB c = true then c.pg.tdiv 4 else 0
def smallWords (c : Conf) : Int := if validB c = true then c.pw.tdiv 4 else 0

theorem wrapI {n : Int} (h1 : -9223372036854775808 ≤ n) (h2 : n ≤ 9223372036854775807) : IntKind.i64.wrap n = n := IntWalk.i64_in n ⟨h1, h2⟩
theorem tdivI {a b : Int} (h : 0 ≤ a) : a.tdiv b = a / b := Int.tdiv_eq_ediv_of_nonneg h
theorem tmodI {a b : Int} (h : 0 ≤ a) : a.tmod b = a % b := Int.tmod_eq_emod_of_nonneg h

theorem pageValidConf (c : Conf) : GSpec Try.prog 8 [c.av] true (bool (validB c)) [] := by
  refine gspec_of [] [] [] (by decide) Try.func8 (φ := (decide ((16 : Int) ≤ c.pw) && decide (c.pw ≤ (64 : Int))) = true → (4 : Int) = (0 : Int) → False) ?_ (by kernel_rfl) (by kernel_rfl)
  intro _ ; decide
theorem refValidConf (c : Conf) : GSpec Try.prog 9 [c.av] true (bool (validB c)) [] := by
  refine gspec_of [] [] [] (by decide) Try.func9 (φ := (decide ((16 : Int) ≤ c.pw) && decide (c.pw ≤ (64 : Int))) = true → (4 : Int) = (0 : Int) → False) ?_ (by kernel_rfl) (by kernel_rfl)
  intro _ ; decide

theorem pageLimit (c : Conf) : GSpec Try.prog 10 [c.av] true (int (limit c)) [] := by
  by_cases h : validB c = true
  · have hv := validB_iff.1 h
    have e : limit c = c.pg.tdiv 4 := if_pos h
    rw [e]
    refine gspec_of [(4, [.call true (bool (validB c)) []]), (5, [.br false]), (8, [.int (c.pg.tdiv 4)])] [] [] (by decide) Try.func10 (φ := GSpec Try.prog (8 : Nat) [AV.ag [int c.pw, int c.pg]] true (Sx.bool (validB c)) [] ∧ (!validB c) = false ∧ false = false ∧ IntKind.i64.wrap (c.pg.tdiv (4 : Int)) = c.pg.tdiv (4 : Int) ∧ ((4 : Int) = (0 : Int) → False)) ?_ (by kernel_rfl) (by kernel_rfl)
    exact ⟨pageValidConf c, by simp [h], rfl, wrapI (by rw [tdivI (by omega)]; omega) (by rw [tdivI (by omega)]; omega), by decide⟩
  · have e : limit c = 0 := if_neg h
    rw [e]
    refine gspec_of [(4, [.call true (bool (validB c)) []]), (5, [.br true])] [] [] (by decide) Try.func10 (φ := GSpec Try.prog (8 : Nat) [AV.ag [int c.pw, int c.pg]] true (Sx.bool (validB c)) [] ∧ (!validB c) = true ∧ true = true) ?_ (by kernel_rfl) (by kernel_rfl)
    exact ⟨pageValidConf c, by simp [h], rfl⟩
theorem refLimit (c : Conf) : GSpec Try.prog 11 [c.av] true (int (limit c)) [] := by
  by_cases h : validB c = true
  · have hv := validB_iff.1 h
    have e : limit c = c.pg.tdiv 4 := if_pos h
    rw [e]
    refine gspec_of [(4, [.call true (bool (validB c)) []]), (5, [.br false]), (8, [.int (c.pg.tdiv 4)])] [] [] (by decide) Try.func11 (φ := GSpec Try.prog (9 : Nat) [AV.ag [int c.pw, int c.pg]] true (Sx.bool (validB c)) [] ∧ (!validB c) = false ∧ false = false ∧ IntKind.i64.wrap (c.pg.tdiv (4 : Int)) = c.pg.tdiv (4 : Int) ∧ ((4 : Int) = (0 : Int) → False)) ?_ (by kernel_rfl) (by kernel_rfl)
    exact ⟨refValidConf c, by simp [h], rfl, wrapI (by rw [tdivI (by omega)]; omega) (by rw [tdivI (by omega)]; omega), by decide⟩
  · have e : limit c = 0 := if_neg h
    rw [e]
    refine gspec_of [(4, [.call true (bool (validB c)) []]), (5, [.br true])] [] [] (by decide) Try.func11 (φ := GSpec Try.prog (9 : Nat) [AV.ag [int c.pw, int c.pg]] true (Sx.bool (validB c)) [] ∧ (!validB c) = true ∧ true = true) ?_ (by kernel_rfl) (by kernel_rfl)
    exact ⟨refValidConf c, by simp [h], rfl⟩
theorem pageSmallWords (c : Conf) : GSpec Try.prog 12 [c.av] true (int (smallWords c)) [] := by
  by_cases h : validB c = true
  · have hv := validB_iff.1 h
    have e : smallWords c = c.pw.tdiv 4 := if_pos h
    rw [e]
    refine gspec_of [(4, [.call true (bool (validB c)) []]), (5, [.br false]), (8, [.int (c.pw.tdiv 4)])] [] [] (by decide) Try.func12 (φ := GSpec Try.prog (8 : Nat) [AV.ag [int c.pw, int c.pg]] true (Sx.bool (validB c)) [] ∧ (!validB c) = false ∧ false = false ∧ IntKind.i64.wrap (c.pw.tdiv (4 : Int)) = c.pw.tdiv (4 : Int) ∧ ((4 : Int) = (0 : Int) → False)) ?_ (by kernel_rfl) (by kernel_rfl)
    exact ⟨pageValidConf c, by simp [h], rfl, wrapI (by rw [tdivI (by omega)]; omega) (by rw [tdivI (by omega)]; omega), by decide⟩
  · have e : smallWords c = 0 := if_neg h
    rw [e]
    refine gspec_of [(4, [.call true (bool (validB c)) []]), (5, [.br true])] [] [] (by decide) Try.func12 (φ := GSpec Try.prog (8 : Nat) [AV.ag [int c.pw, int c.pg]] true (Sx.bool (validB c)) [] ∧ (!validB c) = true ∧ true = true) ?_ (by kernel_rfl) (by kernel_rfl)
    exact ⟨pageValidConf c, by simp [h], rfl⟩
theorem refSmallWords (c : Conf) : GSpec Try.prog 13 [c.av] true (int (smallWords c)) [] := by
  by_cases h : validB c = true
  · have hv := validB_iff.1 h
    have e : smallWords c = c.pw.tdiv 4 := if_pos h
    rw [e]
    refine gspec_of [(4, [.call true (bool (validB c)) []]), (5, [.br false]), (8, [.int (c.pw.tdiv 4)])] [] [] (by decide) Try.func13 (φ := GSpec Try.prog (9 : Nat) [AV.ag [int c.pw, int c.pg]] true (Sx.bool (validB c)) [] ∧ (!validB c) = false ∧ false = false ∧ IntKind.i64.wrap (c.pw.tdiv (4 : Int)) = c.pw.tdiv (4 : Int) ∧ ((4 : Int) = (0 : Int) → False)) ?_ (by kernel_rfl) (by kernel_rfl)
    exact ⟨refValidConf c, by simp [h], rfl, wrapI (by rw [tdivI (by omega)]; omega) (by rw [tdivI (by omega)]; omega), by decide⟩
  · have e : smallWords c = 0 := if_neg h
    rw [e]
    refine gspec_of [(4, [.call true (bool (validB c)) []]), (5, [.br true])] [] [] (by decide) Try.func13 (φ := GSpec Try.prog (9 : Nat) [AV.ag [int c.pw, int c.pg]] true (Sx.bool (validB c)) [] ∧ (!validB c) = true ∧ true = true) ?_ (by kernel_rfl) (by kernel_rfl)
    exact ⟨refValidConf c, by simp [h], rfl⟩

theorem lawConf : GSpec Try.prog 31 [] true (Conf.av ⟨16, 8⟩) [] := by
  refine gspec_of [] [] [] (by decide) Try.func31 (φ := True) ?_ (by kernel_rfl) (by kernel_rfl)
  trivial

end Go.Proofs.Ytkeimadhboefbaa
