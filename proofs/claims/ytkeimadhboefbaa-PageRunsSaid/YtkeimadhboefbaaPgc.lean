/-
  Layer 4 of the program: addresses.
  Conditions: none.
-/
import Derived.Test.YtkeimadhboefbaaPgb
namespace Go.Proofs.Ytkeimadhboefbaa
open Go.Sx

theorem wrapU {n : Int} (h1 : 0 ≤ n) (h2 : n ≤ 18446744073709551615) : IntKind.u64.wrap n = n := IntWalk.u64_in n ⟨h1, h2⟩
theorem area {c : Conf} (h : validB c = true) : 128 ≤ c.pw * c.pg ∧ c.pw * c.pg ≤ 4096 := by
  have hv := validB_iff.1 h
  have h1 : 16 * c.pg ≤ c.pw * c.pg := Int.mul_le_mul_of_nonneg_right (by omega) (by omega)
  have h2 : c.pw * c.pg ≤ 64 * c.pg := Int.mul_le_mul_of_nonneg_right (by omega) (by omega)
  omega
theorem inPage {c : Conf} {p o : Int} (h : validB c = true) (h1 : 0 ≤ p) (h2 : p < c.pg) (_ : 0 ≤ o) (h4 : o < c.pw) : 0 ≤ p * c.pw ∧ p * c.pw + o < c.pw * c.pg := by
  have hv := validB_iff.1 h
  have h5 : (p + 1) * c.pw ≤ c.pg * c.pw := Int.mul_le_mul_of_nonneg_right (by omega) (by omega)
  have h6 : 0 ≤ p * c.pw := Int.mul_nonneg (by omega) (by omega)
  rw [Int.add_mul, Int.mul_comm c.pg] at h5
  omega

def inB (c : Conf) (p o : Int) : Bool := decide (0 ≤ p) && decide (p < c.pg) && decide (0 ≤ o) && decide (o < c.pw)
theorem inB_iff {c : Conf} {p o : Int} : inB c p o = true ↔ 0 ≤ p ∧ p < c.pg ∧ 0 ≤ o ∧ o < c.pw := by simp [inB, and_assoc]
def address (c : Conf) (p o : Int) : Int × Int := if validB c = true then (if inB c p o = true then (4096 + (p * c.pw + o), 0) else (0, 2)) else (0, 1)
def addressV (c : Conf) (p o : Int) : AV := .tu [u64 (address c p o).1, int (address c p o).2]

theorem pageAddress (c : Conf) (p o : Int) : GSpec Try.prog 20 [c.av, int p, int o] true (addressV c p o) [] := by
  by_cases h : validB c = true
  · have ha := area h
    by_cases h1 : inB c p o = true
    · obtain ⟨p1, p2, o1, o2⟩ := inB_iff.1 h1
      have hi := inPage h p1 p2 o1 o2
      have e : addressV c p o = .tu [u64 (4096 + (p * c.pw + o)), int 0] := by rw [addressV, address, if_pos h, if_pos h1]
      rw [e]
      refine gspec_of [(10, [.call true (bool (validB c)) []]), (11, [.br false]), (30, [.br false]), (34, [.int (p * c.pw)]), (36, [.int (p * c.pw + o)]), (37, [.int (p * c.pw + o)]), (38, [.int (4096 + (p * c.pw + o))])] [] [] (by decide) Try.func20 (φ := GSpec Try.prog (8 : Nat) [AV.ag [int c.pw, int c.pg]] true (Sx.bool (validB c)) [] ∧ (!validB c) = false ∧ (decide (p < (0 : Int)) || decide (c.pg ≤ p) || decide (o < (0 : Int)) || decide (c.pw ≤ o)) = false ∧ IntKind.i64.wrap (p * c.pw) = p * c.pw ∧ IntKind.i64.wrap (p * c.pw + o) = p * c.pw + o ∧ IntKind.u64.wrap (p * c.pw + o) = p * c.pw + o ∧ IntKind.u64.wrap ((4096 : Int) + (p * c.pw + o)) = (4096 : Int) + (p * c.pw + o)) ?_ (by kernel_rfl) (by kernel_rfl)
      exact ⟨pageValidConf c, by simp [h], by simp; omega, wrapI (by omega) (by omega), wrapI (by omega) (by omega), wrapU (by omega) (by omega), wrapU (by omega) (by omega)⟩
    · have e : addressV c p o = .tu [u64 0, int 2] := by rw [addressV, address, if_pos h, if_neg h1]
      rw [e]
      refine gspec_of [(10, [.call true (bool (validB c)) []]), (11, [.br false]), (30, [.br true])] [] [] (by decide) Try.func20 (φ := GSpec Try.prog (8 : Nat) [AV.ag [int c.pw, int c.pg]] true (Sx.bool (validB c)) [] ∧ (!validB c) = false ∧ (decide (p < (0 : Int)) || decide (c.pg ≤ p) || decide (o < (0 : Int)) || decide (c.pw ≤ o)) = true) ?_ (by kernel_rfl) (by kernel_rfl)
      refine ⟨pageValidConf c, by simp [h], ?_⟩
      rw [inB_iff] at h1
      simp; omega
  · have e : addressV c p o = .tu [u64 0, int 1] := by rw [addressV, address, if_neg h]
    rw [e]
    refine gspec_of [(10, [.call true (bool (validB c)) []]), (11, [.br true])] [] [] (by decide) Try.func20 (φ := GSpec Try.prog (8 : Nat) [AV.ag [int c.pw, int c.pg]] true (Sx.bool (validB c)) [] ∧ (!validB c) = true) ?_ (by kernel_rfl) (by kernel_rfl)
    exact ⟨pageValidConf c, by simp [h]⟩
theorem refAddress (c : Conf) (p o : Int) : GSpec Try.prog 21 [c.av, int p, int o] true (addressV c p o) [] := by
  by_cases h : validB c = true
  · have ha := area h
    by_cases h1 : inB c p o = true
    · obtain ⟨p1, p2, o1, o2⟩ := inB_iff.1 h1
      have hi := inPage h p1 p2 o1 o2
      have e : addressV c p o = .tu [u64 (4096 + p * c.pw + o), int 0] := by rw [addressV, address, if_pos h, if_pos h1, Int.add_assoc]
      rw [e]
      refine gspec_of [(9, [.call true (bool (validB c)) []]), (10, [.br false]), (28, [.br false]), (32, [.int (p * c.pw)]), (33, [.int (4096 + p * c.pw)]), (35, [.int (4096 + p * c.pw + o)]), (36, [.int (4096 + p * c.pw + o)])] [] [] (by decide) Try.func21 (φ := GSpec Try.prog (9 : Nat) [AV.ag [int c.pw, int c.pg]] true (Sx.bool (validB c)) [] ∧ (!validB c) = false ∧ false = false ∧ (decide (p < (0 : Int)) || decide (c.pg ≤ p) || decide (o < (0 : Int)) || decide (c.pw ≤ o)) = false ∧ false = false ∧ IntKind.i64.wrap (p * c.pw) = p * c.pw ∧ IntKind.i64.wrap ((4096 : Int) + p * c.pw) = (4096 : Int) + p * c.pw ∧ IntKind.i64.wrap ((4096 : Int) + p * c.pw + o) = (4096 : Int) + p * c.pw + o ∧ IntKind.u64.wrap ((4096 : Int) + p * c.pw + o) = (4096 : Int) + p * c.pw + o) ?_ (by kernel_rfl) (by kernel_rfl)
      exact ⟨refValidConf c, by simp [h], rfl, by simp; omega, rfl, wrapI (by omega) (by omega), wrapI (by omega) (by omega), wrapI (by omega) (by omega), wrapU (by omega) (by omega)⟩
    · have e : addressV c p o = .tu [u64 0, int 2] := by rw [addressV, address, if_pos h, if_neg h1]
      rw [e]
      refine gspec_of [(9, [.call true (bool (validB c)) []]), (10, [.br false]), (28, [.br true])] [] [] (by decide) Try.func21 (φ := GSpec Try.prog (9 : Nat) [AV.ag [int c.pw, int c.pg]] true (Sx.bool (validB c)) [] ∧ (!validB c) = false ∧ false = false ∧ (decide (p < (0 : Int)) || decide (c.pg ≤ p) || decide (o < (0 : Int)) || decide (c.pw ≤ o)) = true ∧ true = true) ?_ (by kernel_rfl) (by kernel_rfl)
      refine ⟨refValidConf c, by simp [h], rfl, ?_, rfl⟩
      rw [inB_iff] at h1
      simp; omega
  · have e : addressV c p o = .tu [u64 0, int 1] := by rw [addressV, address, if_neg h]
    rw [e]
    refine gspec_of [(9, [.call true (bool (validB c)) []]), (10, [.br true])] [] [] (by decide) Try.func21 (φ := GSpec Try.prog (9 : Nat) [AV.ag [int c.pw, int c.pg]] true (Sx.bool (validB c)) [] ∧ (!validB c) = true ∧ true = true) ?_ (by kernel_rfl) (by kernel_rfl)
    exact ⟨refValidConf c, by simp [h], rfl⟩

def ofA (c : Conf) (a : Int) : Int × Int × Int := if validB c = true then (if 4096 ≤ a ∧ a < 4096 + c.pw * c.pg then ((a - 4096) / c.pw, (a - 4096) % c.pw, 0) else (0, 0, 2)) else (0, 0, 1)
def ofV (c : Conf) (a : Int) : AV := .tu [int (ofA c a).1, int (ofA c a).2.1, int (ofA c a).2.2]

theorem pageOf (c : Conf) (a : Int) (a0 : 0 ≤ a) (a1 : a ≤ 18446744073709551615) : GSpec Try.prog 22 [c.av, u64 a] true (ofV c a) [] := by
  by_cases h : validB c = true
  · have ha := area h
    have hv := validB_iff.1 h
    by_cases h1 : 4096 ≤ a ∧ a < 4096 + c.pw * c.pg
    · have d1 : 0 ≤ (a - 4096) / c.pw := Int.ediv_nonneg (by omega) (by omega)
      have d2 : (a - 4096) / c.pw ≤ a - 4096 := Int.ediv_le_self _ (by omega)
      have e : ofV c a = .tu [int ((a - 4096).tdiv c.pw), int ((a - 4096).tmod c.pw), int 0] := by rw [ofV, ofA, if_pos h, if_pos h1, tdivI (by omega), tmodI (by omega)]
      rw [e]
      refine gspec_of [(10, [.call true (bool (validB c)) []]), (11, [.br false]), (17, [.int (a - 4096)]), (22, [.int (c.pw * c.pg)]), (23, [.int (c.pw * c.pg)]), (25, [.br false]), (27, [.int (a - 4096)]), (28, [.int (a - 4096)]), (32, [.int ((a - 4096).tdiv c.pw)])] [] [] (by decide) Try.func22 (φ := GSpec Try.prog (8 : Nat) [AV.ag [int c.pw, int c.pg]] true (Sx.bool (validB c)) [] ∧ (!validB c) = false ∧ ((!decide (a < (4096 : Int))) = true → IntKind.u64.wrap (a - (4096 : Int)) = a - (4096 : Int)) ∧ ((!decide (a < (4096 : Int))) = true → IntKind.i64.wrap (c.pw * c.pg) = c.pw * c.pg) ∧ ((!decide (a < (4096 : Int))) = true → IntKind.u64.wrap (c.pw * c.pg) = c.pw * c.pg) ∧ (decide (a < (4096 : Int)) || decide (c.pw * c.pg ≤ a - (4096 : Int))) = false ∧ IntKind.u64.wrap (a - (4096 : Int)) = a - (4096 : Int) ∧ IntKind.i64.wrap (a - (4096 : Int)) = a - (4096 : Int) ∧ IntKind.i64.wrap ((a - (4096 : Int)).tdiv c.pw) = (a - (4096 : Int)).tdiv c.pw ∧ (c.pw = (0 : Int) → False) ∧ (c.pw = (0 : Int) → False)) ?_ (by kernel_rfl) (by kernel_rfl)
      exact ⟨pageValidConf c, by simp [h], fun _ => wrapU (by omega) (by omega), fun _ => wrapI (by omega) (by omega), fun _ => wrapU (by omega) (by omega), by simp; omega, wrapU (by omega) (by omega), wrapI (by omega) (by omega), wrapI (by rw [tdivI (by omega)]; omega) (by rw [tdivI (by omega)]; omega), by omega, by omega⟩
    · have e : ofV c a = .tu [int 0, int 0, int 2] := by rw [ofV, ofA, if_pos h, if_neg h1]
      rw [e]
      refine gspec_of [(10, [.call true (bool (validB c)) []]), (11, [.br false]), (17, [.int (a - 4096)]), (22, [.int (c.pw * c.pg)]), (23, [.int (c.pw * c.pg)]), (25, [.br true])] [] [] (by decide) Try.func22 (φ := GSpec Try.prog (8 : Nat) [AV.ag [int c.pw, int c.pg]] true (Sx.bool (validB c)) [] ∧ (!validB c) = false ∧ ((!decide (a < (4096 : Int))) = true → IntKind.u64.wrap (a - (4096 : Int)) = a - (4096 : Int)) ∧ ((!decide (a < (4096 : Int))) = true → IntKind.i64.wrap (c.pw * c.pg) = c.pw * c.pg) ∧ ((!decide (a < (4096 : Int))) = true → IntKind.u64.wrap (c.pw * c.pg) = c.pw * c.pg) ∧ (decide (a < (4096 : Int)) || decide (c.pw * c.pg ≤ a - (4096 : Int))) = true) ?_ (by kernel_rfl) (by kernel_rfl)
      refine ⟨pageValidConf c, by simp [h], fun h' => wrapU (by simp at h'; omega) (by omega), fun _ => wrapI (by omega) (by omega), fun _ => wrapU (by omega) (by omega), by simp; omega⟩
  · have e : ofV c a = .tu [int 0, int 0, int 1] := by rw [ofV, ofA, if_neg h]
    rw [e]
    refine gspec_of [(10, [.call true (bool (validB c)) []]), (11, [.br true])] [] [] (by decide) Try.func22 (φ := GSpec Try.prog (8 : Nat) [AV.ag [int c.pw, int c.pg]] true (Sx.bool (validB c)) [] ∧ (!validB c) = true) ?_ (by kernel_rfl) (by kernel_rfl)
    exact ⟨pageValidConf c, by simp [h]⟩
theorem refOf (c : Conf) (a : Int) (a0 : 0 ≤ a) (a1 : a ≤ 18446744073709551615) : GSpec Try.prog 23 [c.av, u64 a] true (ofV c a) [] := by
  by_cases h : validB c = true
  · have ha := area h
    rw [Int.mul_comm] at ha
    have hv := validB_iff.1 h
    by_cases h1 : 4096 ≤ a ∧ a < 4096 + c.pg * c.pw
    · have d1 : 0 ≤ (a - 4096) / c.pw := Int.ediv_nonneg (by omega) (by omega)
      have d2 : (a - 4096) / c.pw ≤ a - 4096 := Int.ediv_le_self _ (by omega)
      have e : ofV c a = .tu [int ((a - 4096).tdiv c.pw), int ((a - 4096).tmod c.pw), int 0] := by rw [ofV, ofA, if_pos h, if_pos (by rw [Int.mul_comm c.pw]; exact h1), tdivI (by omega), tmodI (by omega)]
      rw [e]
      refine gspec_of [(9, [.call true (bool (validB c)) []]), (10, [.br false]), (19, [.int (c.pg * c.pw)]), (20, [.int (4096 + c.pg * c.pw)]), (21, [.int (4096 + c.pg * c.pw)]), (23, [.br false]), (25, [.int (a - 4096)]), (26, [.int (a - 4096)]), (30, [.int ((a - 4096).tdiv c.pw)])] [] [] (by decide) Try.func23 (φ := GSpec Try.prog (9 : Nat) [AV.ag [int c.pw, int c.pg]] true (Sx.bool (validB c)) [] ∧ (!validB c) = false ∧ false = false ∧ ((!decide (a < (4096 : Int))) = true → IntKind.i64.wrap (c.pg * c.pw) = c.pg * c.pw) ∧ ((!decide (a < (4096 : Int))) = true → IntKind.i64.wrap ((4096 : Int) + c.pg * c.pw) = (4096 : Int) + c.pg * c.pw) ∧ ((!decide (a < (4096 : Int))) = true → IntKind.u64.wrap ((4096 : Int) + c.pg * c.pw) = (4096 : Int) + c.pg * c.pw) ∧ (decide (a < (4096 : Int)) || decide ((4096 : Int) + c.pg * c.pw ≤ a)) = false ∧ false = false ∧ IntKind.u64.wrap (a - (4096 : Int)) = a - (4096 : Int) ∧ IntKind.i64.wrap (a - (4096 : Int)) = a - (4096 : Int) ∧ IntKind.i64.wrap ((a - (4096 : Int)).tdiv c.pw) = (a - (4096 : Int)).tdiv c.pw ∧ (c.pw = (0 : Int) → False) ∧ (c.pw = (0 : Int) → False)) ?_ (by kernel_rfl) (by kernel_rfl)
      exact ⟨refValidConf c, by simp [h], rfl, fun _ => wrapI (by omega) (by omega), fun _ => wrapI (by omega) (by omega), fun _ => wrapU (by omega) (by omega), by simp; omega, rfl, wrapU (by omega) (by omega), wrapI (by omega) (by omega), wrapI (by rw [tdivI (by omega)]; omega) (by rw [tdivI (by omega)]; omega), by omega, by omega⟩
    · have e : ofV c a = .tu [int 0, int 0, int 2] := by rw [ofV, ofA, if_pos h, if_neg (by rw [Int.mul_comm c.pw]; exact h1)]
      rw [e]
      refine gspec_of [(9, [.call true (bool (validB c)) []]), (10, [.br false]), (19, [.int (c.pg * c.pw)]), (20, [.int (4096 + c.pg * c.pw)]), (21, [.int (4096 + c.pg * c.pw)]), (23, [.br true])] [] [] (by decide) Try.func23 (φ := GSpec Try.prog (9 : Nat) [AV.ag [int c.pw, int c.pg]] true (Sx.bool (validB c)) [] ∧ (!validB c) = false ∧ false = false ∧ ((!decide (a < (4096 : Int))) = true → IntKind.i64.wrap (c.pg * c.pw) = c.pg * c.pw) ∧ ((!decide (a < (4096 : Int))) = true → IntKind.i64.wrap ((4096 : Int) + c.pg * c.pw) = (4096 : Int) + c.pg * c.pw) ∧ ((!decide (a < (4096 : Int))) = true → IntKind.u64.wrap ((4096 : Int) + c.pg * c.pw) = (4096 : Int) + c.pg * c.pw) ∧ (decide (a < (4096 : Int)) || decide ((4096 : Int) + c.pg * c.pw ≤ a)) = true ∧ true = true) ?_ (by kernel_rfl) (by kernel_rfl)
      refine ⟨refValidConf c, by simp [h], rfl, fun _ => wrapI (by omega) (by omega), fun _ => wrapI (by omega) (by omega), fun _ => wrapU (by omega) (by omega), by simp; omega, rfl⟩
  · have e : ofV c a = .tu [int 0, int 0, int 1] := by rw [ofV, ofA, if_neg h]
    rw [e]
    refine gspec_of [(9, [.call true (bool (validB c)) []]), (10, [.br true])] [] [] (by decide) Try.func23 (φ := GSpec Try.prog (9 : Nat) [AV.ag [int c.pw, int c.pg]] true (Sx.bool (validB c)) [] ∧ (!validB c) = true ∧ true = true) ?_ (by kernel_rfl) (by kernel_rfl)
    exact ⟨refValidConf c, by simp [h], rfl⟩
end Go.Proofs.Ytkeimadhboefbaa
