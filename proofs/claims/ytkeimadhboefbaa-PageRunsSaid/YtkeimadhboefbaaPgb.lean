/-
  Layer 4 of the program: how many pages an object has for itself.
  Conditions: none.
-/
import Derived.Test.YtkeimadhboefbaaPga
namespace Go.Proofs.Ytkeimadhboefbaa
open Go.Sx

def need (c : Conf) (n : Int) : Int := if validB c = true ∧ 1 ≤ n ∧ n ≤ 4 * c.pw then (if n ≤ c.pw / 4 then 0 else (n + c.pw - 1) / c.pw) else -1

theorem smallWords_eq {c : Conf} (h : validB c = true) : smallWords c = c.pw / 4 := by
  have hv := validB_iff.1 h
  rw [smallWords, if_pos h, tdivI (by omega)]

theorem pageNeed (c : Conf) (n : Int) : GSpec Try.prog 14 [c.av, int n] true (int (need c n)) [] := by
  by_cases h : validB c = true ∧ 1 ≤ n ∧ n ≤ 4 * c.pw
  · obtain ⟨h, h1, h2⟩ := h
    have hv := validB_iff.1 h
    by_cases h3 : n ≤ c.pw / 4
    · have e : need c n = 0 := by rw [need, if_pos ⟨h, h1, h2⟩, if_pos h3]
      rw [e]
      refine gspec_of [(7, [.call true (bool (validB c)) []]), (17, [.int (4 * c.pw)]), (19, [.br false]), (23, [.call true (int (smallWords c)) []]), (24, [.br true])] [] [] (by decide) Try.func14 (φ := GSpec Try.prog (8 : Nat) [AV.ag [int c.pw, int c.pg]] true (Sx.bool (validB c)) [] ∧ ((!(!validB c || decide (n < (1 : Int)))) = true → IntKind.i64.wrap ((4 : Int) * c.pw) = (4 : Int) * c.pw) ∧ (!validB c || decide (n < (1 : Int)) || decide ((4 : Int) * c.pw < n)) = false ∧ GSpec Try.prog (12 : Nat) [AV.ag [int c.pw, int c.pg]] true (int (smallWords c)) [] ∧ decide (n ≤ smallWords c) = true) ?_ (by kernel_rfl) (by kernel_rfl)
      exact ⟨pageValidConf c, fun _ => wrapI (by omega) (by omega), by simp [h]; omega, pageSmallWords c, by rw [smallWords_eq h]; simpa using h3⟩
    · have e : need c n = (n + c.pw - 1).tdiv c.pw := by rw [need, if_pos ⟨h, h1, h2⟩, if_neg h3, tdivI (by omega)]
      have hq : (n + c.pw - 1) / c.pw ≤ n + c.pw - 1 := Int.ediv_le_self _ (by omega)
      have hq0 : 0 ≤ (n + c.pw - 1) / c.pw := Int.ediv_nonneg (by omega) (by omega)
      rw [e]
      refine gspec_of [(7, [.call true (bool (validB c)) []]), (17, [.int (4 * c.pw)]), (19, [.br false]), (23, [.call true (int (smallWords c)) []]), (24, [.br false]), (28, [.int (n + c.pw)]), (29, [.int (n + c.pw - 1)]), (32, [.int ((n + c.pw - 1).tdiv c.pw)])] [] [] (by decide) Try.func14 (φ := GSpec Try.prog (8 : Nat) [AV.ag [int c.pw, int c.pg]] true (Sx.bool (validB c)) [] ∧ ((!(!validB c || decide (n < (1 : Int)))) = true → IntKind.i64.wrap ((4 : Int) * c.pw) = (4 : Int) * c.pw) ∧ (!validB c || decide (n < (1 : Int)) || decide ((4 : Int) * c.pw < n)) = false ∧ GSpec Try.prog (12 : Nat) [AV.ag [int c.pw, int c.pg]] true (int (smallWords c)) [] ∧ decide (n ≤ smallWords c) = false ∧ IntKind.i64.wrap (n + c.pw) = n + c.pw ∧ IntKind.i64.wrap (n + c.pw - (1 : Int)) = n + c.pw - (1 : Int) ∧ IntKind.i64.wrap ((n + c.pw - (1 : Int)).tdiv c.pw) = (n + c.pw - (1 : Int)).tdiv c.pw ∧ (c.pw = (0 : Int) → False)) ?_ (by kernel_rfl) (by kernel_rfl)
      exact ⟨pageValidConf c, fun _ => wrapI (by omega) (by omega), by simp [h]; omega, pageSmallWords c, by rw [smallWords_eq h]; simpa using h3, wrapI (by omega) (by omega), wrapI (by omega) (by omega), wrapI (by rw [tdivI (by omega)]; omega) (by rw [tdivI (by omega)]; omega), by omega⟩
  · have e : need c n = -1 := if_neg h
    rw [e]
    refine gspec_of [(7, [.call true (bool (validB c)) []]), (17, [.int (4 * c.pw)]), (19, [.br true])] [] [] (by decide) Try.func14 (φ := GSpec Try.prog (8 : Nat) [AV.ag [int c.pw, int c.pg]] true (Sx.bool (validB c)) [] ∧ ((!(!validB c || decide (n < (1 : Int)))) = true → IntKind.i64.wrap ((4 : Int) * c.pw) = (4 : Int) * c.pw) ∧ (!validB c || decide (n < (1 : Int)) || decide ((4 : Int) * c.pw < n)) = true) ?_ (by kernel_rfl) (by kernel_rfl)
    refine ⟨pageValidConf c, fun h' => ?_, ?_⟩
    · simp at h'
      have hv := validB_iff.1 h'.1
      exact wrapI (by omega) (by omega)
    · simp
      cases hv : validB c with
      | false => simp
      | true =>
        simp only [hv, true_and] at h
        simp
        omega

/-! The reference goes by steps -/
theorem need_large {c : Conf} {n : Int} {k : Nat} (h : validB c = true) (h1 : 1 ≤ n) (h2 : c.pw / 4 < n) (hk : k ≤ 4) (h3 : ((k : Int) - 1) * c.pw < n) (h4 : n ≤ k * c.pw) : need c n = k := by
  have hv := validB_iff.1 h
  have h5 : (k : Int) * c.pw ≤ 4 * c.pw := Int.mul_le_mul_of_nonneg_right (by omega) (by omega)
  rw [need, if_pos ⟨h, h1, by omega⟩, if_neg (by omega)]
  rw [Int.sub_mul] at h3
  refine Int.le_antisymm (Int.le_of_lt_add_one (Int.ediv_lt_of_lt_mul (by omega) ?_)) (Int.le_ediv_of_mul_le (by omega) (by omega))
  rw [Int.add_mul]
  omega

def needL (c : Conf) (n : Int) (k : Nat) : Tg := ⟨tm 28 [(1, int n), (2, .pt 8002 0 0), (4, int 0), (5, int k)], [(8002, .box 23 [int c.pw, int c.pg])], 20⟩
theorem refNeed_go (c : Conf) (n : Int) (k : Nat) (hw : c.pw ≤ 64) (hw0 : 0 ≤ c.pw) (hk : k ≤ 4) (hn : k * c.pw < n) : CSpec Try.prog (rndF Try.f15 0) (needL c n k).st .nrm (needL c n (k + 1)).st := by
  have hm : (k : Int) * c.pw ≤ 4 * c.pw := Int.mul_le_mul_of_nonneg_right (by omega) (by omega)
  have hm0 : 0 ≤ (k : Int) * c.pw := Int.mul_nonneg (by omega) (by omega)
  refine stretch [(18, [.br true]), (24, [.int (k * c.pw)]), (26, [.br false]), (20, [.int ((k + 1 : Nat) : Int)])] [] (φ := decide ((↑k : Int) ≤ (4 : Int)) = true ∧ true = true ∧ IntKind.i64.wrap ((↑k : Int) * c.pw) = (↑k : Int) * c.pw ∧ decide (n ≤ (↑k : Int) * c.pw) = false ∧ false = false ∧ IntKind.i64.wrap ((↑k : Int) + (1 : Int)) = (↑(k + (1 : Nat)) : Int)) ?_ (by kernel_rfl) (by kernel_rfl) (by kernel_rfl)
  exact ⟨decide_eq_true (by omega), rfl, wrapI (by omega) (by omega), decide_eq_false (by omega), rfl, wrapI (by omega) (by omega)⟩

theorem refNeed (c : Conf) (n : Int) : GSpec Try.prog 15 [c.av, int n] true (int (need c n)) [] := by
  by_cases h : validB c = true ∧ 1 ≤ n
  · obtain ⟨h, h1⟩ := h
    have hv := validB_iff.1 h
    by_cases h3 : n ≤ c.pw / 4
    · have e : need c n = 0 := by rw [need, if_pos ⟨h, h1, by omega⟩, if_pos h3]
      rw [e]
      refine gspec_of [(7, [.call true (bool (validB c)) []]), (12, [.br false]), (15, [.call true (int (smallWords c)) []]), (16, [.br true])] [] [] (by decide) Try.func15 (φ := GSpec Try.prog (9 : Nat) [AV.ag [int c.pw, int c.pg]] true (Sx.bool (validB c)) [] ∧ (!validB c || decide (n < (1 : Int))) = false ∧ false = false ∧ GSpec Try.prog (13 : Nat) [AV.ag [int c.pw, int c.pg]] true (int (smallWords c)) [] ∧ decide (n ≤ smallWords c) = true ∧ true = true) ?_ (by kernel_rfl) (by kernel_rfl)
      exact ⟨refValidConf c, by simp [h]; omega, rfl, refSmallWords c, by rw [smallWords_eq h]; simpa using h3, rfl⟩
    · by_cases h4 : n ≤ 4 * c.pw
      · -- it is found
        have hk : ∃ k : Nat, 1 ≤ k ∧ k ≤ 4 ∧ ((k : Int) - 1) * c.pw < n ∧ n ≤ k * c.pw := by
          by_cases a1 : n ≤ c.pw
          · exact ⟨1, by omega, by omega, by omega, by omega⟩
          by_cases a2 : n ≤ 2 * c.pw
          · exact ⟨2, by omega, by omega, by omega, by omega⟩
          by_cases a3 : n ≤ 3 * c.pw
          · exact ⟨3, by omega, by omega, by omega, by omega⟩
          · exact ⟨4, by omega, by omega, by omega, by omega⟩
        obtain ⟨k, k1, k4, klo, khi⟩ := hk
        rw [need_large h h1 (by omega) k4 klo khi]
        refine gspec_of [(7, [.call true (bool (validB c)) []]), (12, [.br false]), (15, [.call true (int (smallWords c)) []]), (16, [.br false])] [(0, needL c n 1, .ret, ⟨tm 28 [(4, int k)], [], 30⟩)] [] (by decide) Try.func15 (φ := GSpec Try.prog (9 : Nat) [AV.ag [int c.pw, int c.pg]] true (Sx.bool (validB c)) [] ∧ (!validB c || decide (n < (1 : Int))) = false ∧ false = false ∧ GSpec Try.prog (13 : Nat) [AV.ag [int c.pw, int c.pg]] true (int (smallWords c)) [] ∧ decide (n ≤ smallWords c) = false ∧ false = false ∧ CSpec Try.prog (blkF Try.f15 (0 : Nat)) (needL c n (1 : Nat)).st Ex.ret (Tg.mk (tm (28 : Nat) [((4 : Nat), int (↑k : Int))]) [] (30 : Nat)).st) ?_ (by kernel_rfl) (by kernel_rfl)
        refine ⟨refValidConf c, by simp [h]; omega, rfl, refSmallWords c, by rw [smallWords_eq h]; simpa using h3, rfl, ?_⟩
        obtain ⟨j, rfl⟩ : ∃ j, k = j + 1 := ⟨k - 1, by omega⟩
        refine loop_ret_of (S := fun i => (needL c n (i + 1)).st) j (by kernel_rfl) (fun i hi => refNeed_go c n (i + 1) (by omega) (by omega) (by omega) ?_) ?_
        · have : ((i + 1 : Nat) : Int) * c.pw ≤ ((j + 1 : Nat) - 1 : Int) * c.pw := Int.mul_le_mul_of_nonneg_right (by omega) (by omega)
          omega
        · have hm : ((j + 1 : Nat) : Int) * c.pw ≤ 4 * c.pw := Int.mul_le_mul_of_nonneg_right (by omega) (by omega)
          have hm0 : 0 ≤ ((j + 1 : Nat) : Int) * c.pw := Int.mul_nonneg (by omega) (by omega)
          refine stretch [(18, [.br true]), (24, [.int ((j + 1 : Nat) * c.pw)]), (26, [.br true])] [] (φ := decide ((↑(j + (1 : Nat)) : Int) ≤ (4 : Int)) = true ∧ true = true ∧ IntKind.i64.wrap ((↑(j + (1 : Nat)) : Int) * c.pw) = (↑(j + (1 : Nat)) : Int) * c.pw ∧ decide (n ≤ (↑(j + (1 : Nat)) : Int) * c.pw) = true ∧ true = true) ?_ (by kernel_rfl) (by kernel_rfl) (by kernel_rfl)
          exact ⟨decide_eq_true (by omega), rfl, wrapI (by omega) (by omega), decide_eq_true (by omega), rfl⟩
      · have e : need c n = -1 := by rw [need, if_neg (by omega)]
        rw [e]
        refine gspec_of [(7, [.call true (bool (validB c)) []]), (12, [.br false]), (15, [.call true (int (smallWords c)) []]), (16, [.br false])] [(0, needL c n 1, .nrm, ⟨tm 28 [], [], 30⟩)] [] (by decide) Try.func15 (φ := GSpec Try.prog (9 : Nat) [AV.ag [int c.pw, int c.pg]] true (Sx.bool (validB c)) [] ∧ (!validB c || decide (n < (1 : Int))) = false ∧ false = false ∧ GSpec Try.prog (13 : Nat) [AV.ag [int c.pw, int c.pg]] true (int (smallWords c)) [] ∧ decide (n ≤ smallWords c) = false ∧ false = false ∧ CSpec Try.prog (blkF Try.f15 (0 : Nat)) (needL c n (1 : Nat)).st Ex.nrm (Tg.mk (tm (28 : Nat) []) [] (30 : Nat)).st) ?_ (by kernel_rfl) (by kernel_rfl)
        refine ⟨refValidConf c, by simp [h]; omega, rfl, refSmallWords c, by rw [smallWords_eq h]; simpa using h3, rfl, ?_⟩
        refine loop_ext_of (S := fun i => (needL c n (i + 1)).st) 4 (by kernel_rfl) (fun i hi => refNeed_go c n (i + 1) (by omega) (by omega) (by omega) ?_) ?_
        · have : ((i + 1 : Nat) : Int) * c.pw ≤ 4 * c.pw := Int.mul_le_mul_of_nonneg_right (by omega) (by omega)
          omega
        · refine stretch [(18, [.br false])] [] (φ := decide ((↑((4 : Nat) + (1 : Nat)) : Int) ≤ (4 : Int)) = false ∧ false = false) ?_ (by kernel_rfl) (by kernel_rfl) (by kernel_rfl)
          exact ⟨rfl, rfl⟩
  · have e : need c n = -1 := if_neg fun h' => h ⟨h'.1, h'.2.1⟩
    rw [e]
    refine gspec_of [(7, [.call true (bool (validB c)) []]), (12, [.br true])] [] [] (by decide) Try.func15 (φ := GSpec Try.prog (9 : Nat) [AV.ag [int c.pw, int c.pg]] true (Sx.bool (validB c)) [] ∧ (!validB c || decide (n < (1 : Int))) = true ∧ true = true) ?_ (by kernel_rfl) (by kernel_rfl)
    refine ⟨refValidConf c, ?_, rfl⟩
    cases hv : validB c with
    | false => simp
    | true =>
      simp only [hv, true_and] at h
      simp
      omega
end Go.Proofs.Ytkeimadhboefbaa
