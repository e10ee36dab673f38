/-
 The statement BoundPages: part 5.
 Conditions: none.
-/
import Derived.IntWalk
import Derived.Test.YteppchpkbhikdaaRows
import Derived.Test.YteppchpkbhikdaaM4
set_option maxRecDepth 100000
set_option maxHeartbeats 2000000
set_option linter.all false
namespace Go.Proofs.Yteppchpkbhikdaa
open Go.Sx
structure Conf where
 pw : Int
 pg : Int
 deriving DecidableEq,Inhabited
def Conf.av (c : Conf) : AV := .ag [int c.pw,int c.pg]
def validB (c : Conf) : Bool := decide (16 ≤ c.pw) && decide (c.pw ≤ 64) && (c.pw.tmod 4 == 0) && decide (8 ≤ c.pg) && decide (c.pg ≤ 64)
theorem validB_iff {c : Conf} : validB c = true ↔ 16 ≤ c.pw ∧ c.pw ≤ 64 ∧ c.pw.tmod 4 = 0 ∧ 8 ≤ c.pg ∧ c.pg ≤ 64 := by
 simp [validB,and_assoc]
def limit (c : Conf) : Int := if validB c = true then c.pg.tdiv 4 else 0
def smallWords (c : Conf) : Int := if validB c = true then c.pw.tdiv 4 else 0
theorem wrapI {n : Int} (h1 : -9223372036854775808 ≤ n) (h2 : n ≤ 9223372036854775807) : IntKind.i64.wrap n = n := IntWalk.i64_in n ⟨h1,h2⟩
theorem tdivI {a b : Int} (h : 0 ≤ a) : a.tdiv b = a / b := Int.tdiv_eq_ediv_of_nonneg h
theorem pageValidConf (c : Conf) : GSpec Try.prog 32 [c.av] true (bool (validB c)) [] := by
 refine gspec_of [] [] [] (by decide) Try.func32 (φ := (decide ((16 : Int) ≤ c.pw) && decide (c.pw ≤ (64 : Int))) = true → (4 : Int) = (0 : Int) → False) ?_ (by kernel_rfl) (by kernel_rfl)
 intro _ ; decide
theorem refValidConf (c : Conf) : GSpec Try.prog 26 [c.av] true (bool (validB c)) [] := by
 refine gspec_of [] [] [] (by decide) Try.func26 (φ := (decide ((16 : Int) ≤ c.pw) && decide (c.pw ≤ (64 : Int))) = true → (4 : Int) = (0 : Int) → False) ?_ (by kernel_rfl) (by kernel_rfl)
 intro _ ; decide
theorem pageLimit (c : Conf) : GSpec Try.prog 35 [c.av] true (int (limit c)) [] := by
 by_cases h : validB c = true
 ·have hv := validB_iff.1 h
  have e : limit c = c.pg.tdiv 4 := if_pos h
  rw [e]
  refine gspec_of [(4,[.call true (bool (validB c)) []]),(5,[.br false]),(8,[.int (c.pg.tdiv 4)])] [] [] (by decide) Try.func35 (φ := GSpec Try.prog 32 [AV.ag [int c.pw,int c.pg]] true (Sx.bool (validB c)) [] ∧ (!validB c) = false ∧ false = false ∧ IntKind.i64.wrap (c.pg.tdiv (4 : Int)) = c.pg.tdiv (4 : Int) ∧ ((4 : Int) = (0 : Int) → False)) ?_ (by kernel_rfl) (by kernel_rfl)
  exact ⟨pageValidConf c,by simp [h],rfl,wrapI (by rw [tdivI (by omega)]; omega) (by rw [tdivI (by omega)]; omega),by decide⟩
 ·have e : limit c = 0 := if_neg h
  rw [e]
  refine gspec_of [(4,[.call true (bool (validB c)) []]),(5,[.br true])] [] [] (by decide) Try.func35 (φ := GSpec Try.prog 32 [AV.ag [int c.pw,int c.pg]] true (Sx.bool (validB c)) [] ∧ (!validB c) = true ∧ true = true) ?_ (by kernel_rfl) (by kernel_rfl)
  exact ⟨pageValidConf c,by simp [h],rfl⟩
theorem refLimit (c : Conf) : GSpec Try.prog 36 [c.av] true (int (limit c)) [] := by
 by_cases h : validB c = true
 ·have hv := validB_iff.1 h
  have e : limit c = c.pg.tdiv 4 := if_pos h
  rw [e]
  refine gspec_of [(4,[.call true (bool (validB c)) []]),(5,[.br false]),(8,[.int (c.pg.tdiv 4)])] [] [] (by decide) Try.func36 (φ := GSpec Try.prog 26 [AV.ag [int c.pw,int c.pg]] true (Sx.bool (validB c)) [] ∧ (!validB c) = false ∧ false = false ∧ IntKind.i64.wrap (c.pg.tdiv (4 : Int)) = c.pg.tdiv (4 : Int) ∧ ((4 : Int) = (0 : Int) → False)) ?_ (by kernel_rfl) (by kernel_rfl)
  exact ⟨refValidConf c,by simp [h],rfl,wrapI (by rw [tdivI (by omega)]; omega) (by rw [tdivI (by omega)]; omega),by decide⟩
 ·have e : limit c = 0 := if_neg h
  rw [e]
  refine gspec_of [(4,[.call true (bool (validB c)) []]),(5,[.br true])] [] [] (by decide) Try.func36 (φ := GSpec Try.prog 26 [AV.ag [int c.pw,int c.pg]] true (Sx.bool (validB c)) [] ∧ (!validB c) = true ∧ true = true) ?_ (by kernel_rfl) (by kernel_rfl)
  exact ⟨refValidConf c,by simp [h],rfl⟩
theorem pageSmallWords (c : Conf) : GSpec Try.prog 38 [c.av] true (int (smallWords c)) [] := by
 by_cases h : validB c = true
 ·have hv := validB_iff.1 h
  have e : smallWords c = c.pw.tdiv 4 := if_pos h
  rw [e]
  refine gspec_of [(4,[.call true (bool (validB c)) []]),(5,[.br false]),(8,[.int (c.pw.tdiv 4)])] [] [] (by decide) Try.func38 (φ := GSpec Try.prog 32 [AV.ag [int c.pw,int c.pg]] true (Sx.bool (validB c)) [] ∧ (!validB c) = false ∧ false = false ∧ IntKind.i64.wrap (c.pw.tdiv (4 : Int)) = c.pw.tdiv (4 : Int) ∧ ((4 : Int) = (0 : Int) → False)) ?_ (by kernel_rfl) (by kernel_rfl)
  exact ⟨pageValidConf c,by simp [h],rfl,wrapI (by rw [tdivI (by omega)]; omega) (by rw [tdivI (by omega)]; omega),by decide⟩
 ·have e : smallWords c = 0 := if_neg h
  rw [e]
  refine gspec_of [(4,[.call true (bool (validB c)) []]),(5,[.br true])] [] [] (by decide) Try.func38 (φ := GSpec Try.prog 32 [AV.ag [int c.pw,int c.pg]] true (Sx.bool (validB c)) [] ∧ (!validB c) = true ∧ true = true) ?_ (by kernel_rfl) (by kernel_rfl)
  exact ⟨pageValidConf c,by simp [h],rfl⟩
theorem refSmallWords (c : Conf) : GSpec Try.prog 27 [c.av] true (int (smallWords c)) [] := by
 by_cases h : validB c = true
 ·have hv := validB_iff.1 h
  have e : smallWords c = c.pw.tdiv 4 := if_pos h
  rw [e]
  refine gspec_of [(4,[.call true (bool (validB c)) []]),(5,[.br false]),(8,[.int (c.pw.tdiv 4)])] [] [] (by decide) Try.func27 (φ := GSpec Try.prog 26 [AV.ag [int c.pw,int c.pg]] true (Sx.bool (validB c)) [] ∧ (!validB c) = false ∧ false = false ∧ IntKind.i64.wrap (c.pw.tdiv (4 : Int)) = c.pw.tdiv (4 : Int) ∧ ((4 : Int) = (0 : Int) → False)) ?_ (by kernel_rfl) (by kernel_rfl)
  exact ⟨refValidConf c,by simp [h],rfl,wrapI (by rw [tdivI (by omega)]; omega) (by rw [tdivI (by omega)]; omega),by decide⟩
 ·have e : smallWords c = 0 := if_neg h
  rw [e]
  refine gspec_of [(4,[.call true (bool (validB c)) []]),(5,[.br true])] [] [] (by decide) Try.func27 (φ := GSpec Try.prog 26 [AV.ag [int c.pw,int c.pg]] true (Sx.bool (validB c)) [] ∧ (!validB c) = true ∧ true = true) ?_ (by kernel_rfl) (by kernel_rfl)
  exact ⟨refValidConf c,by simp [h],rfl⟩
def need (c : Conf) (n : Int) : Int := if validB c = true ∧ 1 ≤ n ∧ n ≤ 4 * c.pw then (if n ≤ c.pw / 4 then 0 else (n + c.pw - 1) / c.pw) else -1
theorem smallWords_eq {c : Conf} (h : validB c = true) : smallWords c = c.pw / 4 := by
 have hv := validB_iff.1 h
 rw [smallWords,if_pos h,tdivI (by omega)]
theorem pageNeed (c : Conf) (n : Int) : GSpec Try.prog 22 [c.av,int n] true (int (need c n)) [] := by
 by_cases h : validB c = true ∧ 1 ≤ n ∧ n ≤ 4 * c.pw
 ·obtain ⟨h,h1,h2⟩ := h
  have hv := validB_iff.1 h
  by_cases h3 : n ≤ c.pw / 4
  ·have e : need c n = 0 := by rw [need,if_pos ⟨h,h1,h2⟩,if_pos h3]
   rw [e]
   refine gspec_of [(7,[.call true (bool (validB c)) []]),(17,[.int (4 * c.pw)]),(19,[.br false]),(23,[.call true (int (smallWords c)) []]),(24,[.br true])] [] [] (by decide) Try.func22 (φ := GSpec Try.prog 32 [AV.ag [int c.pw,int c.pg]] true (Sx.bool (validB c)) [] ∧ ((!(!validB c || decide (n < (1 : Int)))) = true → IntKind.i64.wrap ((4 : Int) * c.pw) = (4 : Int) * c.pw) ∧ (!validB c || decide (n < (1 : Int)) || decide ((4 : Int) * c.pw < n)) = false ∧ GSpec Try.prog 38 [AV.ag [int c.pw,int c.pg]] true (int (smallWords c)) [] ∧ decide (n ≤ smallWords c) = true) ?_ (by kernel_rfl) (by kernel_rfl)
   exact ⟨pageValidConf c,fun _ => wrapI (by omega) (by omega),by simp [h]; omega,pageSmallWords c,by rw [smallWords_eq h]; simpa using h3⟩
  ·have e : need c n = (n + c.pw - 1).tdiv c.pw := by rw [need,if_pos ⟨h,h1,h2⟩,if_neg h3,tdivI (by omega)]
   have hq : (n + c.pw - 1) / c.pw ≤ n + c.pw - 1 := Int.ediv_le_self _ (by omega)
   have hq0 : 0 ≤ (n + c.pw - 1) / c.pw := Int.ediv_nonneg (by omega) (by omega)
   rw [e]
   refine gspec_of [(7,[.call true (bool (validB c)) []]),(17,[.int (4 * c.pw)]),(19,[.br false]),(23,[.call true (int (smallWords c)) []]),(24,[.br false]),(28,[.int (n + c.pw)]),(29,[.int (n + c.pw - 1)]),(32,[.int ((n + c.pw - 1).tdiv c.pw)])] [] [] (by decide) Try.func22 (φ := GSpec Try.prog 32 [AV.ag [int c.pw,int c.pg]] true (Sx.bool (validB c)) [] ∧ ((!(!validB c || decide (n < (1 : Int)))) = true → IntKind.i64.wrap ((4 : Int) * c.pw) = (4 : Int) * c.pw) ∧ (!validB c || decide (n < (1 : Int)) || decide ((4 : Int) * c.pw < n)) = false ∧ GSpec Try.prog 38 [AV.ag [int c.pw,int c.pg]] true (int (smallWords c)) [] ∧ decide (n ≤ smallWords c) = false ∧ IntKind.i64.wrap (n + c.pw) = n + c.pw ∧ IntKind.i64.wrap (n + c.pw - (1 : Int)) = n + c.pw - (1 : Int) ∧ IntKind.i64.wrap ((n + c.pw - (1 : Int)).tdiv c.pw) = (n + c.pw - (1 : Int)).tdiv c.pw ∧ (c.pw = (0 : Int) → False)) ?_ (by kernel_rfl) (by kernel_rfl)
   exact ⟨pageValidConf c,fun _ => wrapI (by omega) (by omega),by simp [h]; omega,pageSmallWords c,by rw [smallWords_eq h]; simpa using h3,wrapI (by omega) (by omega),wrapI (by omega) (by omega),wrapI (by rw [tdivI (by omega)]; omega) (by rw [tdivI (by omega)]; omega),by omega⟩
 ·have e : need c n = -1 := if_neg h
  rw [e]
  refine gspec_of [(7,[.call true (bool (validB c)) []]),(17,[.int (4 * c.pw)]),(19,[.br true])] [] [] (by decide) Try.func22 (φ := GSpec Try.prog 32 [AV.ag [int c.pw,int c.pg]] true (Sx.bool (validB c)) [] ∧ ((!(!validB c || decide (n < (1 : Int)))) = true → IntKind.i64.wrap ((4 : Int) * c.pw) = (4 : Int) * c.pw) ∧ (!validB c || decide (n < (1 : Int)) || decide ((4 : Int) * c.pw < n)) = true) ?_ (by kernel_rfl) (by kernel_rfl)
  refine ⟨pageValidConf c,fun h' => ?_, ?_⟩
  ·simp at h'
   have hv := validB_iff.1 h'.1
   exact wrapI (by omega) (by omega)
  ·simp
   cases hv : validB c with
   | false => simp
   | true =>
    simp only [hv,true_and] at h
    simp
    omega
theorem need_large {c : Conf} {n : Int} {k : Nat} (h : validB c = true) (h1 : 1 ≤ n) (h2 : c.pw / 4 < n) (hk : k ≤ 4) (h3 : ((k : Int) - 1) * c.pw < n) (h4 : n ≤ k * c.pw) : need c n = k := by
 have hv := validB_iff.1 h
 have h5 : (k : Int) * c.pw ≤ 4 * c.pw := Int.mul_le_mul_of_nonneg_right (by omega) (by omega)
 rw [need,if_pos ⟨h,h1,by omega⟩,if_neg (by omega)]
 rw [Int.sub_mul] at h3
 refine Int.le_antisymm (Int.le_of_lt_add_one (Int.ediv_lt_of_lt_mul (by omega) ?_)) (Int.le_ediv_of_mul_le (by omega) (by omega))
 rw [Int.add_mul]
 omega
def needL (c : Conf) (n : Int) (k : Nat) : Tg := ⟨tm 28 [(1,int n),(2,.pt 8002 0 0),(4,int 0),(5,int k)],[(8002,.box 23 [int c.pw,int c.pg])],20⟩
theorem refNeed_go (c : Conf) (n : Int) (k : Nat) (hw : c.pw ≤ 64) (hw0 : 0 ≤ c.pw) (hk : k ≤ 4) (hn : k * c.pw < n) : CSpec Try.prog (rndF Try.f11 0) (needL c n k).st .nrm (needL c n (k + 1)).st := by
 have hm : (k : Int) * c.pw ≤ 4 * c.pw := Int.mul_le_mul_of_nonneg_right (by omega) (by omega)
 have hm0 : 0 ≤ (k : Int) * c.pw := Int.mul_nonneg (by omega) (by omega)
 refine stretch [(18,[.br true]),(24,[.int (k * c.pw)]),(26,[.br false]),(20,[.int ((k + 1 : Nat) : Int)])] [] (φ := decide ((↑k : Int) ≤ (4 : Int)) = true ∧ true = true ∧ IntKind.i64.wrap ((↑k : Int) * c.pw) = (↑k : Int) * c.pw ∧ decide (n ≤ (↑k : Int) * c.pw) = false ∧ false = false ∧ IntKind.i64.wrap ((↑k : Int) + (1 : Int)) = (↑(k + (1 : Nat)) : Int)) ?_ (by kernel_rfl) (by kernel_rfl) (by kernel_rfl)
 exact ⟨decide_eq_true (by omega),rfl,wrapI (by omega) (by omega),decide_eq_false (by omega),rfl,wrapI (by omega) (by omega)⟩
theorem refNeed (c : Conf) (n : Int) : GSpec Try.prog 11 [c.av,int n] true (int (need c n)) [] := by
 by_cases h : validB c = true ∧ 1 ≤ n
 ·obtain ⟨h,h1⟩ := h
  have hv := validB_iff.1 h
  by_cases h3 : n ≤ c.pw / 4
  ·have e : need c n = 0 := by rw [need,if_pos ⟨h,h1,by omega⟩,if_pos h3]
   rw [e]
   refine gspec_of [(7,[.call true (bool (validB c)) []]),(12,[.br false]),(15,[.call true (int (smallWords c)) []]),(16,[.br true])] [] [] (by decide) Try.func11 (φ := GSpec Try.prog 26 [AV.ag [int c.pw,int c.pg]] true (Sx.bool (validB c)) [] ∧ (!validB c || decide (n < (1 : Int))) = false ∧ false = false ∧ GSpec Try.prog 27 [AV.ag [int c.pw,int c.pg]] true (int (smallWords c)) [] ∧ decide (n ≤ smallWords c) = true ∧ true = true) ?_ (by kernel_rfl) (by kernel_rfl)
   exact ⟨refValidConf c,by simp [h]; omega,rfl,refSmallWords c,by rw [smallWords_eq h]; simpa using h3,rfl⟩
  ·by_cases h4 : n ≤ 4 * c.pw
   ·-- it is found
    have hk : ∃ k : Nat,1 ≤ k ∧ k ≤ 4 ∧ ((k : Int) - 1) * c.pw < n ∧ n ≤ k * c.pw := by
     by_cases a1 : n ≤ c.pw
     ·exact ⟨1,by omega,by omega,by omega,by omega⟩
     by_cases a2 : n ≤ 2 * c.pw
     ·exact ⟨2,by omega,by omega,by omega,by omega⟩
     by_cases a3 : n ≤ 3 * c.pw
     ·exact ⟨3,by omega,by omega,by omega,by omega⟩
     ·exact ⟨4,by omega,by omega,by omega,by omega⟩
    obtain ⟨k,k1,k4,klo,khi⟩ := hk
    rw [need_large h h1 (by omega) k4 klo khi]
    refine gspec_of [(7,[.call true (bool (validB c)) []]),(12,[.br false]),(15,[.call true (int (smallWords c)) []]),(16,[.br false])] [(0,needL c n 1,.ret,⟨tm 28 [(4,int k)],[],30⟩)] [] (by decide) Try.func11 (φ := GSpec Try.prog 26 [AV.ag [int c.pw,int c.pg]] true (Sx.bool (validB c)) [] ∧ (!validB c || decide (n < (1 : Int))) = false ∧ false = false ∧ GSpec Try.prog 27 [AV.ag [int c.pw,int c.pg]] true (int (smallWords c)) [] ∧ decide (n ≤ smallWords c) = false ∧ false = false ∧ CSpec Try.prog (blkF Try.f11 (0 : Nat)) (needL c n (1 : Nat)).st Ex.ret (Tg.mk (tm (28 : Nat) [((4 : Nat),int (↑k : Int))]) [] (30 : Nat)).st) ?_ (by kernel_rfl) (by kernel_rfl)
    refine ⟨refValidConf c,by simp [h]; omega,rfl,refSmallWords c,by rw [smallWords_eq h]; simpa using h3,rfl, ?_⟩
    obtain ⟨j,rfl⟩ : ∃ j,k = j + 1 := ⟨k - 1,by omega⟩
    refine loop_ret_of (S := fun i => (needL c n (i + 1)).st) j (by kernel_rfl) (fun i hi => refNeed_go c n (i + 1) (by omega) (by omega) (by omega) ?_) ?_
    ·have : ((i + 1 : Nat) : Int) * c.pw ≤ ((j + 1 : Nat) - 1 : Int) * c.pw := Int.mul_le_mul_of_nonneg_right (by omega) (by omega)
     omega
    ·have hm : ((j + 1 : Nat) : Int) * c.pw ≤ 4 * c.pw := Int.mul_le_mul_of_nonneg_right (by omega) (by omega)
     have hm0 : 0 ≤ ((j + 1 : Nat) : Int) * c.pw := Int.mul_nonneg (by omega) (by omega)
     refine stretch [(18,[.br true]),(24,[.int ((j + 1 : Nat) * c.pw)]),(26,[.br true])] [] (φ := decide ((↑(j + (1 : Nat)) : Int) ≤ (4 : Int)) = true ∧ true = true ∧ IntKind.i64.wrap ((↑(j + (1 : Nat)) : Int) * c.pw) = (↑(j + (1 : Nat)) : Int) * c.pw ∧ decide (n ≤ (↑(j + (1 : Nat)) : Int) * c.pw) = true ∧ true = true) ?_ (by kernel_rfl) (by kernel_rfl) (by kernel_rfl)
     exact ⟨decide_eq_true (by omega),rfl,wrapI (by omega) (by omega),decide_eq_true (by omega),rfl⟩
   ·have e : need c n = -1 := by rw [need,if_neg (by omega)]
    rw [e]
    refine gspec_of [(7,[.call true (bool (validB c)) []]),(12,[.br false]),(15,[.call true (int (smallWords c)) []]),(16,[.br false])] [(0,needL c n 1,.nrm,⟨tm 28 [],[],30⟩)] [] (by decide) Try.func11 (φ := GSpec Try.prog 26 [AV.ag [int c.pw,int c.pg]] true (Sx.bool (validB c)) [] ∧ (!validB c || decide (n < (1 : Int))) = false ∧ false = false ∧ GSpec Try.prog 27 [AV.ag [int c.pw,int c.pg]] true (int (smallWords c)) [] ∧ decide (n ≤ smallWords c) = false ∧ false = false ∧ CSpec Try.prog (blkF Try.f11 (0 : Nat)) (needL c n (1 : Nat)).st Ex.nrm (Tg.mk (tm (28 : Nat) []) [] (30 : Nat)).st) ?_ (by kernel_rfl) (by kernel_rfl)
    refine ⟨refValidConf c,by simp [h]; omega,rfl,refSmallWords c,by rw [smallWords_eq h]; simpa using h3,rfl, ?_⟩
    refine loop_ext_of (S := fun i => (needL c n (i + 1)).st) 4 (by kernel_rfl) (fun i hi => refNeed_go c n (i + 1) (by omega) (by omega) (by omega) ?_) ?_
    ·have : ((i + 1 : Nat) : Int) * c.pw ≤ 4 * c.pw := Int.mul_le_mul_of_nonneg_right (by omega) (by omega)
     omega
    ·refine stretch [(18,[.br false])] [] (φ := decide ((↑((4 : Nat) + (1 : Nat)) : Int) ≤ (4 : Int)) = false ∧ false = false) ?_ (by kernel_rfl) (by kernel_rfl) (by kernel_rfl)
     exact ⟨rfl,rfl⟩
 ·have e : need c n = -1 := if_neg fun h' => h ⟨h'.1,h'.2.1⟩
  rw [e]
  refine gspec_of [(7,[.call true (bool (validB c)) []]),(12,[.br true])] [] [] (by decide) Try.func11 (φ := GSpec Try.prog 26 [AV.ag [int c.pw,int c.pg]] true (Sx.bool (validB c)) [] ∧ (!validB c || decide (n < (1 : Int))) = true ∧ true = true) ?_ (by kernel_rfl) (by kernel_rfl)
  refine ⟨refValidConf c, ?_,rfl⟩
  cases hv : validB c with
  | false => simp
  | true =>
   simp only [hv,true_and] at h
   simp
   omega
def ofA (c : Conf) (a : Int) : Int × Int × Int := if validB c = true then (if 4096 ≤ a ∧ a < 4096 + c.pw * c.pg then ((a - 4096) / c.pw,(a - 4096) % c.pw,0) else (0,0,2)) else (0,0,1)
structure Page where
 kind : Int
 space : Int
 used : Int
 pins : Int
 deriving DecidableEq,Inhabited
def Page.dv (p : Page) : List DV := [dint p.kind,dint p.space,dint p.used,dint p.pins]
def Page.av (p : Page) : AV := .ag [int p.kind,int p.space,int p.used,int p.pins]
def pagesV (l : List Page) : AV := .d (.sl 4 (l.map Page.dv))
def freeB (p : Page) : Bool := decide (p = ⟨0,0,0,0⟩)
def spacedB (p : Page) : Bool := (p.space == 0) || (p.space == 1)
def pinnedB (p : Page) : Bool := decide (0 ≤ p.pins) && decide (p.pins ≤ 2147483647)
def smallB (p : Page) (c : Conf) : Bool := spacedB p && pinnedB p && decide (0 ≤ p.used) && decide (p.used ≤ c.pw)
def largeB (p : Page) (c : Conf) : Bool := spacedB p && pinnedB p && decide (1 ≤ need c p.used)
def tailB (p q : Page) : Bool := decide (p = ⟨3,q.space,0,0⟩)
def tailsB (p : Page) (l : List Page) : Bool := l.all fun q => tailB q p
def spanN (c : Conf) (l : List Page) (i : Nat) : Nat := match l[i]? with
 | none => 0
 | some p =>
  if p.kind = 0 then (if freeB p = true then 1 else 0)
  else if p.kind = 1 then (if smallB p c = true then 1 else 0)
  else if p.kind = 2 then (if largeB p c = true then (if (need c p.used).toNat ≤ l.length - i ∧ tailsB p ((l.drop (i + 1)).take ((need c p.used).toNat - 1)) = true then (need c p.used).toNat else 0) else 0)
  else 0
def wordsV (l : List Int) : AV := .d (.sl 1 (l.map wdv))
structure Heap where
 conf : Conf
 words : List Int
 pages : List Page
 space : Int
 bump : Int
 deriving DecidableEq,Inhabited
def Heap.cells (h : Heap) : List AV := [int h.conf.pw,int h.conf.pg,wordsV h.words,pagesV h.pages,int h.space,int h.bump]
def Heap.av (h : Heap) : AV := .ag h.cells
def noHeap : Heap := ⟨⟨0,0⟩,[],[],0,0⟩
def pageAt (l : List Page) (i : Int) : Page := l[i.toNat]?.getD ⟨0,0,0,0⟩
def bumpB (h : Heap) : Bool := (h.bump == -1) || (decide (0 ≤ h.bump) && decide (h.bump < h.pages.length) && ((pageAt h.pages h.bump).kind == 1))
def shapeB (h : Heap) : Bool := validB h.conf && ((h.words.length : Int) == h.conf.pw * h.conf.pg) && ((h.pages.length : Int) == h.conf.pg) && ((h.space == 0) || (h.space == 1))
def spansB (c : Conf) (l : List Page) : Nat → Nat → Bool
 | 0,i => decide (l.length ≤ i)
 | f + 1,i => if i < l.length then (if spanN c l i = 0 then false else spansB c l f (i + spanN c l i)) else true
def properB (h : Heap) : Bool := shapeB h && (bumpB h && spansB h.conf h.pages h.pages.length 0)
end Go.Proofs.Yteppchpkbhikdaa
namespace Go.Proofs.Yteppchpkbhikdaa
open Go.Sx Go.RowKit
theorem own0 : ownKnob Try.prog.godebug = none := by kernel_rfl
theorem laidOut0 : laidOutB Try.prog = true := by kernel_rfl
theorem shp_conf {n : Nat} {l : List DV} (h : shp Try.prog (n + 2) 23 l) : ∃ c : Conf,l = [dint c.pw,dint c.pg] := by
 have e : shp Try.prog (n + 2) 23 l = (∃ a b,l = a ++ b ∧ (∃ x : Int,a = [.sc (.int .i64 x)] ∧ (Lit.int .i64 x).wf = true) ∧ ∃ a' b',b = a' ++ b' ∧ (∃ x : Int,a' = [.sc (.int .i64 x)] ∧ (Lit.int .i64 x).wf = true) ∧ b' = []) := by kernel_rfl
 rw [e] at h
 obtain ⟨a,b,rfl,⟨x,rfl,_⟩,a',b',rfl,⟨y,rfl,_⟩,rfl⟩ := h
 exact ⟨⟨x,y⟩,rfl⟩
end Go.Proofs.Yteppchpkbhikdaa
namespace Go.Sx
def renF1 (a b : Nat) : AV → AV
 | .pt k i o => match Nat.beq k a with
  | true => .pt b i o
  | false => match Nat.beq k b with | true => .any | false => .pt k i o
 | .os k o n => match Nat.beq k a with
  | true => .os b o n
  | false => match Nat.beq k b with | true => .any | false => .os k o n
 | .ow k => match Nat.beq k a with
  | true => .ow b
  | false => match Nat.beq k b with | true => .any | false => .ow k
 | x => x
def renB (a b : Nat) : Blk → Blk
 | .box ty cells => .box ty (cells.map (mapA (renF1 a b)))
 | .arr ty s els => .arr ty s els
 | .dead => .dead
def renH (a b : Nat) (H : Heap) : Heap := fun k => match Nat.beq k b with
 | true => match H a with | some B => some (renB a b B) | none => none
 | false => match Nat.beq k a with
  | true => none
  | false => match H k with | some B => some (renB a b B) | none => none
def ren1 (a b : Nat) (s : St) : Option St := match Nat.beq a b || !(Nat.ble 8000 a && Nat.ble 8000 b) with
 | true => none
 | false => match s.H a with
  | none => none
  | some _ => some ⟨s.tmps.map (mapT (renF1 a b)),renH a b s.H,s.clk⟩
def renS : List (Nat × Nat) → St → Option St
 | [],s => some s
 | (a,b) :: l,s => match ren1 a b s with
  | some s' => renS l s'
  | none => none
def renR (a b : Nat) (ρ : Rho) : Rho := fun k => if k = b then ρ a else if k = a then none else ρ k
section
variable {ρ : Rho} {w : World} {Im : Nat → Prop} {a b : Nat}
theorem renF1_ow {k : Nat} {v : Value} (h : Rel ρ w Im (.ow k) v) : Rel (renR a b ρ) w Im (renF1 a b (.ow k)) v := by
 simp only [renF1]
 cases h1 : Nat.beq k a with
 | true =>
  have e := Nat.eq_of_beq_eq_true h1
  subst e
  cases h with
  | ow hr hc hb ha => exact .ow (by simp only [renR,if_true]; exact hr) hc hb ha
 | false =>
  have e1 := Nat.ne_of_beq_eq_false h1
  cases h2 : Nat.beq k b with
  | true => exact .any _
  | false =>
   have e2 := Nat.ne_of_beq_eq_false h2
   cases h with
   | ow hr hc hb ha => exact .ow (by simp only [renR,if_neg e1,if_neg e2]; exact hr) hc hb ha
theorem renF1_os {k o n : Nat} {v : Value} (h : Rel ρ w Im (.os k o n) v) : Rel (renR a b ρ) w Im (renF1 a b (.os k o n)) v := by
 simp only [renF1]
 cases h1 : Nat.beq k a with
 | true =>
  have e := Nat.eq_of_beq_eq_true h1
  subst e
  cases h with
  | os hr hn hc hb ha => exact .os (by simp only [renR,if_true]; exact hr) hn hc hb ha
 | false =>
  have e1 := Nat.ne_of_beq_eq_false h1
  cases h2 : Nat.beq k b with
  | true => exact .any _
  | false =>
   have e2 := Nat.ne_of_beq_eq_false h2
   cases h with
   | os hr hn hc hb ha => exact .os (by simp only [renR,if_neg e1,if_neg e2]; exact hr) hn hc hb ha
theorem renF1_pt {k i o : Nat} {v : Value} (h : Rel ρ w Im (.pt k i o) v) : Rel (renR a b ρ) w Im (renF1 a b (.pt k i o)) v := by
 simp only [renF1]
 obtain ⟨g,s,n,hr,rfl⟩ := rel_ptr h
 cases h1 : Nat.beq k a with
 | true =>
  have e := Nat.eq_of_beq_eq_true h1
  subst e
  exact .pt (by simp only [renR,if_true]; exact hr)
 | false =>
  have e1 := Nat.ne_of_beq_eq_false h1
  cases h2 : Nat.beq k b with
  | true => exact .any _
  | false =>
   have e2 := Nat.ne_of_beq_eq_false h2
   exact .pt (by simp only [renR,if_neg e1,if_neg e2]; exact hr)
theorem ren_mapA {x : AV} {v : Value} (h : Rel ρ w Im x v) : Rel (renR a b ρ) w Im (mapA (renF1 a b) x) v :=
 mapA_rel (fun _ h => h) (fun _ _ _ _ h => renF1_pt h) (fun _ _ _ _ h => renF1_os h) (fun _ _ h => renF1_ow h) h
theorem ren_mapT {x : AV} {v : Value} (h : Rel ρ w Im x v) : Rel (renR a b ρ) w Im (mapT (renF1 a b) x) v :=
 mapT_rel (fun _ h => h) (fun _ _ _ _ h => renF1_pt h) (fun _ _ _ _ h => renF1_os h) (fun _ _ h => renF1_ow h) h
theorem renB_rel {β : Bi} {B : Blk} (h : RelB ρ w Im β B) : RelB (renR a b ρ) w Im β (renB a b B) := by
 cases B with
 | box ty cells =>
  obtain ⟨h0,h00,g,cs,h1,h2,h3,h3',h4⟩ := h
  refine ⟨by simpa using h0,h00,g,cs,h1,h2,by simpa using h3,h3',fun o x v hx hv => ?_⟩
  simp only [List.getElem?_map,Option.map_eq_some_iff] at hx
  obtain ⟨y,hy,rfl⟩ := hx
  exact ren_mapA (h4 o y v hy hv)
 | arr ty s els => exact h
 | dead => trivial
theorem renB_dead {B : Blk} (h : renB a b B ≠ .dead) : B ≠ .dead := by
 rintro rfl
 exact h rfl
theorem ren1_ok {s s' : St} (h : ren1 a b s = some s') {Ow Im0 : Nat → Prop} {w0 : World} {x : Act} {w : World} (hS : Sys Ow Im0 w0 s.tmps s.H s.clk x w) : Sys Ow Im0 w0 s'.tmps s'.H s'.clk x w := by
 unfold ren1 at h
 split at h
 ·cases h
 rename_i hab
 simp only [Bool.or_eq_false_iff,Bool.not_eq_false',Bool.and_eq_true] at hab
 have hne := Nat.ne_of_beq_eq_false hab.1
 have ha8 := Nat.le_of_ble_eq_true hab.2.1
 have hb8 := Nat.le_of_ble_eq_true hab.2.2
 split at h
 ·cases h
 rename_i B0 hB0
 cases h
 obtain ⟨ρ,Im,I,T⟩ := hS
 have hH : ∀ k B,renH a b s.H k = some B → (k = b ∧ ∃ B',s.H a = some B' ∧ B = renB a b B') ∨ (k ≠ b ∧ k ≠ a ∧ ∃ B',s.H k = some B' ∧ B = renB a b B') := by
  intro k B hk
  simp only [renH] at hk
  cases h1 : Nat.beq k b with
  | true =>
   rw [h1,hB0] at hk
   simp only [Option.some.injEq] at hk
   exact .inl ⟨Nat.eq_of_beq_eq_true h1,B0,hB0,hk.symm⟩
  | false =>
   rw [h1] at hk
   cases h2 : Nat.beq k a with
   | true => rw [h2] at hk; simp at hk
   | false =>
    rw [h2] at hk
    cases h3 : s.H k with
    | none => rw [h3] at hk; simp at hk
    | some B' =>
     rw [h3] at hk
     simp only [Option.some.injEq] at hk
     exact .inr ⟨Nat.ne_of_beq_eq_false h1,Nat.ne_of_beq_eq_false h2,B',rfl,hk.symm⟩
 have hρ : ∀ k β,renR a b ρ k = some β → (k = b ∧ ρ a = some β) ∨ (k ≠ b ∧ k ≠ a ∧ ρ k = some β) := by
  intro k β hk
  simp only [renR] at hk
  split at hk
  ·rename_i e; exact .inl ⟨e,hk⟩
  ·rename_i e
   split at hk
   ·cases hk
   ·rename_i e2; exact .inr ⟨e,e2,hk⟩
 have hlive : ∀ k,live (renH a b s.H) k → (k = b ∧ live s.H a) ∨ (k ≠ b ∧ k ≠ a ∧ live s.H k) := by
  rintro k ⟨B,h1,h2⟩
  rcases hH k B h1 with ⟨e,B',h3,rfl⟩ | ⟨e1,e2,B',h3,rfl⟩
  ·exact .inl ⟨e,B',h3,renB_dead h2⟩
  ·exact .inr ⟨e1,e2,B',h3,renB_dead h2⟩
 refine ⟨renR a b ρ,Im,⟨I.kept,fun k k' β β' g l1 l2 q1 q2 q3 q4 => ?_,fun k β g l q => ?_,fun k β g q => ?_,fun k β g q => ?_,I.imb,I.im0,fun k B q => ?_,fun k hk q => ?_,I.one⟩,⟨by rw [T.size]; simp,fun i y v hy hv => ?_,T.defers⟩⟩
 ·rcases hρ k β q1 with ⟨e1,r1⟩ | ⟨e1,f1,r1⟩ <;> rcases hρ k' β' q2 with ⟨e2,r2⟩ | ⟨e2,f2,r2⟩
  ·rw [e1,e2]
  ·rcases hlive k l1 with ⟨_,m1⟩ | ⟨m,_⟩
   ·rcases hlive k' l2 with ⟨m,_⟩ | ⟨_,_,m2⟩
    ·exact absurd m e2
    ·exact absurd (I.inj a k' β β' g m1 m2 r1 r2 q3 q4).symm f2
   ·exact absurd e1 m
  ·rcases hlive k l1 with ⟨m,_⟩ | ⟨_,_,m1⟩
   ·exact absurd m e1
   ·rcases hlive k' l2 with ⟨_,m2⟩ | ⟨m,_⟩
    ·exact absurd (I.inj k a β β' g m1 m2 r1 r2 q3 q4) f1
    ·exact absurd e2 m
  ·rcases hlive k l1 with ⟨m,_⟩ | ⟨_,_,m1⟩
   ·exact absurd m e1
   ·rcases hlive k' l2 with ⟨m,_⟩ | ⟨_,_,m2⟩
    ·exact absurd m e2
    ·exact I.inj k k' β β' g m1 m2 r1 r2 q3 q4
 ·rcases hρ k β q with ⟨e1,r1⟩ | ⟨e1,f1,r1⟩
  ·rcases hlive k l with ⟨_,m1⟩ | ⟨m,_⟩
   ·exact I.notIm a β g m1 r1
   ·exact absurd e1 m
  ·rcases hlive k l with ⟨m,_⟩ | ⟨_,_,m1⟩
   ·exact absurd m e1
   ·exact I.notIm k β g m1 r1
 ·rcases hρ k β q with ⟨_,r1⟩ | ⟨_,_,r1⟩
  ·exact I.bnd a β g r1
  ·exact I.bnd k β g r1
 ·rcases hρ k β q with ⟨_,r1⟩ | ⟨_,_,r1⟩
  ·rename_i hk0; intro hg; rcases I.own a β g r1 hg with ⟨h,_⟩ | ⟨_,h⟩
   ·exact .inl ⟨h,by omega⟩
   ·omega
  ·exact I.own k β g r1
 ·rcases hH k B q with ⟨rfl,B',h3,rfl⟩ | ⟨e1,e2,B',h3,rfl⟩
  ·obtain ⟨β,h4,h5⟩ := I.blk a B' h3
   exact ⟨β,by simp only [renR,if_true]; exact h4,renB_rel h5⟩
  ·obtain ⟨β,h4,h5⟩ := I.blk k B' h3
   exact ⟨β,by simp only [renR,if_neg e1,if_neg e2]; exact h4,renB_rel h5⟩
 ·simp only [renH] at q
  simp only [renR]
  cases h1 : Nat.beq k b with
  | true => rw [h1,hB0] at q; simp at q
  | false =>
   rw [h1] at q
   rw [if_neg (Nat.ne_of_beq_eq_false h1)]
   cases h2 : Nat.beq k a with
   | true => rw [if_pos (Nat.eq_of_beq_eq_true h2)]
   | false =>
    rw [if_neg (Nat.ne_of_beq_eq_false h2)]
    rw [h2] at q
    cases h3 : s.H k with
    | none => exact I.fresh k hk h3
    | some B' => rw [h3] at q; simp at q
 ·simp only [List.getElem?_map,Option.map_eq_some_iff] at hy
  obtain ⟨z,hz,rfl⟩ := hy
  exact ren_mapT (T.tmp i z v hz hv)
end
theorem renS_ok : ∀ {l : List (Nat × Nat)} {s s' : St},renS l s = some s' → ∀ {Ow Im0 : Nat → Prop} {w0 : World} {x : Act} {w : World},Sys Ow Im0 w0 s.tmps s.H s.clk x w → Sys Ow Im0 w0 s'.tmps s'.H s'.clk x w
 | [],s,s',h,_,_,_,_,_,hS => by
  simp only [renS,Option.some.injEq] at h
  subst h; exact hS
 | (a,b) :: l,s,s',h,_,_,_,_,_,hS => by
  simp only [renS] at h
  split at h
  ·rename_i s1 h1
   exact renS_ok h (ren1_ok h1 hS)
  ·cases h
def runToR (P : Program) (hints : List (Nat × List Hint)) (cuts : List (Nat × Tg × Ex × Tg)) (ren : List (Nat × Nat)) (c : Code) (s : St) (t : Tg) : Option Run :=
 match runC P hints cuts c s with
 | none => none
 | some r => match renS ren r.s with
  | none => none
  | some s' => match wk s' t with
   | some l => some ⟨r.e,s',r.ph,r.eq ++ l⟩
   | none => none
theorem stretchR {P : Program} (hints : List (Nat × List Hint)) (cuts : List (Nat × Tg × Ex × Tg)) (ren : List (Nat × Nat)) {c : Code} {s : St} {e : Ex} {t : Tg} {φ : Prop} (hφ : φ)
  (h1 : oblO (runToR P hints cuts ren c s t) = φ) (h2 : lefO (runToR P hints cuts ren c s t) = rigO (runToR P hints cuts ren c s t)) (h3 : exO (runToR P hints cuts ren c s t) = some e) : CSpec P c s e t.st := by
 rw [← h1] at hφ
 cases hr : runToR P hints cuts ren c s t with
 | none => rw [hr] at hφ; exact hφ.elim
 | some r =>
  rw [hr] at hφ h2 h3
  have heq : EqP r.eq := eqP_of h2
  have he : r.e = e := by simpa [exO] using h3
  unfold runToR at hr
  split at hr
  ·cases hr
  rename_i q hq
  split at hr
  ·cases hr
  rename_i s' hs'
  split at hr
  rotate_left
  ·cases hr
  rename_i l hl
  cases hr
  intro Ow Im0 w0 a w hS
  refine wp_mono (runC_ok hq hφ heq.left Ow Im0 w0 a w hS) ?_
  rintro e' a' w' ⟨rfl,hS'⟩
  exact ⟨by rw [← he],wk_ok hl heq.right (renS_ok hs' hS')⟩
end Go.Sx
