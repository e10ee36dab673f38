/-
  Blocks of a function's body by their numbers; loops in their blocks; small words.
  Conditions: none.
-/
import Derived.Test.YtkeimadhboefbaaSxQ
namespace Go.Sx

def findB (n : Nat) : Code → Option Code
  | .block m c => match Nat.beq m n with
    | true => some (.block m c)
    | false => findB n c
  | .seq a b => match findB n a with
    | some c => some c
    | none => findB n b
  | .cond _ a b => match findB n a with
    | some c => some c
    | none => findB n b
  | .loop c => findB n c
  | _ => none
/-- The block of number n in a function's body. -/
def blkF (fn : Func) (n : Nat) : Code := match fn.body with
  | some c => match findB n c with
    | some b => b
    | none => .skip
  | none => .skip
/-- The round of the loop in block n. -/
def rndF (fn : Func) (n : Nat) : Code := match blkF fn n with
  | .block _ (.loop c) => c
  | _ => .skip
def isLoop (n : Nat) : Code → Bool
  | .block m (.loop _) => Nat.beq m n
  | _ => false

theorem isLoop_eq {fn : Func} {n : Nat} (h : isLoop n (blkF fn n) = true) : blkF fn n = .block n (.loop (rndF fn n)) := by
  unfold rndF
  generalize blkF fn n = c at h ⊢
  unfold isLoop at h
  split at h
  · rw [Nat.eq_of_beq_eq_true h]
  · cases h

theorem loop_ext {P : Program} {fn : Func} {n k : Nat} {s t : St} (h : isLoop n (blkF fn n) = true) (hr : LoopRuns P (rndF fn n) k s (.ext n) t) : CSpec P (blkF fn n) s .nrm t := by
  rw [isLoop_eq h]
  exact block_ext (loop_ok hr)
theorem loop_ret {P : Program} {fn : Func} {n k : Nat} {s t : St} (h : isLoop n (blkF fn n) = true) (hr : LoopRuns P (rndF fn n) k s .ret t) : CSpec P (blkF fn n) s .ret t := by
  rw [isLoop_eq h]
  exact block_ret (loop_ok hr)

/-- Rounds 0 .. n - 1 go on, round n leaves. -/
theorem runs_of {P : Program} {c : Code} {S : Nat → St} {e : Ex} {t : St} (n : Nat) (h : ∀ i, i < n → CSpec P c (S i) .nrm (S (i + 1))) (hl : e ≠ .nrm) (hn : CSpec P c (S n) e t) : LoopRuns P c n (S 0) e t := by
  have : ∀ m i, i + m = n → LoopRuns P c m (S i) e t := by
    intro m
    induction m with
    | zero => intro i hi; rw [Nat.add_zero] at hi; subst hi; exact ⟨hl, hn⟩
    | succ m ih => intro i hi; exact ⟨S (i + 1), h i (by omega), ih (i + 1) (by omega)⟩
  exact this n 0 (by omega)
theorem loop_ext_of {P : Program} {fn : Func} {b : Nat} {S : Nat → St} {t : St} (n : Nat) (hb : isLoop b (blkF fn b) = true) (h : ∀ i, i < n → CSpec P (rndF fn b) (S i) .nrm (S (i + 1))) (hn : CSpec P (rndF fn b) (S n) (.ext b) t) : CSpec P (blkF fn b) (S 0) .nrm t :=
  loop_ext hb (runs_of n h (fun h => nomatch h) hn)
theorem loop_ret_of {P : Program} {fn : Func} {b : Nat} {S : Nat → St} {t : St} (n : Nat) (hb : isLoop b (blkF fn b) = true) (h : ∀ i, i < n → CSpec P (rndF fn b) (S i) .nrm (S (i + 1))) (hn : CSpec P (rndF fn b) (S n) .ret t) : CSpec P (blkF fn b) (S 0) .ret t :=
  loop_ret hb (runs_of n h (fun h => nomatch h) hn)

/-! Short words -/
def int (n : Int) : AV := .d (.sc (.int .i64 n))
def u64 (n : Int) : AV := .d (.sc (.int .u64 n))
def bool (b : Bool) : AV := .d (.sc (.bool b))
def dint (n : Int) : DV := .sc (.int .i64 n)
def du64 (n : Int) : DV := .sc (.int .u64 n)
def lookT (k : Nat) : List (Nat × AV) → AV
  | [] => .any
  | (j, a) :: r => match Nat.beq j k with
    | true => a
    | false => lookT k r
def tmGo (l : List (Nat × AV)) : Nat → Nat → List AV
  | 0, _ => []
  | n + 1, k => lookT k l :: tmGo l n (k + 1)
/-- n slots, of which those of l are known. -/
def tm (n : Nat) (l : List (Nat × AV)) : List AV := tmGo l n 0

end Go.Sx
