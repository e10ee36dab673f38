/-
  The laws of layer 4 on configurations, addresses, new heaps: the contracts of their code.
  Conditions: none.
-/
import Derived.Test.YtkeimadhboefbaaPgf
namespace Go.Proofs.Ytkeimadhboefbaa
open Go.Sx

theorem lawPageConfs (c : Conf) (n : Int) : GSpec Try.prog 3 [c.av, int n] true (bool true) [] := by
  refine gspec_of [(5, [.call true (bool true) []]), (8, [.call true (bool (validB c)) []]), (10, [.call true (bool (validB c)) []]), (15, [.call true (int (limit c)) []]), (17, [.call true (int (limit c)) []]), (22, [.call true (int (smallWords c)) []]), (24, [.call true (int (smallWords c)) []]), (30, [.call true (int (need c n)) []]), (33, [.call true (int (need c n)) []]), (35, [.br true])] [] [] (by decide) Try.func3 (φ := GSpec Try.prog (7 : Nat) [] true (Sx.bool true) [] ∧ (true = true → GSpec Try.prog (8 : Nat) [AV.ag [int c.pw, int c.pg]] true (Sx.bool (validB c)) []) ∧ (true = true → GSpec Try.prog (9 : Nat) [AV.ag [int c.pw, int c.pg]] true (Sx.bool (validB c)) []) ∧ ((true && validB c == validB c) = true → GSpec Try.prog (10 : Nat) [AV.ag [int c.pw, int c.pg]] true (int (limit c)) []) ∧ ((true && validB c == validB c) = true → GSpec Try.prog (11 : Nat) [AV.ag [int c.pw, int c.pg]] true (int (limit c)) []) ∧ ((true && validB c == validB c && limit c == limit c) = true → GSpec Try.prog (12 : Nat) [AV.ag [int c.pw, int c.pg]] true (int (smallWords c)) []) ∧ ((true && validB c == validB c && limit c == limit c) = true → GSpec Try.prog (13 : Nat) [AV.ag [int c.pw, int c.pg]] true (int (smallWords c)) []) ∧ ((true && validB c == validB c && limit c == limit c && smallWords c == smallWords c) = true → GSpec Try.prog (14 : Nat) [AV.ag [int c.pw, int c.pg], int n] true (int (need c n)) []) ∧ ((true && validB c == validB c && limit c == limit c && smallWords c == smallWords c) = true → GSpec Try.prog (15 : Nat) [AV.ag [int c.pw, int c.pg], int n] true (int (need c n)) []) ∧ (true && validB c == validB c && limit c == limit c && smallWords c == smallWords c && need c n == need c n) = true) ?_ (by kernel_rfl) (by kernel_rfl)
  exact ⟨lawAwake, fun _ => pageValidConf c, fun _ => refValidConf c, fun _ => pageLimit c, fun _ => refLimit c, fun _ => pageSmallWords c, fun _ => refSmallWords c, fun _ => pageNeed c n, fun _ => refNeed c n, by simp⟩

theorem spanN_free {c : Conf} {n i : Nat} (h : i < n) : spanN c (List.replicate n ⟨0, 0, 0, 0⟩) i = 1 := by
  rw [spanN, List.getElem?_replicate, if_pos h]
  rfl
theorem spansB_free {c : Conf} {n : Nat} : ∀ {f i : Nat}, n ≤ i + f → spansB c (List.replicate n ⟨0, 0, 0, 0⟩) f i = true
  | 0, i, h => by simp [spansB]; omega
  | f + 1, i, h => by
    simp only [spansB, List.length_replicate]
    split
    · rename_i hi
      rw [spanN_free hi, if_neg (by omega)]
      exact spansB_free (by omega)
    · rfl
theorem lawPageNew (c : Conf) : GSpec Try.prog 4 [c.av] true (bool true) [] := by
  by_cases h : validB c = true
  · have hv := validB_iff.1 h
    have ha := area h
    have hs := refSame (newHeap c) (newHeap c) (by simp [newHeap]; omega) (by simp [newHeap]; omega)
    rw [decide_eq_true rfl] at hs
    have hp := pageProper (newHeap c)
    have e : properB (newHeap c) = true := by
      simp [properB, shapeB, bumpB, newHeap, h, spansB_free]; omega
    rw [e] at hp
    refine gspec_of [(9, [.call false (.tu [(newHeap c).av, int 0]) []]), (14, [.call false (.tu [(newHeap c).av, int 0]) []]), (17, [.call true (bool true) []]), (26, [.call true (bool true) []]), (33, [.call true (bool true) []]), (35, [.br true])] [] [] (by decide) Try.func4 (φ := GSpec Try.prog (16 : Nat) [AV.ag [int c.pw, int c.pg]] false (AV.tu [(newHeap c).av, int (0 : Int)]) [] ∧ GSpec Try.prog (17 : Nat) [AV.ag [int c.pw, int c.pg]] false (AV.tu [(newHeap c).av, int (0 : Int)]) [] ∧ GSpec Try.prog (7 : Nat) [] true (Sx.bool true) [] ∧ ((true && (0 : Int) == (0 : Int)) = true → GSpec Try.prog (18 : Nat) [AV.ag [int (newHeap c).conf.pw, int (newHeap c).conf.pg, AV.d (DV.sl (1 : Nat) (List.map (fun (w : Int) => [du64 w]) (newHeap c).words)), AV.d (DV.sl (4 : Nat) (List.map Page.dv (newHeap c).pages)), int (newHeap c).space, int (newHeap c).bump], AV.ag [int (newHeap c).conf.pw, int (newHeap c).conf.pg, AV.d (DV.sl (1 : Nat) (List.map (fun (w : Int) => [du64 w]) (newHeap c).words)), AV.d (DV.sl (4 : Nat) (List.map Page.dv (newHeap c).pages)), int (newHeap c).space, int (newHeap c).bump]] true (Sx.bool true) []) ∧ ((true && (0 : Int) == (0 : Int) && true && !(0 : Int) != (0 : Int)) = true → GSpec Try.prog (19 : Nat) [AV.ag [int (newHeap c).conf.pw, int (newHeap c).conf.pg, AV.d (DV.sl (1 : Nat) (List.map (fun (w : Int) => [du64 w]) (newHeap c).words)), AV.d (DV.sl (4 : Nat) (List.map Page.dv (newHeap c).pages)), int (newHeap c).space, int (newHeap c).bump]] true (Sx.bool true) []) ∧ (true && (0 : Int) == (0 : Int) && true && ((0 : Int) != (0 : Int) || true)) = true) ?_ (by kernel_rfl) (by kernel_rfl)
    exact ⟨pageNew_ok c h, refNew_ok c h, lawAwake, fun _ => hs, fun _ => hp, by decide⟩
  · have hs := refSame noHeap noHeap (by simp [noHeap]) (by simp [noHeap])
    rw [decide_eq_true rfl] at hs
    have hp := pageProper noHeap
    refine gspec_of [(9, [.call false (.tu [noHeap.av, int 1]) []]), (14, [.call false (.tu [noHeap.av, int 1]) []]), (17, [.call true (bool true) []]), (26, [.call true (bool true) []]), (33, [.call true (bool (properB noHeap)) []]), (35, [.br true])] [] [] (by decide) Try.func4 (φ := GSpec Try.prog (16 : Nat) [AV.ag [int c.pw, int c.pg]] false (AV.tu [noHeap.av, int (1 : Int)]) [] ∧ GSpec Try.prog (17 : Nat) [AV.ag [int c.pw, int c.pg]] false (AV.tu [noHeap.av, int (1 : Int)]) [] ∧ GSpec Try.prog (7 : Nat) [] true (Sx.bool true) [] ∧ ((true && (1 : Int) == (1 : Int)) = true → GSpec Try.prog (18 : Nat) [AV.ag [int noHeap.conf.pw, int noHeap.conf.pg, AV.d (DV.sl (1 : Nat) (List.map (fun (w : Int) => [du64 w]) noHeap.words)), AV.d (DV.sl (4 : Nat) (List.map Page.dv noHeap.pages)), int noHeap.space, int noHeap.bump], AV.ag [int noHeap.conf.pw, int noHeap.conf.pg, AV.d (DV.sl (1 : Nat) (List.map (fun (w : Int) => [du64 w]) noHeap.words)), AV.d (DV.sl (4 : Nat) (List.map Page.dv noHeap.pages)), int noHeap.space, int noHeap.bump]] true (Sx.bool true) []) ∧ ((true && (1 : Int) == (1 : Int) && true && !(1 : Int) != (0 : Int)) = true → GSpec Try.prog (19 : Nat) [AV.ag [int noHeap.conf.pw, int noHeap.conf.pg, AV.d (DV.sl (1 : Nat) (List.map (fun (w : Int) => [du64 w]) noHeap.words)), AV.d (DV.sl (4 : Nat) (List.map Page.dv noHeap.pages)), int noHeap.space, int noHeap.bump]] true (Sx.bool (properB noHeap)) []) ∧ (true && (1 : Int) == (1 : Int) && true && ((1 : Int) != (0 : Int) || properB noHeap)) = true) ?_ (by kernel_rfl) (by kernel_rfl)
    exact ⟨pageNew_bad c h, refNew_bad c h, lawAwake, fun _ => hs, fun _ => hp, by decide⟩

theorem of_address {c : Conf} {p o : Int} (h : validB c = true) (h1 : inB c p o = true) : ofA c (4096 + (p * c.pw + o)) = (p, o, 0) := by
  have hv := validB_iff.1 h
  obtain ⟨p1, p2, o1, o2⟩ := inB_iff.1 h1
  have hi := inPage h p1 p2 o1 o2
  rw [ofA, if_pos h, if_pos (by omega)]
  have e1 : 4096 + (p * c.pw + o) - 4096 = o + p * c.pw := by omega
  rw [e1, Int.add_mul_ediv_right _ _ (by omega), Int.add_mul_emod_self_right, Int.ediv_eq_zero_of_lt o1 o2, Int.emod_eq_of_lt o1 o2]
  simp
theorem lawPageAddresses (c : Conf) (p o a : Int) (a0 : 0 ≤ a) (a1 : a ≤ 18446744073709551615) : GSpec Try.prog 5 [c.av, int p, int o, u64 a] true (bool true) [] := by
  by_cases h : validB c = true ∧ inB c p o = true
  · obtain ⟨h, h1⟩ := h
    have hv := validB_iff.1 h
    have ha := area h
    obtain ⟨p1, p2, o1, o2⟩ := inB_iff.1 h1
    have hi := inPage h p1 p2 o1 o2
    have e : addressV c p o = .tu [u64 (4096 + (p * c.pw + o)), int 0] := by rw [addressV, address, if_pos h, if_pos h1]
    have k1 := pageAddress c p o
    have k2 := refAddress c p o
    have k3 := pageOf c (4096 + (p * c.pw + o)) (by omega) (by omega)
    rw [e] at k1 k2
    rw [ofV, of_address h h1] at k3
    refine gspec_of [(26, [.call true (.tu [u64 (4096 + (p * c.pw + o)), int 0]) []]), (33, [.call true (.tu [u64 (4096 + (p * c.pw + o)), int 0]) []]), (39, [.call true (ofV c a) []]), (46, [.call true (ofV c a) []]), (72, [.br false]), (78, [.call true (.tu [int p, int o, int 0]) []]), (93, [.br false]), (94, [.call true (bool true) []])] [] [] (by decide) Try.func5 (φ := GSpec Try.prog (20 : Nat) [AV.ag [int c.pw, int c.pg], int p, int o] true (AV.tu [u64 ((4096 : Int) + (p * c.pw + o)), int (0 : Int)]) [] ∧ GSpec Try.prog (21 : Nat) [AV.ag [int c.pw, int c.pg], int p, int o] true (AV.tu [u64 ((4096 : Int) + (p * c.pw + o)), int (0 : Int)]) [] ∧ GSpec Try.prog (22 : Nat) [AV.ag [int c.pw, int c.pg], u64 a] true (ofV c a) [] ∧ GSpec Try.prog (23 : Nat) [AV.ag [int c.pw, int c.pg], u64 a] true (ofV c a) [] ∧ ((4096 : Int) + (p * c.pw + o) != (4096 : Int) + (p * c.pw + o) || (0 : Int) != (0 : Int) || (ofA c a).1 != (ofA c a).1 || (ofA c a).snd.1 != (ofA c a).snd.1 || (ofA c a).snd.2 != (ofA c a).snd.2) = false ∧ false = false ∧ GSpec Try.prog (22 : Nat) [AV.ag [int c.pw, int c.pg], u64 ((4096 : Int) + (p * c.pw + o))] true (AV.tu [int p, int o, int (0 : Int)]) [] ∧ ((0 : Int) != (0 : Int) || p != p || o != o) = false ∧ false = false ∧ GSpec Try.prog (7 : Nat) [] true (Sx.bool true) []) ?_ (by kernel_rfl) (by kernel_rfl)
    exact ⟨k1, k2, pageOf c a a0 a1, refOf c a a0 a1, by simp, rfl, k3, by simp, rfl, lawAwake⟩
  · have hne : (address c p o).2 ≠ 0 := by
      rw [address]
      split
      · rename_i hv
        rw [if_neg fun h1 => h ⟨hv, h1⟩]; simp
      · simp
    refine gspec_of [(26, [.call true (addressV c p o) []]), (33, [.call true (addressV c p o) []]), (39, [.call true (ofV c a) []]), (46, [.call true (ofV c a) []]), (72, [.br false]), (74, [.br false]), (94, [.call true (bool true) []])] [] [] (by decide) Try.func5 (φ := GSpec Try.prog (20 : Nat) [AV.ag [int c.pw, int c.pg], int p, int o] true (addressV c p o) [] ∧ GSpec Try.prog (21 : Nat) [AV.ag [int c.pw, int c.pg], int p, int o] true (addressV c p o) [] ∧ GSpec Try.prog (22 : Nat) [AV.ag [int c.pw, int c.pg], u64 a] true (ofV c a) [] ∧ GSpec Try.prog (23 : Nat) [AV.ag [int c.pw, int c.pg], u64 a] true (ofV c a) [] ∧ ((address c p o).1 != (address c p o).1 || (address c p o).2 != (address c p o).2 || (ofA c a).1 != (ofA c a).1 || (ofA c a).snd.1 != (ofA c a).snd.1 || (ofA c a).snd.2 != (ofA c a).snd.2) = false ∧ false = false ∧ ((address c p o).2 == (0 : Int)) = false ∧ false = false ∧ GSpec Try.prog (7 : Nat) [] true (Sx.bool true) []) ?_ (by kernel_rfl) (by kernel_rfl)
    exact ⟨pageAddress c p o, refAddress c p o, pageOf c a a0 a1, refOf c a a0 a1, by simp, rfl, by simp [hne], rfl, lawAwake⟩
end Go.Proofs.Ytkeimadhboefbaa
