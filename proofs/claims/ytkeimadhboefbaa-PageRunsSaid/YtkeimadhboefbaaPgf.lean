/-
  Layer 4 of the program: equal page tables, equal heaps; the sanity check.
  Conditions: none.
-/
import Derived.Test.YtkeimadhboefbaaPge
namespace Go.Proofs.Ytkeimadhboefbaa
open Go.Sx

theorem first_diff {α : Type} : ∀ {a b : List α}, a.length = b.length → a ≠ b → ∃ (j : Nat) (x y : α), a[j]? = some x ∧ b[j]? = some y ∧ x ≠ y ∧ ∀ i : Nat, i < j → ∃ z : α, a[i]? = some z ∧ b[i]? = some z
  | [], [], _, h => absurd rfl h
  | [], _ :: _, h, _ => by simp at h
  | _ :: _, [], h, _ => by simp at h
  | x :: a, y :: b, hl, h => by
    by_cases hxy : x = y
    · subst hxy
      obtain ⟨j, u, v, h1, h2, h3, h4⟩ := first_diff (a := a) (b := b) (by simpa using hl) (fun e => h (by rw [e]))
      refine ⟨j + 1, u, v, by simpa using h1, by simpa using h2, h3, fun i hi => ?_⟩
      cases i with
      | zero => exact ⟨x, rfl, rfl⟩
      | succ i =>
        obtain ⟨z, h5, h6⟩ := h4 i (by omega)
        exact ⟨z, by simpa using h5, by simpa using h6⟩
    · exact ⟨0, x, y, rfl, rfl, hxy, fun i hi => by omega⟩

def samePagesL (a b : List Page) (i : Nat) : Tg := ⟨tm 26 [(0, pagesV a), (1, pagesV b), (4, bool false), (5, int i)], [], 40⟩
theorem samePagesRound (a b : List Page) (i : Nat) (p : Page) (hl : a.length ≤ 281474976710656) (ha : a[i]? = some p) (hb : b[i]? = some p) : CSpec Try.prog (rndF Try.f33 0) (samePagesL a b i).st .nrm (samePagesL a b (i + 1)).st := by
  have hi : i < a.length := (List.getElem?_eq_some_iff.1 ha).1
  refine stretch [(13, [.int a.length]), (14, [.br true]), (19, [.el p.dv]), (23, [.el p.dv]), (25, [.br false]), (16, [.int ((i + 1 : Nat) : Int)])] [] (φ := (↑(List.map Page.dv a).length : Int) = (↑a.length : Int) ∧ decide ((↑i : Int) < (↑a.length : Int)) = true ∧ true = true ∧ ((0 : Int) ≤ (↑i : Int) ∧ (List.map Page.dv a)[(↑i : Int).toNat]? = some p.dv) ∧ ((0 : Int) ≤ (↑i : Int) ∧ (List.map Page.dv b)[(↑i : Int).toNat]? = some p.dv) ∧ (!(p.kind == p.kind && (p.space == p.space && (p.used == p.used && p.pins == p.pins)))) = false ∧ false = false ∧ IntKind.i64.wrap ((↑i : Int) + (1 : Int)) = (↑(i + (1 : Nat)) : Int)) ?_ (by kernel_rfl) (by kernel_rfl) (by kernel_rfl)
  exact ⟨by rw [List.length_map], decide_eq_true (by omega), rfl, ⟨by omega, pages_at ha⟩, ⟨by omega, pages_at hb⟩, by simp, rfl, wrapI (by omega) (by omega)⟩
theorem samePagesBad (a b : List Page) (i : Nat) (p q : Page) (ha : a[i]? = some p) (hb : b[i]? = some q) (hne : p ≠ q) : CSpec Try.prog (rndF Try.f33 0) (samePagesL a b i).st .ret (Tg.st ⟨tm 26 [(4, bool false)], [], 60⟩) := by
  have hi : i < a.length := (List.getElem?_eq_some_iff.1 ha).1
  refine stretch [(13, [.int a.length]), (14, [.br true]), (19, [.el p.dv]), (23, [.el q.dv]), (25, [.br true])] [] (φ := (↑(List.map Page.dv a).length : Int) = (↑a.length : Int) ∧ decide ((↑i : Int) < (↑a.length : Int)) = true ∧ true = true ∧ ((0 : Int) ≤ (↑i : Int) ∧ (List.map Page.dv a)[(↑i : Int).toNat]? = some p.dv) ∧ ((0 : Int) ≤ (↑i : Int) ∧ (List.map Page.dv b)[(↑i : Int).toNat]? = some q.dv) ∧ (!(p.kind == q.kind && (p.space == q.space && (p.used == q.used && p.pins == q.pins)))) = true ∧ true = true) ?_ (by kernel_rfl) (by kernel_rfl) (by kernel_rfl)
  refine ⟨by rw [List.length_map], decide_eq_true (by omega), rfl, ⟨by omega, pages_at ha⟩, ⟨by omega, pages_at hb⟩, ?_, rfl⟩
  cases p; cases q
  simp at hne
  simp
  omega
theorem samePagesEnd (a b : List Page) : CSpec Try.prog (rndF Try.f33 0) (samePagesL a b a.length).st (.ext 0) (Tg.st ⟨tm 26 [], [], 60⟩) := by
  refine stretch [(13, [.int a.length]), (14, [.br false])] [] (φ := (↑(List.map Page.dv a).length : Int) = (↑a.length : Int) ∧ decide ((↑a.length : Int) < (↑a.length : Int)) = false ∧ false = false) ?_ (by kernel_rfl) (by kernel_rfl) (by kernel_rfl)
  exact ⟨by rw [List.length_map], decide_eq_false (by omega), rfl⟩
theorem refSamePages (a b : List Page) (hl : a.length ≤ 281474976710656) : GSpec Try.prog 33 [pagesV a, pagesV b] true (bool (decide (a = b))) [] := by
  by_cases hlen : a.length = b.length
  · by_cases he : a = b
    · subst he
      rw [decide_eq_true rfl]
      refine gspec_of [(7, [.int a.length]), (9, [.int a.length]), (10, [.br false])] [(0, samePagesL a a 0, .nrm, ⟨tm 26 [], [], 60⟩)] [] (by decide) Try.func33 (φ := (↑(List.map Page.dv a).length : Int) = (↑a.length : Int) ∧ (↑(List.map Page.dv a).length : Int) = (↑a.length : Int) ∧ ((↑a.length : Int) != (↑a.length : Int)) = false ∧ false = false ∧ CSpec Try.prog (blkF Try.f33 (0 : Nat)) (samePagesL a a (0 : Nat)).st Ex.nrm (Tg.mk (tm (26 : Nat) []) [] (60 : Nat)).st) ?_ (by kernel_rfl) (by kernel_rfl)
      exact ⟨by rw [List.length_map], by rw [List.length_map], by simp, rfl, loop_ext_of (S := fun i => (samePagesL a a i).st) a.length (by kernel_rfl) (fun i hi => samePagesRound a a i a[i] hl (List.getElem?_eq_getElem hi) (List.getElem?_eq_getElem hi)) (samePagesEnd a a)⟩
    · rw [decide_eq_false he]
      refine gspec_of [(7, [.int a.length]), (9, [.int b.length]), (10, [.br false])] [(0, samePagesL a b 0, .ret, ⟨tm 26 [(4, bool false)], [], 60⟩)] [] (by decide) Try.func33 (φ := (↑(List.map Page.dv a).length : Int) = (↑a.length : Int) ∧ (↑(List.map Page.dv b).length : Int) = (↑b.length : Int) ∧ ((↑a.length : Int) != (↑b.length : Int)) = false ∧ false = false ∧ CSpec Try.prog (blkF Try.f33 (0 : Nat)) (samePagesL a b (0 : Nat)).st Ex.ret (Tg.mk (tm (26 : Nat) [((4 : Nat), Sx.bool false)]) [] (60 : Nat)).st) ?_ (by kernel_rfl) (by kernel_rfl)
      obtain ⟨j, x, y, h1, h2, h3, h4⟩ := first_diff hlen he
      refine ⟨by rw [List.length_map], by rw [List.length_map], by simp [hlen], rfl, loop_ret_of (S := fun i => (samePagesL a b i).st) j (by kernel_rfl) (fun i hi => ?_) (samePagesBad a b j x y h1 h2 h3)⟩
      obtain ⟨z, h5, h6⟩ := h4 i hi
      exact samePagesRound a b i z hl h5 h6
  · have he : a ≠ b := fun h => hlen (by rw [h])
    rw [decide_eq_false he]
    refine gspec_of [(7, [.int a.length]), (9, [.int b.length]), (10, [.br true])] [] [] (by decide) Try.func33 (φ := (↑(List.map Page.dv a).length : Int) = (↑a.length : Int) ∧ (↑(List.map Page.dv b).length : Int) = (↑b.length : Int) ∧ ((↑a.length : Int) != (↑b.length : Int)) = true ∧ true = true) ?_ (by kernel_rfl) (by kernel_rfl)
    exact ⟨by rw [List.length_map], by rw [List.length_map], by simp; omega, rfl⟩
theorem lawAwake : GSpec Try.prog 7 [] true (bool true) [] := by
  have h1 := pageNew_ok ⟨16, 8⟩ (by decide)
  have h2 := pageAddress ⟨16, 8⟩ 1 2
  have h3 := pageProper (newHeap ⟨16, 8⟩)
  have h4 := pageLimit ⟨16, 8⟩
  rw [show addressV ⟨16, 8⟩ 1 2 = .tu [u64 4114, int 0] from by rfl] at h2
  rw [show properB (newHeap ⟨16, 8⟩) = true from by decide +kernel] at h3
  rw [show limit ⟨16, 8⟩ = 2 from by decide] at h4
  refine gspec_of [(6, [.call true (Conf.av ⟨16, 8⟩) []]), (7, [.call false (.tu [(newHeap ⟨16, 8⟩).av, int 0]) []]), (11, [.call true (Conf.av ⟨16, 8⟩) []]), (12, [.call true (.tu [u64 4114, int 0]) []]), (28, [.int 128]), (33, [.call true (bool true) []]), (36, [.call true (Conf.av ⟨16, 8⟩) []]), (37, [.call true (int 2) []]), (39, [.br true])] [] [] (by decide) Try.func7 (φ := GSpec Try.prog (31 : Nat) [] true (Conf.mk (16 : Int) (8 : Int)).av [] ∧ GSpec Try.prog (16 : Nat) [AV.ag [int (Conf.mk (16 : Int) (8 : Int)).pw, int (Conf.mk (16 : Int) (8 : Int)).pg]] false (AV.tu [(newHeap (Conf.mk (16 : Int) (8 : Int))).av, int (0 : Int)]) [] ∧ GSpec Try.prog (31 : Nat) [] true (Conf.mk (16 : Int) (8 : Int)).av [] ∧ GSpec Try.prog (20 : Nat) [AV.ag [int (Conf.mk (16 : Int) (8 : Int)).pw, int (Conf.mk (16 : Int) (8 : Int)).pg], int (1 : Int), int (2 : Int)] true (AV.tu [u64 (4114 : Int), int (0 : Int)]) [] ∧ (((0 : Int) == (0 : Int) && (0 : Int) == (0 : Int) && (4114 : Int) == (4114 : Int)) = true → (↑(List.map (fun (w : Int) => [du64 w]) (newHeap (Conf.mk (16 : Int) (8 : Int))).words).length : Int) = (128 : Int)) ∧ (((0 : Int) == (0 : Int) && (0 : Int) == (0 : Int) && (4114 : Int) == (4114 : Int) && (128 : Int) == (128 : Int)) = true → GSpec Try.prog (19 : Nat) [AV.ag [int (newHeap (Conf.mk (16 : Int) (8 : Int))).conf.pw, int (newHeap (Conf.mk (16 : Int) (8 : Int))).conf.pg, AV.d (DV.sl (1 : Nat) (List.map (fun (w : Int) => [du64 w]) (newHeap (Conf.mk (16 : Int) (8 : Int))).words)), AV.d (DV.sl (4 : Nat) (List.map Page.dv (newHeap (Conf.mk (16 : Int) (8 : Int))).pages)), int (newHeap (Conf.mk (16 : Int) (8 : Int))).space, int (newHeap (Conf.mk (16 : Int) (8 : Int))).bump]] true (Sx.bool true) []) ∧ (((0 : Int) == (0 : Int) && (0 : Int) == (0 : Int) && (4114 : Int) == (4114 : Int) && (128 : Int) == (128 : Int) && true) = true → GSpec Try.prog (31 : Nat) [] true (Conf.mk (16 : Int) (8 : Int)).av []) ∧ (((0 : Int) == (0 : Int) && (0 : Int) == (0 : Int) && (4114 : Int) == (4114 : Int) && (128 : Int) == (128 : Int) && true) = true → GSpec Try.prog (10 : Nat) [AV.ag [int (Conf.mk (16 : Int) (8 : Int)).pw, int (Conf.mk (16 : Int) (8 : Int)).pg]] true (int (2 : Int)) []) ∧ ((0 : Int) == (0 : Int) && (0 : Int) == (0 : Int) && (4114 : Int) == (4114 : Int) && (128 : Int) == (128 : Int) && true && (2 : Int) == (2 : Int)) = true) ?_ (by kernel_rfl) (by kernel_rfl)
  exact ⟨lawConf, h1, lawConf, h2, fun _ => by rw [List.length_map]; decide +kernel, fun _ => h3, fun _ => lawConf, fun _ => h4, by decide⟩

/-! Equal heaps -/
def sameL (a b : Heap) (i : Nat) : Tg := ⟨tm 60 [(2, .pt 8002 0 0), (3, .pt 8003 0 0), (4, bool false), (5, int i)], [(8002, .box 32 a.cells), (8003, .box 32 b.cells)], 40⟩
theorem words_at {l : List Int} {i : Nat} {p : Int} (h : l[i]? = some p) : (l.map fun w => [du64 w])[((i : Nat) : Int).toNat]? = some [du64 p] := by simp [h]
theorem sameRound (a b : Heap) (i : Nat) (p : Int) (hl : a.words.length ≤ 281474976710656) (ha : a.words[i]? = some p) (hb : b.words[i]? = some p) : CSpec Try.prog (rndF Try.f18 0) (sameL a b i).st .nrm (sameL a b (i + 1)).st := by
  have hi : i < a.words.length := (List.getElem?_eq_some_iff.1 ha).1
  refine stretch [(45, [.int a.words.length]), (46, [.br true]), (52, [.el [du64 p]]), (57, [.el [du64 p]]), (59, [.br false]), (48, [.int ((i + 1 : Nat) : Int)])] [] (φ := (↑(List.map (fun (w : Int) => [du64 w]) a.words).length : Int) = (↑a.words.length : Int) ∧ decide ((↑i : Int) < (↑a.words.length : Int)) = true ∧ true = true ∧ ((0 : Int) ≤ (↑i : Int) ∧ (List.map (fun (w : Int) => [du64 w]) a.words)[(↑i : Int).toNat]? = some [du64 p]) ∧ ((0 : Int) ≤ (↑i : Int) ∧ (List.map (fun (w : Int) => [du64 w]) b.words)[(↑i : Int).toNat]? = some [du64 p]) ∧ (p != p) = false ∧ false = false ∧ IntKind.i64.wrap ((↑i : Int) + (1 : Int)) = (↑(i + (1 : Nat)) : Int)) ?_ (by kernel_rfl) (by kernel_rfl) (by kernel_rfl)
  exact ⟨by rw [List.length_map], decide_eq_true (by omega), rfl, ⟨by omega, words_at ha⟩, ⟨by omega, words_at hb⟩, by simp, rfl, wrapI (by omega) (by omega)⟩
theorem sameBad (a b : Heap) (i : Nat) (p q : Int) (ha : a.words[i]? = some p) (hb : b.words[i]? = some q) (hne : p ≠ q) : CSpec Try.prog (rndF Try.f18 0) (sameL a b i).st .ret (Tg.st ⟨tm 60 [(4, bool false)], [], 60⟩) := by
  have hi : i < a.words.length := (List.getElem?_eq_some_iff.1 ha).1
  refine stretch [(45, [.int a.words.length]), (46, [.br true]), (52, [.el [du64 p]]), (57, [.el [du64 q]]), (59, [.br true])] [] (φ := (↑(List.map (fun (w : Int) => [du64 w]) a.words).length : Int) = (↑a.words.length : Int) ∧ decide ((↑i : Int) < (↑a.words.length : Int)) = true ∧ true = true ∧ ((0 : Int) ≤ (↑i : Int) ∧ (List.map (fun (w : Int) => [du64 w]) a.words)[(↑i : Int).toNat]? = some [du64 p]) ∧ ((0 : Int) ≤ (↑i : Int) ∧ (List.map (fun (w : Int) => [du64 w]) b.words)[(↑i : Int).toNat]? = some [du64 q]) ∧ (p != q) = true ∧ true = true) ?_ (by kernel_rfl) (by kernel_rfl) (by kernel_rfl)
  exact ⟨by rw [List.length_map], decide_eq_true (by omega), rfl, ⟨by omega, words_at ha⟩, ⟨by omega, words_at hb⟩, by simp [hne], rfl⟩
theorem sameEnd (a b : Heap) : CSpec Try.prog (rndF Try.f18 0) (sameL a b a.words.length).st (.ext 0) (Tg.st ⟨tm 60 [], [], 60⟩) := by
  refine stretch [(45, [.int a.words.length]), (46, [.br false])] [] (φ := (↑(List.map (fun (w : Int) => [du64 w]) a.words).length : Int) = (↑a.words.length : Int) ∧ decide ((↑a.words.length : Int) < (↑a.words.length : Int)) = false ∧ false = false) ?_ (by kernel_rfl) (by kernel_rfl) (by kernel_rfl)
  exact ⟨by rw [List.length_map], decide_eq_false (by omega), rfl⟩
theorem refSame (a b : Heap) (hw : a.words.length ≤ 281474976710656) (hl : a.pages.length ≤ 281474976710656) : GSpec Try.prog 18 [a.av, b.av] true (bool (decide (a = b))) [] := by
  by_cases h1 : a.conf = b.conf ∧ a.space = b.space ∧ a.bump = b.bump ∧ a.pages = b.pages ∧ a.words.length = b.words.length
  · have hc : (!(a.conf.pw == b.conf.pw && a.conf.pg == b.conf.pg) || a.space != b.space || a.bump != b.bump || !decide (a.pages = b.pages) || (a.words.length : Int) != (b.words.length : Int)) = false := by
      obtain ⟨q1, q2, q3, q4, q5⟩ := h1
      simp [q1, q2, q3, q4, q5]
    by_cases he : a.words = b.words
    · have e : a = b := by
        cases a; cases b
        simp only at h1 he
        obtain ⟨q1, q2, q3, q4, q5⟩ := h1
        simp [q1, q2, q3, q4, he]
      rw [decide_eq_true e]
      refine gspec_of [(30, [.call true (bool (decide (a.pages = b.pages))) []]), (36, [.int a.words.length]), (39, [.int b.words.length]), (41, [.br false])] [(0, sameL a b 0, .nrm, ⟨tm 60 [], [], 60⟩)] [] (by decide) Try.func18 (φ := ((!(!(a.conf.pw == b.conf.pw && a.conf.pg == b.conf.pg) || a.space != b.space || a.bump != b.bump)) = true → GSpec Try.prog (33 : Nat) [AV.d (DV.sl (4 : Nat) (List.map Page.dv a.pages)), AV.d (DV.sl (4 : Nat) (List.map Page.dv b.pages))] true (Sx.bool (decide (a.pages = b.pages))) []) ∧ ((!(!(a.conf.pw == b.conf.pw && a.conf.pg == b.conf.pg) || a.space != b.space || a.bump != b.bump || !decide (a.pages = b.pages))) = true → (↑(List.map (fun (w : Int) => [du64 w]) a.words).length : Int) = (↑a.words.length : Int)) ∧ ((!(!(a.conf.pw == b.conf.pw && a.conf.pg == b.conf.pg) || a.space != b.space || a.bump != b.bump || !decide (a.pages = b.pages))) = true → (↑(List.map (fun (w : Int) => [du64 w]) b.words).length : Int) = (↑b.words.length : Int)) ∧ (!(a.conf.pw == b.conf.pw && a.conf.pg == b.conf.pg) || a.space != b.space || a.bump != b.bump || !decide (a.pages = b.pages) || (↑a.words.length : Int) != (↑b.words.length : Int)) = false ∧ false = false ∧ CSpec Try.prog (blkF Try.f18 (0 : Nat)) (sameL a b (0 : Nat)).st Ex.nrm (Tg.mk (tm (60 : Nat) []) [] (60 : Nat)).st) ?_ (by kernel_rfl) (by kernel_rfl)
      exact ⟨fun _ => refSamePages a.pages b.pages hl, fun _ => by rw [List.length_map], fun _ => by rw [List.length_map], hc, rfl, loop_ext_of (S := fun i => (sameL a b i).st) a.words.length (by kernel_rfl) (fun i hi => sameRound a b i a.words[i] hw (List.getElem?_eq_getElem hi) (by rw [← he]; exact List.getElem?_eq_getElem hi)) (sameEnd a b)⟩
    · have e : a ≠ b := fun h => he (by rw [h])
      rw [decide_eq_false e]
      refine gspec_of [(30, [.call true (bool (decide (a.pages = b.pages))) []]), (36, [.int a.words.length]), (39, [.int b.words.length]), (41, [.br false])] [(0, sameL a b 0, .ret, ⟨tm 60 [(4, bool false)], [], 60⟩)] [] (by decide) Try.func18 (φ := ((!(!(a.conf.pw == b.conf.pw && a.conf.pg == b.conf.pg) || a.space != b.space || a.bump != b.bump)) = true → GSpec Try.prog (33 : Nat) [AV.d (DV.sl (4 : Nat) (List.map Page.dv a.pages)), AV.d (DV.sl (4 : Nat) (List.map Page.dv b.pages))] true (Sx.bool (decide (a.pages = b.pages))) []) ∧ ((!(!(a.conf.pw == b.conf.pw && a.conf.pg == b.conf.pg) || a.space != b.space || a.bump != b.bump || !decide (a.pages = b.pages))) = true → (↑(List.map (fun (w : Int) => [du64 w]) a.words).length : Int) = (↑a.words.length : Int)) ∧ ((!(!(a.conf.pw == b.conf.pw && a.conf.pg == b.conf.pg) || a.space != b.space || a.bump != b.bump || !decide (a.pages = b.pages))) = true → (↑(List.map (fun (w : Int) => [du64 w]) b.words).length : Int) = (↑b.words.length : Int)) ∧ (!(a.conf.pw == b.conf.pw && a.conf.pg == b.conf.pg) || a.space != b.space || a.bump != b.bump || !decide (a.pages = b.pages) || (↑a.words.length : Int) != (↑b.words.length : Int)) = false ∧ false = false ∧ CSpec Try.prog (blkF Try.f18 (0 : Nat)) (sameL a b (0 : Nat)).st Ex.ret (Tg.mk (tm (60 : Nat) [((4 : Nat), Sx.bool false)]) [] (60 : Nat)).st) ?_ (by kernel_rfl) (by kernel_rfl)
      obtain ⟨j, x, y, k1, k2, k3, k4⟩ := first_diff h1.2.2.2.2 he
      refine ⟨fun _ => refSamePages a.pages b.pages hl, fun _ => by rw [List.length_map], fun _ => by rw [List.length_map], hc, rfl, loop_ret_of (S := fun i => (sameL a b i).st) j (by kernel_rfl) (fun i hi => ?_) (sameBad a b j x y k1 k2 k3)⟩
      obtain ⟨z, k5, k6⟩ := k4 i hi
      exact sameRound a b i z hw k5 k6
  · have hc : (!(a.conf.pw == b.conf.pw && a.conf.pg == b.conf.pg) || a.space != b.space || a.bump != b.bump || !decide (a.pages = b.pages) || (a.words.length : Int) != (b.words.length : Int)) = true := by
      cases hh : (!(a.conf.pw == b.conf.pw && a.conf.pg == b.conf.pg) || a.space != b.space || a.bump != b.bump || !decide (a.pages = b.pages) || (a.words.length : Int) != (b.words.length : Int)) with
      | true => rfl
      | false =>
        exfalso
        simp at hh
        obtain ⟨⟨⟨⟨q1, q2⟩, q3⟩, q4⟩, q5⟩ := hh
        refine h1 ⟨?_, q2, q3, q4, by omega⟩
        cases hca : a.conf; cases hcb : b.conf
        rw [hca, hcb] at q1
        simp at q1
        simp [q1]
    have e : a ≠ b := fun h => h1 (by rw [h]; simp)
    rw [decide_eq_false e]
    refine gspec_of [(30, [.call true (bool (decide (a.pages = b.pages))) []]), (36, [.int a.words.length]), (39, [.int b.words.length]), (41, [.br true])] [] [] (by decide) Try.func18 (φ := ((!(!(a.conf.pw == b.conf.pw && a.conf.pg == b.conf.pg) || a.space != b.space || a.bump != b.bump)) = true → GSpec Try.prog (33 : Nat) [AV.d (DV.sl (4 : Nat) (List.map Page.dv a.pages)), AV.d (DV.sl (4 : Nat) (List.map Page.dv b.pages))] true (Sx.bool (decide (a.pages = b.pages))) []) ∧ ((!(!(a.conf.pw == b.conf.pw && a.conf.pg == b.conf.pg) || a.space != b.space || a.bump != b.bump || !decide (a.pages = b.pages))) = true → (↑(List.map (fun (w : Int) => [du64 w]) a.words).length : Int) = (↑a.words.length : Int)) ∧ ((!(!(a.conf.pw == b.conf.pw && a.conf.pg == b.conf.pg) || a.space != b.space || a.bump != b.bump || !decide (a.pages = b.pages))) = true → (↑(List.map (fun (w : Int) => [du64 w]) b.words).length : Int) = (↑b.words.length : Int)) ∧ (!(a.conf.pw == b.conf.pw && a.conf.pg == b.conf.pg) || a.space != b.space || a.bump != b.bump || !decide (a.pages = b.pages) || (↑a.words.length : Int) != (↑b.words.length : Int)) = true ∧ true = true) ?_ (by kernel_rfl) (by kernel_rfl)
    exact ⟨fun _ => refSamePages a.pages b.pages hl, fun _ => by rw [List.length_map], fun _ => by rw [List.length_map], hc, rfl⟩
end Go.Proofs.Ytkeimadhboefbaa
