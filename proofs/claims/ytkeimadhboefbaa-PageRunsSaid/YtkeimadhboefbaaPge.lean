/-
  Layer 4 of the program: proper heaps, new heaps.
  Conditions: none.
-/
import Derived.Test.YtkeimadhboefbaaPgd
namespace Go.Proofs.Ytkeimadhboefbaa
open Go.Sx

def wordsV (l : List Int) : AV := .d (.sl 1 (l.map fun w => [du64 w]))
structure Heap where
  conf : Conf
  words : List Int
  pages : List Page
  space : Int
  bump : Int
  deriving DecidableEq
def Heap.cells (h : Heap) : List AV := [int h.conf.pw, int h.conf.pg, wordsV h.words, pagesV h.pages, int h.space, int h.bump]
def Heap.av (h : Heap) : AV := .ag h.cells

theorem arenaNew (n : Nat) (hn : n ≤ 4096) : GSpec Try.prog 32 [int n] true (.tu [wordsV (List.replicate n 0), int 0]) [] := by
  refine gspec_of [(9, [.br false]), (11, [.els ((List.replicate n 0).map fun w => [du64 w])])] [] [] (by decide) Try.func32 (φ := (decide ((↑n : Int) < (0 : Int)) || decide ((4096 : Int) < (↑n : Int))) = false ∧ false = false ∧ ((0 : Int) ≤ (↑n : Int) ∧ (↑n : Int) ≤ (↑n : Int) ∧ (↑n : Int) * ((↑(nat_lit 7) : Int) + (1 : Int)) ≤ (2 : Int) ^ (48 : Nat)) ∧ List.replicate (↑n : Int).toNat [du64 (0 : Int)] = List.map (fun (w : Int) => [du64 w]) (List.replicate n (0 : Int)) ∧ FlatEls (List.map (fun (w : Int) => [du64 w]) (List.replicate n (0 : Int)))) ?_ (by kernel_rfl) (by kernel_rfl)
  refine ⟨by simp; omega, rfl, ⟨by omega, by omega, by simp; omega⟩, by simp, ?_⟩
  intro e he x hx
  obtain ⟨w, _, rfl⟩ := List.mem_map.1 he
  simp at hx
  exact ⟨_, hx⟩
def noHeap : Heap := ⟨⟨0, 0⟩, [], [], 0, 0⟩
def newHeap (c : Conf) : Heap := ⟨c, List.replicate (c.pw * c.pg).toNat 0, List.replicate c.pg.toNat ⟨0, 0, 0, 0⟩, 0, -1⟩
theorem pageNew_bad (c : Conf) (h : ¬ validB c = true) : GSpec Try.prog 16 [c.av] false (.tu [noHeap.av, int 1]) [] := by
  refine gspec_of [(7, [.call true (bool (validB c)) []]), (8, [.br true])] [] [] (by decide) Try.func16 (φ := GSpec Try.prog (8 : Nat) [AV.ag [int c.pw, int c.pg]] true (Sx.bool (validB c)) [] ∧ (!validB c) = true ∧ true = true ∧ ([] : List (List DV)) = [] ∧ ([] : List (List DV)) = []) ?_ (by kernel_rfl) (by kernel_rfl)
  exact ⟨pageValidConf c, by simp [h], rfl, rfl, rfl⟩
theorem pageNew_ok (c : Conf) (h : validB c = true) : GSpec Try.prog 16 [c.av] false (.tu [(newHeap c).av, int 0]) [] := by
  refine gspec_of [(7, [.call true (bool (validB c)) []]), (8, [.br false]), (15, [.int ((c.pw * c.pg).toNat : Int)]), (16, [.call true (.tu [wordsV (List.replicate (c.pw * c.pg).toNat 0), int 0]) []]), (27, [.els ((List.replicate c.pg.toNat (⟨0, 0, 0, 0⟩ : Page)).map Page.dv)])] [] [] (by decide) Try.func16 (φ := GSpec Try.prog (8 : Nat) [AV.ag [int c.pw, int c.pg]] true (Sx.bool (validB c)) [] ∧ (!validB c) = false ∧ false = false ∧ IntKind.i64.wrap (c.pw * c.pg) = (↑(c.pw * c.pg).toNat : Int) ∧ GSpec Try.prog (32 : Nat) [int (↑(c.pw * c.pg).toNat : Int)] true (AV.tu [wordsV (List.replicate (c.pw * c.pg).toNat (0 : Int)), int (0 : Int)]) [] ∧ ((0 : Int) ≤ c.pg ∧ c.pg ≤ c.pg ∧ c.pg * ((↑(nat_lit 31) : Int) + (1 : Int)) ≤ (2 : Int) ^ (48 : Nat)) ∧ List.replicate c.pg.toNat [dint (0 : Int), dint (0 : Int), dint (0 : Int), dint (0 : Int)] = List.map Page.dv (List.replicate c.pg.toNat (Page.mk (0 : Int) (0 : Int) (0 : Int) (0 : Int)))) ?_ (by kernel_rfl) (by kernel_rfl)
  have hv := validB_iff.1 h
  have ha := area h
  exact ⟨pageValidConf c, by simp [h], rfl, by rw [wrapI (by omega) (by omega)]; omega, arenaNew _ (by omega), ⟨by omega, by omega, by simp; omega⟩, by simp [Page.dv]⟩
theorem refNew_bad (c : Conf) (h : ¬ validB c = true) : GSpec Try.prog 17 [c.av] false (.tu [noHeap.av, int 1]) [] := by
  refine gspec_of [(5, [.call true (bool (validB c)) []]), (6, [.br true])] [] [] (by decide) Try.func17 (φ := GSpec Try.prog (9 : Nat) [AV.ag [int c.pw, int c.pg]] true (Sx.bool (validB c)) [] ∧ (!validB c) = true ∧ true = true ∧ ([] : List (List DV)) = [] ∧ ([] : List (List DV)) = []) ?_ (by kernel_rfl) (by kernel_rfl)
  exact ⟨refValidConf c, by simp [h], rfl, rfl, rfl⟩
theorem refNew_ok (c : Conf) (h : validB c = true) : GSpec Try.prog 17 [c.av] false (.tu [(newHeap c).av, int 0]) [] := by
  refine gspec_of [(5, [.call true (bool (validB c)) []]), (6, [.br false]), (13, [.int ((c.pw * c.pg).toNat : Int)]), (14, [.els ((List.replicate (c.pw * c.pg).toNat 0).map fun w => [du64 w])]), (17, [.els ((List.replicate c.pg.toNat (⟨0, 0, 0, 0⟩ : Page)).map Page.dv)])] [] [] (by decide) Try.func17 (φ := GSpec Try.prog (9 : Nat) [AV.ag [int c.pw, int c.pg]] true (Sx.bool (validB c)) [] ∧ (!validB c) = false ∧ false = false ∧ IntKind.i64.wrap (c.pg * c.pw) = (↑(c.pw * c.pg).toNat : Int) ∧ ((0 : Int) ≤ (↑(c.pw * c.pg).toNat : Int) ∧ (↑(c.pw * c.pg).toNat : Int) ≤ (↑(c.pw * c.pg).toNat : Int) ∧ (↑(c.pw * c.pg).toNat : Int) * ((↑(nat_lit 7) : Int) + (1 : Int)) ≤ (2 : Int) ^ (48 : Nat)) ∧ List.replicate (↑(c.pw * c.pg).toNat : Int).toNat [du64 (0 : Int)] = List.map (fun (w : Int) => [du64 w]) (List.replicate (c.pw * c.pg).toNat (0 : Int)) ∧ ((0 : Int) ≤ c.pg ∧ c.pg ≤ c.pg ∧ c.pg * ((↑(nat_lit 31) : Int) + (1 : Int)) ≤ (2 : Int) ^ (48 : Nat)) ∧ List.replicate c.pg.toNat [dint (0 : Int), dint (0 : Int), dint (0 : Int), dint (0 : Int)] = List.map Page.dv (List.replicate c.pg.toNat (Page.mk (0 : Int) (0 : Int) (0 : Int) (0 : Int)))) ?_ (by kernel_rfl) (by kernel_rfl)
  have hv := validB_iff.1 h
  have ha := area h
  rw [Int.mul_comm] at ha
  have hc := Int.mul_comm c.pw c.pg
  exact ⟨refValidConf c, by simp [h], rfl, by rw [wrapI (by omega) (by omega)]; omega, ⟨by omega, by omega, by simp; omega⟩, by rw [List.map_replicate, Int.toNat_natCast], ⟨by omega, by omega, by simp; omega⟩, by simp [Page.dv]⟩

/-! Proper heaps -/
def pageAt (l : List Page) (i : Int) : Page := l[i.toNat]?.getD ⟨0, 0, 0, 0⟩
theorem pageAt_ok {l : List Page} {i : Int} (h : i.toNat < l.length) : l[i.toNat]? = some (pageAt l i) := by
  rw [pageAt, List.getElem?_eq_getElem h]
  rfl
def bumpB (h : Heap) : Bool := (h.bump == -1) || (decide (0 ≤ h.bump) && decide (h.bump < h.pages.length) && ((pageAt h.pages h.bump).kind == 1))
def shapeB (h : Heap) : Bool := validB h.conf && ((h.words.length : Int) == h.conf.pw * h.conf.pg) && ((h.pages.length : Int) == h.conf.pg) && ((h.space == 0) || (h.space == 1))
def spansB (c : Conf) (l : List Page) : Nat → Nat → Bool
  | 0, i => decide (l.length ≤ i)
  | f + 1, i => if i < l.length then (if spanN c l i = 0 then false else spansB c l f (i + spanN c l i)) else true
def properB (h : Heap) : Bool := shapeB h && (bumpB h && spansB h.conf h.pages h.pages.length 0)

def properL (h : Heap) (i : Nat) : Tg := ⟨tm 83 [(1, .pt 8001 0 0), (2, bool false), (3, int i)], [(8001, .box 32 h.cells)], 50⟩
theorem spanN_le {c : Conf} {l : List Page} {i : Nat} (hi : i < l.length) : i + spanN c l i ≤ l.length := by
  obtain ⟨p, hp⟩ : ∃ p, l[i]? = some p := ⟨l[i], List.getElem?_eq_getElem hi⟩
  rw [spanN, hp]
  simp only
  repeat' split
  all_goals first | omega | (rename_i h; omega)
theorem properRound (h : Heap) (i : Nat) (hl : h.pages.length ≤ 281474976710656) (hi : i < h.pages.length) (hs : spanN h.conf h.pages i ≠ 0) : CSpec Try.prog (rndF Try.f19 0) (properL h i).st .nrm (properL h (i + spanN h.conf h.pages i)).st := by
  have hle := spanN_le (c := h.conf) hi
  refine stretch [(70, [.int h.pages.length]), (71, [.br true]), (77, [.call true (int (spanN h.conf h.pages i)) []]), (79, [.br false]), (82, [.int ((i + spanN h.conf h.pages i : Nat) : Int)])] [] (φ := (↑(List.map Page.dv h.pages).length : Int) = (↑h.pages.length : Int) ∧ decide ((↑i : Int) < (↑h.pages.length : Int)) = true ∧ true = true ∧ GSpec Try.prog (34 : Nat) [AV.ag [int h.conf.pw, int h.conf.pg], AV.d (DV.sl (4 : Nat) (List.map Page.dv h.pages)), int (↑i : Int)] true (int (↑(spanN h.conf h.pages i) : Int)) [] ∧ ((↑(spanN h.conf h.pages i) : Int) == (0 : Int)) = false ∧ false = false ∧ IntKind.i64.wrap ((↑i : Int) + (↑(spanN h.conf h.pages i) : Int)) = (↑(i + spanN h.conf h.pages i) : Int)) ?_ (by kernel_rfl) (by kernel_rfl) (by kernel_rfl)
  exact ⟨by rw [List.length_map], decide_eq_true (by omega), rfl, pageSpan h.conf h.pages hl i hi, by simp; omega, rfl, wrapI (by omega) (by omega)⟩
theorem properBad (h : Heap) (i : Nat) (hl : h.pages.length ≤ 281474976710656) (hi : i < h.pages.length) (hs : spanN h.conf h.pages i = 0) : CSpec Try.prog (rndF Try.f19 0) (properL h i).st .ret (Tg.st ⟨tm 83 [(2, bool false)], [], 60⟩) := by
  refine stretch [(70, [.int h.pages.length]), (71, [.br true]), (77, [.call true (int (spanN h.conf h.pages i)) []]), (79, [.br true])] [] (φ := (↑(List.map Page.dv h.pages).length : Int) = (↑h.pages.length : Int) ∧ decide ((↑i : Int) < (↑h.pages.length : Int)) = true ∧ true = true ∧ GSpec Try.prog (34 : Nat) [AV.ag [int h.conf.pw, int h.conf.pg], AV.d (DV.sl (4 : Nat) (List.map Page.dv h.pages)), int (↑i : Int)] true (int (↑(spanN h.conf h.pages i) : Int)) [] ∧ ((↑(spanN h.conf h.pages i) : Int) == (0 : Int)) = true ∧ true = true) ?_ (by kernel_rfl) (by kernel_rfl) (by kernel_rfl)
  exact ⟨by rw [List.length_map], decide_eq_true (by omega), rfl, pageSpan h.conf h.pages hl i hi, by simp [hs], rfl⟩
theorem properEnd (h : Heap) (i : Nat) (hi : h.pages.length ≤ i) : CSpec Try.prog (rndF Try.f19 0) (properL h i).st (.ext 0) (Tg.st ⟨tm 83 [], [], 60⟩) := by
  refine stretch [(70, [.int h.pages.length]), (71, [.br false])] [] (φ := (↑(List.map Page.dv h.pages).length : Int) = (↑h.pages.length : Int) ∧ decide ((↑i : Int) < (↑h.pages.length : Int)) = false ∧ false = false) ?_ (by kernel_rfl) (by kernel_rfl) (by kernel_rfl)
  exact ⟨by rw [List.length_map], decide_eq_false (by omega), rfl⟩
theorem properRuns (h : Heap) (hl : h.pages.length ≤ 281474976710656) : ∀ (f i : Nat), h.pages.length ≤ i + f → spansB h.conf h.pages f i = true → ∃ n, LoopRuns Try.prog (rndF Try.f19 0) n (properL h i).st (.ext 0) (Tg.st ⟨tm 83 [], [], 60⟩)
  | 0, i, hf, _ => ⟨0, (fun h => nomatch h), properEnd h i (by omega)⟩
  | f + 1, i, hf, hb => by
    by_cases hi : i < h.pages.length
    · simp only [spansB, if_pos hi] at hb
      split at hb
      · cases hb
      · rename_i hs
        obtain ⟨n, hn⟩ := properRuns h hl f (i + spanN h.conf h.pages i) (by omega) hb
        exact ⟨n + 1, _, properRound h i hl hi hs, hn⟩
    · exact ⟨0, (fun h => nomatch h), properEnd h i (by omega)⟩
theorem properRunsBad (h : Heap) (hl : h.pages.length ≤ 281474976710656) : ∀ (f i : Nat), h.pages.length ≤ i + f → spansB h.conf h.pages f i = false → ∃ n, LoopRuns Try.prog (rndF Try.f19 0) n (properL h i).st .ret (Tg.st ⟨tm 83 [(2, bool false)], [], 60⟩)
  | 0, i, hf, hb => by simp [spansB] at hb; omega
  | f + 1, i, hf, hb => by
    by_cases hi : i < h.pages.length
    · simp only [spansB, if_pos hi] at hb
      split at hb
      · rename_i hs
        exact ⟨0, (fun h => nomatch h), properBad h i hl hi hs⟩
      · rename_i hs
        obtain ⟨n, hn⟩ := properRunsBad h hl f (i + spanN h.conf h.pages i) (by omega) hb
        exact ⟨n + 1, _, properRound h i hl hi hs, hn⟩
    · simp only [spansB, if_neg hi] at hb; cases hb
theorem shapeB_iff {h : Heap} : shapeB h = true ↔ validB h.conf = true ∧ (h.words.length : Int) = h.conf.pw * h.conf.pg ∧ (h.pages.length : Int) = h.conf.pg ∧ (h.space = 0 ∨ h.space = 1) := by
  simp [shapeB, and_assoc]
theorem pageProper (h : Heap) : GSpec Try.prog 19 [h.av] true (bool (properB h)) [] := by
  have hmul : (!!validB h.conf) = true → IntKind.i64.wrap (h.conf.pw * h.conf.pg) = h.conf.pw * h.conf.pg := by
    intro hv
    have ha := area (c := h.conf) (by simpa using hv)
    exact wrapI (by omega) (by omega)
  by_cases h1 : shapeB h = true
  · obtain ⟨s1, s2, s3, s4⟩ := shapeB_iff.1 h1
    have hv := validB_iff.1 s1
    have hc1 : (!validB h.conf || (h.words.length : Int) != h.conf.pw * h.conf.pg || (h.pages.length : Int) != h.conf.pg || h.space != 0 && h.space != 1) = false := by
      simp [s1, s2, s3]; omega
    have hel : (h.bump != -1 && !(decide (h.bump < 0) || decide ((h.pages.length : Int) ≤ h.bump))) = true → 0 ≤ h.bump ∧ (List.map Page.dv h.pages)[h.bump.toNat]? = some (pageAt h.pages h.bump).dv := by
      intro hg
      simp at hg
      refine ⟨by omega, ?_⟩
      rw [List.getElem?_map, pageAt_ok (by omega)]
      rfl
    by_cases h2 : bumpB h = true
    · have hc2 : (h.bump != -1 && (decide (h.bump < 0) || decide ((h.pages.length : Int) ≤ h.bump) || (pageAt h.pages h.bump).kind != 1)) = false := by
        simp [bumpB] at h2
        simp
        omega
      cases h3 : spansB h.conf h.pages h.pages.length 0 with
      | true =>
        have e : properB h = true := by simp [properB, h1, h2, h3]
        rw [e]
        obtain ⟨n, hn⟩ := properRuns h (by omega) h.pages.length 0 (by omega) h3
        refine gspec_of [(7, [.call true (bool (validB h.conf)) []]), (12, [.int h.words.length]), (19, [.int (h.conf.pw * h.conf.pg)]), (25, [.int h.pages.length]), (40, [.br false]), (53, [.int h.pages.length]), (61, [.el (pageAt h.pages h.bump).dv]), (66, [.br false])] [(0, properL h 0, .nrm, ⟨tm 83 [], [], 60⟩)] [] (by decide) Try.func19 (φ := GSpec Try.prog (8 : Nat) [AV.ag [int h.conf.pw, int h.conf.pg]] true (Sx.bool (validB h.conf)) [] ∧ ((!!validB h.conf) = true → (↑(List.map (fun (w : Int) => [du64 w]) h.words).length : Int) = (↑h.words.length : Int)) ∧ ((!!validB h.conf) = true → IntKind.i64.wrap (h.conf.pw * h.conf.pg) = h.conf.pw * h.conf.pg) ∧ ((!(!validB h.conf || (↑h.words.length : Int) != h.conf.pw * h.conf.pg)) = true → (↑(List.map Page.dv h.pages).length : Int) = (↑h.pages.length : Int)) ∧ (!validB h.conf || (↑h.words.length : Int) != h.conf.pw * h.conf.pg || (↑h.pages.length : Int) != h.conf.pg || h.space != (0 : Int) && h.space != (1 : Int)) = false ∧ false = false ∧ ((h.bump != (-1 : Int) && !decide (h.bump < (0 : Int))) = true → (↑(List.map Page.dv h.pages).length : Int) = (↑h.pages.length : Int)) ∧ ((h.bump != (-1 : Int) && !(decide (h.bump < (0 : Int)) || decide ((↑h.pages.length : Int) ≤ h.bump))) = true → (0 : Int) ≤ h.bump ∧ (List.map Page.dv h.pages)[h.bump.toNat]? = some (pageAt h.pages h.bump).dv) ∧ (h.bump != (-1 : Int) && (decide (h.bump < (0 : Int)) || decide ((↑h.pages.length : Int) ≤ h.bump) || (pageAt h.pages h.bump).kind != (1 : Int))) = false ∧ false = false ∧ CSpec Try.prog (blkF Try.f19 (0 : Nat)) (properL h (0 : Nat)).st Ex.nrm (Tg.mk (tm (83 : Nat) []) [] (60 : Nat)).st) ?_ (by kernel_rfl) (by kernel_rfl)
        exact ⟨pageValidConf h.conf, fun _ => by rw [List.length_map], hmul, fun _ => by rw [List.length_map], hc1, rfl, fun _ => by rw [List.length_map], hel, hc2, rfl, loop_ext (by kernel_rfl) hn⟩
      | false =>
        have e : properB h = false := by simp [properB, h3]
        rw [e]
        obtain ⟨n, hn⟩ := properRunsBad h (by omega) h.pages.length 0 (by omega) h3
        refine gspec_of [(7, [.call true (bool (validB h.conf)) []]), (12, [.int h.words.length]), (19, [.int (h.conf.pw * h.conf.pg)]), (25, [.int h.pages.length]), (40, [.br false]), (53, [.int h.pages.length]), (61, [.el (pageAt h.pages h.bump).dv]), (66, [.br false])] [(0, properL h 0, .ret, ⟨tm 83 [(2, bool false)], [], 60⟩)] [] (by decide) Try.func19 (φ := GSpec Try.prog (8 : Nat) [AV.ag [int h.conf.pw, int h.conf.pg]] true (Sx.bool (validB h.conf)) [] ∧ ((!!validB h.conf) = true → (↑(List.map (fun (w : Int) => [du64 w]) h.words).length : Int) = (↑h.words.length : Int)) ∧ ((!!validB h.conf) = true → IntKind.i64.wrap (h.conf.pw * h.conf.pg) = h.conf.pw * h.conf.pg) ∧ ((!(!validB h.conf || (↑h.words.length : Int) != h.conf.pw * h.conf.pg)) = true → (↑(List.map Page.dv h.pages).length : Int) = (↑h.pages.length : Int)) ∧ (!validB h.conf || (↑h.words.length : Int) != h.conf.pw * h.conf.pg || (↑h.pages.length : Int) != h.conf.pg || h.space != (0 : Int) && h.space != (1 : Int)) = false ∧ false = false ∧ ((h.bump != (-1 : Int) && !decide (h.bump < (0 : Int))) = true → (↑(List.map Page.dv h.pages).length : Int) = (↑h.pages.length : Int)) ∧ ((h.bump != (-1 : Int) && !(decide (h.bump < (0 : Int)) || decide ((↑h.pages.length : Int) ≤ h.bump))) = true → (0 : Int) ≤ h.bump ∧ (List.map Page.dv h.pages)[h.bump.toNat]? = some (pageAt h.pages h.bump).dv) ∧ (h.bump != (-1 : Int) && (decide (h.bump < (0 : Int)) || decide ((↑h.pages.length : Int) ≤ h.bump) || (pageAt h.pages h.bump).kind != (1 : Int))) = false ∧ false = false ∧ CSpec Try.prog (blkF Try.f19 (0 : Nat)) (properL h (0 : Nat)).st Ex.ret (Tg.mk (tm (83 : Nat) [((2 : Nat), Sx.bool false)]) [] (60 : Nat)).st) ?_ (by kernel_rfl) (by kernel_rfl)
        exact ⟨pageValidConf h.conf, fun _ => by rw [List.length_map], hmul, fun _ => by rw [List.length_map], hc1, rfl, fun _ => by rw [List.length_map], hel, hc2, rfl, loop_ret (by kernel_rfl) hn⟩
    · have hc2 : (h.bump != -1 && (decide (h.bump < 0) || decide ((h.pages.length : Int) ≤ h.bump) || (pageAt h.pages h.bump).kind != 1)) = true := by
        simp [bumpB] at h2
        simp
        omega
      have e : properB h = false := by simp [properB, h2]
      rw [e]
      refine gspec_of [(7, [.call true (bool (validB h.conf)) []]), (12, [.int h.words.length]), (19, [.int (h.conf.pw * h.conf.pg)]), (25, [.int h.pages.length]), (40, [.br false]), (53, [.int h.pages.length]), (61, [.el (pageAt h.pages h.bump).dv]), (66, [.br true])] [] [] (by decide) Try.func19 (φ := GSpec Try.prog (8 : Nat) [AV.ag [int h.conf.pw, int h.conf.pg]] true (Sx.bool (validB h.conf)) [] ∧ ((!!validB h.conf) = true → (↑(List.map (fun (w : Int) => [du64 w]) h.words).length : Int) = (↑h.words.length : Int)) ∧ ((!!validB h.conf) = true → IntKind.i64.wrap (h.conf.pw * h.conf.pg) = h.conf.pw * h.conf.pg) ∧ ((!(!validB h.conf || (↑h.words.length : Int) != h.conf.pw * h.conf.pg)) = true → (↑(List.map Page.dv h.pages).length : Int) = (↑h.pages.length : Int)) ∧ (!validB h.conf || (↑h.words.length : Int) != h.conf.pw * h.conf.pg || (↑h.pages.length : Int) != h.conf.pg || h.space != (0 : Int) && h.space != (1 : Int)) = false ∧ false = false ∧ ((h.bump != (-1 : Int) && !decide (h.bump < (0 : Int))) = true → (↑(List.map Page.dv h.pages).length : Int) = (↑h.pages.length : Int)) ∧ ((h.bump != (-1 : Int) && !(decide (h.bump < (0 : Int)) || decide ((↑h.pages.length : Int) ≤ h.bump))) = true → (0 : Int) ≤ h.bump ∧ (List.map Page.dv h.pages)[h.bump.toNat]? = some (pageAt h.pages h.bump).dv) ∧ (h.bump != (-1 : Int) && (decide (h.bump < (0 : Int)) || decide ((↑h.pages.length : Int) ≤ h.bump) || (pageAt h.pages h.bump).kind != (1 : Int))) = true ∧ true = true) ?_ (by kernel_rfl) (by kernel_rfl)
      exact ⟨pageValidConf h.conf, fun _ => by rw [List.length_map], hmul, fun _ => by rw [List.length_map], hc1, rfl, fun _ => by rw [List.length_map], hel, hc2, rfl⟩
  · have hc1 : (!validB h.conf || (h.words.length : Int) != h.conf.pw * h.conf.pg || (h.pages.length : Int) != h.conf.pg || h.space != 0 && h.space != 1) = true := by
      rw [shapeB_iff] at h1
      cases hv : validB h.conf with
      | false => simp
      | true =>
        simp only [hv, true_and] at h1
        simp
        omega
    have e : properB h = false := by simp [properB, h1]
    rw [e]
    refine gspec_of [(7, [.call true (bool (validB h.conf)) []]), (12, [.int h.words.length]), (19, [.int (h.conf.pw * h.conf.pg)]), (25, [.int h.pages.length]), (40, [.br true])] [] [] (by decide) Try.func19 (φ := GSpec Try.prog (8 : Nat) [AV.ag [int h.conf.pw, int h.conf.pg]] true (Sx.bool (validB h.conf)) [] ∧ ((!!validB h.conf) = true → (↑(List.map (fun (w : Int) => [du64 w]) h.words).length : Int) = (↑h.words.length : Int)) ∧ ((!!validB h.conf) = true → IntKind.i64.wrap (h.conf.pw * h.conf.pg) = h.conf.pw * h.conf.pg) ∧ ((!(!validB h.conf || (↑h.words.length : Int) != h.conf.pw * h.conf.pg)) = true → (↑(List.map Page.dv h.pages).length : Int) = (↑h.pages.length : Int)) ∧ (!validB h.conf || (↑h.words.length : Int) != h.conf.pw * h.conf.pg || (↑h.pages.length : Int) != h.conf.pg || h.space != (0 : Int) && h.space != (1 : Int)) = true ∧ true = true) ?_ (by kernel_rfl) (by kernel_rfl)
    exact ⟨pageValidConf h.conf, fun _ => by rw [List.length_map], hmul, fun _ => by rw [List.length_map], hc1, rfl⟩
end Go.Proofs.Ytkeimadhboefbaa
