/-
  Layer 4 of the program: entries of the page table.
  Conditions: none.
-/
import Derived.Test.YtkeimadhboefbaaPgc
namespace Go.Proofs.Ytkeimadhboefbaa
open Go.Sx

structure Page where
  kind : Int
  space : Int
  used : Int
  pins : Int
  deriving DecidableEq
def Page.dv (p : Page) : List DV := [dint p.kind, dint p.space, dint p.used, dint p.pins]
def Page.av (p : Page) : AV := .ag [int p.kind, int p.space, int p.used, int p.pins]
def pagesV (l : List Page) : AV := .d (.sl 4 (l.map Page.dv))

def freeB (p : Page) : Bool := decide (p = ⟨0, 0, 0, 0⟩)
def spacedB (p : Page) : Bool := (p.space == 0) || (p.space == 1)
def pinnedB (p : Page) : Bool := decide (0 ≤ p.pins) && decide (p.pins ≤ 2147483647)
def smallB (p : Page) (c : Conf) : Bool := spacedB p && pinnedB p && decide (0 ≤ p.used) && decide (p.used ≤ c.pw)
def largeB (p : Page) (c : Conf) : Bool := spacedB p && pinnedB p && decide (1 ≤ need c p.used)
def tailB (p q : Page) : Bool := decide (p = ⟨3, q.space, 0, 0⟩)

theorem entrySpaced (p : Page) : GSpec Try.prog 39 [p.av] true (bool (spacedB p)) [] := by
  refine gspec_of [] [] [] (by decide) Try.func39 (φ := True) ?_ (by kernel_rfl) (by kernel_rfl)
  trivial
theorem entryPinned (p : Page) : GSpec Try.prog 40 [p.av] true (bool (pinnedB p)) [] := by
  refine gspec_of [] [] [] (by decide) Try.func40 (φ := True) ?_ (by kernel_rfl) (by kernel_rfl)
  trivial
theorem entryFree (p : Page) (c : Conf) : GSpec Try.prog 35 [p.av, c.av] true (bool (freeB p)) [] := by
  refine gspec_of [(7, [.br (freeB p)])] [] [] (by decide) Try.func35 (φ := (p.kind == (0 : Int) && (p.space == (0 : Int) && (p.used == (0 : Int) && p.pins == (0 : Int)))) = freeB p) ?_ (by kernel_rfl) (by kernel_rfl)
  rw [Bool.eq_iff_iff]; cases p; simp [freeB]
theorem entrySmall (p : Page) (c : Conf) : GSpec Try.prog 36 [p.av, c.av] true (bool (smallB p c)) [] := by
  refine gspec_of [(6, [.call true (bool (spacedB p)) []]), (9, [.call true (bool (pinnedB p)) []])] [] [] (by decide) Try.func36 (φ := GSpec Try.prog (39 : Nat) [AV.ag [int p.kind, int p.space, int p.used, int p.pins]] true (Sx.bool (spacedB p)) [] ∧ (spacedB p = true → GSpec Try.prog (40 : Nat) [AV.ag [int p.kind, int p.space, int p.used, int p.pins]] true (Sx.bool (pinnedB p)) [])) ?_ (by kernel_rfl) (by kernel_rfl)
  exact ⟨entrySpaced p, fun _ => entryPinned p⟩
theorem entryLarge (p : Page) (c : Conf) : GSpec Try.prog 37 [p.av, c.av] true (bool (largeB p c)) [] := by
  refine gspec_of [(6, [.call true (bool (spacedB p)) []]), (9, [.call true (bool (pinnedB p)) []]), (15, [.call true (int (need c p.used)) []])] [] [] (by decide) Try.func37 (φ := GSpec Try.prog (39 : Nat) [AV.ag [int p.kind, int p.space, int p.used, int p.pins]] true (Sx.bool (spacedB p)) [] ∧ (spacedB p = true → GSpec Try.prog (40 : Nat) [AV.ag [int p.kind, int p.space, int p.used, int p.pins]] true (Sx.bool (pinnedB p)) []) ∧ ((spacedB p && pinnedB p) = true → GSpec Try.prog (14 : Nat) [AV.ag [int c.pw, int c.pg], int p.used] true (int (need c p.used)) [])) ?_ (by kernel_rfl) (by kernel_rfl)
  exact ⟨entrySpaced p, fun _ => entryPinned p, fun _ => pageNeed c p.used⟩
theorem entryTail (p q : Page) : GSpec Try.prog 38 [p.av, q.av] true (bool (tailB p q)) [] := by
  refine gspec_of [(9, [.br (tailB p q)])] [] [] (by decide) Try.func38 (φ := (p.kind == (3 : Int) && (p.space == q.space && (p.used == (0 : Int) && p.pins == (0 : Int)))) = tailB p q) ?_ (by kernel_rfl) (by kernel_rfl)
  rw [Bool.eq_iff_iff]; cases p; simp [tailB]

/-! How many pages belong together -/
def tailsB (p : Page) (l : List Page) : Bool := l.all fun q => tailB q p
def spanN (c : Conf) (l : List Page) (i : Nat) : Nat := match l[i]? with
  | none => 0
  | some p =>
    if p.kind = 0 then (if freeB p = true then 1 else 0)
    else if p.kind = 1 then (if smallB p c = true then 1 else 0)
    else if p.kind = 2 then (if largeB p c = true then (if (need c p.used).toNat ≤ l.length - i ∧ tailsB p ((l.drop (i + 1)).take ((need c p.used).toNat - 1)) = true then (need c p.used).toNat else 0) else 0)
    else 0
theorem pages_at {l : List Page} {i : Nat} {p : Page} (h : l[i]? = some p) : (l.map Page.dv)[((i : Nat) : Int).toNat]? = some p.dv := by simp [h]


theorem pageSpan_off (c : Conf) (l : List Page) (i : Nat) (p : Page) (hp : l[i]? = some p) (hk : p.kind < 0 ∨ 3 ≤ p.kind) : GSpec Try.prog 34 [c.av, pagesV l, int i] true (int (spanN c l i)) [] := by
  have e : spanN c l i = 0 := by
    rw [spanN, hp]
    simp only
    rw [if_neg (by omega), if_neg (by omega), if_neg (by omega)]
  rw [e]
  refine gspec_of [(15, [.el p.dv]), (28, [.int 0]), (32, [.call true (bool (freeB p)) []]), (34, [.br true])] [] [] (by decide) Try.func34 (φ := ((0 : Int) ≤ (↑i : Int) ∧ (List.map Page.dv l)[(↑i : Int).toNat]? = some p.dv) ∧ ((!(decide (p.kind < (0 : Int)) || decide ((3 : Int) ≤ p.kind))) = true → p.kind = (0 : Int)) ∧ ((!(decide (p.kind < (0 : Int)) || decide ((3 : Int) ≤ p.kind))) = true → GSpec Try.prog (35 : Nat) [AV.ag [int p.kind, int p.space, int p.used, int p.pins], AV.ag [int c.pw, int c.pg]] true (Sx.bool (freeB p)) []) ∧ (decide (p.kind < (0 : Int)) || decide ((3 : Int) ≤ p.kind) || !freeB p) = true ∧ true = true) ?_ (by kernel_rfl) (by kernel_rfl)
  exact ⟨⟨by omega, pages_at hp⟩, fun h => by simp at h; omega, fun _ => entryFree p c, by simp; omega, rfl⟩
theorem pageSpan_free (c : Conf) (l : List Page) (i : Nat) (sp us pi : Int) (hp : l[i]? = some ⟨0, sp, us, pi⟩) : GSpec Try.prog 34 [c.av, pagesV l, int i] true (int (spanN c l i)) [] := by
  cases hf : freeB ⟨0, sp, us, pi⟩ with
  | true =>
    have e : spanN c l i = 1 := by
      rw [spanN, hp]
      simp [hf]
    rw [e]
    refine gspec_of [(15, [.el (Page.dv ⟨0, sp, us, pi⟩)]), (32, [.call true (bool (freeB ⟨0, sp, us, pi⟩)) []]), (34, [.br false])] [] [] (by decide) Try.func34 (φ := ((0 : Int) ≤ (↑i : Int) ∧ (List.map Page.dv l)[(↑i : Int).toNat]? = some (Page.mk (0 : Int) sp us pi).dv) ∧ ((!(decide ((Page.mk (0 : Int) sp us pi).kind < (0 : Int)) || decide ((3 : Int) ≤ (Page.mk (0 : Int) sp us pi).kind))) = true → GSpec Try.prog (35 : Nat) [AV.ag [int (Page.mk (0 : Int) sp us pi).kind, int (Page.mk (0 : Int) sp us pi).space, int (Page.mk (0 : Int) sp us pi).used, int (Page.mk (0 : Int) sp us pi).pins], AV.ag [int c.pw, int c.pg]] true (Sx.bool (freeB (Page.mk (0 : Int) sp us pi))) []) ∧ (decide ((Page.mk (0 : Int) sp us pi).kind < (0 : Int)) || decide ((3 : Int) ≤ (Page.mk (0 : Int) sp us pi).kind) || !freeB (Page.mk (0 : Int) sp us pi)) = false ∧ false = false) ?_ (by kernel_rfl) (by kernel_rfl)
    exact ⟨⟨by omega, pages_at hp⟩, fun _ => entryFree _ c, by simp [hf], rfl⟩
  | false =>
    have e : spanN c l i = 0 := by
      rw [spanN, hp]
      simp [hf]
    rw [e]
    refine gspec_of [(15, [.el (Page.dv ⟨0, sp, us, pi⟩)]), (32, [.call true (bool (freeB ⟨0, sp, us, pi⟩)) []]), (34, [.br true])] [] [] (by decide) Try.func34 (φ := ((0 : Int) ≤ (↑i : Int) ∧ (List.map Page.dv l)[(↑i : Int).toNat]? = some (Page.mk (0 : Int) sp us pi).dv) ∧ ((!(decide ((Page.mk (0 : Int) sp us pi).kind < (0 : Int)) || decide ((3 : Int) ≤ (Page.mk (0 : Int) sp us pi).kind))) = true → GSpec Try.prog (35 : Nat) [AV.ag [int (Page.mk (0 : Int) sp us pi).kind, int (Page.mk (0 : Int) sp us pi).space, int (Page.mk (0 : Int) sp us pi).used, int (Page.mk (0 : Int) sp us pi).pins], AV.ag [int c.pw, int c.pg]] true (Sx.bool (freeB (Page.mk (0 : Int) sp us pi))) []) ∧ (decide ((Page.mk (0 : Int) sp us pi).kind < (0 : Int)) || decide ((3 : Int) ≤ (Page.mk (0 : Int) sp us pi).kind) || !freeB (Page.mk (0 : Int) sp us pi)) = true ∧ true = true) ?_ (by kernel_rfl) (by kernel_rfl)
    exact ⟨⟨by omega, pages_at hp⟩, fun _ => entryFree _ c, by simp [hf], rfl⟩
theorem pageSpan_small (c : Conf) (l : List Page) (i : Nat) (sp us pi : Int) (hp : l[i]? = some ⟨1, sp, us, pi⟩) : GSpec Try.prog 34 [c.av, pagesV l, int i] true (int (spanN c l i)) [] := by
  cases hf : smallB ⟨1, sp, us, pi⟩ c with
  | true =>
    have e : spanN c l i = 1 := by
      rw [spanN, hp]
      simp [hf]
    rw [e]
    refine gspec_of [(15, [.el (Page.dv ⟨1, sp, us, pi⟩)]), (32, [.call true (bool (smallB ⟨1, sp, us, pi⟩ c)) []]), (34, [.br false])] [] [] (by decide) Try.func34 (φ := ((0 : Int) ≤ (↑i : Int) ∧ (List.map Page.dv l)[(↑i : Int).toNat]? = some (Page.mk (1 : Int) sp us pi).dv) ∧ ((!(decide ((Page.mk (1 : Int) sp us pi).kind < (0 : Int)) || decide ((3 : Int) ≤ (Page.mk (1 : Int) sp us pi).kind))) = true → GSpec Try.prog (36 : Nat) [AV.ag [int (Page.mk (1 : Int) sp us pi).kind, int (Page.mk (1 : Int) sp us pi).space, int (Page.mk (1 : Int) sp us pi).used, int (Page.mk (1 : Int) sp us pi).pins], AV.ag [int c.pw, int c.pg]] true (Sx.bool (smallB (Page.mk (1 : Int) sp us pi) c)) []) ∧ (decide ((Page.mk (1 : Int) sp us pi).kind < (0 : Int)) || decide ((3 : Int) ≤ (Page.mk (1 : Int) sp us pi).kind) || !smallB (Page.mk (1 : Int) sp us pi) c) = false ∧ false = false) ?_ (by kernel_rfl) (by kernel_rfl)
    exact ⟨⟨by omega, pages_at hp⟩, fun _ => entrySmall _ c, by simp [hf], rfl⟩
  | false =>
    have e : spanN c l i = 0 := by
      rw [spanN, hp]
      simp [hf]
    rw [e]
    refine gspec_of [(15, [.el (Page.dv ⟨1, sp, us, pi⟩)]), (32, [.call true (bool (smallB ⟨1, sp, us, pi⟩ c)) []]), (34, [.br true])] [] [] (by decide) Try.func34 (φ := ((0 : Int) ≤ (↑i : Int) ∧ (List.map Page.dv l)[(↑i : Int).toNat]? = some (Page.mk (1 : Int) sp us pi).dv) ∧ ((!(decide ((Page.mk (1 : Int) sp us pi).kind < (0 : Int)) || decide ((3 : Int) ≤ (Page.mk (1 : Int) sp us pi).kind))) = true → GSpec Try.prog (36 : Nat) [AV.ag [int (Page.mk (1 : Int) sp us pi).kind, int (Page.mk (1 : Int) sp us pi).space, int (Page.mk (1 : Int) sp us pi).used, int (Page.mk (1 : Int) sp us pi).pins], AV.ag [int c.pw, int c.pg]] true (Sx.bool (smallB (Page.mk (1 : Int) sp us pi) c)) []) ∧ (decide ((Page.mk (1 : Int) sp us pi).kind < (0 : Int)) || decide ((3 : Int) ≤ (Page.mk (1 : Int) sp us pi).kind) || !smallB (Page.mk (1 : Int) sp us pi) c) = true ∧ true = true) ?_ (by kernel_rfl) (by kernel_rfl)
    exact ⟨⟨by omega, pages_at hp⟩, fun _ => entrySmall _ c, by simp [hf], rfl⟩

/-! A large page -/
def spanL (p : Page) (s : List Page) (k : Nat) (j : Nat) : Tg := ⟨tm 66 [(6, int 0), (8, .pt 24008 0 0), (9, int k), (54, pagesV s), (55, int s.length), (56, int j)], [(24008, .box 60 [int p.kind, int p.space, int p.used, int p.pins])], 40⟩
theorem first_bad {α : Type} {f : α → Bool} : ∀ {l : List α}, l.all f = false → ∃ (j : Nat) (x : α), l[j]? = some x ∧ f x = false ∧ ∀ i : Nat, i < j → ∃ y : α, l[i]? = some y ∧ f y = true
  | [], h => by simp at h
  | a :: l, h => by
    cases ha : f a with
    | false => exact ⟨0, a, rfl, ha, fun i hi => by omega⟩
    | true =>
      have : l.all f = false := by simpa [ha] using h
      obtain ⟨j, x, h1, h2, h3⟩ := first_bad this
      refine ⟨j + 1, x, by simpa using h1, h2, fun i hi => ?_⟩
      cases i with
      | zero => exact ⟨a, rfl, ha⟩
      | succ i =>
        obtain ⟨y, h4, h5⟩ := h3 i (by omega)
        exact ⟨y, by simpa using h4, h5⟩

theorem spanRound (p : Page) (s : List Page) (k j : Nat) (q : Page) (hs : s.length ≤ 281474976710656) (hq : s[j]? = some q) (ht : tailB q p = true) : CSpec Try.prog (rndF Try.f34 0) (spanL p s k j).st .nrm (spanL p s k (j + 1)).st := by
  have hj : j < s.length := (List.getElem?_eq_some_iff.1 hq).1
  refine stretch [(57, [.br true]), (58, [.el q.dv]), (62, [.call true (bool (tailB q p)) []]), (63, [.br false]), (64, [.int ((j + 1 : Nat) : Int)])] [] (φ := decide ((↑j : Int) < (↑s.length : Int)) = true ∧ true = true ∧ ((0 : Int) ≤ (↑j : Int) ∧ (List.map Page.dv s)[(↑j : Int).toNat]? = some q.dv) ∧ GSpec Try.prog (38 : Nat) [AV.ag [int q.kind, int q.space, int q.used, int q.pins], AV.ag [int p.kind, int p.space, int p.used, int p.pins]] true (Sx.bool (tailB q p)) [] ∧ (!tailB q p) = false ∧ false = false ∧ IntKind.i64.wrap ((↑j : Int) + (1 : Int)) = (↑(j + (1 : Nat)) : Int)) ?_ (by kernel_rfl) (by kernel_rfl) (by kernel_rfl)
  exact ⟨decide_eq_true (by omega), rfl, ⟨by omega, pages_at hq⟩, entryTail q p, by simp [ht], rfl, wrapI (by omega) (by omega)⟩
theorem spanRound_bad (p : Page) (s : List Page) (k j : Nat) (q : Page) (hq : s[j]? = some q) (ht : tailB q p = false) : CSpec Try.prog (rndF Try.f34 0) (spanL p s k j).st .ret (Tg.st ⟨tm 66 [(6, int 0)], [], 60⟩) := by
  have hj : j < s.length := (List.getElem?_eq_some_iff.1 hq).1
  refine stretch [(57, [.br true]), (58, [.el q.dv]), (62, [.call true (bool (tailB q p)) []]), (63, [.br true])] [] (φ := decide ((↑j : Int) < (↑s.length : Int)) = true ∧ true = true ∧ ((0 : Int) ≤ (↑j : Int) ∧ (List.map Page.dv s)[(↑j : Int).toNat]? = some q.dv) ∧ GSpec Try.prog (38 : Nat) [AV.ag [int q.kind, int q.space, int q.used, int q.pins], AV.ag [int p.kind, int p.space, int p.used, int p.pins]] true (Sx.bool (tailB q p)) [] ∧ (!tailB q p) = true ∧ true = true) ?_ (by kernel_rfl) (by kernel_rfl) (by kernel_rfl)
  exact ⟨decide_eq_true (by omega), rfl, ⟨by omega, pages_at hq⟩, entryTail q p, by simp [ht], rfl⟩
theorem spanRound_end (p : Page) (s : List Page) (k : Nat) : CSpec Try.prog (rndF Try.f34 0) (spanL p s k s.length).st (.ext 0) (Tg.st ⟨tm 66 [(9, int k)], [], 60⟩) := by
  refine stretch [(57, [.br false])] [] (φ := decide ((↑s.length : Int) < (↑s.length : Int)) = false ∧ false = false) ?_ (by kernel_rfl) (by kernel_rfl) (by kernel_rfl)
  exact ⟨decide_eq_false (by omega), rfl⟩

set_option maxRecDepth 100000 in
theorem pageSpan_large (c : Conf) (l : List Page) (hl : l.length ≤ 281474976710656) (i : Nat) (sp us pi : Int) (hp : l[i]? = some ⟨2, sp, us, pi⟩) : GSpec Try.prog 34 [c.av, pagesV l, int i] true (int (spanN c l i)) [] := by
  have hi : i < l.length := (List.getElem?_eq_some_iff.1 hp).1
  cases hf : largeB ⟨2, sp, us, pi⟩ c with
  | false =>
    have e : spanN c l i = 0 := by
      rw [spanN, hp]
      simp [hf]
    rw [e]
    refine gspec_of [(15, [.el (Page.dv ⟨2, sp, us, pi⟩)]), (32, [.call true (bool (largeB ⟨2, sp, us, pi⟩ c)) []]), (34, [.br true])] [] [] (by decide) Try.func34 (φ := ((0 : Int) ≤ (↑i : Int) ∧ (List.map Page.dv l)[(↑i : Int).toNat]? = some (Page.mk (2 : Int) sp us pi).dv) ∧ ((!(decide ((Page.mk (2 : Int) sp us pi).kind < (0 : Int)) || decide ((3 : Int) ≤ (Page.mk (2 : Int) sp us pi).kind))) = true → GSpec Try.prog (37 : Nat) [AV.ag [int (Page.mk (2 : Int) sp us pi).kind, int (Page.mk (2 : Int) sp us pi).space, int (Page.mk (2 : Int) sp us pi).used, int (Page.mk (2 : Int) sp us pi).pins], AV.ag [int c.pw, int c.pg]] true (Sx.bool (largeB (Page.mk (2 : Int) sp us pi) c)) []) ∧ (decide ((Page.mk (2 : Int) sp us pi).kind < (0 : Int)) || decide ((3 : Int) ≤ (Page.mk (2 : Int) sp us pi).kind) || !largeB (Page.mk (2 : Int) sp us pi) c) = true ∧ true = true) ?_ (by kernel_rfl) (by kernel_rfl)
    exact ⟨⟨by omega, pages_at hp⟩, fun _ => entryLarge _ c, by simp [hf], rfl⟩
  | true =>
    have hn : 1 ≤ need c us := by
      simp [largeB] at hf
      exact hf.2
    obtain ⟨k, hk⟩ : ∃ k : Nat, need c us = k := ⟨(need c us).toNat, by omega⟩
    have hk1 : 1 ≤ k := by omega
    by_cases hfit : k ≤ l.length - i
    · have hsl : ((l.drop (i + 1)).take (k - 1)).length ≤ 281474976710656 := by rw [List.length_take, List.length_drop]; omega
      have hsub : List.take (((i + k : Nat) : Int).toNat - ((i + 1 : Nat) : Int).toNat) (List.drop ((i + 1 : Nat) : Int).toNat (List.map Page.dv l)) = List.map Page.dv (List.take (k - 1) (List.drop (i + 1) l)) := by
        rw [List.map_take, List.map_drop]
        congr 1
        simp only [Int.toNat_natCast]
        omega
      cases ht : tailsB ⟨2, sp, us, pi⟩ ((l.drop (i + 1)).take (k - 1)) with
      | true =>
        have e : spanN c l i = k := by
          rw [spanN, hp]
          simp [hf, hk, ht, hfit]
        rw [e]
        refine gspec_of [(15, [.el (Page.dv ⟨2, sp, us, pi⟩)]), (32, [.call true (bool (largeB ⟨2, sp, us, pi⟩ c)) []]), (34, [.br false]), (41, [.call true (int k) []]), (46, [.int ((l.length : Int) - i)]), (47, [.br false]), (50, [.int ((i + 1 : Nat) : Int)]), (53, [.int ((i + k : Nat) : Int)]), (54, [.els (((l.drop (i + 1)).take (k - 1)).map Page.dv)]), (55, [.int ((l.drop (i + 1)).take (k - 1)).length])] [(0, spanL ⟨2, sp, us, pi⟩ ((l.drop (i + 1)).take (k - 1)) k 0, .nrm, ⟨tm 66 [(9, int k)], [], 60⟩)] [] (by decide) Try.func34 (φ := ((0 : Int) ≤ (↑i : Int) ∧ (List.map Page.dv l)[(↑i : Int).toNat]? = some (Page.mk (2 : Int) sp us pi).dv) ∧ ((!(decide ((Page.mk (2 : Int) sp us pi).kind < (0 : Int)) || decide ((3 : Int) ≤ (Page.mk (2 : Int) sp us pi).kind))) = true → GSpec Try.prog (37 : Nat) [AV.ag [int (Page.mk (2 : Int) sp us pi).kind, int (Page.mk (2 : Int) sp us pi).space, int (Page.mk (2 : Int) sp us pi).used, int (Page.mk (2 : Int) sp us pi).pins], AV.ag [int c.pw, int c.pg]] true (Sx.bool (largeB (Page.mk (2 : Int) sp us pi) c)) []) ∧ (decide ((Page.mk (2 : Int) sp us pi).kind < (0 : Int)) || decide ((3 : Int) ≤ (Page.mk (2 : Int) sp us pi).kind) || !largeB (Page.mk (2 : Int) sp us pi) c) = false ∧ false = false ∧ GSpec Try.prog (14 : Nat) [AV.ag [int c.pw, int c.pg], int (Page.mk (2 : Int) sp us pi).used] true (int (↑k : Int)) [] ∧ IntKind.i64.wrap ((↑(List.map Page.dv l).length : Int) - (↑i : Int)) = (↑l.length : Int) - (↑i : Int) ∧ decide ((↑l.length : Int) - (↑i : Int) < (↑k : Int)) = false ∧ false = false ∧ IntKind.i64.wrap ((↑i : Int) + (1 : Int)) = (↑(i + (1 : Nat)) : Int) ∧ IntKind.i64.wrap ((↑i : Int) + (↑k : Int)) = (↑(i + k) : Int) ∧ ((0 : Int) ≤ (↑(i + (1 : Nat)) : Int) ∧ (↑(i + (1 : Nat)) : Int) ≤ (↑(i + k) : Int) ∧ (↑(i + k) : Int) ≤ (↑(List.map Page.dv l).length : Int)) ∧ List.take ((↑(i + k) : Int).toNat - (↑(i + (1 : Nat)) : Int).toNat) (List.drop (↑(i + (1 : Nat)) : Int).toNat (List.map Page.dv l)) = List.map Page.dv (List.take (k - (1 : Nat)) (List.drop (i + (1 : Nat)) l)) ∧ (↑(List.map Page.dv (List.take (k - (1 : Nat)) (List.drop (i + (1 : Nat)) l))).length : Int) = (↑(List.take (k - (1 : Nat)) (List.drop (i + (1 : Nat)) l)).length : Int) ∧ CSpec Try.prog (blkF Try.f34 (0 : Nat)) (spanL (Page.mk (2 : Int) sp us pi) (List.take (k - (1 : Nat)) (List.drop (i + (1 : Nat)) l)) k (0 : Nat)).st Ex.nrm (Tg.mk (tm (66 : Nat) [((9 : Nat), int (↑k : Int))]) [] (60 : Nat)).st) ?_ (by kernel_rfl) (by kernel_rfl)
        refine ⟨⟨by omega, pages_at hp⟩, fun _ => entryLarge _ c, by simp [hf], rfl, hk ▸ pageNeed c us, by rw [List.length_map]; exact wrapI (by omega) (by omega), decide_eq_false (by omega), rfl, wrapI (by omega) (by omega), wrapI (by omega) (by omega), by rw [List.length_map]; omega, hsub, by rw [List.length_map], ?_⟩
        have hall := List.all_eq_true.1 ht
        refine loop_ext_of (S := fun j => (spanL ⟨2, sp, us, pi⟩ ((l.drop (i + 1)).take (k - 1)) k j).st) ((l.drop (i + 1)).take (k - 1)).length (by kernel_rfl) (fun j hj => ?_) (spanRound_end _ _ _)
        exact spanRound _ _ _ j _ hsl (List.getElem?_eq_getElem hj) (hall _ (List.getElem_mem hj))
      | false =>
        have e : spanN c l i = 0 := by
          rw [spanN, hp]
          simp [hf, hk, ht]
        rw [e]
        refine gspec_of [(15, [.el (Page.dv ⟨2, sp, us, pi⟩)]), (32, [.call true (bool (largeB ⟨2, sp, us, pi⟩ c)) []]), (34, [.br false]), (41, [.call true (int k) []]), (46, [.int ((l.length : Int) - i)]), (47, [.br false]), (50, [.int ((i + 1 : Nat) : Int)]), (53, [.int ((i + k : Nat) : Int)]), (54, [.els (((l.drop (i + 1)).take (k - 1)).map Page.dv)]), (55, [.int ((l.drop (i + 1)).take (k - 1)).length])] [(0, spanL ⟨2, sp, us, pi⟩ ((l.drop (i + 1)).take (k - 1)) k 0, .ret, ⟨tm 66 [(6, int 0)], [], 60⟩)] [] (by decide) Try.func34 (φ := ((0 : Int) ≤ (↑i : Int) ∧ (List.map Page.dv l)[(↑i : Int).toNat]? = some (Page.mk (2 : Int) sp us pi).dv) ∧ ((!(decide ((Page.mk (2 : Int) sp us pi).kind < (0 : Int)) || decide ((3 : Int) ≤ (Page.mk (2 : Int) sp us pi).kind))) = true → GSpec Try.prog (37 : Nat) [AV.ag [int (Page.mk (2 : Int) sp us pi).kind, int (Page.mk (2 : Int) sp us pi).space, int (Page.mk (2 : Int) sp us pi).used, int (Page.mk (2 : Int) sp us pi).pins], AV.ag [int c.pw, int c.pg]] true (Sx.bool (largeB (Page.mk (2 : Int) sp us pi) c)) []) ∧ (decide ((Page.mk (2 : Int) sp us pi).kind < (0 : Int)) || decide ((3 : Int) ≤ (Page.mk (2 : Int) sp us pi).kind) || !largeB (Page.mk (2 : Int) sp us pi) c) = false ∧ false = false ∧ GSpec Try.prog (14 : Nat) [AV.ag [int c.pw, int c.pg], int (Page.mk (2 : Int) sp us pi).used] true (int (↑k : Int)) [] ∧ IntKind.i64.wrap ((↑(List.map Page.dv l).length : Int) - (↑i : Int)) = (↑l.length : Int) - (↑i : Int) ∧ decide ((↑l.length : Int) - (↑i : Int) < (↑k : Int)) = false ∧ false = false ∧ IntKind.i64.wrap ((↑i : Int) + (1 : Int)) = (↑(i + (1 : Nat)) : Int) ∧ IntKind.i64.wrap ((↑i : Int) + (↑k : Int)) = (↑(i + k) : Int) ∧ ((0 : Int) ≤ (↑(i + (1 : Nat)) : Int) ∧ (↑(i + (1 : Nat)) : Int) ≤ (↑(i + k) : Int) ∧ (↑(i + k) : Int) ≤ (↑(List.map Page.dv l).length : Int)) ∧ List.take ((↑(i + k) : Int).toNat - (↑(i + (1 : Nat)) : Int).toNat) (List.drop (↑(i + (1 : Nat)) : Int).toNat (List.map Page.dv l)) = List.map Page.dv (List.take (k - (1 : Nat)) (List.drop (i + (1 : Nat)) l)) ∧ (↑(List.map Page.dv (List.take (k - (1 : Nat)) (List.drop (i + (1 : Nat)) l))).length : Int) = (↑(List.take (k - (1 : Nat)) (List.drop (i + (1 : Nat)) l)).length : Int) ∧ CSpec Try.prog (blkF Try.f34 (0 : Nat)) (spanL (Page.mk (2 : Int) sp us pi) (List.take (k - (1 : Nat)) (List.drop (i + (1 : Nat)) l)) k (0 : Nat)).st Ex.ret (Tg.mk (tm (66 : Nat) [((6 : Nat), int (0 : Int))]) [] (60 : Nat)).st) ?_ (by kernel_rfl) (by kernel_rfl)
        refine ⟨⟨by omega, pages_at hp⟩, fun _ => entryLarge _ c, by simp [hf], rfl, hk ▸ pageNeed c us, by rw [List.length_map]; exact wrapI (by omega) (by omega), decide_eq_false (by omega), rfl, wrapI (by omega) (by omega), wrapI (by omega) (by omega), by rw [List.length_map]; omega, hsub, by rw [List.length_map], ?_⟩
        obtain ⟨n, x, h1, h2, h3⟩ := first_bad ht
        refine loop_ret_of (S := fun j => (spanL ⟨2, sp, us, pi⟩ ((l.drop (i + 1)).take (k - 1)) k j).st) n (by kernel_rfl) (fun j hj => ?_) (spanRound_bad _ _ _ n x h1 h2)
        obtain ⟨y, h4, h5⟩ := h3 j hj
        exact spanRound _ _ _ j y hsl h4 h5
    · have e : spanN c l i = 0 := by
        rw [spanN, hp]
        simp [hf, hk, hfit]
      rw [e]
      refine gspec_of [(15, [.el (Page.dv ⟨2, sp, us, pi⟩)]), (32, [.call true (bool (largeB ⟨2, sp, us, pi⟩ c)) []]), (34, [.br false]), (41, [.call true (int k) []]), (46, [.int ((l.length : Int) - i)]), (47, [.br true])] [] [] (by decide) Try.func34 (φ := ((0 : Int) ≤ (↑i : Int) ∧ (List.map Page.dv l)[(↑i : Int).toNat]? = some (Page.mk (2 : Int) sp us pi).dv) ∧ ((!(decide ((Page.mk (2 : Int) sp us pi).kind < (0 : Int)) || decide ((3 : Int) ≤ (Page.mk (2 : Int) sp us pi).kind))) = true → GSpec Try.prog (37 : Nat) [AV.ag [int (Page.mk (2 : Int) sp us pi).kind, int (Page.mk (2 : Int) sp us pi).space, int (Page.mk (2 : Int) sp us pi).used, int (Page.mk (2 : Int) sp us pi).pins], AV.ag [int c.pw, int c.pg]] true (Sx.bool (largeB (Page.mk (2 : Int) sp us pi) c)) []) ∧ (decide ((Page.mk (2 : Int) sp us pi).kind < (0 : Int)) || decide ((3 : Int) ≤ (Page.mk (2 : Int) sp us pi).kind) || !largeB (Page.mk (2 : Int) sp us pi) c) = false ∧ false = false ∧ GSpec Try.prog (14 : Nat) [AV.ag [int c.pw, int c.pg], int (Page.mk (2 : Int) sp us pi).used] true (int (↑k : Int)) [] ∧ IntKind.i64.wrap ((↑(List.map Page.dv l).length : Int) - (↑i : Int)) = (↑l.length : Int) - (↑i : Int) ∧ decide ((↑l.length : Int) - (↑i : Int) < (↑k : Int)) = true ∧ true = true) ?_ (by kernel_rfl) (by kernel_rfl)
      exact ⟨⟨by omega, pages_at hp⟩, fun _ => entryLarge _ c, by simp [hf], rfl, hk ▸ pageNeed c us, by rw [List.length_map]; exact wrapI (by omega) (by omega), decide_eq_true (by omega), rfl⟩

theorem pageSpan (c : Conf) (l : List Page) (hl : l.length ≤ 281474976710656) (i : Nat) (hi : i < l.length) : GSpec Try.prog 34 [c.av, pagesV l, int i] true (int (spanN c l i)) [] := by
  obtain ⟨p, hp⟩ : ∃ p, l[i]? = some p := ⟨l[i], List.getElem?_eq_getElem hi⟩
  obtain ⟨kd, sp, us, pi⟩ := p
  by_cases h0 : kd = 0
  · subst h0; exact pageSpan_free c l i sp us pi hp
  by_cases h1 : kd = 1
  · subst h1; exact pageSpan_small c l i sp us pi hp
  by_cases h2 : kd = 2
  · subst h2; exact pageSpan_large c l hl i sp us pi hp
  · exact pageSpan_off c l i _ hp (by simp only; omega)
end Go.Proofs.Ytkeimadhboefbaa
