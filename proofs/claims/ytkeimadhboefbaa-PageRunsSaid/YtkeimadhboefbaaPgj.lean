/-
  Layer 4 of the program: pages in use, the first run that is long enough; the law PageRuns.
  Conditions: none.
-/
import Derived.Test.YtkeimadhboefbaaPgi
namespace Go.Proofs.Ytkeimadhboefbaa
open Go.Sx

def inUseN (l : List Page) : Nat → Nat
  | 0 => 0
  | i + 1 => inUseN l i + (if (pageAt l i).kind = 0 then 0 else 1)
theorem inUseN_le (l : List Page) : ∀ i, inUseN l i ≤ i
  | 0 => Nat.le_refl _
  | i + 1 => by
    have := inUseN_le l i
    simp only [inUseN]
    split <;> omega
def inUse (l : List Page) : Nat := inUseN l l.length

def inUseL (l : List Page) (i : Nat) : Tg := ⟨tm 19 [(3, int (inUseN l i)), (6, pagesV l), (7, int l.length), (8, int i)], [], 20⟩
set_option maxRecDepth 100000 in
theorem inUseRound (l : List Page) (hl : l.length ≤ 1048576) (i : Nat) (hi : i < l.length) : CSpec Try.prog (rndF Try.f24 0) (inUseL l i).st .nrm (inUseL l (i + 1)).st := by
  have hp := List.getElem?_eq_getElem hi
  have hle := inUseN_le l i
  have hpa : pageAt l i = l[i] := by simp [pageAt, hp]
  by_cases hk : l[i].kind = 0
  · have e : inUseN l (i + 1) = inUseN l i := by rw [inUseN, hpa, if_pos hk]; rfl
    rw [show inUseL l (i + 1) = ⟨tm 19 [(3, int (inUseN l i)), (6, pagesV l), (7, int l.length), (8, int ((i + 1 : Nat) : Int))], [], 20⟩ from by rw [inUseL, e]]
    refine stretch [(9, [.br true]), (10, [.el l[i].dv]), (14, [.br false]), (17, [.int ((i + 1 : Nat) : Int)])] [] (φ := decide ((↑i : Int) < (↑l.length : Int)) = true ∧ true = true ∧ ((0 : Int) ≤ (↑i : Int) ∧ (List.map Page.dv l)[(↑i : Int).toNat]? = some (l.get (Fin.mk i hi)).dv) ∧ ((l.get (Fin.mk i hi)).kind != (0 : Int)) = false ∧ false = false ∧ IntKind.i64.wrap ((↑i : Int) + (1 : Int)) = (↑(i + (1 : Nat)) : Int)) ?_ (by kernel_rfl) (by kernel_rfl) (by kernel_rfl)
    exact ⟨decide_eq_true (by omega), rfl, ⟨by omega, pages_at hp⟩, by simp [hk], rfl, wrapI (by omega) (by omega)⟩
  · have e : inUseN l (i + 1) = inUseN l i + 1 := by rw [inUseN, hpa, if_neg hk]
    refine stretch [(9, [.br true]), (10, [.el l[i].dv]), (14, [.br true]), (16, [.int (inUseN l (i + 1))]), (17, [.int ((i + 1 : Nat) : Int)])] [] (φ := decide ((↑i : Int) < (↑l.length : Int)) = true ∧ true = true ∧ ((0 : Int) ≤ (↑i : Int) ∧ (List.map Page.dv l)[(↑i : Int).toNat]? = some (l.get (Fin.mk i hi)).dv) ∧ ((l.get (Fin.mk i hi)).kind != (0 : Int)) = true ∧ true = true ∧ IntKind.i64.wrap ((↑(inUseN l i) : Int) + (1 : Int)) = (↑(inUseN l (i + (1 : Nat))) : Int) ∧ IntKind.i64.wrap ((↑i : Int) + (1 : Int)) = (↑(i + (1 : Nat)) : Int)) ?_ (by kernel_rfl) (by kernel_rfl) (by kernel_rfl)
    exact ⟨decide_eq_true (by omega), rfl, ⟨by omega, pages_at hp⟩, by simp [hk], rfl, by rw [e]; exact wrapI (by omega) (by omega), wrapI (by omega) (by omega)⟩
set_option maxRecDepth 100000 in
theorem inUseEnd (l : List Page) : CSpec Try.prog (rndF Try.f24 0) (inUseL l l.length).st (.ext 0) (Tg.st ⟨tm 19 [(3, int (inUse l))], [], 60⟩) := by
  refine stretch [(9, [.br false])] [] (φ := decide ((↑l.length : Int) < (↑l.length : Int)) = false ∧ false = false) ?_ (by kernel_rfl) (by kernel_rfl) (by kernel_rfl)
  exact ⟨decide_eq_false (by omega), rfl⟩
set_option maxRecDepth 100000 in
theorem pageInUse (l : List Page) (hl : l.length ≤ 1048576) : GSpec Try.prog 24 [pagesV l] true (int (inUse l)) [] := by
  refine gspec_of [(7, [.int l.length])] [(0, inUseL l 0, .nrm, ⟨tm 19 [(3, int (inUse l))], [], 60⟩)] [] (by decide) Try.func24 (φ := (↑(List.map Page.dv l).length : Int) = (↑l.length : Int) ∧ CSpec Try.prog (blkF Try.f24 (0 : Nat)) (inUseL l (0 : Nat)).st Ex.nrm (Tg.mk (tm (19 : Nat) [((3 : Nat), int (↑(inUse l) : Int))]) [] (60 : Nat)).st) ?_ (by kernel_rfl) (by kernel_rfl)
  exact ⟨by rw [List.length_map], loop_ext_of (S := fun i => (inUseL l i).st) l.length (by kernel_rfl) (fun i hi => inUseRound l hl i hi) (inUseEnd l)⟩

def rinUseL (l : List Page) (i : Nat) : Tg := ⟨tm 20 [(0, pagesV l), (3, int (inUseN l i)), (4, int i)], [], 20⟩
set_option maxRecDepth 100000 in
theorem rinUseRound (l : List Page) (hl : l.length ≤ 1048576) (i : Nat) (hi : i < l.length) : CSpec Try.prog (rndF Try.f25 0) (rinUseL l i).st .nrm (rinUseL l (i + 1)).st := by
  have hp := List.getElem?_eq_getElem hi
  have hle := inUseN_le l i
  have hpa : pageAt l i = l[i] := by simp [pageAt, hp]
  by_cases hk : l[i].kind = 0
  · have e : inUseN l (i + 1) = inUseN l i := by rw [inUseN, hpa, if_pos hk]; rfl
    rw [show rinUseL l (i + 1) = ⟨tm 20 [(0, pagesV l), (3, int (inUseN l i)), (4, int ((i + 1 : Nat) : Int))], [], 20⟩ from by rw [rinUseL, e]]
    refine stretch [(7, [.int l.length]), (8, [.br true]), (13, [.el l[i].dv]), (16, [.br false]), (10, [.int ((i + 1 : Nat) : Int)])] [] (φ := (↑(List.map Page.dv l).length : Int) = (↑l.length : Int) ∧ decide ((↑i : Int) < (↑l.length : Int)) = true ∧ true = true ∧ ((0 : Int) ≤ (↑i : Int) ∧ (List.map Page.dv l)[(↑i : Int).toNat]? = some (l.get (Fin.mk i hi)).dv) ∧ ((l.get (Fin.mk i hi)).kind != (0 : Int)) = false ∧ false = false ∧ IntKind.i64.wrap ((↑i : Int) + (1 : Int)) = (↑(i + (1 : Nat)) : Int)) ?_ (by kernel_rfl) (by kernel_rfl) (by kernel_rfl)
    exact ⟨by rw [List.length_map], decide_eq_true (by omega), rfl, ⟨by omega, pages_at hp⟩, by simp [hk], rfl, wrapI (by omega) (by omega)⟩
  · have e : inUseN l (i + 1) = inUseN l i + 1 := by rw [inUseN, hpa, if_neg hk]
    refine stretch [(7, [.int l.length]), (8, [.br true]), (13, [.el l[i].dv]), (16, [.br true]), (18, [.int (inUseN l (i + 1))]), (10, [.int ((i + 1 : Nat) : Int)])] [] (φ := (↑(List.map Page.dv l).length : Int) = (↑l.length : Int) ∧ decide ((↑i : Int) < (↑l.length : Int)) = true ∧ true = true ∧ ((0 : Int) ≤ (↑i : Int) ∧ (List.map Page.dv l)[(↑i : Int).toNat]? = some (l.get (Fin.mk i hi)).dv) ∧ ((l.get (Fin.mk i hi)).kind != (0 : Int)) = true ∧ true = true ∧ IntKind.i64.wrap ((↑(inUseN l i) : Int) + (1 : Int)) = (↑(inUseN l (i + (1 : Nat))) : Int) ∧ IntKind.i64.wrap ((↑i : Int) + (1 : Int)) = (↑(i + (1 : Nat)) : Int)) ?_ (by kernel_rfl) (by kernel_rfl) (by kernel_rfl)
    exact ⟨by rw [List.length_map], decide_eq_true (by omega), rfl, ⟨by omega, pages_at hp⟩, by simp [hk], rfl, by rw [e]; exact wrapI (by omega) (by omega), wrapI (by omega) (by omega)⟩
set_option maxRecDepth 100000 in
theorem rinUseEnd (l : List Page) : CSpec Try.prog (rndF Try.f25 0) (rinUseL l l.length).st (.ext 0) (Tg.st ⟨tm 20 [(3, int (inUse l))], [], 60⟩) := by
  refine stretch [(7, [.int l.length]), (8, [.br false])] [] (φ := (↑(List.map Page.dv l).length : Int) = (↑l.length : Int) ∧ decide ((↑l.length : Int) < (↑l.length : Int)) = false ∧ false = false) ?_ (by kernel_rfl) (by kernel_rfl) (by kernel_rfl)
  exact ⟨by rw [List.length_map], decide_eq_false (by omega), rfl⟩
set_option maxRecDepth 100000 in
theorem refInUse (l : List Page) (hl : l.length ≤ 1048576) : GSpec Try.prog 25 [pagesV l] true (int (inUse l)) [] := by
  refine gspec_of [] [(0, rinUseL l 0, .nrm, ⟨tm 20 [(3, int (inUse l))], [], 60⟩)] [] (by decide) Try.func25 (φ := CSpec Try.prog (blkF Try.f25 (0 : Nat)) (rinUseL l (0 : Nat)).st Ex.nrm (Tg.mk (tm (20 : Nat) [((3 : Nat), int (↑(inUse l) : Int))]) [] (60 : Nat)).st) ?_ (by kernel_rfl) (by kernel_rfl)
  exact loop_ext_of (S := fun i => (rinUseL l i).st) l.length (by kernel_rfl) (fun i hi => rinUseRound l hl i hi) (rinUseEnd l)

/-! The first run that is long enough -/
def firstOf : List Run → Int → Int
  | [], _ => -1
  | r :: l, k => if k ≤ r.len then r.frm else firstOf l k
def first (l : List Page) (k : Int) : Int := if k < 1 then -1 else firstOf (runs l) k
theorem firstOf_none : ∀ {l : List Run} {k : Int}, (l.all fun r => decide (r.len < k)) = true → firstOf l k = -1
  | [], _, _ => rfl
  | r :: l, k, h => by
    simp only [List.all_cons, Bool.and_eq_true, decide_eq_true_eq] at h
    rw [firstOf, if_neg (by omega), firstOf_none h.2]
theorem firstOf_some : ∀ {l : List Run} {k : Int} {j : Nat} {r : Run}, l[j]? = some r → k ≤ r.len → (∀ i : Nat, i < j → ∃ y, l[i]? = some y ∧ decide (y.len < k) = true) → firstOf l k = r.frm
  | [], _, _, _, h, _, _ => by simp at h
  | x :: l, k, 0, r, h, hr, _ => by
    simp at h; subst h
    rw [firstOf, if_pos hr]
  | x :: l, k, j + 1, r, h, hr, hb => by
    obtain ⟨y, h1, h2⟩ := hb 0 (by omega)
    simp at h1 h2; subst h1
    rw [firstOf, if_neg (by omega)]
    exact firstOf_some (by simpa using h) hr fun i hi => by
      obtain ⟨z, h3, h4⟩ := hb (i + 1) (by omega)
      exact ⟨z, by simpa using h3, h4⟩
theorem runs_len {l : List Page} : (runs l).length ≤ l.length := (runsUp_ok l l.length).1

def firstL (rs : List Run) (k : Int) (i : Nat) : Tg := ⟨tm 23 [(1, int k), (4, int 0), (10, runsV rs), (11, int rs.length), (12, int i)], [], 20⟩
set_option maxRecDepth 100000 in
theorem firstRound (rs : List Run) (k : Int) (i : Nat) (r : Run) (hl : rs.length ≤ 1048576) (hr : rs[i]? = some r) (hk : r.len < k) : CSpec Try.prog (rndF Try.f29 0) (firstL rs k i).st .nrm (firstL rs k (i + 1)).st := by
  have hi : i < rs.length := (List.getElem?_eq_some_iff.1 hr).1
  refine stretch [(13, [.br true]), (14, [.el r.dv]), (19, [.br false]), (22, [.int ((i + 1 : Nat) : Int)])] [] (φ := decide ((↑i : Int) < (↑rs.length : Int)) = true ∧ true = true ∧ ((0 : Int) ≤ (↑i : Int) ∧ (List.map Run.dv rs)[(↑i : Int).toNat]? = some r.dv) ∧ decide (k ≤ r.len) = false ∧ false = false ∧ IntKind.i64.wrap ((↑i : Int) + (1 : Int)) = (↑(i + (1 : Nat)) : Int)) ?_ (by kernel_rfl) (by kernel_rfl) (by kernel_rfl)
  exact ⟨decide_eq_true (by omega), rfl, ⟨by omega, runs_at hr⟩, decide_eq_false (by omega), rfl, wrapI (by omega) (by omega)⟩
set_option maxRecDepth 100000 in
theorem firstFound (rs : List Run) (k : Int) (i : Nat) (r : Run) (hr : rs[i]? = some r) (hk : k ≤ r.len) : CSpec Try.prog (rndF Try.f29 0) (firstL rs k i).st .ret (Tg.st ⟨tm 23 [(4, int r.frm)], [], 60⟩) := by
  have hi : i < rs.length := (List.getElem?_eq_some_iff.1 hr).1
  refine stretch [(13, [.br true]), (14, [.el r.dv]), (19, [.br true])] [] (φ := decide ((↑i : Int) < (↑rs.length : Int)) = true ∧ true = true ∧ ((0 : Int) ≤ (↑i : Int) ∧ (List.map Run.dv rs)[(↑i : Int).toNat]? = some r.dv) ∧ decide (k ≤ r.len) = true ∧ true = true) ?_ (by kernel_rfl) (by kernel_rfl) (by kernel_rfl)
  exact ⟨decide_eq_true (by omega), rfl, ⟨by omega, runs_at hr⟩, decide_eq_true (by omega), rfl⟩
set_option maxRecDepth 100000 in
theorem firstEnd (rs : List Run) (k : Int) : CSpec Try.prog (rndF Try.f29 0) (firstL rs k rs.length).st (.ext 0) (Tg.st ⟨tm 23 [], [], 60⟩) := by
  refine stretch [(13, [.br false])] [] (φ := decide ((↑rs.length : Int) < (↑rs.length : Int)) = false ∧ false = false) ?_ (by kernel_rfl) (by kernel_rfl) (by kernel_rfl)
  exact ⟨decide_eq_false (by omega), rfl⟩
set_option maxRecDepth 100000 in
theorem pageFirst (l : List Page) (k : Int) (hl : l.length ≤ 1048576) : GSpec Try.prog 29 [pagesV l, int k] true (int (first l k)) [] := by
  by_cases hk : k < 1
  · rw [first, if_pos hk]
    refine gspec_of [(8, [.br true])] [] [] (by decide) Try.func29 (φ := decide (k < (1 : Int)) = true ∧ true = true) ?_ (by kernel_rfl) (by kernel_rfl)
    exact ⟨decide_eq_true hk, rfl⟩
  · rw [first, if_neg hk]
    have hrl := runs_len (l := l)
    cases ha : (runs l).all fun r => decide (r.len < k) with
    | true =>
      rw [firstOf_none ha]
      refine gspec_of [(8, [.br false]), (10, [.call false (runsV (runs l)) []]), (11, [.int (runs l).length])] [(0, firstL (runs l) k 0, .nrm, ⟨tm 23 [], [], 60⟩)] [] (by decide) Try.func29 (φ := decide (k < (1 : Int)) = false ∧ false = false ∧ GSpec Try.prog (27 : Nat) [AV.d (DV.sl (4 : Nat) (List.map Page.dv l))] false (runsV (runs l)) [] ∧ (↑(List.map Run.dv (runs l)).length : Int) = (↑(runs l).length : Int) ∧ CSpec Try.prog (blkF Try.f29 (0 : Nat)) (firstL (runs l) k (0 : Nat)).st Ex.nrm (Tg.mk (tm (23 : Nat) []) [] (60 : Nat)).st) ?_ (by kernel_rfl) (by kernel_rfl)
      refine ⟨decide_eq_false hk, rfl, pageRuns l hl, by rw [List.length_map], loop_ext_of (S := fun i => (firstL (runs l) k i).st) (runs l).length (by kernel_rfl) (fun i hi => ?_) (firstEnd _ _)⟩
      have := List.all_eq_true.1 ha _ (List.getElem_mem hi)
      exact firstRound _ k i _ (by omega) (List.getElem?_eq_getElem hi) (by simpa using this)
    | false =>
      obtain ⟨j, r, h1, h2, h3⟩ := first_bad ha
      have hr : k ≤ r.len := by simpa using h2
      rw [firstOf_some h1 hr h3]
      refine gspec_of [(8, [.br false]), (10, [.call false (runsV (runs l)) []]), (11, [.int (runs l).length])] [(0, firstL (runs l) k 0, .ret, ⟨tm 23 [(4, int r.frm)], [], 60⟩)] [] (by decide) Try.func29 (φ := decide (k < (1 : Int)) = false ∧ false = false ∧ GSpec Try.prog (27 : Nat) [AV.d (DV.sl (4 : Nat) (List.map Page.dv l))] false (runsV (runs l)) [] ∧ (↑(List.map Run.dv (runs l)).length : Int) = (↑(runs l).length : Int) ∧ CSpec Try.prog (blkF Try.f29 (0 : Nat)) (firstL (runs l) k (0 : Nat)).st Ex.ret (Tg.mk (tm (23 : Nat) [((4 : Nat), int r.frm)]) [] (60 : Nat)).st) ?_ (by kernel_rfl) (by kernel_rfl)
      refine ⟨decide_eq_false hk, rfl, pageRuns l hl, by rw [List.length_map], loop_ret_of (S := fun i => (firstL (runs l) k i).st) j (by kernel_rfl) (fun i hi => ?_) (firstFound _ k j r h1 hr)⟩
      obtain ⟨y, h4, h5⟩ := h3 i hi
      exact firstRound _ k i y (by omega) h4 (by simpa using h5)

def rfirstL (rs : List Run) (k : Int) (i : Nat) : Tg := ⟨tm 31 [(1, int k), (4, int 0), (5, runsV rs), (6, int i)], [], 20⟩
set_option maxRecDepth 100000 in
theorem rfirstRound (rs : List Run) (k : Int) (i : Nat) (r : Run) (hl : rs.length ≤ 1048576) (hr : rs[i]? = some r) (hk : k < 1 ∨ r.len < k) : CSpec Try.prog (rndF Try.f30 0) (rfirstL rs k i).st .nrm (rfirstL rs k (i + 1)).st := by
  have hi : i < rs.length := (List.getElem?_eq_some_iff.1 hr).1
  refine stretch [(11, [.int rs.length]), (12, [.br true]), (20, [.el r.dv]), (25, [.br false]), (14, [.int ((i + 1 : Nat) : Int)])] [] (φ := (↑(List.map Run.dv rs).length : Int) = (↑rs.length : Int) ∧ decide ((↑i : Int) < (↑rs.length : Int)) = true ∧ true = true ∧ (decide ((1 : Int) ≤ k) = true → (0 : Int) ≤ (↑i : Int) ∧ (List.map Run.dv rs)[(↑i : Int).toNat]? = some r.dv) ∧ (decide ((1 : Int) ≤ k) && decide (k ≤ r.len)) = false ∧ false = false ∧ IntKind.i64.wrap ((↑i : Int) + (1 : Int)) = (↑(i + (1 : Nat)) : Int)) ?_ (by kernel_rfl) (by kernel_rfl) (by kernel_rfl)
  exact ⟨by rw [List.length_map], decide_eq_true (by omega), rfl, fun _ => ⟨by omega, runs_at hr⟩, by simp; omega, rfl, wrapI (by omega) (by omega)⟩
set_option maxRecDepth 100000 in
theorem rfirstFound (rs : List Run) (k : Int) (i : Nat) (r : Run) (hr : rs[i]? = some r) (hk1 : 1 ≤ k) (hk : k ≤ r.len) : CSpec Try.prog (rndF Try.f30 0) (rfirstL rs k i).st .ret (Tg.st ⟨tm 31 [(4, int r.frm)], [], 60⟩) := by
  have hi : i < rs.length := (List.getElem?_eq_some_iff.1 hr).1
  refine stretch [(11, [.int rs.length]), (12, [.br true]), (20, [.el r.dv]), (25, [.br true]), (28, [.el r.dv])] [] (φ := (↑(List.map Run.dv rs).length : Int) = (↑rs.length : Int) ∧ decide ((↑i : Int) < (↑rs.length : Int)) = true ∧ true = true ∧ (decide ((1 : Int) ≤ k) = true → (0 : Int) ≤ (↑i : Int) ∧ (List.map Run.dv rs)[(↑i : Int).toNat]? = some r.dv) ∧ (decide ((1 : Int) ≤ k) && decide (k ≤ r.len)) = true ∧ true = true ∧ (0 : Int) ≤ (↑i : Int) ∧ (List.map Run.dv rs)[(↑i : Int).toNat]? = some r.dv) ?_ (by kernel_rfl) (by kernel_rfl) (by kernel_rfl)
  exact ⟨by rw [List.length_map], decide_eq_true (by omega), rfl, fun _ => ⟨by omega, runs_at hr⟩, by simp; omega, rfl, ⟨by omega, runs_at hr⟩⟩
set_option maxRecDepth 100000 in
theorem rfirstEnd (rs : List Run) (k : Int) : CSpec Try.prog (rndF Try.f30 0) (rfirstL rs k rs.length).st (.ext 0) (Tg.st ⟨tm 31 [], [], 60⟩) := by
  refine stretch [(11, [.int rs.length]), (12, [.br false])] [] (φ := (↑(List.map Run.dv rs).length : Int) = (↑rs.length : Int) ∧ decide ((↑rs.length : Int) < (↑rs.length : Int)) = false ∧ false = false) ?_ (by kernel_rfl) (by kernel_rfl) (by kernel_rfl)
  exact ⟨by rw [List.length_map], decide_eq_false (by omega), rfl⟩
set_option maxRecDepth 100000 in
theorem refFirst (l : List Page) (k : Int) (hl : l.length ≤ 1048576) : GSpec Try.prog 30 [pagesV l, int k] true (int (first l k)) [] := by
  have hrl := runs_len (l := l)
  by_cases hk : k < 1
  · rw [first, if_pos hk]
    refine gspec_of [(8, [.call false (runsV (runs l)) []])] [(0, rfirstL (runs l) k 0, .nrm, ⟨tm 31 [], [], 60⟩)] [] (by decide) Try.func30 (φ := GSpec Try.prog (28 : Nat) [AV.d (DV.sl (4 : Nat) (List.map Page.dv l))] false (runsV (runs l)) [] ∧ CSpec Try.prog (blkF Try.f30 (0 : Nat)) (rfirstL (runs l) k (0 : Nat)).st Ex.nrm (Tg.mk (tm (31 : Nat) []) [] (60 : Nat)).st) ?_ (by kernel_rfl) (by kernel_rfl)
    exact ⟨refRuns l hl, loop_ext_of (S := fun i => (rfirstL (runs l) k i).st) (runs l).length (by kernel_rfl) (fun i hi => rfirstRound _ k i _ (by omega) (List.getElem?_eq_getElem hi) (.inl hk)) (rfirstEnd _ _)⟩
  · rw [first, if_neg hk]
    cases ha : (runs l).all fun r => decide (r.len < k) with
    | true =>
      rw [firstOf_none ha]
      refine gspec_of [(8, [.call false (runsV (runs l)) []])] [(0, rfirstL (runs l) k 0, .nrm, ⟨tm 31 [], [], 60⟩)] [] (by decide) Try.func30 (φ := GSpec Try.prog (28 : Nat) [AV.d (DV.sl (4 : Nat) (List.map Page.dv l))] false (runsV (runs l)) [] ∧ CSpec Try.prog (blkF Try.f30 (0 : Nat)) (rfirstL (runs l) k (0 : Nat)).st Ex.nrm (Tg.mk (tm (31 : Nat) []) [] (60 : Nat)).st) ?_ (by kernel_rfl) (by kernel_rfl)
      refine ⟨refRuns l hl, loop_ext_of (S := fun i => (rfirstL (runs l) k i).st) (runs l).length (by kernel_rfl) (fun i hi => ?_) (rfirstEnd _ _)⟩
      have := List.all_eq_true.1 ha _ (List.getElem_mem hi)
      exact rfirstRound _ k i _ (by omega) (List.getElem?_eq_getElem hi) (.inr (by simpa using this))
    | false =>
      obtain ⟨j, r, h1, h2, h3⟩ := first_bad ha
      have hr : k ≤ r.len := by simpa using h2
      rw [firstOf_some h1 hr h3]
      refine gspec_of [(8, [.call false (runsV (runs l)) []])] [(0, rfirstL (runs l) k 0, .ret, ⟨tm 31 [(4, int r.frm)], [], 60⟩)] [] (by decide) Try.func30 (φ := GSpec Try.prog (28 : Nat) [AV.d (DV.sl (4 : Nat) (List.map Page.dv l))] false (runsV (runs l)) [] ∧ CSpec Try.prog (blkF Try.f30 (0 : Nat)) (rfirstL (runs l) k (0 : Nat)).st Ex.ret (Tg.mk (tm (31 : Nat) [((4 : Nat), int r.frm)]) [] (60 : Nat)).st) ?_ (by kernel_rfl) (by kernel_rfl)
      refine ⟨refRuns l hl, loop_ret_of (S := fun i => (rfirstL (runs l) k i).st) j (by kernel_rfl) (fun i hi => ?_) (rfirstFound _ k j r h1 (by omega) hr)⟩
      obtain ⟨y, h4, h5⟩ := h3 i hi
      exact rfirstRound _ k i y (by omega) h4 (.inr (by simpa using h5))

set_option maxRecDepth 100000 in
theorem lawPageRuns (l : List Page) (k : Int) : GSpec Try.prog 6 [pagesV l, int k] true (bool true) [] := by
  by_cases hl : 200 < l.length
  · refine gspec_of [(6, [.int l.length]), (7, [.br true])] [] [] (by decide) Try.func6 (φ := (↑(List.map Page.dv l).length : Int) = (↑l.length : Int) ∧ decide ((200 : Int) < (↑l.length : Int)) = true ∧ true = true) ?_ (by kernel_rfl) (by kernel_rfl)
    exact ⟨by rw [List.length_map], decide_eq_true (by omega), rfl⟩
  · have hrl := runs_len (l := l)
    refine gspec_of [(6, [.int l.length]), (7, [.br false]), (8, [.call true (bool true) []]), (11, [.call true (int (inUse l)) []]), (13, [.call true (int (inUse l)) []]), (18, [.call false (runsV (runs l)) []]), (20, [.call false (runsV (runs l)) []]), (21, [.call true (bool true) []]), (26, [.call true (int (first l k)) []]), (29, [.call true (int (first l k)) []]), (31, [.br true])] [] [] (by decide) Try.func6 (φ := (↑(List.map Page.dv l).length : Int) = (↑l.length : Int) ∧ decide ((200 : Int) < (↑l.length : Int)) = false ∧ false = false ∧ GSpec Try.prog (7 : Nat) [] true (Sx.bool true) [] ∧ (true = true → GSpec Try.prog (24 : Nat) [AV.d (DV.sl (4 : Nat) (List.map Page.dv l))] true (int (↑(inUse l) : Int)) []) ∧ (true = true → GSpec Try.prog (25 : Nat) [AV.d (DV.sl (4 : Nat) (List.map Page.dv l))] true (int (↑(inUse l) : Int)) []) ∧ ((true && (↑(inUse l) : Int) == (↑(inUse l) : Int)) = true → GSpec Try.prog (27 : Nat) [AV.d (DV.sl (4 : Nat) (List.map Page.dv l))] false (runsV (runs l)) []) ∧ ((true && (↑(inUse l) : Int) == (↑(inUse l) : Int)) = true → GSpec Try.prog (28 : Nat) [AV.d (DV.sl (4 : Nat) (List.map Page.dv l))] false (runsV (runs l)) []) ∧ ((true && (↑(inUse l) : Int) == (↑(inUse l) : Int)) = true → GSpec Try.prog (26 : Nat) [AV.d (DV.sl (2 : Nat) (List.map Run.dv (runs l))), AV.d (DV.sl (2 : Nat) (List.map Run.dv (runs l)))] true (Sx.bool true) []) ∧ ((true && (↑(inUse l) : Int) == (↑(inUse l) : Int) && true) = true → GSpec Try.prog (29 : Nat) [AV.d (DV.sl (4 : Nat) (List.map Page.dv l)), int k] true (int (first l k)) []) ∧ ((true && (↑(inUse l) : Int) == (↑(inUse l) : Int) && true) = true → GSpec Try.prog (30 : Nat) [AV.d (DV.sl (4 : Nat) (List.map Page.dv l)), int k] true (int (first l k)) []) ∧ (true && (↑(inUse l) : Int) == (↑(inUse l) : Int) && true && first l k == first l k) = true) ?_ (by kernel_rfl) (by kernel_rfl)
    exact ⟨by rw [List.length_map], decide_eq_false (by omega), rfl, lawAwake, fun _ => pageInUse l (by omega), fun _ => refInUse l (by omega), fun _ => pageRuns l (by omega), fun _ => refRuns l (by omega), fun _ => lawSameRuns (runs l) (by omega), fun _ => pageFirst l k (by omega), fun _ => refFirst l k (by omega), by simp⟩
end Go.Proofs.Ytkeimadhboefbaa
