/-
  Loops; a function's contract out of the symbolic run of its body.
  Conditions: none.
-/
import Derived.Test.YtkeimadhboefbaaSxO
namespace Go.Sx

/-- n rounds, and one that leaves. -/
def LoopRuns (P : Program) (c : Code) : Nat → St → Ex → St → Prop
  | 0, s, e, t => e ≠ .nrm ∧ CSpec P c s e t
  | n + 1, s, e, t => ∃ s', CSpec P c s .nrm s' ∧ LoopRuns P c n s' e t

theorem least {p : Nat → Prop} (h : ∃ n, p n) : ∃ n, p n ∧ ∀ m, p m → n ≤ m := by
  obtain ⟨n, hn⟩ := h
  induction n using Nat.strongRecOn with
  | _ n ih =>
    by_cases hx : ∃ m, m < n ∧ p m
    · obtain ⟨m, h1, h2⟩ := hx; exact ih m h1 h2
    · refine ⟨n, hn, fun m hm => ?_⟩
      rcases Nat.lt_or_ge m n with h | h
      · exact absurd ⟨m, h, hm⟩ hx
      · exact h

open Classical in
theorem loop_ok {P : Program} {c : Code} {n : Nat} {s t : St} {e : Ex} (h : LoopRuns P c n s e t) : CSpec P (.loop c) s e t := by
  intro Ow Im0 w0 a w hS
  let I : Act → World → Prop := fun a w => ∃ n s', Sys Ow Im0 w0 s'.tmps s'.H s'.clk a w ∧ LoopRuns P c n s' e t
  let μ : Act → World → Nat := fun a w => if h : I a w then Classical.choose (least h) else 0
  refine wp_loop I μ ⟨n, s, hS, h⟩ fun a w hI => ?_
  have hμ : μ a w = Classical.choose (least hI) := dif_pos hI
  obtain ⟨k1, k2⟩ := Classical.choose_spec (least hI)
  rw [← hμ] at k1 k2
  obtain ⟨s', hS', hr⟩ := k1
  generalize hm : μ a w = m at hr k2 ⊢
  cases m with
  | zero =>
    obtain ⟨h1, h2⟩ := hr
    refine wp_mono (h2 Ow Im0 w0 a w hS') ?_
    rintro e' a' w' ⟨rfl, hS''⟩
    cases e with
    | nrm => exact absurd rfl h1
    | ext n => exact ⟨rfl, hS''⟩
    | ret => exact ⟨rfl, hS''⟩
  | succ m =>
    obtain ⟨s2, h1, h2⟩ := hr
    refine wp_mono (h1 Ow Im0 w0 a w hS') ?_
    rintro e' a' w' ⟨rfl, hS''⟩
    have hI' : I a' w' := ⟨m, s2, hS'', h2⟩
    refine ⟨hI', ?_⟩
    have hμ' : μ a' w' = Classical.choose (least hI') := dif_pos hI'
    have := (Classical.choose_spec (least hI')).2 m ⟨s2, hS'', h2⟩
    rw [← hμ'] at this
    omega

theorem block_ext {P : Program} {c : Code} {n : Nat} {s t : St} (h : CSpec P c s (.ext n) t) : CSpec P (.block n c) s .nrm t := by
  intro Ow Im0 w0 a w hS
  refine wp_block (wp_mono (h Ow Im0 w0 a w hS) ?_)
  rintro e a' w' ⟨rfl, hS'⟩
  simp only [Ex.exit, Exit.inBlock, if_true]
  exact ⟨by trivial, hS'⟩
theorem block_ret {P : Program} {c : Code} {n : Nat} {s t : St} (h : CSpec P c s .ret t) : CSpec P (.block n c) s .ret t := by
  intro Ow Im0 w0 a w hS
  refine wp_block (wp_mono (h Ow Im0 w0 a w hS) ?_)
  rintro e a' w' ⟨rfl, hS'⟩
  exact ⟨rfl, hS'⟩

/-- A loop in its block, round by round: f: what a round makes of its start; the last round leaves the block. -/
theorem rounds {P : Program} {c : Code} {s' : St} {n : Nat} {s t : St} {e : Ex} (h1 : CSpec P c s .nrm s') (h2 : LoopRuns P c n s' e t) : LoopRuns P c (n + 1) s e t := ⟨s', h1, h2⟩

/-! A stretch of code between two stated states -/
def runTo (P : Program) (hints : List (Nat × List Hint)) (cuts : List (Nat × Tg × Ex × Tg)) (c : Code) (s : St) (t : Tg) : Option Run :=
  match runC P hints cuts c s with
  | none => none
  | some r => match wk r.s t with
    | some l => some ⟨r.e, r.s, r.ph, r.eq ++ l⟩
    | none => none
def oblO : Option Run → Prop
  | some r => allP r.ph
  | none => False
def lefO : Option Run → List AV
  | some r => r.eq.map (·.1)
  | none => []
def rigO : Option Run → List AV
  | some r => r.eq.map (·.2)
  | none => []
def exO : Option Run → Option Ex
  | some r => some r.e
  | none => none

theorem eqP_of {l : List (AV × AV)} (h : l.map (·.1) = l.map (·.2)) : EqP l := by
  induction l with
  | nil => intro p hp; simp at hp
  | cons x l ih =>
    simp only [List.map_cons, List.cons.injEq] at h
    intro p hp
    rcases List.mem_cons.1 hp with e | e
    · rw [e]; exact h.1
    · exact ih h.2 p e

theorem stretch {P : Program} (hints : List (Nat × List Hint)) (cuts : List (Nat × Tg × Ex × Tg)) {c : Code} {s : St} {e : Ex} {t : Tg} {φ : Prop} (hφ : φ)
    (h1 : oblO (runTo P hints cuts c s t) = φ) (h2 : lefO (runTo P hints cuts c s t) = rigO (runTo P hints cuts c s t)) (h3 : exO (runTo P hints cuts c s t) = some e) : CSpec P c s e t.st := by
  rw [← h1] at hφ
  cases hr : runTo P hints cuts c s t with
  | none => rw [hr] at hφ; exact hφ.elim
  | some r =>
    rw [hr] at hφ h2 h3
    have heq : EqP r.eq := eqP_of h2
    have he : r.e = e := by simpa [exO] using h3
    unfold runTo at hr
    split at hr
    · cases hr
    rename_i q hq
    split at hr
    rotate_left
    · cases hr
    rename_i l hl
    cases hr
    intro Ow Im0 w0 a w hS
    refine wp_mono (runC_ok hq hφ heq.left Ow Im0 w0 a w hS) ?_
    rintro e' a' w' ⟨rfl, hS'⟩
    exact ⟨by rw [← he], wk_ok hl heq.right hS'⟩

/-! A function's contract -/
def FlatEls (els : List (List DV)) : Prop := ∀ e ∈ els, ∀ x ∈ e, ∃ v, x = .sc v
def idx (b : Nat) : List Nat → Nat → Option Nat
  | [], _ => none
  | x :: l, k => if x = b then some k else idx b l (k + 1)

def fin1 (keep : List Nat) (H : Heap) (fr : Bool) : AV → Option (AV × List Prop)
  | .d x => match fr with
    | false => some (.d x, [])
    | true => match x with
      | .sc v => some (.d (.sc v), [])
      | .sl s els => match els with
        | [] => some (.d (.sl s []), [])
        | _ => none
  | .rp e o => match fr with
    | false => some (.rp e o, [])
    | true => none
  | .ow b => match idx b keep 0 with
    | some k => some (.ow k, [])
    | none => match H b with
      | some (.arr _ s els) => some (.d (.sl s els), match fr with | true => [FlatEls els] | false => [])
      | _ => none
  | .os b o n => match idx b keep 0 with
    | some k => some (.os k o n, [])
    | none => match H b with
      | some (.arr _ s els) => some (.d (.sl s ((els.drop o).take n)), match fr with | true => [FlatEls els] | false => [])
      | _ => none
  | _ => none
def finL (f : AV → Option (AV × List Prop)) : List AV → Option (List AV × List Prop)
  | [] => some ([], [])
  | a :: l => match f a, finL f l with
    | some (x, p), some (r, q) => some (x :: r, p ++ q)
    | _, _ => none
def finA (keep : List Nat) (H : Heap) (fr : Bool) (a : AV) : Option (AV × List Prop) := match a with
  | .ag l => match finL (fin1 keep H fr) l with | some (r, q) => some (.ag r, q) | none => none
  | .fn f l => match finL (fin1 keep H fr) l with | some (r, q) => some (.fn f r, q) | none => none
  | .ic t x => match fin1 keep H fr x with | some (r, q) => some (.ic t r, q) | none => none
  | x => fin1 keep H fr x
def finT (keep : List Nat) (H : Heap) (fr : Bool) (a : AV) : Option (AV × List Prop) := match a with
  | .tu l => match finL (finA keep H fr) l with | some (r, q) => some (.tu r, q) | none => none
  | x => finA keep H fr x

def finN (keep : List Nat) (H : Heap) (fr : Bool) : Option (List Blk × List Prop) := match keep with
  | [] => some ([], [])
  | b :: r => match H b, finN r H fr with
    | some (.arr ty s els), some (l, q) => some (.arr ty s els :: l, (match fr with | true => [FlatEls els] | false => []) ++ q)
    | _, _ => none

def resOne (P : Program) (tmps : List AV) (H : Heap) : ResultVar → Option AV
  | .tmp t => some (tmps.getD t .any)
  | .cell t ty => match actLoad P ty [] (tmps.getD t .any) H with
    | some r => match r.ph with
      | [] => some r.val
      | _ => none
    | none => none
def resAll (P : Program) (tmps : List AV) (H : Heap) : List ResultVar → Option (List AV)
  | [] => some []
  | x :: l => match resOne P tmps H x, resAll P tmps H l with
    | some a, some r => some (a :: r)
    | _, _ => none
def resV : List AV → AV
  | [a] => a
  | l => .tu l

/-! A nil slice has whatever elements are wanted -/
def coe1 (x r : AV) : AV × List Prop := match x with
  | .d (.sl s els) => match s with
    | 0 => match r with
      | .d (.sl s' _) => (.d (.sl s' []), [els = []])
      | _ => (.d (.sl 0 els), [])
    | s + 1 => (.d (.sl (s + 1) els), [])
  | x => (x, [])
def coeL (f : AV → AV → AV × List Prop) : List AV → List AV → List AV × List Prop
  | x :: l, r :: m => ((f x r).1 :: (coeL f l m).1, (f x r).2 ++ (coeL f l m).2)
  | l, _ => (l, [])
def coeM (x r : AV) : AV × List Prop := match x with
  | .ag l => match r with
    | .ag m => (.ag (coeL coe1 l m).1, (coeL coe1 l m).2)
    | _ => (.ag l, [])
  | x => coe1 x r
def coeT (x r : AV) : AV × List Prop := match x with
  | .tu l => match r with
    | .tu m => (.tu (coeL coeM l m).1, (coeL coeM l m).2)
    | _ => (.tu l, [])
  | x => coeM x r
section
variable {ρ : Rho} {w : World} {Im : Nat → Prop}
theorem coe1_rel {x r : AV} {v : Value} (h : Rel ρ w Im x v) (hp : allP (coe1 x r).2) : Rel ρ w Im (coe1 x r).1 v := by
  unfold coe1 at hp ⊢
  split at hp
  · rename_i s els
    split at hp
    · split at hp
      · rename_i s' e'
        have he : els = [] := hp
        subst he
        cases h with
        | d h =>
          cases h with
          | slNil _ a c => exact .d (.slNil s' a c)
          | sl _ _ p n c f hn hc => simp at hn; subst hn; exact .d (.slNil s' _ c)
      · exact h
    · exact h
  · exact h
theorem coeL_spec {f : AV → AV → AV × List Prop} : ∀ {l m : List AV}, allP (coeL f l m).2 → (coeL f l m).1.length = l.length ∧ ∀ (i : Nat) (y : AV), (coeL f l m).1[i]? = some y → ∃ x, l[i]? = some x ∧ (y = x ∨ ∃ r, y = (f x r).1 ∧ allP (f x r).2)
  | [], _, _ => by simp [coeL]
  | x :: l, [], _ => ⟨rfl, fun i y h => ⟨y, h, .inl rfl⟩⟩
  | x :: l, r :: m, h => by
    obtain ⟨h1, h2⟩ := allP_append.1 h
    obtain ⟨k1, k2⟩ := coeL_spec h2
    refine ⟨by simp [coeL, k1], fun i y hy => ?_⟩
    cases i with
    | zero =>
      simp only [coeL, List.getElem?_cons_zero, Option.some.injEq] at hy
      exact ⟨x, rfl, .inr ⟨r, hy.symm, h1⟩⟩
    | succ i =>
      obtain ⟨z, h3, h4⟩ := k2 i y (by simpa [coeL] using hy)
      exact ⟨z, by simpa using h3, h4⟩
theorem coeM_rel {x r : AV} {v : Value} (h : Rel ρ w Im x v) (hp : allP (coeM x r).2) : Rel ρ w Im (coeM x r).1 v := by
  unfold coeM at hp ⊢
  split at hp
  · split at hp
    · obtain ⟨cs, rfl, k1, k2, k3⟩ := rel_ag h
      obtain ⟨n1, n2⟩ := coeL_spec hp
      refine .ag _ cs (by rw [n1]; exact k1) k2 fun i a u ha hu => ?_
      obtain ⟨x, h1, h2⟩ := n2 i a ha
      rcases h2 with rfl | ⟨r, rfl, h3⟩
      · exact k3 i _ u h1 hu
      · exact coe1_rel (k3 i x u h1 hu) h3
    · exact h
  · exact coe1_rel h hp
theorem coeT_rel {x r : AV} {v : Value} (h : Rel ρ w Im x v) (hp : allP (coeT x r).2) : Rel ρ w Im (coeT x r).1 v := by
  unfold coeT at hp ⊢
  split at hp
  · split at hp
    · cases h with
      | tu _ cs k1 k3 =>
        obtain ⟨n1, n2⟩ := coeL_spec hp
        refine .tu _ cs (by rw [n1]; exact k1) fun i a u ha hu => ?_
        obtain ⟨x, h1, h2⟩ := n2 i a ha
        rcases h2 with rfl | ⟨r, rfl, h3⟩
        · exact k3 i _ u h1 hu
        · exact coeM_rel (k3 i x u h1 hu) h3
    · exact h
  · exact coeM_rel h hp
end

/-- The symbolic run of a whole function: from its arguments to its result. -/
def runF (P : Program) (hints : List (Nat × List Hint)) (cuts : List (Nat × Tg × Ex × Tg)) (keep : List Nat) (fn : Func) (args : List AV) (fr : Bool) (res : AV) (news : List Blk) : Option Run :=
  match fn.body with
  | none => none
  | some c => match args.all isPure with
    | false => none
    | true => match runC P hints cuts c ⟨args ++ List.replicate (fn.ntmps - args.length) .any, fun _ => none, 1⟩ with
      | none => none
      | some r => match r.e with
        | .ext _ => none
        | _ => match resAll P r.s.tmps r.s.H fn.results.toList with
          | none => none
          | some l => match finT keep r.s.H fr (resV l), finN keep r.s.H fr with
            | some (x, p), some (ns, q) => if news.length = ns.length then some ⟨r.e, r.s, r.ph ++ (p ++ (coeT x res).2) ++ q, r.eq ++ [((coeT x res).1, res)] ++ (ns.map encB).zip (news.map encB)⟩ else none
            | _, _ => none

end Go.Sx
