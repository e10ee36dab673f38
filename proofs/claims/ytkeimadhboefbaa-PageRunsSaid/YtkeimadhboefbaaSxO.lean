/-
  Regions in the text's order, code, cuts, loops: the symbolic executor over a function's body.
  Conditions: none.
-/
import Derived.Test.YtkeimadhboefbaaSxU
namespace Go.Sx

def runOps (P : Program) (clk : Nat) (ops : Array Oper) (hints : List (Nat × List Hint)) : List Nat → List AV → Heap → Option Out
  | [], t, H => some ⟨t, H, [], []⟩
  | i :: l, t, H => match ops[i]? with
    | none => none
    | some o => match opStep P clk ops hints o t H with
      | none => none
      | some x => match runOps P clk ops hints l x.tmps x.H with
        | none => none
        | some y => some ⟨y.tmps, y.H, x.ph ++ y.ph, x.eq ++ y.eq⟩

theorem runOps_ok {P : Program} {Ow Im0 : Nat → Prop} {w0 : World} {clk : Nat} {hints : List (Nat × List Hint)} {ops : Array Oper} {Q : Exit → Act → World → Prop} : ∀ {l : List Nat} {tmps : List AV} {H : Heap} {a : Act} {w : World} {out : Out},
    runOps P clk ops hints l tmps H = some out → Sys Ow Im0 w0 tmps H clk a w → allP out.ph → EqP out.eq → (∀ a' w', Sys Ow Im0 w0 out.tmps out.H clk a' w' → Q .normal a' w') → wpOps P ops Q l a w
  | [], tmps, H, a, w, out, h, hS, _, _, hQ => by
    simp only [runOps, Option.some.injEq] at h
    subst h
    exact hQ a w hS
  | i :: l, tmps, H, a, w, out, h, hS, hph, heq, hQ => by
    simp only [runOps] at h
    split at h
    · cases h
    rename_i o ho
    split at h
    · cases h
    rename_i x hx
    split at h
    · cases h
    rename_i y hy
    cases h
    obtain ⟨p1, p2⟩ := allP_append.1 hph
    have key := opStep_ok (next := wpOps P ops Q l) (Q := Q) hx hS p1 heq.left fun a' w' hS' => runOps_ok hy hS' p2 heq.right hQ
    simp only [wpOps, ho]
    split
    · exact .inl (key.1 ‹_›)
    · rename_i hw; exact key.2 ((Bool.not_eq_true _).mp hw)

/-! States that are stated: targets -/
structure Tg where
  tmps : List AV
  hl : List (Nat × Blk)
  clk : Nat

def hOf : List (Nat × Blk) → Heap
  | [], _ => none
  | (b, B) :: r, k => if k = b then some B else hOf r k

inductive Ex where
  | nrm
  | ext (n : Nat)
  | ret
def Ex.exit : Ex → Exit
  | .nrm => .normal
  | .ext n => .exit n
  | .ret => .ret

/-- From s the code c comes to its end e in t. -/
def CSpec (P : Program) (c : Code) (s : St) (e : Ex) (t : St) : Prop :=
  ∀ (Ow Im0 : Nat → Prop) (w0 : World) (a : Act) (w : World), Sys Ow Im0 w0 s.tmps s.H s.clk a w → c.wp P (fun e' a' w' => e' = e.exit ∧ Sys Ow Im0 w0 t.tmps t.H t.clk a' w') a w

def Tg.st (t : Tg) : St := ⟨t.tmps, hOf t.hl, t.clk⟩

def memN (b : Nat) : List Nat → Bool
  | [] => false
  | x :: l => if x = b then true else memN b l
def refs1 (ids : List Nat) : AV → Bool
  | .pt b _ _ => memN b ids
  | .os b _ _ => memN b ids
  | .ow b => memN b ids
  | .d _ => true
  | .rp .. => true
  | .any => true
  | _ => false
def refs (ids : List Nat) : AV → Bool
  | .ag l => l.all (refs1 ids)
  | .fn _ l => l.all (refs1 ids)
  | .ic _ a => refs1 ids a
  | a => refs1 ids a
def refsT (ids : List Nat) : AV → Bool
  | .tu l => l.all (refs ids)
  | a => refs ids a
def refsB (ids : List Nat) : Blk → Bool
  | .box _ cells => cells.all (refs ids)
  | .arr .. => true
  | .dead => false

def encB : Blk → AV
  | .box ty cells => .tu [.d (.sc (.int .i64 ty)), .tu cells]
  | .arr ty s els => .tu [.d (.sc (.int .i64 ty)), .d (.sl s els)]
  | .dead => .tu []
theorem encB_inj {B B' : Blk} (h : encB B = encB B') : B = B' := by
  cases B with
  | box ty cells =>
    cases B' with
    | box ty' cells' =>
      simp only [encB, AV.tu.injEq, List.cons.injEq, AV.d.injEq, DV.sc.injEq, Value.int.injEq, and_true, true_and] at h
      obtain ⟨h1, h2⟩ := h
      have : ty = ty' := by omega
      rw [this, h2]
    | arr => simp [encB] at h
    | dead => simp [encB] at h
  | dead =>
    cases B' with
    | dead => rfl
    | _ => simp [encB] at h
  | arr ty s els =>
    cases B' with
    | box => simp [encB] at h
    | dead => simp [encB] at h
    | arr ty' s' els' =>
      simp only [encB, AV.tu.injEq, List.cons.injEq, AV.d.injEq, DV.sc.injEq, DV.sl.injEq, Value.int.injEq, and_true, true_and] at h
      obtain ⟨h1, h2, h3⟩ := h
      have : ty = ty' := by omega
      rw [this, h2, h3]

def isAny : AV → Bool
  | .any => true
  | _ => false
def wkT (ids : List Nat) : List AV → List AV → Option (List (AV × AV))
  | [], [] => some []
  | x :: xs, y :: ys => match wkT ids xs ys with
    | none => none
    | some r => if isAny y then some r else if refsT ids y then some ((x, y) :: r) else none
  | _, _ => none
def wkH (ids : List Nat) (H : Heap) : List (Nat × Blk) → Option (List (AV × AV))
  | [] => some []
  | (b, B) :: r => match H b with
    | none => none
    | some B' => match wkH ids H r with
      | none => none
      | some l => if refsB ids B then some ((encB B', encB B) :: l) else none
def wk (s : St) (t : Tg) : Option (List (AV × AV)) :=
  match wkT (t.hl.map (·.1)) s.tmps t.tmps, wkH (t.hl.map (·.1)) s.H t.hl with
  | some l, some m => some (l ++ m)
  | _, _ => none

theorem memN_iff {b : Nat} {l : List Nat} : memN b l = true ↔ b ∈ l := by
  induction l with
  | nil => simp [memN]
  | cons x l ih =>
    simp only [memN]
    split
    · rename_i h; subst h; simp
    · rename_i h; rw [ih]; simp; omega

section
variable {ρ ρ' : Rho} {w : World} {Im : Nat → Prop} {ids : List Nat}
theorem refs1_rel (hρ : ∀ b ∈ ids, ∀ β, ρ b = some β → ρ' b = some β) {x : AV} {v : Value} (h : Rel ρ w Im x v) (hr : refs1 ids x = true) : Rel ρ' w Im x v := by
  cases x with
  | pt b i o => obtain ⟨g, s, n, h1, rfl⟩ := rel_ptr h; exact .pt (hρ b (memN_iff.1 hr) _ h1)
  | os b o n => cases h with | os h1 h2 h3 h4 h5 => exact .os (hρ b (memN_iff.1 hr) _ h1) h2 h3 h4 h5
  | ow b => cases h with | ow h1 h2 h3 h4 => exact .ow (hρ b (memN_iff.1 hr) _ h1) h2 h3 h4
  | d x => cases h with | d h => exact .d h
  | rp e o => cases h with | rp h1 h2 h3 => exact .rp h1 h2 h3
  | any => exact .any _
  | _ => simp [refs1] at hr
theorem refs_rel (hρ : ∀ b ∈ ids, ∀ β, ρ b = some β → ρ' b = some β) {x : AV} {v : Value} (h : Rel ρ w Im x v) (hr : refs ids x = true) : Rel ρ' w Im x v := by
  cases x with
  | ag l =>
    obtain ⟨cs, rfl, k1, k2, k3⟩ := rel_ag h
    simp only [refs, List.all_eq_true] at hr
    exact .ag _ cs k1 k2 fun i a u ha hu => refs1_rel hρ (k3 i a u ha hu) (hr a (List.mem_of_getElem? ha))
  | fn f l =>
    cases h with
    | fn k1 k3 =>
      simp only [refs, List.all_eq_true] at hr
      exact .fn k1 fun i a u ha hu => refs1_rel hρ (k3 i a u ha hu) (hr a (List.mem_of_getElem? ha))
  | ic t a => cases h with | ic h => exact .ic (refs1_rel hρ h hr)
  | pt => exact refs1_rel hρ h hr
  | os => exact refs1_rel hρ h hr
  | ow => exact refs1_rel hρ h hr
  | d => exact refs1_rel hρ h hr
  | rp => exact refs1_rel hρ h hr
  | tu => exact refs1_rel hρ h hr
  | gd => exact refs1_rel hρ h hr
  | any => exact refs1_rel hρ h hr
theorem refsT_rel (hρ : ∀ b ∈ ids, ∀ β, ρ b = some β → ρ' b = some β) {x : AV} {v : Value} (h : Rel ρ w Im x v) (hr : refsT ids x = true) : Rel ρ' w Im x v := by
  cases x with
  | tu l =>
    cases h with
    | tu _ cs k1 k3 =>
      simp only [refsT, List.all_eq_true] at hr
      exact .tu _ cs k1 fun i a u ha hu => refs_rel hρ (k3 i a u ha hu) (hr a (List.mem_of_getElem? ha))
  | _ => exact refs_rel hρ h hr
theorem refsB_rel (hρ : ∀ b ∈ ids, ∀ β, ρ b = some β → ρ' b = some β) {β : Bi} {B : Blk} (h : RelB ρ w Im β B) (hr : refsB ids B = true) : RelB ρ' w Im β B := by
  cases B with
  | box ty cells =>
    obtain ⟨h0, h00, g, cs, h1, h2, h3, h3', h4⟩ := h
    simp only [refsB, List.all_eq_true] at hr
    exact ⟨h0, h00, g, cs, h1, h2, h3, h3', fun o a v ha hv => refs_rel hρ (h4 o a v ha hv) (hr a (List.mem_of_getElem? ha))⟩
  | arr ty s els => exact h
  | dead => trivial
end

theorem hOf_mem {hl : List (Nat × Blk)} {k : Nat} : (∀ B, hOf hl k = some B → (k, B) ∈ hl) ∧ (hOf hl k = none ↔ k ∉ hl.map (·.1)) := by
  induction hl with
  | nil => simp [hOf]
  | cons p r ih =>
    obtain ⟨b, B0⟩ := p
    refine ⟨fun B h => ?_, ?_⟩
    · simp only [hOf] at h
      split at h
      · rename_i e; cases h; rw [e]; simp
      · exact List.mem_cons_of_mem _ (ih.1 B h)
    · simp only [hOf]
      split
      · rename_i e; subst e; simp
      · rename_i e; rw [ih.2]; simp [e]

theorem wkT_spec {ids : List Nat} : ∀ {xs ys : List AV} {l : List (AV × AV)}, wkT ids xs ys = some l → EqP l → xs.length = ys.length ∧ ∀ (i : Nat) (y : AV), ys[i]? = some y → y = .any ∨ (xs[i]? = some y ∧ refsT ids y = true)
  | [], [], l, _, _ => by simp
  | [], _ :: _, l, h, _ => by simp [wkT] at h
  | _ :: _, [], l, h, _ => by simp [wkT] at h
  | x :: xs, y :: ys, l, h, he => by
    simp only [wkT] at h
    split at h
    · cases h
    rename_i r hr
    split at h
    · rename_i hy
      cases h
      obtain ⟨h1, h2⟩ := wkT_spec hr he
      refine ⟨by simp [h1], fun i z hz => ?_⟩
      cases i with
      | zero =>
        simp at hz; subst hz
        left
        cases y <;> first | rfl | simp [isAny] at hy
      | succ i => simpa using h2 i z (by simpa using hz)
    · split at h
      · rename_i hy hrf
        cases h
        obtain ⟨h1, h2⟩ := wkT_spec hr (fun p hp => he p (List.mem_cons_of_mem _ hp))
        refine ⟨by simp [h1], fun i z hz => ?_⟩
        cases i with
        | zero =>
          simp at hz; subst hz
          right
          have : x = y := he (x, y) (by simp)
          exact ⟨by simp [this], hrf⟩
        | succ i => simpa using h2 i z (by simpa using hz)
      · cases h

theorem wkH_spec {ids : List Nat} {H : Heap} : ∀ {hl : List (Nat × Blk)} {l : List (AV × AV)}, wkH ids H hl = some l → EqP l → ∀ b B, (b, B) ∈ hl → H b = some B ∧ refsB ids B = true
  | [], l, _, _ => by simp
  | (b0, B0) :: r, l, h, he => by
    simp only [wkH] at h
    split at h
    · cases h
    rename_i B' hB'
    split at h
    · cases h
    rename_i m hm
    split at h
    rotate_left
    · cases h
    rename_i hrf
    cases h
    intro b B hb
    rcases List.mem_cons.1 hb with e | e
    · injection e with e1 e2
      subst e1; subst e2
      have : encB B' = encB B := he (encB B', encB B) (by simp)
      rw [encB_inj this] at hB'
      exact ⟨hB', hrf⟩
    · exact wkH_spec hm (fun p hp => he p (List.mem_cons_of_mem _ hp)) b B e

theorem wk_ok {s : St} {t : Tg} {l : List (AV × AV)} (h : wk s t = some l) (he : EqP l) {Ow Im0 : Nat → Prop} {w0 : World} {a : Act} {w : World} (hS : Sys Ow Im0 w0 s.tmps s.H s.clk a w) : Sys Ow Im0 w0 t.st.tmps t.st.H t.st.clk a w := by
  unfold wk at h
  split at h
  rotate_left
  · cases h
  rename_i l1 l2 h1 h2
  cases h
  obtain ⟨ρ, Im, I, T⟩ := hS
  obtain ⟨k1, k2⟩ := wkT_spec h1 he.left
  have k3 := wkH_spec h2 he.right
  let ids := t.hl.map (·.1)
  let ρ' : Rho := fun b => if memN b ids then ρ b else none
  have hin : ∀ b ∈ ids, ∀ β, ρ b = some β → ρ' b = some β := by
    intro b hb β h
    simp only [ρ']
    rw [if_pos (memN_iff.2 hb)]; exact h
  have hout : ∀ b β, ρ' b = some β → ρ b = some β := by
    intro b β h
    simp only [ρ'] at h
    split at h
    · exact h
    · cases h
  have hlive : ∀ b, live t.st.H b → live s.H b := fun b ⟨B, q1, q2⟩ => ⟨B, (k3 b B (hOf_mem.1 B q1)).1, q2⟩
  refine ⟨ρ', Im, ⟨I.kept, fun b b' β β' g l1 l2 q1 q2 q3 q4 => I.inj b b' β β' g (hlive _ l1) (hlive _ l2) (hout _ _ q1) (hout _ _ q2) q3 q4, fun b β g l q => I.notIm b β g (hlive _ l) (hout _ _ q), fun b β g q => I.bnd b β g (hout _ _ q), fun b β g q => I.own b β g (hout _ _ q), I.imb, I.im0, fun b B q => ?_, fun b _ q => ?_⟩, ⟨by rw [T.size, k1]; rfl, fun i y v hy hv => ?_, T.defers⟩⟩
  · obtain ⟨q1, q2⟩ := k3 b B (hOf_mem.1 B q)
    obtain ⟨β, m1, m2⟩ := I.blk b B q1
    have hb : b ∈ ids := by
      have := hOf_mem.1 B q
      exact List.mem_map.2 ⟨(b, B), this, rfl⟩
    exact ⟨β, hin b hb β m1, refsB_rel hin m2 q2⟩
  · have : b ∉ ids := hOf_mem.2.1 q
    simp only [ρ']
    rw [if_neg (fun h => this (memN_iff.1 h))]
  · rcases k2 i y hy with rfl | ⟨q1, q2⟩
    · exact .any _
    · exact refsT_rel hin (T.tmp i y v q1 hv) q2

/-! Code -/
def lookC (k : Nat) : List (Nat × Tg × Ex × Tg) → Option (Tg × Ex × Tg)
  | [] => none
  | (j, h) :: r => if j = k then some h else lookC k r
def keyC : Operand → Nat
  | .tmp t => t
  | _ => 30000

structure Run where
  e : Ex
  s : St
  ph : List Prop
  eq : List (AV × AV)

def runC (P : Program) (hints : List (Nat × List Hint)) (cuts : List (Nat × Tg × Ex × Tg)) : Code → St → Option Run
  | .skip, s => some ⟨.nrm, s, [], []⟩
  | .label _, s => some ⟨.nrm, s, [], []⟩
  | .region _ ops dr, s => match (match dr with | true => drawRun P s.clk ops hints s.tmps s.H | false => runOps P s.clk ops hints (List.range ops.size) s.tmps s.H) with
    | some x => some ⟨.nrm, ⟨x.tmps, x.H, s.clk + 1⟩, x.ph, x.eq⟩
    | none => none
  | .seq x y, s => match runC P hints cuts x s with
    | none => none
    | some r => match r.e with
      | .nrm => match runC P hints cuts y r.s with
        | some q => some ⟨q.e, q.s, r.ph ++ q.ph, r.eq ++ q.eq⟩
        | none => none
      | e => some ⟨e, r.s, r.ph, r.eq⟩
  | .cond c x y, s => match asB (ev s.tmps c) with
    | none => none
    | some b => match look (keyC c) hints with
      | .br true :: _ => match runC P hints cuts x s with
        | some q => some ⟨q.e, q.s, (b = true) :: q.ph, q.eq⟩
        | none => none
      | .br false :: _ => match runC P hints cuts y s with
        | some q => some ⟨q.e, q.s, (b = false) :: q.ph, q.eq⟩
        | none => none
      | _ => match b with
        | true => runC P hints cuts x s
        | false => runC P hints cuts y s
  | .block n c, s => match lookC n cuts with
    | some (pre, e, post) => match wk s pre with
      | some l => some ⟨e, post.st, [CSpec P (.block n c) pre.st e post.st], l⟩
      | none => none
    | none => match runC P hints cuts c s with
      | none => none
      | some r => match r.e with
        | .ext m => if m = n then some ⟨.nrm, r.s, r.ph, r.eq⟩ else some r
        | _ => some r
  | .exit n, s => some ⟨.ext n, s, [], []⟩
  | .ret, s => some ⟨.ret, s, [], []⟩
  | _, _ => none

theorem Sys.clk {Ow Im0 : Nat → Prop} {w0 : World} {tmps : List AV} {H : Heap} {clk clk' : Nat} {a : Act} {w : World} (h : Sys Ow Im0 w0 tmps H clk a w) (hle : clk ≤ clk') : Sys Ow Im0 w0 tmps H clk' a w := by
  obtain ⟨ρ, Im, I, T⟩ := h
  exact ⟨ρ, Im, ⟨I.kept, I.inj, I.notIm, I.bnd, I.own, I.imb, I.im0, I.blk, fun b hb h => I.fresh b (Nat.le_trans (Nat.mul_le_mul_right _ hle) hb) h⟩, T⟩

theorem runC_ok {P : Program} {hints : List (Nat × List Hint)} {cuts : List (Nat × Tg × Ex × Tg)} : ∀ {c : Code} {s : St} {r : Run}, runC P hints cuts c s = some r → allP r.ph → EqP r.eq → CSpec P c s r.e r.s := by
  intro c
  induction c with
  | skip => intro s r h _ _ Ow Im0 w0 a w hS; simp only [runC, Option.some.injEq] at h; subst h; exact wp_skip ⟨rfl, hS⟩
  | label n => intro s r h _ _ Ow Im0 w0 a w hS; simp only [runC, Option.some.injEq] at h; subst h; exact wp_label ⟨rfl, hS⟩
  | region n ops dr =>
    intro s r h hph heq Ow Im0 w0 a w hS
    simp only [runC] at h
    split at h
    rotate_left
    · cases h
    rename_i x hx
    cases h
    cases dr with
    | false => exact wp_region (runOps_ok hx hS hph heq fun a' w' hS' => ⟨rfl, hS'.clk (by simp)⟩)
    | true => exact drawRun_ok hx hS hph heq fun a' w' hS' => ⟨rfl, hS'.clk (by simp)⟩
  | seq x y ihx ihy =>
    intro s r h hph heq Ow Im0 w0 a w hS
    simp only [runC] at h
    split at h
    · cases h
    rename_i q hq
    split at h
    · rename_i he
      split at h
      rotate_left
      · cases h
      rename_i q2 hq2
      cases h
      obtain ⟨p1, p2⟩ := allP_append.1 hph
      refine wp_seq (wp_mono (ihx hq p1 heq.left Ow Im0 w0 a w hS) ?_)
      rintro e a' w' ⟨rfl, hS'⟩
      rw [he]
      exact ihy hq2 p2 heq.right Ow Im0 w0 a' w' hS'
    · rename_i he
      cases h
      refine wp_seq (wp_mono (ihx hq hph heq Ow Im0 w0 a w hS) ?_)
      rintro e a' w' ⟨rfl, hS'⟩
      cases hqe : q.e with
      | nrm => exact absurd hqe he
      | ext n => exact ⟨rfl, hS'⟩
      | ret => exact ⟨rfl, hS'⟩
  | cond c x y ihx ihy =>
    intro s r h hph heq Ow Im0 w0 a w hS
    simp only [runC] at h
    split at h
    · cases h
    rename_i b hb
    have hv : a.eval c = .bool b := by
      obtain ⟨ρ, Im, I, T⟩ := hS
      have := ev_rel T c
      rw [asB_spec hb] at this
      exact rel_sc this
    split at h
    · split at h
      rotate_left
      · cases h
      rename_i q hq
      cases h
      obtain ⟨p1, p2⟩ := allP_cons.1 hph
      exact wp_cond_true (by rw [hv, p1]) (ihx hq p2 heq Ow Im0 w0 a w hS)
    · split at h
      rotate_left
      · cases h
      rename_i q hq
      cases h
      obtain ⟨p1, p2⟩ := allP_cons.1 hph
      exact wp_cond_false (by rw [hv, p1]) (ihy hq p2 heq Ow Im0 w0 a w hS)
    · split at h
      · exact wp_cond_true hv (ihx h hph heq Ow Im0 w0 a w hS)
      · exact wp_cond_false hv (ihy h hph heq Ow Im0 w0 a w hS)
  | block n c ih =>
    intro s r h hph heq Ow Im0 w0 a w hS
    simp only [runC] at h
    split at h
    · rename_i pre e post hl
      split at h
      rotate_left
      · cases h
      rename_i l hwk
      cases h
      have hC : CSpec P (.block n c) pre.st e post.st := by simpa [allP] using hph
      exact hC Ow Im0 w0 a w (wk_ok hwk heq hS)
    · split at h
      · cases h
      rename_i q hq
      split at h
      · rename_i m hm
        split at h
        · rename_i hmn
          cases h
          refine wp_block (wp_mono (ih hq hph heq Ow Im0 w0 a w hS) ?_)
          rintro e a' w' ⟨rfl, hS'⟩
          rw [hm]
          simp only [Ex.exit, Exit.inBlock, hmn, if_true]
          exact ⟨by trivial, hS'⟩
        · rename_i hmn
          cases h
          refine wp_block (wp_mono (ih hq hph heq Ow Im0 w0 a w hS) ?_)
          rintro e a' w' ⟨rfl, hS'⟩
          rw [hm]
          simp only [Ex.exit, Exit.inBlock, hmn, if_false]
          exact ⟨by trivial, hS'⟩
      · rename_i hne
        cases h
        refine wp_block (wp_mono (ih hq hph heq Ow Im0 w0 a w hS) ?_)
        rintro e a' w' ⟨rfl, hS'⟩
        cases hqe : r.e with
        | nrm => exact ⟨rfl, hS'⟩
        | ext m => exact absurd hqe (hne m)
        | ret => exact ⟨rfl, hS'⟩
  | exit n => intro s r h _ _ Ow Im0 w0 a w hS; simp only [runC, Option.some.injEq] at h; subst h; exact wp_exit ⟨rfl, hS⟩
  | ret => intro s r h _ _ Ow Im0 w0 a w hS; simp only [runC, Option.some.injEq] at h; subst h; exact wp_ret ⟨rfl, hS⟩
  | loop c ih => intro s r h; simp [runC] at h
  | rangeFunc f p x y => intro s r h; simp [runC] at h
  | scope c ih => intro s r h; simp [runC] at h
  | goto n => intro s r h; simp [runC] at h
  | refuse y => intro s r h; simp [runC] at h

end Go.Sx
