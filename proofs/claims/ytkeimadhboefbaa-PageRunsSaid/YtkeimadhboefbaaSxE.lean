/-
  Arithmetic, comparisons, conversions, tests of the symbolic executor.
  Conditions: none.
-/
import Derived.Test.YtkeimadhboefbaaSxD
namespace Go.Sx

def numR (k : IntKind) (n : Int) (ps : List Prop) : List Hint → Res
  | .int m :: _ => ⟨.d (.sc (.int k m)), none, (n = m) :: ps⟩
  | _ => ⟨.d (.sc (.int k n)), none, ps⟩
def boolR (b : Bool) : List Hint → Res
  | .br c :: _ => ⟨.d (.sc (.bool c)), none, [b = c]⟩
  | _ => ⟨.d (.sc (.bool b)), none, []⟩

theorem goes_num {P : Program} {o : Oper} {id : Nat} {E : Operand → AV} {H : Heap} {k : IntKind} {n : Int} {ps : List Prop} {hs : List Hint}
    (h : ∀ (ρ : Rho) (w : World) (Im : Nat → Prop) (a : Act), (∀ x, Rel ρ w Im (E x) (a.eval x)) → allP ps → (execOp a.eval o).run P w = .ok (.value (.int k n)) w) : Sound P o id E H (numR k n ps hs) := by
  intro Ow Im0 w0 ρ w Im clk a I _ _ hE hph
  unfold numR at hph ⊢
  split at hph
  · rename_i m _
    obtain ⟨rfl, h2⟩ := allP_cons.1 hph
    exact .inl ⟨_, w, h ρ w Im a hE h2, .same I (.d (.sc _ rfl))⟩
  · exact .inl ⟨_, w, h ρ w Im a hE hph, .same I (.d (.sc _ rfl))⟩
theorem goes_bool {P : Program} {o : Oper} {id : Nat} {E : Operand → AV} {H : Heap} {b : Bool} {hs : List Hint}
    (h : ∀ (ρ : Rho) (w : World) (Im : Nat → Prop) (a : Act), (∀ x, Rel ρ w Im (E x) (a.eval x)) → (execOp a.eval o).run P w = .ok (.value (.bool b)) w) : Sound P o id E H (boolR b hs) := by
  intro Ow Im0 w0 ρ w Im clk a I _ _ hE hph
  unfold boolR at hph ⊢
  split at hph
  · rename_i m _
    obtain rfl : b = m := by simpa [allP] using hph
    exact .inl ⟨_, w, h ρ w Im a hE, .same I (.d (.sc _ rfl))⟩
  · exact .inl ⟨_, w, h ρ w Im a hE, .same I (.d (.sc _ rfl))⟩

def ikEq : IntKind → IntKind → Bool
  | .i8, .i8 | .i16, .i16 | .i32, .i32 | .i64, .i64 | .u8, .u8 | .u16, .u16 | .u32, .u32 | .u64, .u64 => true
  | _, _ => false
theorem ikEq_eq {k k' : IntKind} (h : ikEq k k' = true) : k = k' := by cases k <;> cases k' <;> first | rfl | simp [ikEq] at h

def actInt (op : BinOp) (k : IntKind) (a : Int) (k' : IntKind) (b : Int) (hs : List Hint) : Option Res :=
  match op with
  | .shl => some (numR k (k.wrap (a * 2 ^ (min b.toNat k.bits))) [0 ≤ b] hs)
  | .shr => some (numR k (a.fdiv (2 ^ (min b.toNat k.bits))) [0 ≤ b] hs)
  | op => if ikEq k k' then
    match op with
    | .add => some (numR k (k.wrap (a + b)) [] hs)
    | .sub => some (numR k (k.wrap (a - b)) [] hs)
    | .mul => some (numR k (k.wrap (a * b)) [] hs)
    | .quo => some (numR k (k.wrap (a.tdiv b)) [b ≠ 0] hs)
    | .rem => some (numR k (a.tmod b) [b ≠ 0] hs)
    | .and => some (numR k (bits .and k a b) [] hs)
    | .or => some (numR k (bits .or k a b) [] hs)
    | .xor => some (numR k (bits .xor k a b) [] hs)
    | .andNot => some (numR k (bits .andNot k a b) [] hs)
    | .eql => some (boolR (a == b) hs)
    | .neq => some (boolR (a != b) hs)
    | .lss => some (boolR (decide (a < b)) hs)
    | .leq => some (boolR (decide (a ≤ b)) hs)
    | .gtr => some (boolR (decide (b < a)) hs)
    | .geq => some (boolR (decide (b ≤ a)) hs)
    | _ => none
    else none

theorem rel_sc {ρ : Rho} {w : World} {Im : Nat → Prop} {u v : Value} (h : Rel ρ w Im (.d (.sc u)) v) : v = u := by
  cases h with
  | d h => cases h; rfl

theorem sound_int {P : Program} {o : Oper} {id : Nat} {E : Operand → AV} {H : Heap} {r : Res} {x y : Operand} {op : BinOp} {t t' : Nat} {k k' : IntKind} {m n : Int} {hs : List Hint}
    (ho : o.op = .binOp op t x y t') (hx : E x = .d (.sc (.int k m))) (hy : E y = .d (.sc (.int k' n))) (h : actInt op k m k' n hs = some r) : Sound P o id E H r := by
  have base : ∀ (ρ : Rho) (w : World) (Im : Nat → Prop) (a : Act), (∀ x, Rel ρ w Im (E x) (a.eval x)) →
      (execOp a.eval o).run P w = ((binOp op t (.int k m) (.int k' n)).run P w).andThen fun v w => .ok (.value v) w := by
    intro ρ w Im a hE
    have h1 := rel_sc (hx ▸ hE x)
    have h2 := rel_sc (hy ▸ hE y)
    simp [execOp, ho, h1, h2, eqGuard_at_int]
  unfold actInt at h
  split at h
  · cases h
    refine goes_num fun ρ w Im a hE hp => ?_
    have hp' : 0 ≤ n := by simpa [allP] using hp
    rw [base ρ w Im a hE]; simp [binOp_shl, Op.shift, show ¬ n < 0 from by omega]
  · cases h
    refine goes_num fun ρ w Im a hE hp => ?_
    have hp' : 0 ≤ n := by simpa [allP] using hp
    rw [base ρ w Im a hE]; simp [binOp_shr, Op.shift, show ¬ n < 0 from by omega]
  · split at h
    · rename_i hk
      obtain rfl := ikEq_eq hk
      split at h <;> first | (cases h; done) | cases h
      · exact goes_num fun ρ w Im a hE _ => by rw [base ρ w Im a hE]; simp [binOp_add, Op.intArith]
      · exact goes_num fun ρ w Im a hE _ => by rw [base ρ w Im a hE]; simp [binOp_sub, Op.intArith]
      · exact goes_num fun ρ w Im a hE _ => by rw [base ρ w Im a hE]; simp [binOp_mul, Op.intArith]
      · exact goes_num fun ρ w Im a hE hp => by
          have hp' : n ≠ 0 := by simpa [allP] using hp
          rw [base ρ w Im a hE]; simp [binOp_quo, Op.intDiv, hp']
      · exact goes_num fun ρ w Im a hE hp => by
          have hp' : n ≠ 0 := by simpa [allP] using hp
          rw [base ρ w Im a hE]; simp [binOp_rem, Op.intDiv, hp']
      · exact goes_num fun ρ w Im a hE _ => by rw [base ρ w Im a hE]; simp [binOp_and, intBits_and]
      · exact goes_num fun ρ w Im a hE _ => by rw [base ρ w Im a hE]; simp [binOp_or, intBits_or]
      · exact goes_num fun ρ w Im a hE _ => by rw [base ρ w Im a hE]; simp [binOp_xor, intBits_xor]
      · exact goes_num fun ρ w Im a hE _ => by rw [base ρ w Im a hE]; simp [binOp_andNot, intBits_andNot]
      · exact goes_bool fun ρ w Im a hE => by rw [base ρ w Im a hE]; simp [binOp_eql]
      · exact goes_bool fun ρ w Im a hE => by rw [base ρ w Im a hE]; simp [binOp_neq]
      · exact goes_bool fun ρ w Im a hE => by rw [base ρ w Im a hE]; simp [binOp_lss]
      · exact goes_bool fun ρ w Im a hE => by rw [base ρ w Im a hE]; simp [binOp_leq]
      · exact goes_bool fun ρ w Im a hE => by rw [base ρ w Im a hE]; simp [binOp_gtr]
      · exact goes_bool fun ρ w Im a hE => by rw [base ρ w Im a hE]; simp [binOp_geq]
    · cases h

/-! Bools, strings, structs compared -/
def isBoolT (P : Program) (t : Nat) : Bool := match P.underlying t with | some .bool => true | _ => false
def isIntT (P : Program) (t : Nat) : Bool := match P.underlying t with | some (.int _) => true | _ => false

/-- Fields that are integers and bools, one cell each, from offset n on. -/
def plainFields (P : Program) : Nat → List Field → Bool
  | _, [] => true
  | n, f :: fs => (f.offset == n && !(f.name == "_") && (isIntT P f.type || isBoolT P f.type)) && plainFields P (n + 1) fs
def eqV1 : Value → Value → Option Bool
  | .int k a, .int k' b => if ikEq k k' then some (a == b) else none
  | .bool a, .bool b => some (a == b)
  | _, _ => none
def eqVals : List Value → List Value → Option Bool
  | [], _ => none
  | _ :: _, [] => none
  | x :: xs, y :: ys => match xs, ys with
    | [], [] => eqV1 x y
    | xs, ys => match eqV1 x y, eqVals xs ys with
      | some b, some r => some (b && r)
      | _, _ => none
def unsc : AV → Option Value
  | .d (.sc v) => some v
  | _ => none
def unscs : List AV → Option (List Value)
  | [] => some []
  | a :: l => match unsc a, unscs l with
    | some x, some r => some (x :: r)
    | _, _ => none
theorem unscs_spec : ∀ {l : List AV} {e : List Value}, unscs l = some e → l = e.map fun v => .d (.sc v)
  | [], e, h => by simp [unscs] at h; subst h; rfl
  | a :: l, e, h => by
    simp only [unscs] at h
    split at h
    · rename_i x r hx hr
      cases h
      rw [unscs_spec hr]
      have : a = .d (.sc x) := by
        unfold unsc at hx
        split at hx
        · cases hx; rfl
        · cases hx
      rw [this]; rfl
    · cases h

theorem run_eqV1 {P : Program} {w : World} {t d : Nat} {x y : Value} {b : Bool} (ht : (isIntT P t || isBoolT P t) = true) (h : eqV1 x y = some b)
    (hk : (isIntT P t = true → ∃ k n, x = .int k n) ∧ (isIntT P t = false → ∃ b, x = .bool b)) : (Op.equalIn (d + 1) t x y).run P w = .ok b w := by
  unfold eqV1 at h
  split at h
  · split at h
    · rename_i hik
      obtain rfl := ikEq_eq hik
      cases h
      cases hi : isIntT P t with
      | true =>
        unfold isIntT at hi
        split at hi
        · exact run_equalIn_int w d t _ _ _ _ ‹_›
        · cases hi
      | false =>
        obtain ⟨b, hb⟩ := hk.2 hi
        cases hb
    · cases h
  · cases h
    cases hi : isIntT P t with
    | true => obtain ⟨k, n, hb⟩ := hk.1 hi; cases hb
    | false =>
      simp only [hi, Bool.false_or] at ht
      unfold isBoolT at ht
      split at ht
      · exact run_equalIn_bool' w d t _ _ ‹_›
      · cases ht
  · cases h

def kindsFit (P : Program) : List Field → List Value → Bool
  | f :: fs, v :: vs => (match v with | .int _ _ => isIntT P f.type | .bool _ => isBoolT P f.type && !isIntT P f.type | _ => false) && kindsFit P fs vs
  | [], [] => true
  | _, _ => false

theorem run_part1 {P : Program} {w : World} {t n : Nat} {cs : Array Value} {v : Value} (ht : (isIntT P t || isBoolT P t) = true) (h : cs[n]? = some v) : (part t cs n).run P w = .ok v w := by
  have hagg : isAggB P t = some false := by
    unfold isAggB
    unfold isIntT isBoolT at ht
    cases hu : P.underlying t with
    | none => simp [hu] at ht
    | some d => cases d <;> simp_all
  simp [part, isAgg_run hagg, h]

theorem run_eqVals {P : Program} {w : World} {d : Nat} {cs cs' : Array Value} : ∀ {fs : List Field} {xs ys : List Value} {n : Nat} {b : Bool}, plainFields P n fs = true → kindsFit P fs xs = true → eqVals xs ys = some b →
    (∀ j v, xs[j]? = some v → cs[n + j]? = some v) → (∀ j v, ys[j]? = some v → cs'[n + j]? = some v) → (Op.eqFields (d + 1) cs cs' fs).run P w = .ok b w
  | [], xs, ys, n, b, _, hk, he, _, _ => by
    cases xs with
    | nil => simp [eqVals] at he
    | cons x xs => simp [kindsFit] at hk
  | f :: fs, xs, ys, n, b, hp, hk, he, hx, hy => by
    cases xs with
    | nil => simp [eqVals] at he
    | cons x xs =>
      cases ys with
      | nil => simp [eqVals] at he
      | cons y ys =>
        simp only [plainFields, Bool.and_eq_true, beq_iff_eq, Bool.not_eq_true', beq_eq_false_iff_ne] at hp
        obtain ⟨⟨⟨hoff, hname⟩, hty⟩, hrest⟩ := hp
        simp only [kindsFit, Bool.and_eq_true] at hk
        obtain ⟨hk1, hk2⟩ := hk
        have px := run_part1 (P := P) (w := w) (t := f.type) (n := f.offset) (cs := cs) (v := x) hty (by rw [hoff]; exact hx 0 x rfl)
        have py := run_part1 (P := P) (w := w) (t := f.type) (n := f.offset) (cs := cs') (v := y) hty (by rw [hoff]; exact hy 0 y rfl)
        have hkx : (isIntT P f.type = true → ∃ k n, x = .int k n) ∧ (isIntT P f.type = false → ∃ b, x = .bool b) := by
          cases x <;> simp_all
        have one : ∀ b1, eqV1 x y = some b1 → (Op.eqFields (d + 1) cs cs' (f :: fs)).run P w = if b1 then (Op.eqFields (d + 1) cs cs' fs).run P w else .ok false w := by
          intro b1 h1
          simp only [Op.eqFields]
          rw [if_pos hname]
          simp only [Sem.run_bind, px, py, Result.andThen_ok, run_eqV1 hty h1 hkx]
          cases b1 <;> simp
        have tail : ∀ r, eqVals xs ys = some r → (Op.eqFields (d + 1) cs cs' fs).run P w = .ok r w := fun r hr =>
          run_eqVals hrest hk2 hr (fun j v hv => by have := hx (j + 1) v (by simpa using hv); rw [← this]; congr 1; omega) (fun j v hv => by have := hy (j + 1) v (by simpa using hv); rw [← this]; congr 1; omega)
        unfold eqVals at he
        split at he
        · rw [one b he]
          have hfs : fs = [] := by
            cases fs with
            | nil => rfl
            | cons _ _ => simp [kindsFit] at hk2
          subst hfs
          cases b <;> simp [Op.eqFields]
        · split at he
          · rename_i b1 r h1 h2
            cases he
            rw [one b1 h1, tail r h2]
            cases b1 <;> simp
          · cases he

def structFields (P : Program) (t : Nat) : List Field := match P.underlying t with | some (.struct fs) => fs.toList | _ => []
/-- Struct values of this type are compared cell by cell. -/
def eqOk (P : Program) (t : Nat) : Bool := plainFields P 0 (structFields P t) && !(P.stoodInHeld t) && !(P.eqGuardType P.depth t) && (match P.underlying t with | some (.struct _) => true | _ => false)

def actEqAg (P : Program) (neg : Bool) (t : Nat) (l l' : List AV) (hs : List Hint) : Option Res :=
  match unscs l, unscs l' with
  | some xs, some ys => if eqOk P t && kindsFit P (structFields P t) xs then
    match eqVals xs ys with
    | some b => some (boolR (if neg then !b else b) hs)
    | none => none
    else none
  | _, _ => none

theorem rel_ag {ρ : Rho} {w : World} {Im : Nat → Prop} {l : List AV} {v : Value} (h : Rel ρ w Im (.ag l) v) : ∃ cs, v = .agg cs ∧ cs.size = l.length ∧ (∀ (i : Nat) (u : Value), cs[i]? = some u → u.oneCell' = true) ∧ ∀ (i : Nat) (a : AV) (u : Value), l[i]? = some a → cs[i]? = some u → Rel ρ w Im a u := by
  cases h with
  | ag _ cs h1 h2 h3 => exact ⟨cs, rfl, h1, h2, h3⟩

theorem sound_eqAg {P : Program} {o : Oper} {id : Nat} {E : Operand → AV} {H : Heap} {r : Res} {x y : Operand} {neg : Bool} {t t' : Nat} {l l' : List AV} {hs : List Hint}
    (ho : o.op = .binOp (if neg then .neq else .eql) t x y t') (hx : E x = .ag l) (hy : E y = .ag l') (h : actEqAg P neg t l l' hs = some r) : Sound P o id E H r := by
  unfold actEqAg at h
  split at h
  rotate_left
  · cases h
  rename_i xs ys hxs hys
  split at h
  rotate_left
  · cases h
  rename_i hok
  split at h
  rotate_left
  · cases h
  rename_i b hb
  cases h
  have e1 := unscs_spec hxs
  have e2 := unscs_spec hys
  simp only [eqOk, Bool.and_eq_true, Bool.not_eq_true'] at hok
  obtain ⟨⟨⟨⟨h1, h2⟩, h3⟩, h4⟩, h5⟩ := hok
  refine goes_bool fun ρ w Im a hE => ?_
  obtain ⟨cs, hv, hn, _, hc⟩ := rel_ag (hx ▸ hE x)
  obtain ⟨cs', hv', hn', _, hc'⟩ := rel_ag (hy ▸ hE y)
  have hst : P.underlying t = some (.struct (P.fieldsOf t)) := by
    unfold Program.fieldsOf
    split at h4
    · rename_i fs hfs; rw [hfs]
    · cases h4
  have hfs : structFields P t = (P.fieldsOf t).toList := by unfold structFields; rw [hst]
  have key : ∀ (cs : Array Value) (xs : List Value) (l : List AV), l = xs.map (fun v => AV.d (.sc v)) → cs.size = l.length → (∀ (i : Nat) (a : AV) (u : Value), l[i]? = some a → cs[i]? = some u → Rel ρ w Im a u) →
      ∀ j v, xs[j]? = some v → cs[0 + j]? = some v := by
    intro cs xs l hl hn hc j v hj
    have hlj : l[j]? = some (.d (.sc v)) := by rw [hl]; simp [hj]
    have hjl : j < cs.size := by rw [hn]; exact (List.getElem?_eq_some_iff.1 hlj).1
    have := rel_sc (hc j _ _ hlj (Array.getElem?_eq_getElem hjl))
    rw [Nat.zero_add, Array.getElem?_eq_getElem hjl, this]
  have hrun := run_eqVals (P := P) (w := w) (d := 9998) (cs := cs) (cs' := cs') h1 h5 hb (key cs xs l e1 hn hc) (key cs' ys l' e2 hn' hc')
  have heq : (Op.equalIn 10000 t (.agg cs) (.agg cs')).run P w = .ok b w := by
    rw [run_equalIn_struct (P := P) w 9999 t cs cs' hst h2, ← hfs]; exact hrun
  cases neg with
  | false =>
    simp only [Bool.false_eq_true, if_false] at ho ⊢
    simp [execOp, ho, hv, hv', run_eqGuard_agg (P := P) w .eql t x y cs cs' h3, run_eql_struct, heq]
  | true =>
    simp only [if_true] at ho ⊢
    simp [execOp, ho, hv, hv', run_eqGuard_agg (P := P) w .neq t x y cs cs' h3, run_neq_struct, heq]

def actBoolEq (P : Program) (neg : Bool) (t : Nat) (a b : Bool) (hs : List Hint) : Option Res := if isBoolT P t then some (boolR (if neg then !(a == b) else a == b) hs) else none
theorem sound_boolEq {P : Program} {o : Oper} {id : Nat} {E : Operand → AV} {H : Heap} {r : Res} {x y : Operand} {neg : Bool} {t t' : Nat} {p q : Bool} {hs : List Hint}
    (ho : o.op = .binOp (if neg then .neq else .eql) t x y t') (hx : E x = .d (.sc (.bool p))) (hy : E y = .d (.sc (.bool q))) (h : actBoolEq P neg t p q hs = some r) : Sound P o id E H r := by
  unfold actBoolEq at h
  split at h
  · rename_i ht
    cases h
    refine goes_bool fun ρ w Im a hE => ?_
    have h1 := rel_sc (hx ▸ hE x)
    have h2 := rel_sc (hy ▸ hE y)
    have hu : P.underlying t = some .bool := by
      unfold isBoolT at ht
      split at ht
      · assumption
      · cases ht
    have heq : (Op.equalIn 10000 t (.bool p) (.bool q)).run P w = .ok (p == q) w := run_equalIn_bool' w 9999 t p q hu
    cases neg with
    | false =>
      simp only [Bool.false_eq_true, if_false] at ho ⊢
      simp [execOp, ho, h1, h2, eqGuard_at_bool, binOp, Op.equal, Op.maxDepth, heq]
    | true =>
      simp only [if_true] at ho ⊢
      simp [execOp, ho, h1, h2, eqGuard_at_bool, binOp, Op.equal, Op.maxDepth, heq]
  · cases h

def actBin (P : Program) (op : BinOp) (t : Nat) (hs : List Hint) (x y : AV) : Option Res :=
  match x, y with
  | .d (.sc (.int k a)), .d (.sc (.int k' b)) => actInt op k a k' b hs
  | .d (.sc (.bool a)), .d (.sc (.bool b)) => match op with
    | .eql => actBoolEq P false t a b hs
    | .neq => actBoolEq P true t a b hs
    | _ => none
  | .ag l, .ag l' => match op with
    | .eql => actEqAg P false t l l' hs
    | .neq => actEqAg P true t l l' hs
    | _ => none
  | _, _ => none
theorem sound_bin {P : Program} {o : Oper} {id : Nat} {E : Operand → AV} {H : Heap} {r : Res} {x y : Operand} {op : BinOp} {t t' : Nat} {hs : List Hint}
    (ho : o.op = .binOp op t x y t') (h : actBin P op t hs (E x) (E y) = some r) : Sound P o id E H r := by
  unfold actBin at h
  split at h
  · exact sound_int ho ‹_› ‹_› h
  · split at h
    · exact sound_boolEq (neg := false) ho ‹_› ‹_› h
    · exact sound_boolEq (neg := true) ho ‹_› ‹_› h
    · cases h
  · split at h
    · exact sound_eqAg (neg := false) ho ‹_› ‹_› h
    · exact sound_eqAg (neg := true) ho ‹_› ‹_› h
    · cases h
  · cases h

/-! One operand -/
def actUn (op : UnOp) (hs : List Hint) (x : AV) : Option Res :=
  match op, x with
  | .not, .d (.sc (.bool b)) => some (boolR (!b) hs)
  | .neg, .d (.sc (.int k n)) => some (numR k (k.wrap (0 - n)) [] hs)
  | _, _ => none
theorem sound_un {P : Program} {o : Oper} {id : Nat} {E : Operand → AV} {H : Heap} {r : Res} {x : Operand} {op : UnOp} {t : Nat} {hs : List Hint}
    (ho : o.op = .unOp op t x) (h : actUn op hs (E x) = some r) : Sound P o id E H r := by
  unfold actUn at h
  split at h
  · rename_i b hx; cases h
    exact goes_bool fun ρ w Im a hE => by have h1 := rel_sc (hx ▸ hE x); simp [execOp, ho, h1, Op.unary]
  · rename_i k n hx; cases h
    exact goes_num fun ρ w Im a hE _ => by have h1 := rel_sc (hx ▸ hE x); simp [execOp, ho, h1, Op.unary, Op.intArith]
  · cases h

def intKindOf (P : Program) (t : Nat) : Option IntKind := match P.underlying t with | some (.int k) => some k | _ => none
def actConv (P : Program) (src dst : Nat) (hs : List Hint) (x : AV) : Option Res :=
  match x with
  | .d (.sc (.int _ n)) => match intKindOf P dst, P.underlying src with
    | some k, some _ => some (numR k (k.wrap n) [] hs)
    | _, _ => none
  | _ => none
theorem sound_conv {P : Program} {o : Oper} {id : Nat} {E : Operand → AV} {H : Heap} {r : Res} {x : Operand} {src dst : Nat} {hs : List Hint}
    (ho : o.op = .convert src dst x) (h : actConv P src dst hs (E x) = some r) : Sound P o id E H r := by
  unfold actConv at h
  split at h
  · rename_i k n hx
    split at h
    · rename_i k' d hk hd
      cases h
      refine goes_num fun ρ w Im a hE _ => ?_
      have h1 := rel_sc (hx ▸ hE x)
      unfold intKindOf at hk
      split at hk
      · rename_i k0 hk0
        cases hk
        simp [execOp, ho, h1, convert, run_underlying hd, run_underlying hk0, Conv.intToInt]
      · cases hk
    · cases h
  · cases h

end Go.Sx
