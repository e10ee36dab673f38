/-
  Addresses, slices, lengths, tuples, functions of the symbolic executor.
  Conditions: none.
-/
import Derived.Test.YtkeimadhboefbaaSxE
namespace Go.Sx

def fieldOf (P : Program) (t f : Nat) : Option Field := match P.underlying t with | some (.struct fs) => fs[f]? | _ => none

def actFieldAddr (P : Program) (t f : Nat) (x : AV) : Option Res :=
  match fieldOf P t f with
  | some fd => match szOf P fd.type with
    | 0 => none
    | _ + 1 => match x with
      | .pt b i o => some ⟨.pt b i (o + fd.offset), none, []⟩
      | .rp e o => some ⟨.rp e (o + fd.offset), none, []⟩
      | _ => none
  | none => none

theorem run_fieldAt {P : Program} {w : World} {t f : Nat} {fd : Field} {n : Nat} (h : fieldOf P t f = some fd) (hz : szOf P fd.type = n + 1) (g o : Nat) :
    (Instr.fieldAt t (.pointer (some ⟨g, o, none⟩)) f).run P w = .ok (.pointer (some ⟨g, o + fd.offset, none⟩)) w := by
  unfold fieldOf at h
  split at h
  · rename_i fs hu
    have hs := size_run hz (by simp) w
    simp [Instr.fieldAt, run_underlying hu, h, Instr.sureAddr, fieldPlace, hs, Addr.add_lit]
  · cases h

theorem sound_fieldAddr {P : Program} {o : Oper} {id : Nat} {E : Operand → AV} {H : Heap} {r : Res} {x : Operand} {t f : Nat}
    (ho : o.op = .fieldAddr t x f) (h : actFieldAddr P t f (E x) = some r) : Sound P o id E H r := by
  intro Ow Im0 w0 ρ w Im clk a I _ _ hE _
  have hx := hE x
  unfold actFieldAddr at h
  split at h
  rotate_left
  · cases h
  rename_i fd hfd
  split at h
  · cases h
  rename_i n hz
  split at h
  · rename_i b i oo hE'
    cases h
    rw [hE'] at hx
    obtain ⟨g, s, m, hρ, hv⟩ := rel_ptr hx
    refine .inl ⟨.pointer (some ⟨g, i * s + oo + fd.offset, none⟩), w, by simp [execOp, ho, hv, run_fieldAt hfd hz], .same I ?_⟩
    have := Rel.pt (w := w) (Im := Im) (i := i) (o := oo + fd.offset) hρ
    rwa [← Nat.add_assoc] at this
  · rename_i e oo hE'
    cases h
    rw [hE'] at hx
    generalize hv : a.eval x = v at hx
    cases hx with
    | rp hp him hc =>
      rename_i p
      refine .inl ⟨.pointer (some ⟨p.block, p.off + oo + fd.offset, none⟩), w, by simp [execOp, ho, hv, run_fieldAt hfd hz], .same I ?_⟩
      have := Rel.rp (ρ := ρ) (o := oo + fd.offset) hp him hc
      rwa [← Nat.add_assoc] at this
  · cases h

/-- A field of a struct's value. -/
def actField (P : Program) (t f : Nat) (x : AV) : Option Res :=
  match fieldOf P t f with
  | some fd => match x with
    | .ag l => (pick1 P fd.type l fd.offset).map fun y => ⟨y, none, []⟩
    | _ => none
  | none => none
theorem run_part {P : Program} {w : World} {t : Nat} {l : List AV} {cs : Array Value} {o : Nat} {x : AV} {ρ : Rho} {Im : Nat → Prop} (hn : cs.size = l.length) (hone : ∀ (i : Nat) (u : Value), cs[i]? = some u → u.oneCell' = true)
    (hc : ∀ (i : Nat) (a : AV) (u : Value), l[i]? = some a → cs[i]? = some u → Rel ρ w Im a u) (hx : pick1 P t l o = some x) : ∃ v, (part t cs o).run P w = .ok v w ∧ Rel ρ w Im x v := by
  unfold pick1 at hx
  split at hx
  · rename_i hagg
    split at hx
    · rename_i hlen
      cases hx
      have hs : (sizeOf t).run P w = .ok (szOf P t) w := by
        unfold isAggB at hagg
        unfold szOf
        cases hi : P.info? t with
        | none => simp [Program.underlying, hi] at hagg
        | some i => simp [sizeOf, typeInfo, hi]
      refine ⟨.agg (cs.extract o (o + szOf P t)), by simp [part, isAgg_run hagg, hs], .ag _ _ ?_ ?_ ?_⟩
      · have : (seg l o (szOf P t)).length = min (szOf P t) (l.length - o) := by simp [seg]
        simp; omega
      · intro i u hu
        rw [Array.getElem?_extract] at hu
        split at hu
        · exact hone _ u hu
        · cases hu
      · intro i a u ha hu
        rw [Array.getElem?_extract] at hu
        split at hu
        · refine hc _ a u ?_ hu
          simp only [seg] at ha
          rw [List.getElem?_take] at ha
          split at ha
          · rwa [List.getElem?_drop] at ha
          · cases ha
        · cases hu
    · cases hx
  · rename_i hagg
    have ho : o < cs.size := by rw [hn]; exact (List.getElem?_eq_some_iff.1 hx).1
    exact ⟨cs[o], by simp [part, isAgg_run hagg, ho], hc o x _ hx (Array.getElem?_eq_getElem ho)⟩
  · cases hx
theorem sound_field {P : Program} {o : Oper} {id : Nat} {E : Operand → AV} {H : Heap} {r : Res} {x : Operand} {t f : Nat}
    (ho : o.op = .field t x f) (h : actField P t f (E x) = some r) : Sound P o id E H r := by
  intro Ow Im0 w0 ρ w Im clk a I _ _ hE _
  have hx := hE x
  unfold actField at h
  split at h
  rotate_left
  · cases h
  rename_i fd hfd
  split at h
  rotate_left
  · cases h
  rename_i l hE'
  simp only [Option.map_eq_some_iff] at h
  obtain ⟨y, hy, rfl⟩ := h
  obtain ⟨cs, hv, hn, hone, hc⟩ := rel_ag (hE' ▸ hx)
  obtain ⟨v, k1, k2⟩ := run_part (P := P) hn hone hc hy
  unfold fieldOf at hfd
  split at hfd
  · rename_i fs hu
    exact .inl ⟨v, w, by simp [execOp, ho, hv, Instr.field, run_underlying hu, hfd, asAgg, k1], .same I k2⟩
  · cases hfd

def elemOfSl (P : Program) (t : Nat) : Option Nat := match P.underlying t with | some (.slice e) => some e | _ => none
def elemOfArr (P : Program) (t : Nat) : Option (Nat × Nat) := match P.underlying t with | some (.array n e) => some (n, e) | _ => none

/-- The index, or the one that a hint names for it. -/
def intH (hs : List Hint) (n : Int) : Int × List Prop := match hs with
  | .int m :: _ => (m, [n = m])
  | _ => (n, [])
theorem intH_ok {hs : List Hint} {n m : Int} {ps : List Prop} (h : intH hs n = (m, ps)) (hp : allP ps) : n = m := by
  unfold intH at h
  split at h
  · cases h; exact hp
  · cases h; rfl
def actIndexAddr (P : Program) (t : Nat) (hs : List Hint) (x y : AV) (H : Heap) : Option Res :=
  match y with
  | .d (.sc (.int _ n)) => match elemOfSl P t with
    | some e => match x with
      | .d (.sl s els) => if szOf P e = s ∧ s ≠ 0 then
        match hs with
        | .el e :: _ => some ⟨.rp e 0, none, [0 ≤ n ∧ els[n.toNat]? = some e]⟩
        | _ => none
        else none
      | .ow b => match H b with
        | some (.arr _ s els) => if szOf P e = s ∧ s ≠ 0 then some ⟨.pt b n.toNat 0, none, [0 ≤ n ∧ n.toNat < els.length]⟩ else none
        | _ => none
      | .os b o m => match H b with
        | some (.arr _ s _) => if szOf P e = s ∧ s ≠ 0 then some ⟨.pt b (o + n.toNat) 0, none, [0 ≤ n ∧ n.toNat < m]⟩ else none
        | _ => none
      | _ => none
    | none => match elemOfArr P t with
      | some (m, e) => match x with
        | .pt b i o => match intH hs n with
          | (.ofNat k, ps) => if k < m ∧ szOf P e ≠ 0 then some ⟨.pt b i (o + k * szOf P e), none, ps⟩ else none
          | _ => none
        | _ => none
      | none => none
  | _ => none

theorem run_indexAt_ok {P : Program} {w : World} {t e : Nat} {p : Addr} {len cap : Nat} {k : IntKind} {n : Int} (ht : elemOfSl P t = some e) (hz : szOf P e ≠ 0) (h0 : 0 ≤ n) (h1 : n < len) :
    (Instr.indexAt t (.slice (some p) len cap) (.int k n)).run P w = .ok (.pointer (some (p.add (n.toNat * szOf P e)))) w := by
  unfold elemOfSl at ht
  split at ht
  · rename_i e' hu
    cases ht
    have hs := size_run (P := P) rfl hz w
    simp [Instr.indexAt, run_underlying hu, asIntOf, h0, h1, hs]
  · cases ht

theorem addr_add {p : Addr} (hp : p.spot = none) (n : Nat) : p.add n = ⟨p.block, p.off + n, none⟩ := by
  obtain ⟨b, o, s⟩ := p
  simp only at hp
  subst hp
  exact Addr.add_lit b o n

theorem sound_indexAddr {P : Program} {o : Oper} {id : Nat} {E : Operand → AV} {H : Heap} {r : Res} {x y : Operand} {t : Nat} {hs : List Hint}
    (ho : o.op = .indexAddr t x y) (h : actIndexAddr P t hs (E x) (E y) H = some r) : Sound P o id E H r := by
  intro Ow Im0 w0 ρ w Im clk a I _ _ hE hph
  have hx := hE x
  have hy := hE y
  unfold actIndexAddr at h
  split at h
  rotate_left
  · cases h
  rename_i k n hE2
  rw [hE2] at hy
  have hvy := rel_sc hy
  split at h
  · rename_i e he
    split at h
    · rename_i s els hE1
      rw [hE1] at hx
      split at h
      rotate_left
      · cases h
      rename_i hsz
      split at h
      rotate_left
      · cases h
      rename_i e' _
      cases h
      obtain ⟨p1, p2⟩ : 0 ≤ n ∧ els[n.toNat]? = some e' := by simpa [allP] using hph
      generalize hv : a.eval x = v at hx
      cases hx with
      | d hx =>
        cases hx with
        | slNil s a c => simp at p2
        | sl s els p m c f hn hc hb hs hp him hcell hrel =>
          have hlt : n.toNat < els.length := (List.getElem?_eq_some_iff.1 p2).1
          refine .inl ⟨.pointer (some (p.add (n.toNat * szOf P e))), w, by simp [execOp, ho, hv, hvy, run_indexAt_ok he (by rw [hsz.1]; exact hsz.2) p1 (show n < (m : Int) from by omega)], .same I ?_⟩
          rw [addr_add hp, hsz.1]
          have := Rel.rp (ρ := ρ) (w := w) (Im := Im) (e := e') (o := 0) (p := ⟨p.block, p.off + n.toNat * s, none⟩) rfl him (fun j d hj => ⟨f n.toNat j, by
            have := hcell n.toNat e' j d p2 hj
            rw [← Nat.add_assoc] at this; exact this, hrel n.toNat e' j d p2 hj⟩)
          simpa using this
    · rename_i b hE1
      rw [hE1] at hx
      split at h
      rotate_left
      · cases h
      rename_i ty s els hb
      split at h
      rotate_left
      · cases h
      rename_i hsz
      cases h
      obtain ⟨p1, p2⟩ : 0 ≤ n ∧ n.toNat < els.length := by simpa [allP] using hph
      generalize hv : a.eval x = v at hx
      cases hx with
      | ow hρ hc hbg ha =>
        rename_i c ad β
        obtain ⟨β', h1, h2⟩ := I.blk b _ hb
        rw [hρ] at h1; cases h1
        obtain ⟨g1, g2, _, _, _⟩ := h2
        rcases ha with ha | ⟨g, hg, rfl, hrow⟩
        · omega
        · refine .inl ⟨.pointer (some (Addr.add ⟨g, 0, none⟩ (n.toNat * szOf P e))), w, by simp [execOp, ho, hv, hvy, run_indexAt_ok he (by rw [hsz.1]; exact hsz.2) p1 (show n < (β.n : Int) from by omega)], .same I ?_⟩
          rw [Addr.add_lit, hsz.1]
          obtain ⟨bg, bs, bn⟩ := β
          simp only at hg g1 g2
          subst hg; subst g1
          have := Rel.pt (w := w) (Im := Im) (i := n.toNat) (o := 0) hρ
          simpa using this
    · rename_i b oo m hE1
      rw [hE1] at hx
      split at h
      rotate_left
      · cases h
      rename_i ty s els hb
      split at h
      rotate_left
      · cases h
      rename_i hsz
      cases h
      obtain ⟨p1, p2⟩ : 0 ≤ n ∧ n.toNat < m := by simpa [allP] using hph
      generalize hv : a.eval x = v at hx
      cases hx with
      | os hρ hn hc hbg ha =>
        rename_i c ad β
        obtain ⟨β', h1, h2⟩ := I.blk b _ hb
        rw [hρ] at h1; cases h1
        obtain ⟨g1, g2, _, _, _⟩ := h2
        rcases ha with ha | ⟨g, hg, rfl, hrow⟩
        · omega
        · refine .inl ⟨.pointer (some (Addr.add ⟨g, oo * β.s, none⟩ (n.toNat * szOf P e))), w, by simp [execOp, ho, hv, hvy, run_indexAt_ok he (by rw [hsz.1]; exact hsz.2) p1 (show n < (m : Int) from by omega)], .same I ?_⟩
          rw [Addr.add_lit, hsz.1]
          obtain ⟨bg, bs, bn⟩ := β
          simp only at hg g1 g2
          subst hg; subst g1
          have := Rel.pt (w := w) (Im := Im) (i := oo + n.toNat) (o := 0) hρ
          rw [Nat.add_mul] at this
          simpa using this
    · cases h
  · split at h
    rotate_left
    · cases h
    rename_i m e he
    split at h
    rotate_left
    · cases h
    rename_i b i oo hE1
    rw [hE1] at hx
    split at h
    rotate_left
    · cases h
    rename_i k' ps' hk'
    split at h
    rotate_left
    · cases h
    rename_i hkm
    cases h
    have hnk := intH_ok hk' hph
    subst hnk
    obtain ⟨g, s, mm, hρ, hv⟩ := rel_ptr hx
    unfold elemOfArr at he
    split at he
    · rename_i m' e' hu
      cases he
      have hsr := size_run (P := P) rfl hkm.2 w
      refine .inl ⟨_, w, ?_, .same I (Rel.pt (i := i) (o := oo + k' * szOf P e) hρ)⟩
      have e1 : i * s + oo + k' * szOf P e = i * s + (oo + k' * szOf P e) := by omega
      have hk : (k' : Int) < m := by omega
      simp [execOp, ho, hv, hvy, Instr.indexAt, run_underlying hu, asIntOf, Instr.sureAddr, hsr, Addr.add_lit, e1, hkm.1]
    · cases he

/-! len -/
def actLen (P : Program) (t : Nat) (hs : List Hint) (x : AV) (H : Heap) : Option Res :=
  match elemOfSl P t with
  | some _ => match x with
    | .d (.sl _ els) => some (numR .i64 els.length [] hs)
    | .ow b => match H b with
      | some (.arr _ _ els) => some (numR .i64 els.length [] hs)
      | _ => none
    | .os _ _ n => some (numR .i64 n [] hs)
    | _ => none
  | none => none

theorem sound_len {P : Program} {o : Oper} {id : Nat} {E : Operand → AV} {H : Heap} {r : Res} {x : Operand} {t : Nat} {hs : List Hint}
    (ho : o.op = .call ⟨.builtin .len, #[x], #[t]⟩) (h : actLen P t hs (E x) H = some r) : Sound P o id E H r := by
  unfold actLen at h
  split at h
  rotate_left
  · cases h
  rename_i e he
  unfold elemOfSl at he
  split at he
  rotate_left
  · cases he
  rename_i e' hu
  have base : ∀ (w : World) (a : Act) (p : Option Addr) (n c : Nat), a.eval x = .slice p n c → (execOp a.eval o).run P w = .ok (.value (.int .i64 n)) w := by
    intro w a p n c hv
    simp [execOp, ho, resolve, hv, invoke, builtin, Builtin.len_, run_underlying hu, goInt]
  split at h
  · rename_i s els hE1
    cases h
    refine goes_num fun ρ w Im a hE _ => ?_
    have hx := hE x
    rw [hE1] at hx
    generalize hv : a.eval x = v at hx
    cases hx with
    | d hx =>
      cases hx with
      | slNil s p c => exact base w a _ _ _ hv
      | sl s els p n c f hn => rw [base w a _ _ _ hv, hn]
  · rename_i b hE1
    split at h
    rotate_left
    · cases h
    rename_i ty s els hb
    cases h
    intro Ow Im0 w0 ρ w Im clk a I _ _ hE hph
    have hx := hE x
    rw [hE1] at hx
    generalize hv : a.eval x = v at hx
    cases hx with
    | ow hρ hc hbg ha =>
      rename_i c ad β
      obtain ⟨β', h1, h2⟩ := I.blk b _ hb
      rw [hρ] at h1; cases h1
      obtain ⟨g1, g2, _, _, _⟩ := h2
      have hrun := base w a _ _ _ hv
      rw [g2] at hrun
      unfold numR at hph ⊢
      split at hph
      · rename_i m _
        obtain ⟨h1, _⟩ := allP_cons.1 hph
        rw [h1] at hrun
        exact .inl ⟨_, w, hrun, .same I (.d (.sc _ rfl))⟩
      · exact .inl ⟨_, w, hrun, .same I (.d (.sc _ rfl))⟩
  · rename_i b oo n hE1
    cases h
    refine goes_num fun ρ w Im a hE _ => ?_
    have hx := hE x
    rw [hE1] at hx
    generalize hv : a.eval x = v at hx
    cases hx with
    | os hρ hn hc hbg ha => exact base w a _ _ _ hv
  · cases h

/-! Tuples, functions, interfaces, tests -/
def actExtract (n : Nat) (x : AV) : Option Res := match x with | .tu l => (l[n]?).map fun y => ⟨y, none, []⟩ | _ => none
theorem sound_extract {P : Program} {o : Oper} {id : Nat} {E : Operand → AV} {H : Heap} {r : Res} {x : Operand} {n : Nat}
    (ho : o.op = .extract x n) (h : actExtract n (E x) = some r) : Sound P o id E H r := by
  intro Ow Im0 w0 ρ w Im clk a I _ _ hE _
  have hx := hE x
  unfold actExtract at h
  split at h
  · rename_i l hE1
    simp only [Option.map_eq_some_iff] at h
    obtain ⟨y, hy, rfl⟩ := h
    rw [hE1] at hx
    generalize hv : a.eval x = v at hx
    cases hx with
    | tu l cs hn hc =>
      have hl : n < cs.size := by rw [hn]; exact (List.getElem?_eq_some_iff.1 hy).1
      exact .inl ⟨cs[n], w, by simp [execOp, ho, hv, Instr.extract, hl], .same I (hc n y _ hy (by simp [hl]))⟩
  · cases h

def actNilCheck (x : AV) : Option Res := match x with | .pt b i o => some ⟨.pt b i o, none, []⟩ | .rp e o => some ⟨.rp e o, none, []⟩ | .fn f c => some ⟨.fn f c, none, []⟩ | _ => none
theorem sound_nilCheck {P : Program} {o : Oper} {id : Nat} {E : Operand → AV} {H : Heap} {r : Res} {x : Operand}
    (ho : o.op = .nilCheck x) (h : actNilCheck (E x) = some r) : Sound P o id E H r := by
  intro Ow Im0 w0 ρ w Im clk a I _ _ hE _hph
  have hx := hE x
  unfold actNilCheck at h
  split at h <;> first | (cases h; done) | cases h
  · rename_i b i oo hE1
    rw [hE1] at hx
    obtain ⟨g, s, m, hρ, hv⟩ := rel_ptr hx
    exact .inl ⟨_, w, by simp [execOp, ho, hv], .same I (.pt hρ)⟩
  · rename_i e oo hE1
    rw [hE1] at hx
    generalize hv : a.eval x = v at hx
    cases hx with
    | rp hp him hc => exact .inl ⟨_, w, by simp [execOp, ho, hv], .same I (.rp hp him hc)⟩
  · rename_i f c hE1
    rw [hE1] at hx
    generalize hv : a.eval x = v at hx
    cases hx with
    | fn hn hc => exact .inl ⟨_, w, by simp [execOp, ho, hv], .same I (.fn hn hc)⟩

def actMakeFunc (fn : Fn) (first captured : Array Operand) (E : Operand → AV) : Option Res :=
  match fn, first.toList with
  | .func f, [] => some ⟨.fn f (captured.toList.map E), none, []⟩
  | _, _ => none
theorem sound_makeFunc {P : Program} {o : Oper} {id : Nat} {E : Operand → AV} {H : Heap} {r : Res} {fn : Fn} {first captured : Array Operand}
    (ho : o.op = .makeFunc fn first captured) (h : actMakeFunc fn first captured E = some r) : Sound P o id E H r := by
  intro Ow Im0 w0 ρ w Im clk a I _ _ hE _
  unfold actMakeFunc at h
  split at h
  · rename_i f hf
    cases h
    have : first = #[] := by simpa using hf
    subst this
    refine .inl ⟨.func (.func f) #[] (captured.map a.eval), w, by simp [execOp, ho, Instr.makeFunc], .same I (.fn (by simp) fun i b v hb hv => ?_)⟩
    simp only [List.getElem?_map, Option.map_eq_some_iff] at hb
    obtain ⟨x, hx, rfl⟩ := hb
    have hx' : captured[i]? = some x := by simpa using hx
    simp only [Array.getElem?_map, hx', Option.map_some, Option.some.injEq] at hv
    subst hv
    exact hE x
  · cases h

def concreteB (P : Program) (t : Nat) : Bool := match P.underlying t with | some (.interface _) => false | some _ => true | none => false
def actMakeInterface (P : Program) (t : Nat) (x : AV) : Option Res := if concreteB P t then some ⟨.ic t x, none, []⟩ else none
theorem sound_makeInterface {P : Program} {o : Oper} {id : Nat} {E : Operand → AV} {H : Heap} {r : Res} {x : Operand} {t : Nat}
    (ho : o.op = .makeInterface t x) (h : actMakeInterface P t (E x) = some r) : Sound P o id E H r := by
  intro Ow Im0 w0 ρ w Im clk a I _ _ hE _
  unfold actMakeInterface at h
  split at h
  · rename_i hc
    cases h
    have hc' : P.concrete t = true := by
      unfold concreteB at hc
      unfold Program.concrete
      cases hu : P.underlying t with
      | none => simp [hu] at hc
      | some d => cases d <;> simp_all
    exact .inl ⟨_, w, by simp [execOp, ho, run_makeInterface (P := P) w t _ hc'], .same I (.ic (hE x))⟩
  · cases h

end Go.Sx
