/-
  One operation of any kind, guards and calls included: a step of the symbolic executor, and a region of steps in the text's order.
  Conditions: none.
-/
import Derived.Test.YtkeimadhboefbaaSxK
namespace Go.Sx

def act (P : Program) (o : Oper) (id : Nat) (hs : List Hint) (E : Operand → AV) (H : Heap) : Option Res :=
  match o.op with
  | .move x => some (actMove (E x))
  | .assign x => match hs with
    | .own :: _ => match x with
      | .const (.slice none 0 0) => actOwn P o.type id
      | _ => none
    | .int n :: _ => match E x with
      | .d (.sc (.int k m)) => some (numR k m [] (.int n :: []))
      | _ => none
    | _ => some (actMove (E x))
  | .alloc t => actAlloc P t id
  | .box t x => actBox t id (E x)
  | .build t parts => actBuild P t (parts.toList.map fun p => (p.1, E p.2))
  | .buildSlice t len parts => actBuildSlice P t len id hs (parts.toList.map fun p => (p.1, E p.2))
  | .load t x => actLoad P t hs (E x) H
  | .store t x y => match szOf P t with
    | 0 => none
    | _ + 1 => actStore P t hs (E x) (E y) H
  | .nilCheck x => actNilCheck (E x)
  | .binOp op t x y _ => actBin P op t hs (E x) (E y)
  | .unOp op _ x => actUn op hs (E x)
  | .convert s t x => actConv P s t hs (E x)
  | .makeFunc fn first captured => actMakeFunc fn first captured E
  | .makeInterface t x => actMakeInterface P t (E x)
  | .makeSlice t x y => actMakeSlice P t id hs (E x) (E y)
  | .slice t x lo hi mx => match mx with
    | none => match elemOfSl P t with
      | some e => match P.info? e with
        | some _ => actSlice P t hs (E x) (lo.map E) (hi.map E) H
        | none => none
      | none => none
    | some _ => none
  | .fieldAddr t x f => actFieldAddr P t f (E x)
  | .field t x f => actField P t f (E x)
  | .indexAddr t x y => actIndexAddr P t hs (E x) (E y) H
  | .extract x n => actExtract n (E x)
  | .call c => match c.callee with
    | .builtin .len => match c.args.toList, c.argTypes.toList with
      | [x], [t] => actLen P t hs (E x) H
      | _, _ => none
    | .builtin .copy => match c.args.toList, c.argTypes.toList with
      | [x, y], [t, _] => actCopy P t hs (E x) (E y) H
      | _, _ => none
    | _ => none
  | _ => none

theorem call_eq {c : Call} {b : Builtin} {l : List Operand} {m : List TypeId} (h1 : c.callee = .builtin b) (h2 : c.args.toList = l) (h3 : c.argTypes.toList = m) : c = ⟨.builtin b, l.toArray, m.toArray⟩ := by
  obtain ⟨x, y, z⟩ := c
  simp only at h1 h2 h3
  subst h1; subst h2; subst h3
  simp

theorem act_sound {P : Program} {o : Oper} {id : Nat} {hs : List Hint} {E : Operand → AV} {H : Heap} {r : Res} (h : act P o id hs E H = some r) : Sound P o id E H r := by
  unfold act at h
  split at h
  · cases h; exact sound_move (.inl ‹_›)
  · split at h
    · split at h
      · exact sound_own ‹_› h
      · cases h
    · rename_i x hop _ n _
      split at h
      · rename_i k m hx
        cases h
        exact goes_num fun ρ w Im a hE _ => by have := rel_sc (hx ▸ hE x); simp [execOp, hop, this]
      · cases h
    · cases h; exact sound_move (.inr ‹_›)
  · exact sound_alloc ‹_› h
  · exact sound_box ‹_› h
  · exact sound_build ‹_› h
  · exact sound_buildSlice ‹_› h
  · exact sound_load ‹_› h
  · split at h
    · cases h
    · exact sound_store ‹_› (by omega) h
  · exact sound_nilCheck ‹_› h
  · exact sound_bin ‹_› h
  · exact sound_un ‹_› h
  · exact sound_conv ‹_› h
  · exact sound_makeFunc ‹_› h
  · exact sound_makeInterface ‹_› h
  · exact sound_makeSlice ‹_› h
  · rename_i hop
    split at h
    · split at h
      · rename_i e he
        split at h
        · rename_i i hi
          exact sound_slice hop (fun e' he' => by rw [he] at he'; cases he'; rw [hi]; rfl) h
        · cases h
      · cases h
    · cases h
  · exact sound_fieldAddr ‹_› h
  · exact sound_field ‹_› h
  · exact sound_indexAddr ‹_› h
  · exact sound_extract ‹_› h
  · rename_i c hop
    split at h
    · rename_i hcal
      split at h
      · rename_i x t h1 h2
        exact sound_len (by rw [hop, call_eq hcal h1 h2]) h
      · cases h
    · rename_i hcal
      split at h
      · rename_i x y t t' h1 h2
        exact sound_copy (by rw [hop, call_eq hcal h1 h2]) h
      · cases h
    · cases h
  · cases h

theorem act_congr {P : Program} {o : Oper} {id : Nat} {hs : List Hint} {E E' : Operand → AV} {H : Heap} (h : ∀ x ∈ o.op.operands.toList, E x = E' x) : act P o id hs E H = act P o id hs E' H := by
  unfold act
  cases hop : o.op with
  | move x => simp only [h x (by simp [hop, Op.operands])]
  | assign x => simp only [h x (by simp [hop, Op.operands])]
  | box t x => simp only [h x (by simp [hop, Op.operands])]
  | build t parts =>
    have : (parts.toList.map fun p => (p.1, E p.2)) = parts.toList.map fun p => (p.1, E' p.2) := List.map_congr_left fun p hp => by
      rw [h p.2 (by simp [hop, Op.operands]; exact ⟨p.1, by simpa using hp⟩)]
    simp only [this]
  | buildSlice t n parts =>
    have : (parts.toList.map fun p => (p.1, E p.2)) = parts.toList.map fun p => (p.1, E' p.2) := List.map_congr_left fun p hp => by
      rw [h p.2 (by simp [hop, Op.operands]; exact ⟨p.1, by simpa using hp⟩)]
    simp only [this]
  | load t x => simp only [h x (by simp [hop, Op.operands])]
  | store t x y => simp only [h x (by simp [hop, Op.operands]), h y (by simp [hop, Op.operands])]
  | nilCheck x => simp only [h x (by simp [hop, Op.operands])]
  | binOp op t x y t' => simp only [h x (by simp [hop, Op.operands]), h y (by simp [hop, Op.operands])]
  | unOp op t x => simp only [h x (by simp [hop, Op.operands])]
  | convert s t x => simp only [h x (by simp [hop, Op.operands])]
  | makeFunc fn first captured =>
    have : (captured.toList.map E) = captured.toList.map E' := List.map_congr_left fun p hp => h p (by simp [hop, Op.operands]; exact .inr (by simpa using hp))
    simp only [actMakeFunc, this]
  | makeInterface t x => simp only [h x (by simp [hop, Op.operands])]
  | makeSlice t x y => simp only [h x (by simp [hop, Op.operands]), h y (by simp [hop, Op.operands])]
  | slice t x lo hi mx =>
    have e1 : lo.map E = lo.map E' := by cases lo with | none => rfl | some y => simp only [Option.map_some]; rw [h y (by simp [hop, Op.operands])]
    have e2 : hi.map E = hi.map E' := by cases hi with | none => rfl | some y => simp only [Option.map_some]; rw [h y (by simp [hop, Op.operands])]
    simp only [h x (by simp [hop, Op.operands]), e1, e2]
  | fieldAddr t x f => simp only [h x (by simp [hop, Op.operands])]
  | field t x f => simp only [h x (by simp [hop, Op.operands])]
  | indexAddr t x y => simp only [h x (by simp [hop, Op.operands]), h y (by simp [hop, Op.operands])]
  | extract x n => simp only [h x (by simp [hop, Op.operands])]
  | call c =>
    have hm : ∀ x ∈ c.args.toList, E x = E' x := fun x hx => h x (by simp only [hop, Op.operands, Call.operands, Array.toList_append, List.mem_append]; exact .inr hx)
    dsimp only
    split
    · split
      · rename_i x t h1 h2; rw [hm x (by rw [h1]; simp)]
      · rfl
    · split
      · rename_i x y t t' h1 h2; rw [hm x (by rw [h1]; simp), hm y (by rw [h1]; simp)]
      · rfl
    · rfl
  | _ => rfl

/-! Guards -/
def bv (b : Bool) : AV := .d (.sc (.bool b))
theorem bv_inj {a b : Bool} (h : bv a = bv b) : a = b := by unfold bv at h; injection h with h; injection h with h; injection h

def wantB : Bool → Bool → Bool
  | true, b => b
  | false, b => !b
/-- Of an operation's guard: none: it can't be told; some none: there is none; some (some g): it runs where g is true. -/
def guardOf (ops : Array Oper) (tmps : List AV) : Option (Nat × Bool) → Option (Option Bool)
  | none => some none
  | some (j, want) => match ops[j]? with
    | some oj => match oj.dst with
      | some t => match tmps.getD t .any with
        | .d (.sc (.bool b)) => some (some (wantB want b))
        | .gd g (.d (.sc (.bool b))) => some (some (g && wantB want b))
        | _ => none
      | none => none
    | none => none

def stripG (G : Option Bool) (R : Operand → AV) (x : Operand) : AV := match G with | none => R x | some _ => strip (R x)
def pairsG (G : Option Bool) (R : Operand → AV) : List Operand → List (AV × AV)
  | [] => []
  | x :: xs => match G with
    | none => pairsG G R xs
    | some g => match R x with
      | .gd g' _ => (bv g', bv g) :: pairsG G R xs
      | _ => pairsG G R xs
def EqP (l : List (AV × AV)) : Prop := ∀ p ∈ l, p.1 = p.2

theorem stripG_rel {ρ : Rho} {w : World} {Im : Nat → Prop} {G : Option Bool} {R : Operand → AV} {l : List Operand} {x : Operand} {v : Value} (hx : x ∈ l) (hp : EqP (pairsG G R l)) (hG : ∀ g, G = some g → g = true) (h : Rel ρ w Im (R x) v) : Rel ρ w Im (stripG G R x) v := by
  cases G with
  | none => exact h
  | some g =>
    have hg := hG g rfl
    simp only [stripG]
    cases hR : R x with
    | gd g' a =>
      have : (bv g', bv g) ∈ pairsG (some g) R l := by
        clear hp h
        induction l with
        | nil => simp at hx
        | cons y l ih =>
          rcases List.mem_cons.1 hx with e | e
          · subst e; simp [pairsG, hR]
          · have := ih e
            simp only [pairsG]
            split
            · exact List.mem_cons_of_mem _ this
            · exact this
      have := bv_inj (hp _ this)
      rw [hR] at h
      cases h with
      | gd h1 h2 => exact h1 (by rw [this]; exact hg)
    | _ => rw [hR] at h; exact h

/-- A guarded value. -/
def mkG : Option Bool → AV → AV
  | none, a => a
  | some g, a => .gd g a
def phG : Option Bool → List Prop → List Prop
  | none, l => l
  | some g, l => l.map fun p => g = true → p
theorem phG_spec {G : Option Bool} {l : List Prop} (h : allP (phG G l)) (hG : ∀ g, G = some g → g = true) : allP l := by
  cases G with
  | none => exact h
  | some g =>
    have hg := hG g rfl
    induction l with
    | nil => trivial
    | cons p l ih =>
      simp only [phG, List.map_cons] at h
      obtain ⟨h1, h2⟩ := allP_cons.1 h
      exact allP_cons.2 ⟨h1 hg, ih h2⟩

/-! Calls -/
/-- What a call of f on these arguments gives: the result, in it slices of new blocks (named 0, 1, ..); fr: nothing of the result lies in the arguments' memory. -/
def RetOk (w : World) (Im : Nat → Prop) (fr : Bool) (res : AV) (news : List Blk) (v : Value) (w' : World) : Prop :=
  Kept (fun _ => False) w w' ∧ ∃ (ρ' : Rho) (Im' : Nat → Prop), (∀ g, Im' g → (fr = false ∧ Im g) ∨ w.heap.size ≤ g) ∧ (∀ g, Im' g → g < w'.heap.size) ∧
    (∀ b β g, ρ' b = some β → β.g = some g → w.heap.size ≤ g ∧ g < w'.heap.size ∧ ¬ Im' g) ∧ (∀ b b' β β' g, ρ' b = some β → ρ' b' = some β' → β.g = some g → β'.g = some g → b = b') ∧
    (∀ (k : Nat) (β : Bi), ρ' k = some β → k < news.length) ∧ (∀ (k : Nat) (B : Blk), news[k]? = some B → ∃ β, ρ' k = some β ∧ RelB ρ' w' Im' β B) ∧ Rel ρ' w' Im' res v
def GSpec (P : Program) (f : Nat) (args : List AV) (fr : Bool) (res : AV) (news : List Blk) : Prop :=
  ∀ (w : World) (Im : Nat → Prop) (vs : Array Value), (∀ g, Im g → g < w.heap.size) → vs.size = args.length → (∀ (i : Nat) (x : AV) (v : Value), args[i]? = some x → vs[i]? = some v → Rel (fun _ => none) w Im x v) →
    Calls P f vs w fun e w' => ∃ v, e = .returned v ∧ RetOk w Im fr res news v w'

/-- An argument as data. -/
def toD1 (H : Heap) (x : AV) : Option AV := match x with
  | .d x => some (.d x)
  | .rp e o => some (.rp e o)
  | .ow _ | .os .. => match content H x with | some (s, els) => some (.d (.sl s els)) | none => none
  | _ => none
def toDs (H : Heap) : List AV → Option (List AV)
  | [] => some []
  | a :: l => match toD1 H a, toDs H l with
    | some x, some r => some (x :: r)
    | _, _ => none
def toD (H : Heap) (x : AV) : Option AV := match x with
  | .ag l => (toDs H l).map .ag
  | .fn f l => (toDs H l).map (.fn f)
  | .ic t a => (toD1 H a).map (.ic t)
  | a => toD1 H a
def toDD (H : Heap) : List AV → Option (List AV)
  | [] => some []
  | a :: l => match toD H a, toDD H l with
    | some x, some r => some (x :: r)
    | _, _ => none

/-- The blocks that a caller lends for reading: all. -/
def ImAll (ρ : Rho) (Im : Nat → Prop) : Nat → Prop := fun g => Im g ∨ ∃ b β, ρ b = some β ∧ β.g = some g

section
variable {Ow Im0 : Nat → Prop} {w0 : World} {ρ : Rho} {w : World} {Im : Nat → Prop} {H : Heap} {clk : Nat}

theorem content_data {x : AV} {v : Value} {s : Nat} {els : List (List DV)} (I : Inv Ow Im0 w0 ρ w Im H clk) (hx : Rel ρ w Im x v) (h : content H x = some (s, els)) : RelD w (ImAll ρ Im) (.sl s els) v := by
  obtain ⟨p, c, rfl, hb, hc, hl, hcell⟩ := content_spec I hx h
  by_cases he : els = []
  · subst he; exact .slNil _ _ _
  rcases hcell with hcell | ⟨q, rfl, hq, hcell⟩
  · exact absurd hcell he
  have hex : ∀ (i : Nat) (e : List DV) (o : Nat) (y : DV), els[i]? = some e → e[o]? = some y → RelD w (ImAll ρ Im) y ((w.cell? ⟨q.block, q.off + (i * s + o), none⟩).getD undef) := by
    intro i e o y hi ho
    obtain ⟨u, k1, k2⟩ := hcell i e o y hi ho
    rw [k1]; exact k2.mono (Ext.refl _ _) (fun _ h => .inl h)
  refine .sl s els q els.length c (fun i o => (w.cell? ⟨q.block, q.off + (i * s + o), none⟩).getD undef) rfl hc hb (hl he) hq ?_ ?_ hex
  · unfold content at h
    split at h
    · cases h
      cases hx with
      | d hx =>
        cases hx with
        | slNil => exact absurd rfl he
        | sl _ _ _ _ _ _ _ _ _ _ _ him => exact .inl him
    · split at h
      rotate_left
      · cases h
      rename_i b _ ty s' els' hb'
      cases h
      generalize hvv : Value.slice (some q) els.length c = vv at hx
      cases hx with
      | ow hρ hcc _ ha =>
        injection hvv with e1 e2 e3
        rcases ha with ha | ⟨g, hg, e, _⟩
        · have : 0 < els.length := List.length_pos_iff.2 he
          omega
        · rw [← e1] at e; cases e; exact .inr ⟨b, _, hρ, hg⟩
    · split at h
      rotate_left
      · cases h
      rename_i b oo m _ ty s' els' hb'
      cases h
      generalize hvv : Value.slice (some q) ((els'.drop oo).take m).length c = vv at hx
      cases hx with
      | os hρ hn hcc _ ha =>
        injection hvv with e1 e2 e3
        rcases ha with ha | ⟨g, hg, e, _⟩
        · exfalso
          have : 0 < ((els'.drop oo).take m).length := List.length_pos_iff.2 he
          omega
        · rw [← e1] at e; cases e; exact .inr ⟨b, _, hρ, hg⟩
    · cases h
  · intro i e o y hi ho
    obtain ⟨u, k1, _⟩ := hcell i e o y hi ho
    rw [k1]; rfl

theorem toD1_rel {x y : AV} {v : Value} (I : Inv Ow Im0 w0 ρ w Im H clk) (hx : Rel ρ w Im x v) (h : toD1 H x = some y) : Rel (fun _ => none) w (ImAll ρ Im) y v := by
  unfold toD1 at h
  split at h
  · cases h; cases hx with | d hx => exact .d (hx.mono (Ext.refl _ _) (fun _ h => .inl h))
  · cases h
    cases hx with | rp h1 h2 h3 => exact .rp h1 (.inl h2) (fun j x hx => let ⟨v, k1, k2⟩ := h3 j x hx; ⟨v, k1, k2.mono (Ext.refl _ _) (fun _ h => .inl h)⟩)
  · split at h
    · cases h; exact .d (content_data I hx ‹_›)
    · cases h
  · split at h
    · cases h; exact .d (content_data I hx ‹_›)
    · cases h
  · cases h

theorem toDs_get {H : Heap} : ∀ {l m : List AV}, toDs H l = some m → m.length = l.length ∧ ∀ (i : Nat) (y : AV), m[i]? = some y → ∃ x, l[i]? = some x ∧ toD1 H x = some y
  | [], m, h => by simp [toDs] at h; subst h; simp
  | a :: l, m, h => by
    simp only [toDs] at h
    split at h
    · rename_i x r hx hr
      cases h
      obtain ⟨h1, h2⟩ := toDs_get hr
      refine ⟨by simp [h1], fun i y hy => ?_⟩
      cases i with
      | zero => simp at hy; subst hy; exact ⟨a, rfl, hx⟩
      | succ i => exact h2 i y (by simpa using hy)
    · cases h

theorem toD_rel {x y : AV} {v : Value} (I : Inv Ow Im0 w0 ρ w Im H clk) (hx : Rel ρ w Im x v) (h : toD H x = some y) : Rel (fun _ => none) w (ImAll ρ Im) y v := by
  unfold toD at h
  split at h
  · simp only [Option.map_eq_some_iff] at h
    obtain ⟨m, hm, rfl⟩ := h
    obtain ⟨h1, h2⟩ := toDs_get hm
    obtain ⟨cs, rfl, k1, k2, k3⟩ := rel_ag hx
    refine .ag _ cs (by omega) k2 fun i a u ha hu => ?_
    obtain ⟨x, hx', hd⟩ := h2 i a ha
    exact toD1_rel I (k3 i x u hx' hu) hd
  · simp only [Option.map_eq_some_iff] at h
    obtain ⟨m, hm, rfl⟩ := h
    obtain ⟨h1, h2⟩ := toDs_get hm
    cases hx with
    | fn k1 k3 =>
      refine .fn (by omega) fun i a u ha hu => ?_
      obtain ⟨x, hx', hd⟩ := h2 i a ha
      exact toD1_rel I (k3 i x u hx' hu) hd
  · simp only [Option.map_eq_some_iff] at h
    obtain ⟨m, hm, rfl⟩ := h
    cases hx with
    | ic hx => exact .ic (toD1_rel I hx hm)
  · exact toD1_rel I hx h
end

theorem toDD_get {H : Heap} : ∀ {l m : List AV}, toDD H l = some m → m.length = l.length ∧ ∀ (i : Nat) (y : AV), m[i]? = some y → ∃ x, l[i]? = some x ∧ toD H x = some y
  | [], m, h => by simp [toDD] at h; subst h; simp
  | a :: l, m, h => by
    simp only [toDD] at h
    split at h
    · rename_i x r hx hr
      cases h
      obtain ⟨h1, h2⟩ := toDD_get hr
      refine ⟨by simp [h1], fun i y hy => ?_⟩
      cases i with
      | zero => simp at hy; subst hy; exact ⟨a, rfl, hx⟩
      | succ i => exact h2 i y (by simpa using hy)
    · cases h

/-- An argument that has nothing of the call's own. -/
def isPure1 : AV → Bool
  | .d _ | .rp .. => true
  | _ => false
def isPure : AV → Bool
  | .ag l => l.all isPure1
  | .fn _ l => l.all isPure1
  | .ic _ a => isPure1 a
  | a => isPure1 a

theorem isPure1_rel {ρ ρ' : Rho} {w : World} {Im : Nat → Prop} {x : AV} {v : Value} (h : Rel ρ w Im x v) (hp : isPure1 x = true) : Rel ρ' w Im x v := by
  cases h <;> first | (simp [isPure1] at hp; done) | skip
  · exact .d ‹_›
  · exact .rp ‹_› ‹_› ‹_›
theorem isPure_rel {ρ ρ' : Rho} {w : World} {Im : Nat → Prop} {x : AV} {v : Value} (h : Rel ρ w Im x v) (hp : isPure x = true) : Rel ρ' w Im x v := by
  unfold isPure at hp
  split at hp
  · obtain ⟨cs, rfl, k1, k2, k3⟩ := rel_ag h
    simp only [List.all_eq_true] at hp
    exact .ag _ cs k1 k2 fun i a u ha hu => isPure1_rel (k3 i a u ha hu) (hp a (List.mem_of_getElem? ha))
  · cases h with
    | fn k1 k3 =>
      simp only [List.all_eq_true] at hp
      exact .fn k1 fun i a u ha hu => isPure1_rel (k3 i a u ha hu) (hp a (List.mem_of_getElem? ha))
  · cases h with
    | ic h => exact .ic (isPure1_rel h hp)
  · exact isPure1_rel h hp

end Go.Sx
