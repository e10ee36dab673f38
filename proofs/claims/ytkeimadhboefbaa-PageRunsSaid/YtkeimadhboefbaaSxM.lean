/-
  A step of the symbolic executor: one operation of any kind; a region in the text's order.
  Conditions: none.
-/
import Derived.Test.YtkeimadhboefbaaSxL
namespace Go.Sx

def nid (dst clk k : Nat) : Nat := clk * 8000 + (k + 1) * 1000 + dst
def renF (dst clk : Nat) : AV → AV
  | .pt k i o => .pt (nid dst clk k) i o
  | .os k o n => .os (nid dst clk k) o n
  | .ow k => .ow (nid dst clk k)
  | a => a
def mapT (f : AV → AV) : AV → AV
  | .tu l => .tu (l.map (mapA f))
  | a => mapA f a
def isArr : Blk → Bool
  | .arr .. => true
  | _ => false
def addNews (dst clk : Nat) : Nat → List Blk → Heap → Heap
  | _, [], H => H
  | k, B :: r, H => addNews dst clk (k + 1) r (updH H (nid dst clk k) B)
def newsOk (dst clk : Nat) : Nat → List Blk → Heap → Bool
  | _, [], _ => true
  | k, B :: r, H => isArr B && (match H (nid dst clk k) with | none => true | some _ => false) && newsOk dst clk (k + 1) r (updH H (nid dst clk k) B)

theorem mapT_rel {ρ ρ' : Rho} {w : World} {Im Im' : Nat → Prop} {f : AV → AV} (hi : ∀ g, Im g → Im' g) (hpt : ∀ b i o v, Rel ρ w Im (.pt b i o) v → Rel ρ' w Im' (f (.pt b i o)) v) (hos : ∀ b o n v, Rel ρ w Im (.os b o n) v → Rel ρ' w Im' (f (.os b o n)) v)
    (how : ∀ b v, Rel ρ w Im (.ow b) v → Rel ρ' w Im' (f (.ow b)) v) {a : AV} {v : Value} (h : Rel ρ w Im a v) : Rel ρ' w Im' (mapT f a) v := by
  cases a with
  | tu l =>
    cases h with
    | tu _ cs h1 h3 =>
      refine .tu _ cs (by simpa using h1) fun i x v hx hv => ?_
      simp only [List.getElem?_map, Option.map_eq_some_iff] at hx
      obtain ⟨y, hy, rfl⟩ := hx
      exact mapA_rel hi hpt hos how (h3 i y v hy hv)
  | _ => exact mapA_rel hi hpt hos how h

theorem RelB.arr_any {ρ ρ' : Rho} {w : World} {Im Im' : Nat → Prop} {β : Bi} {B : Blk} (hB : isArr B = true) (h : RelB ρ w Im β B) (hi : ∀ g, Im g → Im' g) : RelB ρ' w Im' β B := by
  cases B with
  | box => simp [isArr] at hB
  | dead => simp [isArr] at hB
  | arr ty s els =>
    obtain ⟨h0, h1, hb', h2, h3⟩ := h
    exact ⟨h0, h1, hb', h2, h3.imp (fun h => h) fun ⟨g, cs, h4, h5, h6, h7⟩ => ⟨g, cs, h4, h5, h6, fun i e o x hx hy => let ⟨v, h8, h9⟩ := h7 i e o x hx hy; ⟨v, h8, h9.mono (Ext.refl _ _) hi⟩⟩⟩

section
variable {Ow Im0 : Nat → Prop} {w0 : World} {ρ : Rho} {w : World} {Im : Nat → Prop} {H : Heap} {clk : Nat}

/-- A block that lies already is taken as one of the call's own. -/
theorem Inv.adopt (I : Inv Ow Im0 w0 ρ w Im H clk) (id : Nat) (hid : clk * 8000 ≤ id) (hH : H id = none) (β : Bi) (B : Blk)
    (hg : ∀ g, β.g = some g → (∀ k κ, ρ k = some κ → κ.g ≠ some g) ∧ ¬ Im g ∧ g < w.heap.size ∧ (w0.heap.size ≤ g ∨ Ow g))
    (hB : RelB (updR ρ id β) w Im β B) : Inv Ow Im0 w0 (updR ρ id β) w Im (updH H id B) clk := by
  have hn := I.fresh id hid hH
  refine ⟨I.kept, ?_, ?_, ?_, ?_, I.imb, I.im0, ?_, ?_⟩
  · intro b b' κ κ' g l1 l2 h1 h2 h3 h4
    unfold updR at h1 h2
    split at h1 <;> split at h2
    · omega
    · cases h1; exact absurd h4 ((hg g h3).1 b' κ' h2)
    · cases h2; exact absurd h3 ((hg g h4).1 b κ h1)
    · exact I.inj b b' κ κ' g (live_upd l1 ‹_›) (live_upd l2 ‹_›) h1 h2 h3 h4
  · intro b κ g l h h'
    unfold updR at h
    split at h
    · cases h; exact (hg g h').2.1
    · exact I.notIm b κ g (live_upd l ‹_›) h h'
  · intro b κ g h h'
    unfold updR at h
    split at h
    · cases h; exact (hg g h').2.2.1
    · exact I.bnd b κ g h h'
  · intro b κ g h h'
    unfold updR at h
    split at h
    · cases h; exact (hg g h').2.2.2
    · exact I.own b κ g h h'
  · intro b B' h
    unfold updH at h
    split at h
    · cases h; rename_i hb; exact ⟨_, by rw [hb]; exact updR_same _ _ _, hB⟩
    · obtain ⟨κ, h1, h2⟩ := I.blk b B' h
      exact ⟨κ, updR_sub hn _ _ h1, h2.mono (Ext.refl _ _) (fun _ h => h) (updR_sub hn) I.bnd (fun _ _ => rfl)⟩
  · intro b hb h
    unfold updH at h
    unfold updR
    split
    · rename_i hbi; simp [hbi] at h
    · rename_i hbi; simp only [hbi, if_false] at h; exact I.fresh b hb h

theorem nid_inj {dst clk k k' : Nat} (h : nid dst clk k = nid dst clk k') : k = k' := by unfold nid at h; omega
theorem nid_ge (dst clk k : Nat) : clk * 8000 ≤ nid dst clk k := by unfold nid; omega

theorem adopt_all {ρ' : Rho} {dst : Nat} : ∀ (news : List Blk) (k : Nat) (ρ : Rho) (H : Heap), Inv Ow Im0 w0 ρ w Im H clk → newsOk dst clk k news H = true →
    (∀ (i : Nat) (B : Blk), news[i]? = some B → ∃ β, ρ' (k + i) = some β ∧ RelB ρ' w Im β B ∧ ∀ g, β.g = some g → ¬ Im g ∧ g < w.heap.size ∧ w0.heap.size ≤ g) →
    (∀ b b' β β' g, ρ' b = some β → ρ' b' = some β' → β.g = some g → β'.g = some g → b = b') →
    (∀ i, i < news.length → ∀ β g, ρ' (k + i) = some β → β.g = some g → ∀ b κ, ρ b = some κ → κ.g ≠ some g) →
    ∃ ρ2, Inv Ow Im0 w0 ρ2 w Im (addNews dst clk k news H) clk ∧ (∀ b β, ρ b = some β → ρ2 b = some β) ∧ ∀ i β, i < news.length → ρ' (k + i) = some β → ρ2 (nid dst clk (k + i)) = some β
  | [], k, ρ, H, I, _, _, _, _ => ⟨ρ, I, fun _ _ h => h, fun i β hi _ => by simp at hi⟩
  | B :: news, k, ρ, H, I, hok, hnews, hinj, hfree => by
    simp only [newsOk, Bool.and_eq_true] at hok
    obtain ⟨⟨hB, hnone⟩, hrest⟩ := hok
    have hH : H (nid dst clk k) = none := by
      revert hnone
      cases H (nid dst clk k) with
      | none => exact fun _ => rfl
      | some _ => exact fun h => by cases h
    obtain ⟨β, h1, h2, h3⟩ := hnews 0 B rfl
    rw [Nat.add_zero] at h1
    have J := I.adopt (nid dst clk k) (nid_ge dst clk k) hH β B (fun g hg => ⟨fun b κ hb => hfree 0 (by simp) β g (by rw [Nat.add_zero]; exact h1) hg b κ hb, (h3 g hg).1, (h3 g hg).2.1, .inl (h3 g hg).2.2⟩) (h2.arr_any hB (fun _ h => h))
    obtain ⟨ρ2, J2, s1, s2⟩ := adopt_all news (k + 1) _ _ J hrest (fun i B' hB' => by
        have := hnews (i + 1) B' (by simpa using hB')
        rwa [show k + (i + 1) = k + 1 + i from by omega] at this) hinj (fun i hi β' g hβ' hg b κ hb => by
        unfold updR at hb
        split at hb
        · cases hb
          intro hg'
          have := hinj _ _ _ _ g h1 hβ' hg' hg
          omega
        · exact hfree (i + 1) (by simp; omega) β' g (by rw [show k + (i + 1) = k + 1 + i from by omega]; exact hβ') hg b κ hb)
    refine ⟨ρ2, J2, fun b κ hb => s1 b κ (updR_sub (I.fresh _ (nid_ge dst clk k) hH) b κ hb), fun i κ hi hκ => ?_⟩
    cases i with
    | zero =>
      rw [Nat.add_zero] at hκ ⊢
      rw [h1] at hκ; cases hκ
      exact s1 _ _ (updR_same _ _ _)
    | succ i =>
      rw [show k + (i + 1) = k + 1 + i from by omega] at hκ ⊢
      exact s2 i κ (by simpa using hi) hκ

/-- Behind a call that wrote nothing that was there. -/
theorem Inv.called (I : Inv Ow Im0 w0 ρ w Im H clk) {w' : World} (K : Kept (fun _ => False) w w') (Im' : Nat → Prop) (h1 : ∀ g, Im' g → Im g ∨ w.heap.size ≤ g) (h2 : ∀ g, Im' g → g < w'.heap.size) :
    Inv Ow Im0 w0 ρ w' (fun g => Im g ∨ Im' g) H clk ∧ Ext Im w w' := by
  have he : Ext Im w w' := ⟨K.size, fun g hg => K.block g (I.imb g hg) (fun h => h), fun g hg => K.rows g hg⟩
  refine ⟨⟨⟨K.os.trans I.kept.os, K.tape.trans I.kept.tape, K.output.trans I.kept.output, Nat.le_trans I.kept.size K.size, fun k hk ho => ?_, fun k hk => ?_⟩, I.inj, ?_, fun b β g h h' => Nat.lt_of_lt_of_le (I.bnd b β g h h') K.size, I.own, ?_, ?_, ?_, I.fresh⟩, he⟩
  · rw [K.block k (Nat.lt_of_lt_of_le hk I.kept.size) (fun h => h)]; exact I.kept.block k hk ho
  · rw [K.rows k (Nat.lt_of_lt_of_le hk I.kept.size)]; exact I.kept.rows k hk
  · intro b β g l h h' him
    rcases him with him | him
    · exact I.notIm b β g l h h' him
    · rcases h1 g him with h1 | h1
      · exact I.notIm b β g l h h' h1
      · have := I.bnd b β g h h'; omega
  · intro g hg
    rcases hg with hg | hg
    · exact Nat.lt_of_lt_of_le (I.imb g hg) K.size
    · exact h2 g hg
  · intro g hg
    rcases hg with hg | hg
    · exact I.im0 g hg
    · rcases h1 g hg with h1 | h1
      · exact I.im0 g h1
      · exact .inr (Nat.le_trans I.kept.size h1)
  · intro b B h
    obtain ⟨β, k1, k2⟩ := I.blk b B h
    exact ⟨β, k1, k2.mono he (fun _ h => .inl h) (fun _ _ h => h) I.bnd (fun g hg => K.block g (I.bnd b β g k1 hg) (fun h => h))⟩
end

/-! One operation -/
structure Out where
  tmps : List AV
  H : Heap
  ph : List Prop
  eq : List (AV × AV)

/-- What an operation gives: the slot that it writes and its value; the blocks that it makes or turns. -/
structure Core where
  sl : Option (Nat × AV)
  ups : List (Nat × Blk)
  ph : List Prop
  eq : List (AV × AV)

def applyU : List (Nat × Blk) → Heap → Heap
  | [], H => H
  | (b, B) :: r, H => applyU r (updH H b B)
def Core.out (c : Core) (tmps : List AV) (H : Heap) : Out := ⟨match c.sl with | some (d, v) => tmps.set d v | none => tmps, applyU c.ups H, c.ph, c.eq⟩

def look (k : Nat) : List (Nat × List Hint) → List Hint
  | [] => []
  | (j, h) :: r => if j = k then h else look k r
/-- An operation's name for hints: the slot that it writes; of a store: 10000 and the slot of its address. -/
def keyOf (o : Oper) : Nat := match o.dst with
  | some d => d
  | none => match o.op with
    | .store _ (.tmp t) _ => 10000 + t
    | _ => 20000

def Res.ups (r : Res) : List (Nat × Blk) := match r.up with | some x => [x] | none => []
theorem Res.applyU (r : Res) (H : Heap) : applyU r.ups H = r.heap H := by
  unfold Res.ups Res.heap
  cases r.up with
  | none => rfl
  | some x => rfl

def plainStep (P : Program) (clk : Nat) (hints : List (Nat × List Hint)) (o : Oper) (G : Option Bool) (tmps : List AV) (H : Heap) : Option Core :=
  match o.dst with
  | some d => match H (clk * 8000 + d) with
    | some _ => none
    | none => match act P o (clk * 8000 + d) (look (keyOf o) hints) (stripG G (ev tmps)) H with
      | some r => match G, r.up with
        | some _, some _ => none
        | _, _ => some ⟨some (d, mkG G r.val), r.ups, phG G r.ph, pairsG G (ev tmps) o.op.operands.toList⟩
      | none => none
  | none => match G with
    | some _ => none
    | none => match H (clk * 8000 + 7999) with
      | some _ => none
      | none => match act P o (clk * 8000 + 7999) (look (keyOf o) hints) (ev tmps) H with
        | some r => some ⟨none, r.ups, r.ph, []⟩
        | none => none

def conj (G : Option Bool) (b : Bool) : Bool := match G with | none => b | some g => g && b
def asB (x : AV) : Option Bool := match x with | .d (.sc (.bool b)) => some b | _ => none
def gdB (x : AV) : Option (Bool × Bool) := match x with | .gd g (.d (.sc (.bool b))) => some (g, b) | _ => none
def isTrue (x : Operand) : Bool := match x with | .const (.bool b) => b | _ => false
def isFalse (x : Operand) : Bool := match x with | .const (.bool b) => !b | _ => false

def pickStep (hints : List (Nat × List Hint)) (o : Oper) (c a b : Operand) (G : Option Bool) (tmps : List AV) : Option Core :=
  match o.dst with
  | none => none
  | some d => match asB (stripG G (ev tmps) c) with
    | none => none
    | some gc => match isTrue a with
      | true => match gdB (ev tmps b) with
        | some (g', v) => some ⟨some (d, mkG G (boolR (gc || v) (look d hints)).val), [], phG G (boolR (gc || v) (look d hints)).ph, pairsG G (ev tmps) [c] ++ [(bv g', bv (conj G (!gc)))]⟩
        | none => none
      | false => match isFalse b with
        | true => match gdB (ev tmps a) with
          | some (g', v) => some ⟨some (d, mkG G (boolR (gc && v) (look d hints)).val), [], phG G (boolR (gc && v) (look d hints)).ph, pairsG G (ev tmps) [c] ++ [(bv g', bv (conj G gc))]⟩
          | none => none
        | false => none

def callOk (P : Program) (f : Nat) : Bool := match P.funcs[f]? with | some fn => fn.body.isSome && !(fn.name == "runtime.NumGoroutine") | none => false

def newsU (dst clk : Nat) : Nat → List Blk → List (Nat × Blk)
  | _, [] => []
  | k, B :: r => (nid dst clk k, B) :: newsU dst clk (k + 1) r
theorem newsU_apply (dst clk : Nat) : ∀ (news : List Blk) (k : Nat) (H : Heap), applyU (newsU dst clk k news) H = addNews dst clk k news H
  | [], _, _ => rfl
  | B :: r, k, H => newsU_apply dst clk r (k + 1) (updH H (nid dst clk k) B)

def callStep (P : Program) (clk : Nat) (hints : List (Nat × List Hint)) (o : Oper) (f : Operand) (args : List Operand) (G : Option Bool) (tmps : List AV) (H : Heap) : Option Core :=
  match o.dst with
  | none => none
  | some d => match stripG G (ev tmps) f with
    | .fn k caps => match look d hints with
      | .call fr res news :: _ =>
        match (match fr with | true => toDD H ((args.map (stripG G (ev tmps))) ++ caps) | false => (if ((args.map (stripG G (ev tmps))) ++ caps).all isPure then some ((args.map (stripG G (ev tmps))) ++ caps) else none)) with
        | some as => if callOk P k && newsOk d clk 0 news H then
          match G, news with
          | some _, _ :: _ => none
          | _, _ => some ⟨some (d, mkG G (mapT (renF d clk) res)), newsU d clk 0 news, phG G [GSpec P k as fr res news], pairsG G (ev tmps) (f :: args)⟩
          else none
        | none => none
      | _ => none
    | _ => none

def appendStep (P : Program) (clk : Nat) (hints : List (Nat × List Hint)) (o : Oper) (c : Call) (tmps : List AV) (H : Heap) : Option Core :=
  match o.dst with
  | none => none
  | some d => match c.args.toList, c.argTypes.toList with
    | [x, y], [t, t'] => match H (clk * 8000 + d) with
      | some _ => none
      | none => match actAppend P t t' (clk * 8000 + d) (look d hints) (ev tmps x) (ev tmps y) H with
        | some (b, r) => some ⟨some (d, r.val), (b, .dead) :: r.ups, r.ph, []⟩
        | none => none
    | _, _ => none

def coreStep (P : Program) (clk : Nat) (ops : Array Oper) (hints : List (Nat × List Hint)) (o : Oper) (tmps : List AV) (H : Heap) : Option Core :=
  match guardOf ops tmps o.guard with
  | none => none
  | some G => match o.op with
    | .pick c a b => pickStep hints o c a b G tmps
    | .call c => match c.callee with
      | .value f => callStep P clk hints o f c.args.toList G tmps H
      | .builtin .append => match G with
        | none => appendStep P clk hints o c tmps H
        | some _ => none
      | _ => plainStep P clk hints o G tmps H
    | _ => plainStep P clk hints o G tmps H

def opStep (P : Program) (clk : Nat) (ops : Array Oper) (hints : List (Nat × List Hint)) (o : Oper) (tmps : List AV) (H : Heap) : Option Out :=
  match coreStep P clk ops hints o tmps H with
  | some c => some (c.out tmps H)
  | none => none

end Go.Sx
