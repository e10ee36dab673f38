/-
  A function's contract out of the symbolic run of its body.
  Conditions: none.
-/
import Derived.Test.YtkeimadhboefbaaSxP
namespace Go.Sx

def resRun (tmps : Array Value) : ResultVar → Sem Value
  | .tmp t => pure (tmps.getD t undef)
  | .cell a t => do loadVar t (← asAddr (tmps.getD a undef))
theorem results_eq (fn : Func) (tmps : Array Value) : results fn tmps = (do
    let vs ← fn.results.mapM (resRun tmps)
    pure (if h : vs.size = 1 then vs[0] else .tuple vs)) := by
  unfold results
  congr 1

section
variable {Ow Im0 : Nat → Prop} {w0 : World} {ρ : Rho} {w : World} {Im : Nat → Prop} {H : Heap} {clk : Nat}

theorem resOne_ok {P : Program} {tmps : List AV} {a : Act} (I : Inv Ow Im0 w0 ρ w Im H clk) (T : RelT ρ w Im tmps a) {r : ResultVar} {x : AV} (h : resOne P tmps H r = some x) :
    ∃ v, (resRun a.tmps r).run P w = .ok v w ∧ Rel ρ w Im x v := by
  have hev : ∀ t, Rel ρ w Im (tmps.getD t .any) (a.tmps.getD t undef) := fun t => ev_rel T (.tmp t)
  cases r with
  | tmp t =>
    simp only [resOne, Option.some.injEq] at h
    subst h
    exact ⟨_, rfl, hev t⟩
  | cell c t =>
    simp only [resOne] at h
    split at h
    rotate_left
    · cases h
    rename_i r hr
    split at h
    rotate_left
    · cases h
    rename_i hp
    cases h
    obtain ⟨p, v, h1, h2, h3, _⟩ := load_run I (hev c) hr (by rw [hp]; trivial)
    exact ⟨v, by simp only [resRun, h1, asAddr, Sem.run_bind, Sem.run_pure, Result.andThen_ok, h2], h3⟩

theorem resAll_ok {P : Program} {tmps : List AV} {a : Act} (I : Inv Ow Im0 w0 ρ w Im H clk) (T : RelT ρ w Im tmps a) : ∀ {rs : List ResultVar} {l : List AV}, resAll P tmps H rs = some l →
    ∃ vs : List Value, (rs.mapM (resRun a.tmps)).run P w = .ok vs w ∧ vs.length = l.length ∧ ∀ (i : Nat) (x : AV) (v : Value), l[i]? = some x → vs[i]? = some v → Rel ρ w Im x v
  | [], l, h => by simp [resAll] at h; subst h; exact ⟨[], rfl, rfl, by simp⟩
  | r :: rs, l, h => by
    simp only [resAll] at h
    split at h
    rotate_left
    · cases h
    rename_i x m hx hm
    cases h
    obtain ⟨v, h1, h2⟩ := resOne_ok I T hx
    obtain ⟨vs, h3, h4, h5⟩ := resAll_ok I T hm
    refine ⟨v :: vs, ?_, by simp [h4], fun i y u hy hu => ?_⟩
    · rw [List.mapM_cons]
      simp only [Sem.run_bind, h1, h3, Result.andThen_ok, Sem.run_pure]
    · cases i with
      | zero => simp at hy hu; subst hy; subst hu; exact h2
      | succ i => exact h5 i y u (by simpa using hy) (by simpa using hu)

theorem results_ok {P : Program} {fn : Func} {tmps : List AV} {a : Act} (I : Inv Ow Im0 w0 ρ w Im H clk) (T : RelT ρ w Im tmps a) {l : List AV} (h : resAll P tmps H fn.results.toList = some l) :
    ∃ v, (results fn a.tmps).run P w = .ok v w ∧ Rel ρ w Im (resV l) v := by
  obtain ⟨vs, h1, h2, h3⟩ := resAll_ok I T h
  have hm : (fn.results.mapM (resRun a.tmps)).run P w = .ok vs.toArray w := by
    have e : fn.results = fn.results.toList.toArray := by simp
    rw [e, List.mapM_toArray]
    simp only [Sem.run_map, h1, Result.andThen_ok]
  refine ⟨if h : vs.toArray.size = 1 then vs.toArray[0] else .tuple vs.toArray, ?_, ?_⟩
  · rw [results_eq]
    simp only [Sem.run_bind, hm, Result.andThen_ok, Sem.run_pure]
  · by_cases hl : vs.length = 1
    · obtain ⟨v, rfl⟩ : ∃ v, vs = [v] := List.length_eq_one_iff.1 hl
      obtain ⟨x, rfl⟩ : ∃ x, l = [x] := List.length_eq_one_iff.1 (by omega)
      simpa [resV] using h3 0 x v rfl rfl
    · rw [dif_neg (by simpa using hl)]
      have : resV l = .tu l := by
        unfold resV
        split
        · rename_i a; simp at h2; omega
        · rfl
      rw [this]
      exact .tu l _ (by simpa using h2) fun i x v hx hv => h3 i x v hx (by simpa using hv)
end

theorem idx_spec {b : Nat} : ∀ {l : List Nat} {k n : Nat}, idx b l k = some n → k ≤ n ∧ l[n - k]? = some b
  | [], k, n, h => by simp [idx] at h
  | x :: l, k, n, h => by
    simp only [idx] at h
    split at h
    · rename_i e; cases h; simp [e]
    · obtain ⟨h1, h2⟩ := idx_spec h
      refine ⟨by omega, ?_⟩
      rw [show n - k = (n - (k + 1)) + 1 from by omega]
      simpa using h2
theorem idx_none {b : Nat} : ∀ {l : List Nat} {k : Nat}, idx b l k = none → b ∉ l
  | [], _, _ => by simp
  | x :: l, k, h => by
    simp only [idx] at h
    split at h
    · cases h
    · rename_i e
      have := idx_none h
      simp only [List.mem_cons, not_or]
      exact ⟨fun h => e h.symm, this⟩

theorem flat_rel {w w' : World} {Im Im' : Nat → Prop} {els : List (List DV)} (hf : FlatEls els) {e : List DV} {x : DV} {v : Value} (he : e ∈ els) (hx : x ∈ e) (h : RelD w Im x v) : RelD w' Im' x v := by
  obtain ⟨u, rfl⟩ := hf e he x hx
  cases h with
  | sc _ h => exact .sc _ h

theorem finL_spec {f : AV → Option (AV × List Prop)} : ∀ {l r : List AV} {q : List Prop}, finL f l = some (r, q) → allP q → r.length = l.length ∧ ∀ (i : Nat) (y : AV), r[i]? = some y → ∃ x p, l[i]? = some x ∧ f x = some (y, p) ∧ allP p
  | [], r, q, h, _ => by simp [finL] at h; obtain ⟨rfl, rfl⟩ := h; simp
  | a :: l, r, q, h, hq => by
    simp only [finL] at h
    split at h
    rotate_left
    · cases h
    rename_i x p m q' hx hm
    cases h
    obtain ⟨p1, p2⟩ := allP_append.1 hq
    obtain ⟨h1, h2⟩ := finL_spec hm p2
    refine ⟨by simp [h1], fun i y hy => ?_⟩
    cases i with
    | zero => simp at hy; subst hy; exact ⟨a, p, rfl, hx, p1⟩
    | succ i => exact h2 i y (by simpa using hy)

section
variable {Im0 : Nat → Prop} {w0 : World} {ρ : Rho} {w : World} {Im : Nat → Prop} {H : Heap} {clk : Nat} {keep : List Nat} {fr : Bool}

def rhoK (ρ : Rho) (keep : List Nat) : Rho := fun k => match keep[k]? with | some b => ρ b | none => none
/-- The memory of a result: where it may lie in the arguments' memory, all that is immutable; and the call's own blocks but for those handed on. -/
def ImK (fr : Bool) (Im : Nat → Prop) (ρ : Rho) (H : Heap) (keep : List Nat) : Nat → Prop := fun g => (fr = false ∧ Im g) ∨ ∃ b β, b ∉ keep ∧ live H b ∧ ρ b = some β ∧ β.g = some g

theorem fin_content {x : AV} {v : Value} {s : Nat} {els els0 : List (List DV)} {b : Nat} (I : Inv (fun _ => False) Im0 w0 ρ w Im H clk) (hx : Rel ρ w Im x v) (h : content H x = some (s, els)) (hb : b ∉ keep) (hlive : live H b)
    (hsub : ∀ e ∈ els, e ∈ els0) (hf : fr = true → FlatEls els0) (hblk : ∀ a n c, v = .slice (some a) n c → n ≠ 0 → ∃ β, ρ b = some β ∧ β.g = some a.block) : RelD w (ImK fr Im ρ H keep) (.sl s els) v := by
  obtain ⟨p, c, rfl, hbg, hc, hl, hcell⟩ := content_spec I hx h
  by_cases he : els = []
  · subst he; exact .slNil _ _ _
  rcases hcell with hcell | ⟨q, rfl, hq, hcell⟩
  · exact absurd hcell he
  have hn : els.length ≠ 0 := by simpa using he
  obtain ⟨β, hβ, hg⟩ := hblk q _ c rfl hn
  refine .sl s els q els.length c (fun i o => (w.cell? ⟨q.block, q.off + (i * s + o), none⟩).getD undef) rfl hc hbg (hl he) hq (.inr ⟨b, β, hb, hlive, hβ, hg⟩) ?_ ?_
  · intro i e o y hi ho
    obtain ⟨u, k1, _⟩ := hcell i e o y hi ho
    rw [k1]; rfl
  · intro i e o y hi ho
    obtain ⟨u, k1, k2⟩ := hcell i e o y hi ho
    rw [k1]
    cases fr with
    | true => exact flat_rel (hf rfl) (hsub e (List.mem_of_getElem? hi)) (List.mem_of_getElem? ho) k2
    | false => exact k2.mono (Ext.refl _ _) (fun g hg => .inl ⟨rfl, hg⟩)

theorem fin1_ok (I : Inv (fun _ => False) Im0 w0 ρ w Im H clk) {x y : AV} {v : Value} {p : List Prop} (hx : Rel ρ w Im x v) (h : fin1 keep H fr x = some (y, p)) (hp : allP p) : Rel (rhoK ρ keep) w (ImK fr Im ρ H keep) y v := by
  unfold fin1 at h
  split at h
  · split at h
    · cases h
      cases hx with
      | d hx => exact .d (hx.mono (Ext.refl _ _) (fun g hg => .inl ⟨rfl, hg⟩))
    · split at h
      · cases h
        cases hx with
        | d hx => cases hx with | sc _ h => exact .d (.sc _ h)
      · split at h
        · cases h
          cases hx with
          | d hx =>
            cases hx with
            | slNil => exact .d (.slNil _ _ _)
            | sl _ _ _ _ _ _ hn => simp at hn; subst hn; exact .d (.slNil _ _ _)
        · cases h
  · split at h
    · cases h
      cases hx with
      | rp h1 h2 h3 => exact .rp h1 (.inl ⟨rfl, h2⟩) (fun j x hx => let ⟨v, k1, k2⟩ := h3 j x hx; ⟨v, k1, k2.mono (Ext.refl _ _) (fun g hg => .inl ⟨rfl, hg⟩)⟩)
    · cases h
  · rename_i b
    split at h
    · rename_i k hk
      cases h
      obtain ⟨_, hk2⟩ := idx_spec hk
      cases hx with
      | ow h1 h2 h3 h4 => exact .ow (by simp only [rhoK]; rw [show keep[k]? = some b from by simpa using hk2]; exact h1) h2 h3 h4
    · rename_i hk
      have hnk := idx_none hk
      split at h
      rotate_left
      · cases h
      rename_i ty s els hb
      cases h
      refine .d (fin_content (b := b) (els0 := els) I hx (by simp [content, hb]) hnk ⟨_, hb, by simp⟩ (fun e he => he) (fun hfr => by subst hfr; simpa [allP] using hp) fun a n c hv hn => ?_)
      subst hv
      generalize hvv : Value.slice (some a) n c = vv at hx
      cases hx with
      | ow h1 h2 h3 h4 =>
        injection hvv with e1 e2 e3
        rcases h4 with h4 | ⟨g, hg, e, _⟩
        · omega
        · rw [← e1] at e; cases e; exact ⟨_, h1, hg⟩
  · rename_i b oo m
    split at h
    · rename_i k hk
      cases h
      obtain ⟨_, hk2⟩ := idx_spec hk
      cases hx with
      | os h1 h2 h3 h4 h5 => exact .os (by simp only [rhoK]; rw [show keep[k]? = some b from by simpa using hk2]; exact h1) h2 h3 h4 h5
    · rename_i hk
      have hnk := idx_none hk
      split at h
      rotate_left
      · cases h
      rename_i ty s els hb
      cases h
      refine .d (fin_content (b := b) (els0 := els) I hx (by simp [content, hb]) hnk ⟨_, hb, by simp⟩ (fun e he => List.mem_of_mem_drop (List.mem_of_mem_take he)) (fun hfr => by subst hfr; simpa [allP] using hp) fun a n c hv hn => ?_)
      subst hv
      generalize hvv : Value.slice (some a) n c = vv at hx
      cases hx with
      | os h1 h2 h3 h4 h5 =>
        injection hvv with e1 e2 e3
        rcases h5 with h5 | ⟨g, hg, e, _⟩
        · omega
        · rw [← e1] at e; cases e; exact ⟨_, h1, hg⟩
  · cases h

theorem finA_ok (I : Inv (fun _ => False) Im0 w0 ρ w Im H clk) {x y : AV} {v : Value} {p : List Prop} (hx : Rel ρ w Im x v) (h : finA keep H fr x = some (y, p)) (hp : allP p) : Rel (rhoK ρ keep) w (ImK fr Im ρ H keep) y v := by
  unfold finA at h
  split at h
  · split at h
    rotate_left
    · cases h
    rename_i r q hr
    cases h
    obtain ⟨h1, h2⟩ := finL_spec hr hp
    obtain ⟨cs, rfl, k1, k2, k3⟩ := rel_ag hx
    refine .ag _ cs (by omega) k2 fun i a u ha hu => ?_
    obtain ⟨z, p', m1, m2, m3⟩ := h2 i a ha
    exact fin1_ok I (k3 i z u m1 hu) m2 m3
  · split at h
    rotate_left
    · cases h
    rename_i r q hr
    cases h
    obtain ⟨h1, h2⟩ := finL_spec hr hp
    cases hx with
    | fn k1 k3 =>
      refine .fn (by omega) fun i a u ha hu => ?_
      obtain ⟨z, p', m1, m2, m3⟩ := h2 i a ha
      exact fin1_ok I (k3 i z u m1 hu) m2 m3
  · split at h
    rotate_left
    · cases h
    rename_i r q hr
    cases h
    cases hx with
    | ic hx => exact .ic (fin1_ok I hx hr hp)
  · exact fin1_ok I hx h hp

theorem finT_ok (I : Inv (fun _ => False) Im0 w0 ρ w Im H clk) {x y : AV} {v : Value} {p : List Prop} (hx : Rel ρ w Im x v) (h : finT keep H fr x = some (y, p)) (hp : allP p) : Rel (rhoK ρ keep) w (ImK fr Im ρ H keep) y v := by
  unfold finT at h
  split at h
  · split at h
    rotate_left
    · cases h
    rename_i r q hr
    cases h
    obtain ⟨h1, h2⟩ := finL_spec hr hp
    cases hx with
    | tu _ cs k1 k3 =>
      refine .tu _ cs (by omega) fun i a u ha hu => ?_
      obtain ⟨z, p', m1, m2, m3⟩ := h2 i a ha
      exact finA_ok I (k3 i z u m1 hu) m2 m3
  · exact finA_ok I hx h hp

theorem finN_spec {H : Heap} : ∀ {keep : List Nat} {l : List Blk} {q : List Prop}, finN keep H fr = some (l, q) → allP q → l.length = keep.length ∧ ∀ (k : Nat) (B : Blk), l[k]? = some B → ∃ b ty s els, keep[k]? = some b ∧ H b = some (.arr ty s els) ∧ B = .arr ty s els ∧ (fr = true → FlatEls els)
  | [], l, q, h, _ => by simp [finN] at h; obtain ⟨rfl, rfl⟩ := h; simp
  | b :: keep, l, q, h, hq => by
    simp only [finN] at h
    split at h
    rotate_left
    · cases h
    rename_i ty s els m q' hb hm
    cases h
    obtain ⟨p1, p2⟩ := allP_append.1 hq
    obtain ⟨h1, h2⟩ := finN_spec hm p2
    refine ⟨by simp [h1], fun k B hB => ?_⟩
    cases k with
    | zero => simp at hB; subst hB; exact ⟨b, ty, s, els, rfl, hb, rfl, fun h => by subst h; simpa [allP] using p1⟩
    | succ k => exact h2 k B (by simpa using hB)
end

theorem noRep (b : Nat) : ∀ {l : List Nat} {i j : Nat}, l.Nodup → l[i]? = some b → l[j]? = some b → i = j
  | [], i, j, _, hi, _ => by simp at hi
  | x :: l, i, j, hn, hi, hj => by
    obtain ⟨h1, h2⟩ := List.nodup_cons.1 hn
    cases i with
    | zero =>
      cases j with
      | zero => rfl
      | succ j =>
        simp at hi hj
        subst hi
        exact absurd (List.mem_of_getElem? hj) h1
    | succ i =>
      cases j with
      | zero =>
        simp at hi hj
        subst hj
        exact absurd (List.mem_of_getElem? hi) h1
      | succ j =>
        have := noRep b h2 (by simpa using hi) (by simpa using hj)
        omega

theorem gspec_of {P : Program} {f : Nat} {fn : Func} {args : List AV} {fr : Bool} {res : AV} {news : List Blk} (hints : List (Nat × List Hint)) (cuts : List (Nat × Tg × Ex × Tg)) (keep : List Nat) (hkeep : keep.Nodup)
    (hf : P.funcs[f]? = some fn) {φ : Prop} (hφ : φ) (h1 : oblO (runF P hints cuts keep fn args fr res news) = φ) (h2 : lefO (runF P hints cuts keep fn args fr res news) = rigO (runF P hints cuts keep fn args fr res news)) : GSpec P f args fr res news := by
  rw [← h1] at hφ
  cases hr : runF P hints cuts keep fn args fr res news with
  | none => rw [hr] at hφ; exact hφ.elim
  | some r =>
    rw [hr] at hφ h2
    have heq : EqP r.eq := eqP_of h2
    have hph : allP r.ph := hφ
    clear h1 h2 hφ
    unfold runF at hr
    split at hr
    · cases hr
    rename_i c hb
    split at hr
    · cases hr
    rename_i hpure
    split at hr
    · cases hr
    rename_i q hq
    split at hr
    · cases hr
    rename_i hne
    split at hr
    · cases hr
    rename_i l hl
    split at hr
    rotate_left
    · cases hr
    rename_i x p ns qq hx hns
    split at hr
    rotate_left
    · cases hr
    rename_i hlen
    cases hr
    obtain ⟨hph', hph3⟩ := allP_append.1 hph
    obtain ⟨hph1, hph2⟩ := allP_append.1 hph'
    have heq1 := heq.left.left
    have hxe : (coeT x res).1 = res := heq.left.right ((coeT x res).1, res) (by simp)
    obtain ⟨hph2, hph2'⟩ := allP_append.1 hph2
    have hnse : ns = news := by
      apply List.ext_getElem?
      intro i
      by_cases hi : i < ns.length
      · have hi' : i < news.length := by omega
        have : (encB ns[i], encB news[i]) ∈ (ns.map encB).zip (news.map encB) := by
          refine List.mem_iff_getElem?.2 ⟨i, ?_⟩
          simp [List.getElem?_zip_eq_some, hi, hi']
        have := encB_inj (heq.right _ this)
        rw [List.getElem?_eq_getElem hi, List.getElem?_eq_getElem hi', this]
      · rw [List.getElem?_eq_none (by omega), List.getElem?_eq_none (by omega)]
    subst hnse
    intro w Im vs hIm hsz hargs
    refine calls_of_wp hf hb ?_
    have hS : Sys (fun _ => False) Im w (args ++ List.replicate (fn.ntmps - args.length) .any) (fun _ => none) 1 { tmps := vs ++ Array.replicate (fn.ntmps - vs.size) undef, defers := [] } w := by
      refine ⟨fun _ => none, Im, ⟨Kept.refl _ _, (fun b b' β β' g _ _ h => nomatch h), (fun b β g _ h => nomatch h), (fun b β g h => nomatch h), (fun b β g h => nomatch h), hIm, (fun g h => .inl h), (fun b B h => nomatch h), fun _ _ _ => rfl⟩, ⟨by simp [hsz], fun i y v hy hv => ?_, rfl⟩⟩
      rw [List.getElem?_append] at hy
      simp only [Array.getElem?_append] at hv
      rw [hsz] at hv
      split at hy
      · rename_i hi
        rw [if_pos hi] at hv
        exact hargs i y v hy hv
      · have := List.mem_of_getElem? hy
        rw [(List.mem_replicate.1 this).2]
        exact .any _
    refine wp_mono (runC_ok hq hph1 heq1 _ _ _ _ _ hS) ?_
    rintro e a' w' ⟨rfl, hS'⟩
    have post : a'.defers = [] ∧ ∃ v, (results fn a'.tmps).run P w' = .ok v w' ∧ ∃ u, Ending.returned v = .returned u ∧ RetOk w Im fr res ns u w' := by
      obtain ⟨ρ, Im', I, T⟩ := hS'
      obtain ⟨v, h1, h2⟩ := results_ok I T hl
      refine ⟨T.defers, v, h1, v, rfl, ?_⟩
      have hxr := coeT_rel (r := res) (finT_ok I h2 hx hph2) hph2'
      rw [hxe] at hxr
      obtain ⟨n1, n2⟩ := finN_spec hns hph3
      have hK : ∀ (k b : Nat), keep[k]? = some b → ∃ B : Blk, ns[k]? = some B := by
        intro k b hk
        have hk' := (List.getElem?_eq_some_iff.1 hk).1
        exact ⟨ns[k], List.getElem?_eq_getElem (by omega)⟩
      refine ⟨⟨I.kept.os, I.kept.tape, I.kept.output, I.kept.size, fun k hk _ => I.kept.block k hk (fun h => h), I.kept.rows⟩, rhoK ρ keep, ImK fr Im' ρ q.s.H keep, ?_, ?_, ?_, ?_, ?_, ?_, hxr⟩
      · rintro g (⟨h1, h2⟩ | ⟨b, β, _, _, hb, hg⟩)
        · rcases I.im0 g h2 with h | h
          · exact .inl ⟨h1, h⟩
          · exact .inr h
        · rcases I.own b β g hb hg with h | h
          · exact .inr h
          · exact h.elim
      · rintro g (⟨h1, h2⟩ | ⟨b, β, _, _, hb, hg⟩)
        · exact I.imb g h2
        · exact I.bnd b β g hb hg
      · intro k β g hk hg
        simp only [rhoK] at hk
        split at hk
        rotate_left
        · cases hk
        rename_i b hkb
        refine ⟨?_, I.bnd b β g hk hg, ?_⟩
        · rcases I.own b β g hk hg with h | h
          · exact h
          · exact h.elim
        · obtain ⟨B, hB⟩ := hK k b hkb
          obtain ⟨b', ty, s, els, m1, m2, m3, m4⟩ := n2 k B hB
          rw [hkb] at m1; cases m1
          rintro (⟨_, h⟩ | ⟨b2, β2, h2, hl2, hb2, hg2⟩)
          · exact I.notIm b β g ⟨_, m2, by simp⟩ hk hg h
          · have := I.inj b b2 β β2 g ⟨_, m2, by simp⟩ hl2 hk hb2 hg hg2
            subst this
            exact h2 (List.mem_of_getElem? hkb)
      · intro k k' β β' g hk hk' hg hg'
        simp only [rhoK] at hk hk'
        split at hk
        rotate_left
        · cases hk
        rename_i b hkb
        split at hk'
        rotate_left
        · cases hk'
        rename_i b' hkb'
        obtain ⟨B, hB⟩ := hK k b hkb
        obtain ⟨_, ty, s, els, m1, m2, _, _⟩ := n2 k B hB
        rw [hkb] at m1; cases m1
        obtain ⟨B', hB'⟩ := hK k' b' hkb'
        obtain ⟨_, ty', s', els', m1', m2', _, _⟩ := n2 k' B' hB'
        rw [hkb'] at m1'; cases m1'
        have := I.inj b b' β β' g ⟨_, m2, by simp⟩ ⟨_, m2', by simp⟩ hk hk' hg hg'
        subst this
        exact noRep b hkeep hkb hkb'
      · intro k β hk
        simp only [rhoK] at hk
        split at hk
        rotate_left
        · cases hk
        rename_i b hkb
        rw [n1]; exact (List.getElem?_eq_some_iff.1 hkb).1
      · intro k B hB
        obtain ⟨b, ty, s, els, m1, m2, rfl, m4⟩ := n2 k B hB
        obtain ⟨β, h1, h2⟩ := I.blk b _ m2
        refine ⟨β, by simp only [rhoK]; rw [m1]; exact h1, ?_⟩
        obtain ⟨k0, k1, k2, k3, k4⟩ := h2
        refine ⟨k0, k1, k2, k3, k4.imp (fun h => h) fun ⟨g, cs, j1, j2, j3, j4⟩ => ⟨g, cs, j1, j2, j3, fun i e o y hi ho => ?_⟩⟩
        obtain ⟨u, j5, j6⟩ := j4 i e o y hi ho
        refine ⟨u, j5, ?_⟩
        cases fr with
        | true => exact flat_rel (m4 rfl) (List.mem_of_getElem? hi) (List.mem_of_getElem? ho) j6
        | false => exact j6.mono (Ext.refl _ _) (fun g hg => .inl ⟨rfl, hg⟩)
    cases hqe : q.e with
    | nrm => exact post
    | ret => exact post
    | ext n => exact absurd hqe (hne n)

end Go.Sx
