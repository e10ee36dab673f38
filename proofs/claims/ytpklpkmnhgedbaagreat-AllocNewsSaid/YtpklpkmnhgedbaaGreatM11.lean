/-
 The statement AllocNews: part 11.
 Conditions: none.
-/
import Derived.Test.YtpklpkmnhgedbaaGreatM10
set_option maxRecDepth 100000
set_option maxHeartbeats 2000000
set_option linter.all false
namespace Go.Proofs.YtpklpkmnhgedbaaGreat
open Go.Sx
theorem wok_freeWs {pw s : Int} {l : List Page} {ws : List Int} (h : WOk ws) : ∀ i,WOk (freeWs pw s l ws i)
 | 0 => h
 | i + 1 => by
  have ih := wok_freeWs (pw := pw) (s := s) (l := l) h i
  unfold freeWs
  split
  ·intro x hx
   simp only [spl,List.mem_append,List.mem_replicate] at hx
   rcases hx with (hx | hx) | hx
   ·exact ih x (List.mem_of_mem_take hx)
   ·omega
   ·exact ih x (List.mem_of_mem_drop hx)
  ·exact ih
theorem pt_free {c : Conf} {l : List Page} (h : PT c l) (s : Int) : PT c (l.map (freeQ s)) := by
 refine h.mapPages _ ?_ ?_ ?_ ?_
 ·intro p hp
  unfold freeQ
  split
  ·exact ⟨by simp,by simp,by simp,by simp,by simp,by simp⟩
  ·exact hp
 ·intro p hp hk
  unfold freeQ at hk ⊢
  split at hk
  ·simp at hk
  ·rename_i hc; rw [if_neg hc]; exact ⟨hk,rfl⟩
 ·intro p hp hk
  unfold freeQ at hk
  split at hk
  ·simp at hk
  ·exact hk
 ·intro p q hp hq h2 h3 he
  by_cases hg : p.space = s
  ·have e1 : freeQ s p = ⟨0,0,0,0⟩ := by rw [freeQ,if_pos ⟨by omega,hg⟩]
   have e2 : freeQ s q = ⟨0,0,0,0⟩ := by rw [freeQ,if_pos ⟨by omega,by omega⟩]
   rw [e1,e2]
   simp
  ·have e1 : freeQ s p = p := by rw [freeQ,if_neg (by unfold goneB; omega)]
   have e2 : freeQ s q = q := by rw [freeQ,if_neg (by unfold goneB; omega)]
   rw [e1,e2]
   exact ⟨⟨fun _ => h3,fun _ => h2⟩,fun _ => he⟩
theorem weakO_range {w : Work} (hw : WkOk w) (k : List Int) : ∀ i,∀ x ∈ weakO w k i,0 ≤ x ∧ x ≤ 4294967296
 | 0,x,hx => by simp [weakO] at hx
 | i + 1,x,hx => by
  simp only [weakO,List.mem_append,List.mem_singleton] at hx
  rcases hx with hx | rfl
  ·exact weakO_range hw k i x hx
  ·have h := weakS_is w k i
   unfold weakTo
   split
   ·omega
   ·unfold afterF
    rw [h.2.2.2.1,h.1]
    split
    ·rename_i hq
     have := hw.q _ hq
     omega
    ·have := targetA_range (loadA_range hw.words (k.getD i default)).1
     omega
structure ColOk (B : Int) (h : Heap) (s k : List Int) : Prop where
 p0 : properB h = true
 p1 : properB (collectF h s k).1 = true
 w : WOk (collectF h s k).1.words
 n : ∀ p ∈ (collectF h s k).1.pages,p.pins ≤ B
 c : (collectF h s k).1.conf = h.conf
 r : ∀ x ∈ (collectF h s k).2.1,0 ≤ x ∧ x ≤ 4294967296
 rl : (collectF h s k).2.1.length = s.length
 v : ∀ x ∈ (collectF h s k).2.2.1,0 ≤ x ∧ x ≤ 4294967296
 vl : (collectF h s k).2.2.1.length = k.length
theorem collect_ok {B : Int} (hB : 0 ≤ B) {h : Heap} {s k : List Int} (hw : WOk h.words) (hb : ∀ p ∈ h.pages,p.pins ≤ B) (e : (collectF h s k).2.2.2.2 = 0) : ColOk B h s k := by
 by_cases hp : properB h = true
 ·by_cases hr : refersF h s = true ∧ refersF h k = true
  ·by_cases e1 : (rootsF (beginW h) s).2.2 = 0
   ·by_cases e2 : (allF (rootsF (beginW h) s).1).2 = 0
    ·have e7 : collectF h s k = (endH (cW5 h s k),(rootsF (beginW h) s).2.1,weakO (cW2 h s) k k.length,(cW5 h s k).rep,0) := by rw [collectF,if_pos hp,if_pos hr,if_pos e1,if_pos e2]
     have ho := rootsF_ok (roots := s) (begin_ok hw hp) (begin_inv hp) e1
     have c := cOk h s k hw hp e1 e2
     have c5 := cOk5 h s k hw hp e1 e2
     have tb := cW2_tab hB hw hp hb e1 e2
     obtain ⟨g1,g2,g3,g4,g5⟩ := c.h4
     have hsp := c.w2.sp
     have hc2 : (cW2 h s).heap.conf = h.conf := c.x2.c
     have hpl := c.w2.pl
     rw [hc2] at hpl
     have hL := c.i4.L
     rw [g1] at hL
     have hfl := freeWs_len (s := (cW4 h s k).heap.space) c5.2.2.2.1 (cW4 h s k).heap.pages.length (Nat.le_refl _)
     refine ⟨hp, ?_, ?_, ?_, ?_, ?_, ?_, ?_, ?_⟩
     ·rw [e7,proper_pt]
      simp only [endH,cW5,freeW,g1,g2,g3,g4]
      have hptf := pt_free (s := (cW2 h s).heap.space) tb.pt
      rw [hc2] at hptf
      refine ⟨(proper_ok hp).1, ?_,by simp only [List.length_map]; exact hpl,by omega, ?_,hptf⟩
      ·rw [g1,g2,g3] at hfl
       rw [hfl]
       exact hL
      ·split
       ·rename_i ht
        have hm := lastT_mem (w := cW2 h s) ht
        have t1 := c.w2.tk _ hm
        have t2 := tb.tk _ hm
        refine Or.inr ⟨t1.1,by simp only [List.length_map]; exact t1.2.1, ?_⟩
        have hx : (List.map (freeQ (cW2 h s).heap.space) (cW2 h s).heap.pages).getD (lastT (cW2 h s)).toNat default = (cW2 h s).heap.pages.getD (lastT (cW2 h s)).toNat default := by
         have hi : (lastT (cW2 h s)).toNat < (cW2 h s).heap.pages.length := by omega
         have : (List.map (freeQ (cW2 h s).heap.space) (cW2 h s).heap.pages).getD (lastT (cW2 h s)).toNat default = freeQ (cW2 h s).heap.space ((cW2 h s).heap.pages.getD (lastT (cW2 h s)).toNat default) := by simp [List.getD_eq_getElem?_getD,hi]
         rw [this,freeQ,if_neg (by unfold goneB; omega)]
        show ((List.map (freeQ (cW2 h s).heap.space) (cW2 h s).heap.pages).getD (lastT (cW2 h s)).toNat default).kind = 1
        rw [hx]
        exact t1.2.2
       ·exact Or.inl rfl
     ·rw [e7]
      exact wok_freeWs c.f4.words _
     ·rw [e7]
      intro p hp'
      simp only [endH,cW5,freeW,g2,List.mem_map] at hp'
      obtain ⟨q,hq,rfl⟩ := hp'
      unfold freeQ
      split
      ·exact hB
      ·exact tb.pin q hq
     ·rw [e7]
      exact g1
     ·rw [e7]
      exact ho.2.2.2.1
     ·rw [e7]
      exact ho.2.2.2.2
     ·rw [e7]
      exact weakO_range c.w2 k _
     ·rw [e7]
      exact weakO_len _ _ _
    ·rw [collectF,if_pos hp,if_pos hr,if_pos e1,if_neg e2] at e
     exact absurd e e2
   ·rw [collectF,if_pos hp,if_pos hr,if_neg e1] at e
    exact absurd e e1
  ·rw [collectF,if_pos hp,if_neg hr] at e
   simp at e
 ·rw [collectF,if_neg hp] at e
  simp at e
theorem proper_pins {h : Heap} (hp : properB h = true) : ∀ p ∈ h.pages,0 ≤ p.pins := by
 rw [proper_pt] at hp
 intro p hp'
 obtain ⟨i,hi,e⟩ := List.mem_iff_getElem.1 hp'
 have := (hp.2.2.2.2.2.b i hi).n.1
 rwa [show h.pages.getD i default = p by rw [List.getD_eq_getElem?_getD,List.getElem?_eq_getElem hi,e]; rfl] at this
theorem MOk.of_proper {w : WorldM} {n : Nat} (hp : properB w.heap = true) (hw : WOk w.heap.words) (hn : ∀ p ∈ w.heap.pages,p.pins ≤ n) (h1 : ULe w.strong) (h2 : ULe w.weak) (h3 : w.strong.length ≤ n) (h4 : w.weak.length ≤ n) : MOk w n := by
 have po := proper_ok hp
 exact ⟨hw,po.1,po.2.2.2.2.2.2.2.1,po.2.2.2.2.2.1,fun j hj => ⟨proper_pins hp _ (getD_in hj),hn _ (getD_in hj)⟩,fun j hj => by have := proper_page hp hj; omega,h1,h2,h3,h4⟩
theorem MOk.pin_mem {w : WorldM} {n : Nat} (h : MOk w n) : ∀ p ∈ w.heap.pages,0 ≤ p.pins ∧ p.pins ≤ n := by
 intro p hp
 obtain ⟨i,hi,e⟩ := List.mem_iff_getElem.1 hp
 have := h.pins i hi
 rwa [show w.heap.pages.getD i default = p by rw [List.getD_eq_getElem?_getD,List.getElem?_eq_getElem hi,e]; rfl] at this
theorem MOk.mono {w : WorldM} {n : Nat} (h : MOk w n) : MOk w (n + 1) :=
 ⟨h.words,h.hv,h.pl,h.L,fun j hj => by have := h.pins j hj; omega,h.us,h.strong,h.weak,by have := h.sl; omega,by have := h.wl; omega⟩
theorem ule_app {l : List Int} (h : ULe l) {x : Int} (hx : 0 ≤ x ∧ x ≤ 18446744073709551615) : ULe (l ++ [x]) := by
 intro y hy
 simp only [List.mem_append,List.mem_singleton] at hy
 rcases hy with hy | rfl
 ·exact h y hy
 ·exact hx
theorem MOk.put {w : WorldM} {n : Nat} (h : MOk w n) {hd : Header} (hm : 0 ≤ hd.map ∧ hd.map ≤ 4294967295) : MOk (w.put hd) (n + 1) := by
 unfold WorldM.put
 split
 ·rename_i e
  obtain ⟨k1,k2,k3,k4,k5,k6,k7,k8⟩ := new7_ok h.words hm e
  have po := proper_ok k1
  have hl := h.sl
  have hl2 := h.wl
  have z := (asksH_ok k2).2.1
  have a1 := k3.lo
  have a2 := k3.hi
  refine MOk.of_proper k7 k8 ?_ (ule_app h.strong (by rw [k5]; omega)) h.weak (by simp; omega) (by simp only; omega)
  intro p hp
  simp only at hp
  rw [k6] at hp
  simp only at hp
  rcases k3.pin p hp with q | ⟨q,q1,q2⟩
  ·omega
  ·have := h.pin_mem q q1; omega
 ·exact h.mono
theorem MOk.link {w : WorldM} {n : Nat} (h : MOk w n) (hn : n ≤ 1000000) (t : Tape) : MOk (w.link t) (n + 1) := by
 unfold WorldM.link
 split
 ·rename_i hc
  have g := getH_ok hc.1
  have hw := h.wm hn
  have hlen : 1 ≤ (getH w.heap (w.pick t)).1.length := by omega
  have n1 := next_range (w.pickT (w.pickT t)) (n := 8) (by decide)
  have hi : 0 ≤ linkI w t ∧ linkI w t < (getH w.heap (w.pick t)).1.length := by
   unfold linkI
   rw [Int.tmod_eq_emod_of_nonneg n1.1]
   exact ⟨Int.emod_nonneg _ (by omega),Int.emod_lt_of_pos _ (by omega)⟩
  have hv : 0 ≤ linkV w t ∧ linkV w t ≤ 18446744073709551615 := by
   unfold linkV
   split
   ·exact pick_range hw _
   ·have := next_range ((w.pickT (w.pickT t)).step 8) (n := 1048576) (by decide)
    omega
  obtain ⟨s1,s2,s3⟩ := setField_ok h.words hv hc.1 hi
  have hl := h.sl
  have hl2 := h.wl
  refine MOk.of_proper s2 s3 ?_ h.strong h.weak (by simp only; omega) (by simp only; omega)
  intro p hp
  simp only at hp
  rw [s1] at hp
  have := h.pin_mem p hp
  omega
 ·exact h.mono
theorem pinB_ok {w : WorldM} {n : Nat} (h : MOk w n) {i : Nat} (hi : i < w.heap.pages.length) {d : Int} (hd : d = 1 ∨ (d = -1 ∧ 0 < (w.heap.pages.getD i default).pins)) : MOk (pinB w i d) (n + 1) := by
 have hp := h.pins i hi
 refine ⟨h.words,h.hv, ?_,h.L, ?_, ?_,h.strong,h.weak,by have := h.sl; simp only [pinB]; omega,by have := h.wl; simp only [pinB]; omega⟩
 ·simp only [pinB,List.length_set]; exact h.pl
 ·intro j hj
  simp only [pinB,List.length_set] at hj ⊢
  rw [getD_set hi]
  split
  ·simp only; omega
  ·have := h.pins j hj; omega
 ·intro j hj
  simp only [pinB,List.length_set] at hj ⊢
  rw [getD_set hi]
  split
  ·exact h.us i hi
  ·exact h.us j hj
theorem MOk.pin {w : WorldM} {n : Nat} (h : MOk w n) (t : Tape) : MOk (w.pin t) (n + 1) := by
 unfold WorldM.pin
 split
 ·rename_i e
  have o := ofA_ok h.hv e
  have hpl := h.pl
  have hi : pinI w t < w.heap.pages.length := by unfold pinI; omega
  split
  ·rename_i hc
   exact pinB_ok h hi (Or.inr ⟨rfl,hc.1⟩)
  ·split
   ·exact pinB_ok h hi (Or.inl rfl)
   ·exact h.mono
 ·exact h.mono
theorem MOk.drop {w : WorldM} {n : Nat} (h : MOk w n) (t : Tape) : MOk (w.drop t) (n + 1) := by
 unfold WorldM.drop
 split
 ·have hl := h.sl
  have hl2 := h.wl
  refine ⟨h.words,h.hv,h.pl,h.L,fun j hj => by have := h.pins j hj; simp only; omega,h.us, ?_, ?_, ?_, ?_⟩
  ·intro x hx
   rcases List.mem_append.1 hx with hx | hx
   ·exact h.strong x (List.mem_of_mem_take hx)
   ·exact h.strong x (List.mem_of_mem_drop hx)
  ·simp only
   split
   ·exact ule_app h.weak (getD_mem h.strong _)
   ·exact h.weak
  ·simp only [List.length_append,List.length_take,List.length_drop]; omega
  ·simp only
   split
   ·simp; omega
   ·omega
 ·exact h.mono
theorem MOk.collect {w : WorldM} {n : Nat} (h : MOk w n) : MOk w.collect (n + 1) := by
 unfold WorldM.collect
 split
 ·rename_i e
  have c := collect_ok (B := n) (by omega) h.words (fun p hp => (h.pin_mem p hp).2) e
  have hl := h.sl
  have hl2 := h.wl
  refine MOk.of_proper c.p1 c.w (fun p hp => by have := c.n p hp; omega) (fun x hx => by have := c.r x hx; omega) (fun x hx => by have := c.v x hx; omega) (by simp only [c.rl]; omega) (by simp only [c.vl]; omega)
 ·exact h.mono
theorem MOk.step {w : WorldM} {n : Nat} (h : MOk w n) (hn : n ≤ 1000000) (t : Tape) : MOk (w.step t) (n + 1) := by
 unfold WorldM.step
 repeat' split
 ·exact h.put (header_map _ _)
 ·exact h.link hn _
 ·exact h.pin _
 ·exact h.drop _
 ·exact h.collect
 ·have hl := h.sl
  have hl2 := h.wl
  exact ⟨h.words,h.hv,h.pl,h.L,fun j hj => by have := h.pins j hj; simp only [WorldM.dup] at *; omega,h.us,ule_app h.strong (pick_range (h.wm hn) _),h.weak,by simp only [WorldM.dup,List.length_append,List.length_singleton]; omega,by simp only [WorldM.dup]; omega⟩
theorem madeLight (h : Heap) : GSpec Tryz.prog 47 [h.av] true (bool (decide (h.words.length ≤ 5000 ∧ h.pages.length ≤ 100))) [] := by
 exact gF [] Tryz.func47 [false,false,false,false,true] (Fl 5 wdv h.words (FlG 10 (decide ((↑h.words.length : Int)≤5000)) Page.dv h.pages (Fa (by grind [] : (decide ((↑h.words.length : Int)≤5000)&&decide ((↑h.pages.length : Int)≤100)) =decide (h.words.length≤5000∧h.pages.length≤100)) Fz)))
theorem sp_worldStep (w : WorldM) (t : Tape) (n : Nat) (hm : MOk w n) (hn : n ≤ 1000000) (ht : TOk t) (ha : t.at' ≤ 900000) : LentSpec Tryz.prog 68 [w.av,.pt 0 0 0] [t.b] (w.step t).av [(w.stepT t).b] :=
 worldStep w t n hm hn ht ha
structure TUp (n : Int) (t u : Tape) : Prop where
 l : u.l = t.l
 lo : t.at' ≤ u.at'
 hi : u.at' ≤ t.at' + n
theorem TUp.step (t : Tape) (n : Int) : TUp 1 t (t.step n) := by
 have := step_at (t := t) n
 exact ⟨this.2.2,this.1,this.2.1⟩
theorem TUp.trans {m n : Int} {t u v : Tape} (h1 : TUp m t u) (h2 : TUp n u v) : TUp (m + n) t v :=
 ⟨h2.l.trans h1.l,by have := h1.lo; have := h2.lo; omega,by have := h1.hi; have := h2.hi; omega⟩
theorem TUp.mono {m n : Int} {t u : Tape} (h : TUp m t u) (hmn : m ≤ n) : TUp n t u := ⟨h.l,h.lo,by have := h.hi; omega⟩
theorem headerT_up (t : Tape) (c : Conf) : TUp 10 t (t.headerT c) := by
 have h1 : TUp 4 t (hdr1T t c) := by
  unfold hdr1T
  split
  ·exact (((TUp.step t _).trans (TUp.step _ 12)).trans (TUp.step _ _)).mono (by decide)
  ·exact ((TUp.step t _).trans (TUp.step _ 12)).mono (by decide)
 unfold Tape.headerT
 repeat' split
 ·exact (h1.trans (TUp.step _ 4)).mono (by decide)
 ·exact (h1.trans (TUp.step _ 4)).mono (by decide)
 ·exact ((h1.trans (TUp.step _ 4)).trans (TUp.step _ _)).mono (by decide)
theorem linkT_up (w : WorldM) (t : Tape) : TUp 10 t (w.linkT t) := by
 have h1 : TUp 1 t (w.pickT t) := TUp.step _ _
 have h2 : TUp 1 (w.pickT t) (w.pickT (w.pickT t)) := TUp.step _ _
 unfold WorldM.linkT
 split
 ·exact ((((h1.trans h2).trans (TUp.step _ 8))).trans (TUp.step _ _)).mono (by decide)
 ·exact ((h1.trans h2).trans (TUp.step _ 8)).mono (by decide)
theorem stepT_up (w : WorldM) (t : Tape) : (w.stepT t).l = t.l ∧ t.at' + 1 ≤ (w.stepT t).at' ∧ (w.stepT t).at' ≤ t.at' + 20 := by
 have h0 : (t.step 12).at' = t.at' + 1 ∧ (t.step 12).l = t.l := by simp [Tape.step]
 have key : TUp 10 (t.step 12) (w.stepT t) := by
  unfold WorldM.stepT
  repeat' split
  ·exact headerT_up _ _
  ·exact linkT_up _ _
  ·unfold WorldM.pinT
   split
   ·exact ((TUp.step _ _).trans (TUp.step _ 2)).mono (by decide)
   ·exact (TUp.step _ _).mono (by decide)
  ·unfold WorldM.dropT
   split
   ·exact ((TUp.step _ _).trans (TUp.step _ 3)).mono (by decide)
   ·exact ⟨rfl,by omega,by omega⟩
  ·exact ⟨rfl,by omega,by omega⟩
  ·exact (TUp.step _ _).mono (by decide)
 have a := key.l
 have b := key.lo
 have c := key.hi
 exact ⟨a.trans h0.2,by omega,by omega⟩
def mkS (w : WorldM) (t : Tape) : Nat → WorldM × Tape
 | 0 => (w,t)
 | k + 1 => ((mkS w t k).1.step (mkS w t k).2,(mkS w t k).1.stepT (mkS w t k).2)
def mkB (w : WorldM) (t : Tape) (k : Nat) : Bool := decide (((mkS w t k).2.l.length : Int) ≤ (mkS w t k).2.at')
def mkN (w : WorldM) (t : Tape) : Nat := ((List.range (2 + t.l.length)).find? (mkB w t)).getD 0
def makeW (w : WorldM) (t : Tape) : WorldM := (mkS w t (mkN w t)).1
theorem mkS_up (w : WorldM) (t : Tape) : ∀ k : Nat,(mkS w t k).2.l = t.l ∧ t.at' + k ≤ (mkS w t k).2.at' ∧ (mkS w t k).2.at' ≤ t.at' + 20 * k
 | 0 => by simp [mkS]
 | k + 1 => by
  have ih := mkS_up w t k
  have := stepT_up (mkS w t k).1 (mkS w t k).2
  refine ⟨this.1.trans ih.1, ?_, ?_⟩
  ·simp only [mkS]; omega
  ·simp only [mkS]; omega
theorem mkS_ok {w : WorldM} {n : Nat} (h : MOk w n) (t : Tape) : ∀ k,n + k ≤ 1000000 → MOk (mkS w t k).1 (n + k)
 | 0,_ => h
 | k + 1,hk => (mkS_ok h t k (by omega)).step (by omega) _
theorem mkN_is (w : WorldM) (t : Tape) (ht : 0 ≤ t.at') : mkB w t (mkN w t) = true ∧ (∀ j,j < mkN w t → mkB w t j = false) ∧ mkN w t ≤ t.l.length + 1 := by
 cases hb : (List.range (2 + t.l.length)).find? (mkB w t) with
 | none =>
  exfalso
  have := List.find?_eq_none.1 hb t.l.length (List.mem_range.2 (by omega))
  have u := mkS_up w t t.l.length
  simp only [mkB,decide_eq_true_eq,u.1] at this
  omega
 | some k =>
  obtain ⟨h1,h2,h3⟩ := List.find?_range_eq_some.1 hb
  have h2 := List.mem_range.1 h2
  have e : mkN w t = k := by rw [mkN,hb]; rfl
  rw [e]
  exact ⟨h1,fun j hj => by simpa using h3 j hj,by omega⟩
def mkLA (w : WorldM) (t : Tape) : Tg := ⟨tm 22 [(2,.pt 8002 0 0),(3,.pt 32012 0 0),(4,.pt 40004 0 0)],[(40004,.box 54 w.cells),(32012,t.b),(8002,.box 54 [int 0,int 0,.d (.sl 0 []),.d (.sl 0 []),int 0,int 0,.d (.sl 0 []),.d (.sl 0 [])])],60⟩
theorem mkRoundA (w : WorldM) (t : Tape) (n : Nat) (hm : MOk w n) (hn : n ≤ 1000000) (ht : TOk t) (ha : t.at' ≤ 900000) (hd : t.at' < t.l.length) : CSpec Tryz.prog (rndF Tryz.f28 0) (mkLA w t).st .nrm (mkLA (w.step t) (w.stepT t)).st := by
 exact sF [] [] (Fp 16 (@tapeDone t ‹_›) (Ftb 17 (!decide ((↑t.l.length : Int)≤t.at')) (Fp 20 (@sp_worldStep w t n ‹_› ‹_› ‹_› ‹_›) Fz)))
theorem mkEndA (w : WorldM) (t : Tape) (ht : TOk t) (hd : ¬ t.at' < t.l.length) : CSpec Tryz.prog (rndF Tryz.f28 0) (mkLA w t).st (.ext 0) (Tg.st ⟨tm 22 [(2,.pt 8002 0 0),(4,.pt 40004 0 0)],[(40004,.box 54 w.cells),(8002,.box 54 [int 0,int 0,.d (.sl 0 []),.d (.sl 0 []),int 0,int 0,.d (.sl 0 []),.d (.sl 0 [])])],60⟩) := by
 exact sF [] [] (Fp 16 (@tapeDone t ‹_›) (Ffb 17 (!decide ((↑t.l.length : Int)≤t.at')) Fz))
theorem mkLoopA (w : WorldM) (t : Tape) (hm : MOk w 0) (hl : t.l.length ≤ 300) (h0 : 0 ≤ t.at') (h1 : t.at' ≤ 1000) : CSpec Tryz.prog (blkF Tryz.f28 0) (Tg.st ⟨tm 22 [(2,.pt 8002 0 0),(3,.pt 32012 0 0),(4,.pt 40004 0 0)],[(40004,.box 54 w.cells),(32012,t.b),(8002,.box 54 [int 0,int 0,.d (.sl 0 []),.d (.sl 0 []),int 0,int 0,.d (.sl 0 []),.d (.sl 0 [])])],60⟩) .nrm (Tg.st ⟨tm 22 [(2,.pt 8002 0 0),(4,.pt 40004 0 0)],[(40004,.box 54 (makeW w t).cells),(8002,.box 54 [int 0,int 0,.d (.sl 0 []),.d (.sl 0 []),int 0,int 0,.d (.sl 0 []),.d (.sl 0 [])])],60⟩) := by
 have hk := mkN_is w t h0
 have tok : ∀ k,k ≤ mkN w t → TOk (mkS w t k).2 ∧ (mkS w t k).2.at' ≤ 900000 := fun k hk' => by
  have u := mkS_up w t k
  refine ⟨?_,by omega⟩
  unfold TOk
  rw [u.1]
  omega
 refine loop_ext_of (S := fun k => (mkLA (mkS w t k).1 (mkS w t k).2).st) (mkN w t) (by kernel_rfl) (fun k hk' => ?_) ?_
 ·have hs := hk.2.1 k hk'
  simp only [mkB,decide_eq_false_iff_not] at hs
  have m := mkS_ok hm t k (by omega)
  exact mkRoundA _ _ (0 + k) m (by omega) (tok k (by omega)).1 (tok k (by omega)).2 (by omega)
 ·have hs := hk.1
  simp only [mkB,decide_eq_true_eq] at hs
  exact mkEndA _ _ (tok _ (Nat.le_refl _)).1 (by omega)
def mkLB (w : WorldM) (t : Tape) : Tg := ⟨tm 22 [(2,.pt 8002 0 0),(3,.pt 24012 0 0),(4,.pt 32004 0 0)],[(32004,.box 54 w.cells),(24012,t.b),(8002,.box 54 [int 0,int 0,.d (.sl 0 []),.d (.sl 0 []),int 0,int 0,.d (.sl 0 []),.d (.sl 0 [])])],60⟩
theorem mkRoundB (w : WorldM) (t : Tape) (n : Nat) (hm : MOk w n) (hn : n ≤ 1000000) (ht : TOk t) (ha : t.at' ≤ 900000) (hd : t.at' < t.l.length) : CSpec Tryz.prog (rndF Tryz.f28 0) (mkLB w t).st .nrm (mkLB (w.step t) (w.stepT t)).st := by
 exact sF [] [] (Fp 16 (@tapeDone t ‹_›) (Ftb 17 (!decide ((↑t.l.length : Int)≤t.at')) (Fp 20 (@sp_worldStep w t n ‹_› ‹_› ‹_› ‹_›) Fz)))
theorem mkEndB (w : WorldM) (t : Tape) (ht : TOk t) (hd : ¬ t.at' < t.l.length) : CSpec Tryz.prog (rndF Tryz.f28 0) (mkLB w t).st (.ext 0) (Tg.st ⟨tm 22 [(2,.pt 8002 0 0),(4,.pt 32004 0 0)],[(32004,.box 54 w.cells),(8002,.box 54 [int 0,int 0,.d (.sl 0 []),.d (.sl 0 []),int 0,int 0,.d (.sl 0 []),.d (.sl 0 [])])],60⟩) := by
 exact sF [] [] (Fp 16 (@tapeDone t ‹_›) (Ffb 17 (!decide ((↑t.l.length : Int)≤t.at')) Fz))
theorem mkLoopB (w : WorldM) (t : Tape) (hm : MOk w 0) (hl : t.l.length ≤ 300) (h0 : 0 ≤ t.at') (h1 : t.at' ≤ 1000) : CSpec Tryz.prog (blkF Tryz.f28 0) (Tg.st ⟨tm 22 [(2,.pt 8002 0 0),(3,.pt 24012 0 0),(4,.pt 32004 0 0)],[(32004,.box 54 w.cells),(24012,t.b),(8002,.box 54 [int 0,int 0,.d (.sl 0 []),.d (.sl 0 []),int 0,int 0,.d (.sl 0 []),.d (.sl 0 [])])],60⟩) .nrm (Tg.st ⟨tm 22 [(2,.pt 8002 0 0),(4,.pt 32004 0 0)],[(32004,.box 54 (makeW w t).cells),(8002,.box 54 [int 0,int 0,.d (.sl 0 []),.d (.sl 0 []),int 0,int 0,.d (.sl 0 []),.d (.sl 0 [])])],60⟩) := by
 have hk := mkN_is w t h0
 have tok : ∀ k,k ≤ mkN w t → TOk (mkS w t k).2 ∧ (mkS w t k).2.at' ≤ 900000 := fun k hk' => by
  have u := mkS_up w t k
  refine ⟨?_,by omega⟩
  unfold TOk
  rw [u.1]
  omega
 refine loop_ext_of (S := fun k => (mkLB (mkS w t k).1 (mkS w t k).2).st) (mkN w t) (by kernel_rfl) (fun k hk' => ?_) ?_
 ·have hs := hk.2.1 k hk'
  simp only [mkB,decide_eq_false_iff_not] at hs
  have m := mkS_ok hm t k (by omega)
  exact mkRoundB _ _ (0 + k) m (by omega) (tok k (by omega)).1 (tok k (by omega)).2 (by omega)
 ·have hs := hk.1
  simp only [mkB,decide_eq_true_eq] at hs
  exact mkEndB _ _ (tok _ (Nat.le_refl _)).1 (by omega)
def makeT (l : List Int) : Tape := ⟨l.take 300,0⟩
def makeF (l : List Int) : WorldM := makeW (makeT l).empty (((makeT l).step 4).step 5)
theorem empty_ok (t : Tape) : MOk t.empty 0 := by
 have hv := tape_conf_valid t
 have hb := validB_iff.1 hv
 refine ⟨?_,hv, ?_, ?_, ?_, ?_, ?_, ?_,by simp [Tape.empty],by simp [Tape.empty]⟩
 ·intro x hx
  simp only [Tape.empty,newHeap,List.mem_replicate] at hx
  omega
 ·simp only [Tape.empty,newHeap,List.length_replicate]; omega
 ·have := area hv
  simp only [Tape.empty,newHeap,List.length_replicate]; omega
 ·intro j hj
  simp only [Tape.empty,newHeap,List.length_replicate] at hj ⊢
  have : (List.replicate t.conf.pg.toNat (⟨0,0,0,0⟩ : Page)).getD j default = ⟨0,0,0,0⟩ := by simp [List.getD_eq_getElem?_getD,hj]
  rw [this]; simp
 ·intro j hj
  simp only [Tape.empty,newHeap,List.length_replicate] at hj ⊢
  have : (List.replicate t.conf.pg.toNat (⟨0,0,0,0⟩ : Page)).getD j default = ⟨0,0,0,0⟩ := by simp [List.getD_eq_getElem?_getD,hj]
  rw [this]; simp
 ·intro x hx; simp [Tape.empty] at hx
 ·intro x hx; simp [Tape.empty] at hx
theorem make_steps (l : List Int) : (((makeT l).step 4).step 5).l = l.take 300 ∧ (((makeT l).step 4).step 5).at' = 2 := by simp [makeT,Tape.step]
theorem makeF_ok (l : List Int) : MOk (makeF l) 1000 := by
 have e := make_steps l
 have hl : (((makeT l).step 4).step 5).l.length ≤ 300 := by rw [e.1]; simp; omega
 have hk := mkN_is (makeT l).empty (((makeT l).step 4).step 5) (by omega)
 have m := mkS_ok (empty_ok (makeT l)) (((makeT l).step 4).step 5) (mkN (makeT l).empty (((makeT l).step 4).step 5)) (by omega)
 have h2 : ∀ (w : WorldM) (a b : Nat),MOk w a → a ≤ b → MOk w b := fun w a b h hab =>
  ⟨h.words,h.hv,h.pl,h.L,fun j hj => by have := h.pins j hj; omega,h.us,h.strong,h.weak,by have := h.sl; omega,by have := h.wl; omega⟩
 exact h2 _ _ _ m (by omega)
theorem madeMake (l : List Int) (hl : l.length ≤ 140737488355328) : GSpec Tryz.prog 28 [intsV l] false (makeF l).av [] := by
 have e := make_steps l
 have he := empty_ok (makeT l)
 have h1 : (((makeT l).step 4).step 5).l.length ≤ 300 := by rw [e.1]; simp; omega
 have h2 := e.2
 by_cases h : 300 < l.length
 ·have ht : TOk ⟨List.take (Int.toNat 300) l,0⟩ := by simp [TOk]; omega
  have e9 : makeT l = ⟨List.take (Int.toNat 300) l,0⟩ := rfl
  unfold makeF
  rw [e9] at he h1 h2 ⊢
  exact gF [] Tryz.func28 [] (Fh 9 [.els (List.map idv (List.take (Int.toNat 300) l))] (Fl 6 idv l (Ftb 7 (decide (300 < (↑l.length : Int))) (Fa (by (simp only [List.length_map]; omega) : (0 :Int)≤(300 :Int)∧300≤(↑(List.map idv l).length : Int)) (Fa (by simp [List.map_take,List.map_drop,List.map_set,List.map_append,wdv,idv] : List.take (Int.toNat 300) (List.map idv l) =List.map idv (List.take (Int.toNat 300) l)) (Fp 14 (@tapeEmpty (Tape.mk (List.take (Int.toNat 300) l) 0) ‹_› (by (simp only [bs]; omega))) (Fu (@mkLoopA ((Tape.mk (List.take (Int.toNat 300) l) 0).empty) (((Tape.mk (List.take (Int.toNat 300) l) 0).step 4).step 5) ‹_› ‹_› (by omega) (by omega)) Fz)))))))
 ·have ht : TOk ⟨l,0⟩ := by simp [TOk]; omega
  have e9 : makeT l = ⟨l,0⟩ := by rw [makeT,List.take_of_length_le (by omega)]
  unfold makeF
  rw [e9] at he h1 h2 ⊢
  exact gF [] Tryz.func28 [] (Fl 6 idv l (Ffb 7 (decide (300 < (↑l.length : Int))) (Fp 14 (@tapeEmpty (Tape.mk l 0) ‹_› (by (simp only [bs]; omega))) (Fu (@mkLoopB ((Tape.mk l 0).empty) (((Tape.mk l 0).step 4).step 5) ‹_› ‹_› (by omega) (by omega)) Fz))))
def spT2 (w : WorldM) (t : Tape) : Tape := (t.step (w.heap.words.length : Int)).step (w.heap.pages.length : Int)
def spT3 (w : WorldM) (t : Tape) : Tape := (spT2 w t).step 12
def spI (w : WorldM) (t : Tape) : Nat := (t.next (w.heap.words.length : Int)).toNat
def spP (w : WorldM) (t : Tape) : Nat := ((t.step (w.heap.words.length : Int)).next (w.heap.pages.length : Int)).toNat
def spPg (w : WorldM) (t : Tape) : Page := w.heap.pages.getD (spP w t) default
def spList : List Int := [0,1,5,21,4096,4097,4112,16386,1099511627776,61]
def pinQ (p : Page) : Page := if p.kind = 1 then ⟨p.kind,p.space,p.used,1⟩ else p
def spV (w : WorldM) (t : Tape) (d : Int) : Int := if d ≤ 1 then spList.getD ((spT3 w t).next 10).toNat default else bits .xor .u64 (w.heap.words.getD (spI w t) default) (IntKind.u64.wrap (1 * 2 ^ min ((spT3 w t).next 64).toNat 64))
def spQ (w : WorldM) (t : Tape) (d : Int) : Page :=
 if d = 3 then ⟨(spT3 w t).next 5,(spPg w t).space,(spPg w t).used,(spPg w t).pins⟩
 else if d = 4 then ⟨(spPg w t).kind,(spT3 w t).next 3,(spPg w t).used,(spPg w t).pins⟩
 else if d = 5 then ⟨(spPg w t).kind,(spPg w t).space,(spPg w t).used + (spT3 w t).next 9 - 4,(spPg w t).pins⟩
 else ⟨(spPg w t).kind,(spPg w t).space,(spPg w t).used,(spT3 w t).next 3 - 1⟩
def spH (w : WorldM) (t : Tape) (d : Int) : Heap :=
 if d ≤ 2 then ⟨w.heap.conf,w.heap.words.set (spI w t) (spV w t d),w.heap.pages,w.heap.space,w.heap.bump⟩
 else if d ≤ 6 then ⟨w.heap.conf,w.heap.words,w.heap.pages.set (spP w t) (spQ w t d),w.heap.space,w.heap.bump⟩
 else if d = 7 then ⟨w.heap.conf,w.heap.words,w.heap.pages,(spT3 w t).next 3,w.heap.bump⟩
 else if d = 8 then ⟨w.heap.conf,w.heap.words,w.heap.pages,w.heap.space,(spT3 w t).next ((w.heap.pages.length + 2 : Nat) : Int) - 1⟩
 else if d = 9 then ⟨⟨w.heap.conf.pw + 4,w.heap.conf.pg⟩,w.heap.words,w.heap.pages,w.heap.space,w.heap.bump⟩
 else if d = 10 then ⟨w.heap.conf,w.heap.words,w.heap.pages.drop 1,w.heap.space,w.heap.bump⟩
 else ⟨w.heap.conf,w.heap.words,w.heap.pages.map pinQ,w.heap.space,w.heap.bump⟩
def spN (w : WorldM) (d : Int) : Int := if d ≤ 1 then 10 else if d = 2 then 64 else if d = 3 then 5 else if d = 4 then 3 else if d = 5 then 9 else if d = 6 then 3 else if d = 7 then 3 else if d = 8 then ((w.heap.pages.length + 2 : Nat) : Int) else 0
def WorldM.spoil (w : WorldM) (t : Tape) : WorldM := ⟨spH w t ((spT2 w t).next 12),w.strong,w.weak⟩
def WorldM.spoilT (w : WorldM) (t : Tape) : Tape := if (spT2 w t).next 12 ≤ 8 then (spT3 w t).step (spN w ((spT2 w t).next 12)) else spT3 w t
section
variable (w : WorldM) (t : Tape) (hm : MOk w 1000) (ht : TOk t) (ha : t.at' ≤ 900000) (hus : ∀ j,j < w.heap.pages.length → -1099511627776 ≤ (w.heap.pages.getD j default).used ∧ (w.heap.pages.getD j default).used ≤ 1099511627776)
include hm ht ha hus
theorem spoil0 (hd : (spT2 w t).next 12 = 0) : LentSpec Tryz.prog 46 [w.av,.pt 0 0 0] [t.b] (w.spoil t).av [(w.spoilT t).b] := by
 have e7 : w.spoil t = ⟨⟨w.heap.conf,w.heap.words.set (spI w t) (spV w t 0),w.heap.pages,w.heap.space,w.heap.bump⟩,w.strong,w.weak⟩ := by simp [WorldM.spoil,spH,hd]
 have e8 : w.spoilT t = (spT3 w t).step 10 := by simp [WorldM.spoilT,spN,hd]
 have s1 := step_at (t := t) (w.heap.words.length : Int)
 have s2 : (t.step (w.heap.words.length : Int)).at' ≤ (spT2 w t).at' ∧ (spT2 w t).at' ≤ (t.step (w.heap.words.length : Int)).at' + 1 ∧ (spT2 w t).l = (t.step (w.heap.words.length : Int)).l := step_at _
 have s3 : (spT2 w t).at' ≤ (spT3 w t).at' ∧ (spT3 w t).at' ≤ (spT2 w t).at' + 1 ∧ (spT3 w t).l = (spT2 w t).l := step_at _
 have k1 := tok_of ht s1.2.2 (by omega) (by omega)
 have k2 : TOk (spT2 w t) := tok_of k1 s2.2.2 (by omega) (by omega)
 have k3 : TOk (spT3 w t) := tok_of k2 s3.2.2 (by omega) (by omega)
 have a1 := area hm.hv
 have a2 := validB_iff.1 hm.hv
 have a3 := hm.L
 have a4 := hm.pl
 have hw := hm.words
 have n1 := next_range t (n := (w.heap.words.length : Int)) (by omega)
 have n2 := next_range (t.step (w.heap.words.length : Int)) (n := (w.heap.pages.length : Int)) (by omega)
 have n3 := next_range (spT3 w t) (n := 10) (by omega)
 rw [e7,e8]
 unfold spT3 spT2 at *
 exact lF Tryz.func46 [] (Fh 43 [.el (wdv ([0,1,5,21,4096,4097,4112,16386,1099511627776,61].getD ((((t.step (↑w.heap.words.length : Int)).step (↑w.heap.pages.length : Int)).step 12).next 10).toNat default))] (Fh 10044 [.els (List.map wdv (w.heap.words.set (t.next (↑w.heap.words.length : Int)).toNat ([0,1,5,21,4096,4097,4112,16386,1099511627776,61].getD ((((t.step (↑w.heap.words.length : Int)).step (↑w.heap.pages.length : Int)).step 12).next 10).toNat default)))] (Fs 11 (List.map wdv []) (Fa (by (simp only [List.length_map,List.length_cons,List.length_nil]; omega) : (List.map wdv []).length + (List.map wdv w.heap.words).length≤2 ^ 30) (Fs 14 (List.map wdv w.heap.words) (Fs 15 (List.map Page.dv []) (Fa (by (simp only [List.length_map,List.length_cons,List.length_nil]; omega) : (List.map Page.dv []).length + (List.map Page.dv w.heap.pages).length≤2 ^ 30) (Fs 18 (List.map Page.dv w.heap.pages) (Fl 24 wdv w.heap.words (Fp 25 (@tapeNext t ((↑w.heap.words.length : Int)) ‹_› (by omega) (by omega)) (Fl 29 Page.dv w.heap.pages (Fp 30 (@tapeNext (t.step (↑w.heap.words.length : Int)) ((↑w.heap.pages.length : Int)) ‹_› (by omega) (by omega)) (Fp 32 (@sp_next12 ((t.step (↑w.heap.words.length : Int)).step (↑w.heap.pages.length : Int)) (0) ‹_› ‹_›) (Fs 39 (List.map wdv [0,1,5,21,4096,4097,4112,16386,1099511627776,61]) (Fp 41 (@tapeNext (((t.step (↑w.heap.words.length : Int)).step (↑w.heap.pages.length : Int)).step 12) (10) ‹_› (by omega) (by omega)) (Fa (by (simp only [List.length_map,List.length_cons,List.length_nil]; omega) : 0≤(((t.step (↑w.heap.words.length : Int)).step (↑w.heap.pages.length : Int)).step 12).next 10∧((((t.step (↑w.heap.words.length : Int)).step (↑w.heap.pages.length : Int)).step 12).next 10).toNat < (List.map wdv [0,1,5,21,4096,4097,4112,16386,1099511627776,61]).length) (Fa (by exact el_of (by simp only [List.length_cons,List.length_nil]; omega) : (List.map wdv [0,1,5,21,4096,4097,4112,16386,1099511627776,61])[((((t.step (↑w.heap.words.length : Int)).step (↑w.heap.pages.length : Int)).step 12).next 10).toNat]? = some (wdv ([0,1,5,21,4096,4097,4112,16386,1099511627776,61].getD ((((t.step (↑w.heap.words.length : Int)).step (↑w.heap.pages.length : Int)).step 12).next 10).toNat default))) (Fa (by (simp only [List.length_map,List.length_cons,List.length_nil]; omega) : 0≤t.next (↑w.heap.words.length : Int)∧(t.next (↑w.heap.words.length : Int)).toNat < (List.map wdv w.heap.words).length) (Fa (by (simp only [List.length_map,List.length_cons,List.length_nil]; omega) : (t.next (↑w.heap.words.length : Int)).toNat < (List.map wdv w.heap.words).length) (Fa (by simp [spV,spQ,spPg,spI,spP,spT3,spT2,spList,List.map_take,List.map_drop,List.map_set,List.map_append,wdv,idv] : (List.map wdv w.heap.words).set (t.next (↑w.heap.words.length : Int)).toNat [du64 ([0,1,5,21,4096,4097,4112,16386,1099511627776,61].getD ((((t.step (↑w.heap.words.length : Int)).step (↑w.heap.pages.length : Int)).step 12).next 10).toNat default)] =List.map wdv (w.heap.words.set (t.next (↑w.heap.words.length : Int)).toNat ([0,1,5,21,4096,4097,4112,16386,1099511627776,61].getD ((((t.step (↑w.heap.words.length : Int)).step (↑w.heap.pages.length : Int)).step 12).next 10).toNat default))) Fz))))))))))))))))))))
theorem spoil1 (hd : (spT2 w t).next 12 = 1) : LentSpec Tryz.prog 46 [w.av,.pt 0 0 0] [t.b] (w.spoil t).av [(w.spoilT t).b] := by
 have e7 : w.spoil t = ⟨⟨w.heap.conf,w.heap.words.set (spI w t) (spV w t 1),w.heap.pages,w.heap.space,w.heap.bump⟩,w.strong,w.weak⟩ := by simp [WorldM.spoil,spH,hd]
 have e8 : w.spoilT t = (spT3 w t).step 10 := by simp [WorldM.spoilT,spN,hd]
 have s1 := step_at (t := t) (w.heap.words.length : Int)
 have s2 : (t.step (w.heap.words.length : Int)).at' ≤ (spT2 w t).at' ∧ (spT2 w t).at' ≤ (t.step (w.heap.words.length : Int)).at' + 1 ∧ (spT2 w t).l = (t.step (w.heap.words.length : Int)).l := step_at _
 have s3 : (spT2 w t).at' ≤ (spT3 w t).at' ∧ (spT3 w t).at' ≤ (spT2 w t).at' + 1 ∧ (spT3 w t).l = (spT2 w t).l := step_at _
 have k1 := tok_of ht s1.2.2 (by omega) (by omega)
 have k2 : TOk (spT2 w t) := tok_of k1 s2.2.2 (by omega) (by omega)
 have k3 : TOk (spT3 w t) := tok_of k2 s3.2.2 (by omega) (by omega)
 have a1 := area hm.hv
 have a2 := validB_iff.1 hm.hv
 have a3 := hm.L
 have a4 := hm.pl
 have hw := hm.words
 have n1 := next_range t (n := (w.heap.words.length : Int)) (by omega)
 have n2 := next_range (t.step (w.heap.words.length : Int)) (n := (w.heap.pages.length : Int)) (by omega)
 have n3 := next_range (spT3 w t) (n := 10) (by omega)
 rw [e7,e8]
 unfold spT3 spT2 at *
 exact lF Tryz.func46 [] (Fh 43 [.el (wdv ([0,1,5,21,4096,4097,4112,16386,1099511627776,61].getD ((((t.step (↑w.heap.words.length : Int)).step (↑w.heap.pages.length : Int)).step 12).next 10).toNat default))] (Fh 10044 [.els (List.map wdv (w.heap.words.set (t.next (↑w.heap.words.length : Int)).toNat ([0,1,5,21,4096,4097,4112,16386,1099511627776,61].getD ((((t.step (↑w.heap.words.length : Int)).step (↑w.heap.pages.length : Int)).step 12).next 10).toNat default)))] (Fs 11 (List.map wdv []) (Fa (by (simp only [List.length_map,List.length_cons,List.length_nil]; omega) : (List.map wdv []).length + (List.map wdv w.heap.words).length≤2 ^ 30) (Fs 14 (List.map wdv w.heap.words) (Fs 15 (List.map Page.dv []) (Fa (by (simp only [List.length_map,List.length_cons,List.length_nil]; omega) : (List.map Page.dv []).length + (List.map Page.dv w.heap.pages).length≤2 ^ 30) (Fs 18 (List.map Page.dv w.heap.pages) (Fl 24 wdv w.heap.words (Fp 25 (@tapeNext t ((↑w.heap.words.length : Int)) ‹_› (by omega) (by omega)) (Fl 29 Page.dv w.heap.pages (Fp 30 (@tapeNext (t.step (↑w.heap.words.length : Int)) ((↑w.heap.pages.length : Int)) ‹_› (by omega) (by omega)) (Fp 32 (@sp_next12 ((t.step (↑w.heap.words.length : Int)).step (↑w.heap.pages.length : Int)) (1) ‹_› ‹_›) (Fs 39 (List.map wdv [0,1,5,21,4096,4097,4112,16386,1099511627776,61]) (Fp 41 (@tapeNext (((t.step (↑w.heap.words.length : Int)).step (↑w.heap.pages.length : Int)).step 12) (10) ‹_› (by omega) (by omega)) (Fa (by (simp only [List.length_map,List.length_cons,List.length_nil]; omega) : 0≤(((t.step (↑w.heap.words.length : Int)).step (↑w.heap.pages.length : Int)).step 12).next 10∧((((t.step (↑w.heap.words.length : Int)).step (↑w.heap.pages.length : Int)).step 12).next 10).toNat < (List.map wdv [0,1,5,21,4096,4097,4112,16386,1099511627776,61]).length) (Fa (by exact el_of (by simp only [List.length_cons,List.length_nil]; omega) : (List.map wdv [0,1,5,21,4096,4097,4112,16386,1099511627776,61])[((((t.step (↑w.heap.words.length : Int)).step (↑w.heap.pages.length : Int)).step 12).next 10).toNat]? = some (wdv ([0,1,5,21,4096,4097,4112,16386,1099511627776,61].getD ((((t.step (↑w.heap.words.length : Int)).step (↑w.heap.pages.length : Int)).step 12).next 10).toNat default))) (Fa (by (simp only [List.length_map,List.length_cons,List.length_nil]; omega) : 0≤t.next (↑w.heap.words.length : Int)∧(t.next (↑w.heap.words.length : Int)).toNat < (List.map wdv w.heap.words).length) (Fa (by (simp only [List.length_map,List.length_cons,List.length_nil]; omega) : (t.next (↑w.heap.words.length : Int)).toNat < (List.map wdv w.heap.words).length) (Fa (by simp [spV,spQ,spPg,spI,spP,spT3,spT2,spList,List.map_take,List.map_drop,List.map_set,List.map_append,wdv,idv] : (List.map wdv w.heap.words).set (t.next (↑w.heap.words.length : Int)).toNat [du64 ([0,1,5,21,4096,4097,4112,16386,1099511627776,61].getD ((((t.step (↑w.heap.words.length : Int)).step (↑w.heap.pages.length : Int)).step 12).next 10).toNat default)] =List.map wdv (w.heap.words.set (t.next (↑w.heap.words.length : Int)).toNat ([0,1,5,21,4096,4097,4112,16386,1099511627776,61].getD ((((t.step (↑w.heap.words.length : Int)).step (↑w.heap.pages.length : Int)).step 12).next 10).toNat default))) Fz))))))))))))))))))))
theorem spoil2 (hd : (spT2 w t).next 12 = 2) : LentSpec Tryz.prog 46 [w.av,.pt 0 0 0] [t.b] (w.spoil t).av [(w.spoilT t).b] := by
 have e7 : w.spoil t = ⟨⟨w.heap.conf,w.heap.words.set (spI w t) (spV w t 2),w.heap.pages,w.heap.space,w.heap.bump⟩,w.strong,w.weak⟩ := by simp [WorldM.spoil,spH,hd]
 have e8 : w.spoilT t = (spT3 w t).step 64 := by simp [WorldM.spoilT,spN,hd]
 have s1 := step_at (t := t) (w.heap.words.length : Int)
 have s2 : (t.step (w.heap.words.length : Int)).at' ≤ (spT2 w t).at' ∧ (spT2 w t).at' ≤ (t.step (w.heap.words.length : Int)).at' + 1 ∧ (spT2 w t).l = (t.step (w.heap.words.length : Int)).l := step_at _
 have s3 : (spT2 w t).at' ≤ (spT3 w t).at' ∧ (spT3 w t).at' ≤ (spT2 w t).at' + 1 ∧ (spT3 w t).l = (spT2 w t).l := step_at _
 have k1 := tok_of ht s1.2.2 (by omega) (by omega)
 have k2 : TOk (spT2 w t) := tok_of k1 s2.2.2 (by omega) (by omega)
 have k3 : TOk (spT3 w t) := tok_of k2 s3.2.2 (by omega) (by omega)
 have a1 := area hm.hv
 have a2 := validB_iff.1 hm.hv
 have a3 := hm.L
 have a4 := hm.pl
 have hw := hm.words
 have n1 := next_range t (n := (w.heap.words.length : Int)) (by omega)
 have n2 := next_range (t.step (w.heap.words.length : Int)) (n := (w.heap.pages.length : Int)) (by omega)
 have n3 := next_range (spT3 w t) (n := 64) (by omega)
 rw [e7,e8]
 unfold spT3 spT2 at *
 exact lF Tryz.func46 [] (Fh 51 [.el (wdv (w.heap.words.getD (t.next (↑w.heap.words.length : Int)).toNat default))] (Fh 10057 [.els (List.map wdv (w.heap.words.set (t.next (↑w.heap.words.length : Int)).toNat (bits BinOp.xor IntKind.u64 (w.heap.words.getD (t.next (↑w.heap.words.length : Int)).toNat default) (IntKind.u64.wrap ((1 :Int) * 2 ^ min ((((t.step (↑w.heap.words.length : Int)).step (↑w.heap.pages.length : Int)).step 12).next 64).toNat 64)))))] (Fs 11 (List.map wdv []) (Fa (by (simp [spV,spQ,spPg,spI,spP,spT3,spT2,spList, *]; omega) : (List.map wdv []).length + (List.map wdv w.heap.words).length≤2 ^ 30) (Fs 14 (List.map wdv w.heap.words) (Fs 15 (List.map Page.dv []) (Fa (by (simp [spV,spQ,spPg,spI,spP,spT3,spT2,spList, *]; omega) : (List.map Page.dv []).length + (List.map Page.dv w.heap.pages).length≤2 ^ 30) (Fs 18 (List.map Page.dv w.heap.pages) (Fl 24 wdv w.heap.words (Fp 25 (@tapeNext t ((↑w.heap.words.length : Int)) ‹_› (by omega) (by omega)) (Fl 29 Page.dv w.heap.pages (Fp 30 (@tapeNext (t.step (↑w.heap.words.length : Int)) ((↑w.heap.pages.length : Int)) ‹_› (by omega) (by omega)) (Fp 32 (@sp_next12 ((t.step (↑w.heap.words.length : Int)).step (↑w.heap.pages.length : Int)) (2) ‹_› ‹_›) (Fa (by (simp only [List.length_map]; omega) : 0≤t.next (↑w.heap.words.length : Int)∧(t.next (↑w.heap.words.length : Int)).toNat < (List.map wdv w.heap.words).length) (Fa (by exact el_of (by omega) : (List.map wdv w.heap.words)[(t.next (↑w.heap.words.length : Int)).toNat]? = some (wdv (w.heap.words.getD (t.next (↑w.heap.words.length : Int)).toNat default))) (Fp 53 (@tapeNext (((t.step (↑w.heap.words.length : Int)).step (↑w.heap.pages.length : Int)).step 12) (64) ‹_› (by omega) (by omega)) (Fv 54 ((((t.step (↑w.heap.words.length : Int)).step (↑w.heap.pages.length : Int)).step 12).next 64) (Fo (0≤(((t.step (↑w.heap.words.length : Int)).step (↑w.heap.pages.length : Int)).step 12).next 64) (Fa (by (simp only [List.length_map]; omega) : 0≤t.next (↑w.heap.words.length : Int)∧(t.next (↑w.heap.words.length : Int)).toNat < (List.map wdv w.heap.words).length) (Fa (by (simp only [List.length_map]; omega) : (t.next (↑w.heap.words.length : Int)).toNat < (List.map wdv w.heap.words).length) (Fa (by rw [List.map_set]; rfl : (List.map wdv w.heap.words).set (t.next (↑w.heap.words.length : Int)).toNat [du64 (bits BinOp.xor IntKind.u64 (w.heap.words.getD (t.next (↑w.heap.words.length : Int)).toNat default) (IntKind.u64.wrap ((1 :Int) * 2 ^ min ((((t.step (↑w.heap.words.length : Int)).step (↑w.heap.pages.length : Int)).step 12).next 64).toNat IntKind.u64.bits)))] =List.map wdv (w.heap.words.set (t.next (↑w.heap.words.length : Int)).toNat (bits BinOp.xor IntKind.u64 (w.heap.words.getD (t.next (↑w.heap.words.length : Int)).toNat default) (IntKind.u64.wrap ((1 :Int) * 2 ^ min ((((t.step (↑w.heap.words.length : Int)).step (↑w.heap.pages.length : Int)).step 12).next 64).toNat 64))))) Fz)))))))))))))))))))))
theorem spoil3 (hd : (spT2 w t).next 12 = 3) : LentSpec Tryz.prog 46 [w.av,.pt 0 0 0] [t.b] (w.spoil t).av [(w.spoilT t).b] := by
 have e7 : w.spoil t = ⟨⟨w.heap.conf,w.heap.words,w.heap.pages.set (spP w t) (spQ w t 3),w.heap.space,w.heap.bump⟩,w.strong,w.weak⟩ := by simp [WorldM.spoil,spH,hd]
 have e8 : w.spoilT t = (spT3 w t).step 5 := by simp [WorldM.spoilT,spN,hd]
 have s1 := step_at (t := t) (w.heap.words.length : Int)
 have s2 : (t.step (w.heap.words.length : Int)).at' ≤ (spT2 w t).at' ∧ (spT2 w t).at' ≤ (t.step (w.heap.words.length : Int)).at' + 1 ∧ (spT2 w t).l = (t.step (w.heap.words.length : Int)).l := step_at _
 have s3 : (spT2 w t).at' ≤ (spT3 w t).at' ∧ (spT3 w t).at' ≤ (spT2 w t).at' + 1 ∧ (spT3 w t).l = (spT2 w t).l := step_at _
 have k1 := tok_of ht s1.2.2 (by omega) (by omega)
 have k2 : TOk (spT2 w t) := tok_of k1 s2.2.2 (by omega) (by omega)
 have k3 : TOk (spT3 w t) := tok_of k2 s3.2.2 (by omega) (by omega)
 have a1 := area hm.hv
 have a2 := validB_iff.1 hm.hv
 have a3 := hm.L
 have a4 := hm.pl
 have hw := hm.words
 have n1 := next_range t (n := (w.heap.words.length : Int)) (by omega)
 have n2 := next_range (t.step (w.heap.words.length : Int)) (n := (w.heap.pages.length : Int)) (by omega)
 have n3 := next_range (spT3 w t) (n := 5) (by omega)
 rw [e7,e8]
 unfold spT3 spT2 at *
 exact lF Tryz.func46 [] (Fs 11 (List.map wdv []) (Fa (by (simp [spV,spQ,spPg,spI,spP,spT3,spT2,spList, *]; omega) : (List.map wdv []).length + (List.map wdv w.heap.words).length≤2 ^ 30) (Fs 14 (List.map wdv w.heap.words) (Fs 15 (List.map Page.dv []) (Fa (by (simp [spV,spQ,spPg,spI,spP,spT3,spT2,spList, *]; omega) : (List.map Page.dv []).length + (List.map Page.dv w.heap.pages).length≤2 ^ 30) (Fs 18 (List.map Page.dv w.heap.pages) (Fl 24 wdv w.heap.words (Fp 25 (@tapeNext t ((↑w.heap.words.length : Int)) ‹_› (by omega) (by omega)) (Fl 29 Page.dv w.heap.pages (Fp 30 (@tapeNext (t.step (↑w.heap.words.length : Int)) ((↑w.heap.pages.length : Int)) ‹_› (by omega) (by omega)) (Fp 32 (@sp_next12 ((t.step (↑w.heap.words.length : Int)).step (↑w.heap.pages.length : Int)) (3) ‹_› ‹_›) (Fp 64 (@tapeNext (((t.step (↑w.heap.words.length : Int)).step (↑w.heap.pages.length : Int)).step 12) (5) ‹_› (by omega) (by omega)) (Fa (by (simp only [List.length_map]; omega) : 0≤(t.step (↑w.heap.words.length : Int)).next (↑w.heap.pages.length : Int)∧((t.step (↑w.heap.words.length : Int)).next (↑w.heap.pages.length : Int)).toNat < (List.map Page.dv w.heap.pages).length) (Fa (by exact el_of (by omega) : (List.map Page.dv w.heap.pages)[((t.step (↑w.heap.words.length : Int)).next (↑w.heap.pages.length : Int)).toNat]? = some (w.heap.pages.getD ((t.step (↑w.heap.words.length : Int)).next (↑w.heap.pages.length : Int)).toNat default).dv) (FS 10066 Page.dv w.heap.pages (((t.step (↑w.heap.words.length : Int)).next (↑w.heap.pages.length : Int)).toNat) (Page.mk ((((t.step (↑w.heap.words.length : Int)).step (↑w.heap.pages.length : Int)).step 12).next 5) (w.heap.pages.getD ((t.step (↑w.heap.words.length : Int)).next (↑w.heap.pages.length : Int)).toNat default).space (w.heap.pages.getD ((t.step (↑w.heap.words.length : Int)).next (↑w.heap.pages.length : Int)).toNat default).used (w.heap.pages.getD ((t.step (↑w.heap.words.length : Int)).next (↑w.heap.pages.length : Int)).toNat default).pins) ((w.heap.pages.getD ((t.step (↑w.heap.words.length : Int)).next (↑w.heap.pages.length : Int)).toNat default).dv) Fz)))))))))))))))
theorem spoil4 (hd : (spT2 w t).next 12 = 4) : LentSpec Tryz.prog 46 [w.av,.pt 0 0 0] [t.b] (w.spoil t).av [(w.spoilT t).b] := by
 have e7 : w.spoil t = ⟨⟨w.heap.conf,w.heap.words,w.heap.pages.set (spP w t) (spQ w t 4),w.heap.space,w.heap.bump⟩,w.strong,w.weak⟩ := by simp [WorldM.spoil,spH,hd]
 have e8 : w.spoilT t = (spT3 w t).step 3 := by simp [WorldM.spoilT,spN,hd]
 have s1 := step_at (t := t) (w.heap.words.length : Int)
 have s2 : (t.step (w.heap.words.length : Int)).at' ≤ (spT2 w t).at' ∧ (spT2 w t).at' ≤ (t.step (w.heap.words.length : Int)).at' + 1 ∧ (spT2 w t).l = (t.step (w.heap.words.length : Int)).l := step_at _
 have s3 : (spT2 w t).at' ≤ (spT3 w t).at' ∧ (spT3 w t).at' ≤ (spT2 w t).at' + 1 ∧ (spT3 w t).l = (spT2 w t).l := step_at _
 have k1 := tok_of ht s1.2.2 (by omega) (by omega)
 have k2 : TOk (spT2 w t) := tok_of k1 s2.2.2 (by omega) (by omega)
 have k3 : TOk (spT3 w t) := tok_of k2 s3.2.2 (by omega) (by omega)
 have a1 := area hm.hv
 have a2 := validB_iff.1 hm.hv
 have a3 := hm.L
 have a4 := hm.pl
 have hw := hm.words
 have n1 := next_range t (n := (w.heap.words.length : Int)) (by omega)
 have n2 := next_range (t.step (w.heap.words.length : Int)) (n := (w.heap.pages.length : Int)) (by omega)
 have n3 := next_range (spT3 w t) (n := 3) (by omega)
 rw [e7,e8]
 unfold spT3 spT2 at *
 exact lF Tryz.func46 [] (Fs 11 (List.map wdv []) (Fa (by (simp [spV,spQ,spPg,spI,spP,spT3,spT2,spList, *]; omega) : (List.map wdv []).length + (List.map wdv w.heap.words).length≤2 ^ 30) (Fs 14 (List.map wdv w.heap.words) (Fs 15 (List.map Page.dv []) (Fa (by (simp [spV,spQ,spPg,spI,spP,spT3,spT2,spList, *]; omega) : (List.map Page.dv []).length + (List.map Page.dv w.heap.pages).length≤2 ^ 30) (Fs 18 (List.map Page.dv w.heap.pages) (Fl 24 wdv w.heap.words (Fp 25 (@tapeNext t ((↑w.heap.words.length : Int)) ‹_› (by omega) (by omega)) (Fl 29 Page.dv w.heap.pages (Fp 30 (@tapeNext (t.step (↑w.heap.words.length : Int)) ((↑w.heap.pages.length : Int)) ‹_› (by omega) (by omega)) (Fp 32 (@sp_next12 ((t.step (↑w.heap.words.length : Int)).step (↑w.heap.pages.length : Int)) (4) ‹_› ‹_›) (Fp 73 (@tapeNext (((t.step (↑w.heap.words.length : Int)).step (↑w.heap.pages.length : Int)).step 12) (3) ‹_› (by omega) (by omega)) (Fa (by (simp only [List.length_map]; omega) : 0≤(t.step (↑w.heap.words.length : Int)).next (↑w.heap.pages.length : Int)∧((t.step (↑w.heap.words.length : Int)).next (↑w.heap.pages.length : Int)).toNat < (List.map Page.dv w.heap.pages).length) (Fa (by exact el_of (by omega) : (List.map Page.dv w.heap.pages)[((t.step (↑w.heap.words.length : Int)).next (↑w.heap.pages.length : Int)).toNat]? = some (w.heap.pages.getD ((t.step (↑w.heap.words.length : Int)).next (↑w.heap.pages.length : Int)).toNat default).dv) (FS 10075 Page.dv w.heap.pages (((t.step (↑w.heap.words.length : Int)).next (↑w.heap.pages.length : Int)).toNat) (Page.mk (w.heap.pages.getD ((t.step (↑w.heap.words.length : Int)).next (↑w.heap.pages.length : Int)).toNat default).kind ((((t.step (↑w.heap.words.length : Int)).step (↑w.heap.pages.length : Int)).step 12).next 3) (w.heap.pages.getD ((t.step (↑w.heap.words.length : Int)).next (↑w.heap.pages.length : Int)).toNat default).used (w.heap.pages.getD ((t.step (↑w.heap.words.length : Int)).next (↑w.heap.pages.length : Int)).toNat default).pins) ((w.heap.pages.getD ((t.step (↑w.heap.words.length : Int)).next (↑w.heap.pages.length : Int)).toNat default).dv) Fz)))))))))))))))
theorem spoil5 (hd : (spT2 w t).next 12 = 5) : LentSpec Tryz.prog 46 [w.av,.pt 0 0 0] [t.b] (w.spoil t).av [(w.spoilT t).b] := by
 have e7 : w.spoil t = ⟨⟨w.heap.conf,w.heap.words,w.heap.pages.set (spP w t) (spQ w t 5),w.heap.space,w.heap.bump⟩,w.strong,w.weak⟩ := by simp [WorldM.spoil,spH,hd]
 have e8 : w.spoilT t = (spT3 w t).step 9 := by simp [WorldM.spoilT,spN,hd]
 have s1 := step_at (t := t) (w.heap.words.length : Int)
 have s2 : (t.step (w.heap.words.length : Int)).at' ≤ (spT2 w t).at' ∧ (spT2 w t).at' ≤ (t.step (w.heap.words.length : Int)).at' + 1 ∧ (spT2 w t).l = (t.step (w.heap.words.length : Int)).l := step_at _
 have s3 : (spT2 w t).at' ≤ (spT3 w t).at' ∧ (spT3 w t).at' ≤ (spT2 w t).at' + 1 ∧ (spT3 w t).l = (spT2 w t).l := step_at _
 have k1 := tok_of ht s1.2.2 (by omega) (by omega)
 have k2 : TOk (spT2 w t) := tok_of k1 s2.2.2 (by omega) (by omega)
 have k3 : TOk (spT3 w t) := tok_of k2 s3.2.2 (by omega) (by omega)
 have a1 := area hm.hv
 have a2 := validB_iff.1 hm.hv
 have a3 := hm.L
 have a4 := hm.pl
 have hw := hm.words
 have n1 := next_range t (n := (w.heap.words.length : Int)) (by omega)
 have n2 := next_range (t.step (w.heap.words.length : Int)) (n := (w.heap.pages.length : Int)) (by omega)
 have n3 := next_range (spT3 w t) (n := 9) (by omega)
 have pu := hus (spP w t)
 unfold spP at pu
 rw [e7,e8]
 unfold spT3 spT2 at *
 exact lF Tryz.func46 [] (Fh 86 [.el (w.heap.pages.getD ((t.step (↑w.heap.words.length : Int)).next (↑w.heap.pages.length : Int)).toNat default).dv] (Fs 11 (List.map wdv []) (Fa (by (simp [spV,spQ,spPg,spI,spP,spT3,spT2,spList, *]; omega) : (List.map wdv []).length + (List.map wdv w.heap.words).length≤2 ^ 30) (Fs 14 (List.map wdv w.heap.words) (Fs 15 (List.map Page.dv []) (Fa (by (simp [spV,spQ,spPg,spI,spP,spT3,spT2,spList, *]; omega) : (List.map Page.dv []).length + (List.map Page.dv w.heap.pages).length≤2 ^ 30) (Fs 18 (List.map Page.dv w.heap.pages) (Fl 24 wdv w.heap.words (Fp 25 (@tapeNext t ((↑w.heap.words.length : Int)) ‹_› (by omega) (by omega)) (Fl 29 Page.dv w.heap.pages (Fp 30 (@tapeNext (t.step (↑w.heap.words.length : Int)) ((↑w.heap.pages.length : Int)) ‹_› (by omega) (by omega)) (Fp 32 (@sp_next12 ((t.step (↑w.heap.words.length : Int)).step (↑w.heap.pages.length : Int)) (5) ‹_› ‹_›) (Fa (by (simp only [List.length_map]; omega) : 0≤(t.step (↑w.heap.words.length : Int)).next (↑w.heap.pages.length : Int)∧((t.step (↑w.heap.words.length : Int)).next (↑w.heap.pages.length : Int)).toNat < (List.map Page.dv w.heap.pages).length) (Fa (by exact el_of (by omega) : (List.map Page.dv w.heap.pages)[((t.step (↑w.heap.words.length : Int)).next (↑w.heap.pages.length : Int)).toNat]? = some (w.heap.pages.getD ((t.step (↑w.heap.words.length : Int)).next (↑w.heap.pages.length : Int)).toNat default).dv) (Fp 88 (@tapeNext (((t.step (↑w.heap.words.length : Int)).step (↑w.heap.pages.length : Int)).step 12) (9) ‹_› (by omega) (by omega)) (Fi 89 ((w.heap.pages.getD ((t.step (↑w.heap.words.length : Int)).next (↑w.heap.pages.length : Int)).toNat default).used + (((t.step (↑w.heap.words.length : Int)).step (↑w.heap.pages.length : Int)).step 12).next 9) (Fi 90 ((w.heap.pages.getD ((t.step (↑w.heap.words.length : Int)).next (↑w.heap.pages.length : Int)).toNat default).used + (((t.step (↑w.heap.words.length : Int)).step (↑w.heap.pages.length : Int)).step 12).next (9 :Int) - 4) (Fa (by (simp only [List.length_map]; omega) : 0≤(t.step (↑w.heap.words.length : Int)).next (↑w.heap.pages.length : Int)∧((t.step (↑w.heap.words.length : Int)).next (↑w.heap.pages.length : Int)).toNat < (List.map Page.dv w.heap.pages).length) (Fa (by exact el_of (by omega) : (List.map Page.dv w.heap.pages)[((t.step (↑w.heap.words.length : Int)).next (↑w.heap.pages.length : Int)).toNat]? = some (w.heap.pages.getD ((t.step (↑w.heap.words.length : Int)).next (↑w.heap.pages.length : Int)).toNat default).dv) (FS 10092 Page.dv w.heap.pages (((t.step (↑w.heap.words.length : Int)).next (↑w.heap.pages.length : Int)).toNat) (Page.mk (w.heap.pages.getD ((t.step (↑w.heap.words.length : Int)).next (↑w.heap.pages.length : Int)).toNat default).kind (w.heap.pages.getD ((t.step (↑w.heap.words.length : Int)).next (↑w.heap.pages.length : Int)).toNat default).space ((w.heap.pages.getD ((t.step (↑w.heap.words.length : Int)).next (↑w.heap.pages.length : Int)).toNat default).used + (((t.step (↑w.heap.words.length : Int)).step (↑w.heap.pages.length : Int)).step 12).next (9 :Int) - 4) (w.heap.pages.getD ((t.step (↑w.heap.words.length : Int)).next (↑w.heap.pages.length : Int)).toNat default).pins) ((w.heap.pages.getD ((t.step (↑w.heap.words.length : Int)).next (↑w.heap.pages.length : Int)).toNat default).dv) Fz))))))))))))))))))))
theorem spoil6 (hd : (spT2 w t).next 12 = 6) : LentSpec Tryz.prog 46 [w.av,.pt 0 0 0] [t.b] (w.spoil t).av [(w.spoilT t).b] := by
 have e7 : w.spoil t = ⟨⟨w.heap.conf,w.heap.words,w.heap.pages.set (spP w t) (spQ w t 6),w.heap.space,w.heap.bump⟩,w.strong,w.weak⟩ := by simp [WorldM.spoil,spH,hd]
 have e8 : w.spoilT t = (spT3 w t).step 3 := by simp [WorldM.spoilT,spN,hd]
 have s1 := step_at (t := t) (w.heap.words.length : Int)
 have s2 : (t.step (w.heap.words.length : Int)).at' ≤ (spT2 w t).at' ∧ (spT2 w t).at' ≤ (t.step (w.heap.words.length : Int)).at' + 1 ∧ (spT2 w t).l = (t.step (w.heap.words.length : Int)).l := step_at _
 have s3 : (spT2 w t).at' ≤ (spT3 w t).at' ∧ (spT3 w t).at' ≤ (spT2 w t).at' + 1 ∧ (spT3 w t).l = (spT2 w t).l := step_at _
 have k1 := tok_of ht s1.2.2 (by omega) (by omega)
 have k2 : TOk (spT2 w t) := tok_of k1 s2.2.2 (by omega) (by omega)
 have k3 : TOk (spT3 w t) := tok_of k2 s3.2.2 (by omega) (by omega)
 have a1 := area hm.hv
 have a2 := validB_iff.1 hm.hv
 have a3 := hm.L
 have a4 := hm.pl
 have hw := hm.words
 have n1 := next_range t (n := (w.heap.words.length : Int)) (by omega)
 have n2 := next_range (t.step (w.heap.words.length : Int)) (n := (w.heap.pages.length : Int)) (by omega)
 have n3 := next_range (spT3 w t) (n := 3) (by omega)
 rw [e7,e8]
 unfold spT3 spT2 at *
 exact lF Tryz.func46 [] (Fs 11 (List.map wdv []) (Fa (by (simp [spV,spQ,spPg,spI,spP,spT3,spT2,spList, *]; omega) : (List.map wdv []).length + (List.map wdv w.heap.words).length≤2 ^ 30) (Fs 14 (List.map wdv w.heap.words) (Fs 15 (List.map Page.dv []) (Fa (by (simp [spV,spQ,spPg,spI,spP,spT3,spT2,spList, *]; omega) : (List.map Page.dv []).length + (List.map Page.dv w.heap.pages).length≤2 ^ 30) (Fs 18 (List.map Page.dv w.heap.pages) (Fl 24 wdv w.heap.words (Fp 25 (@tapeNext t ((↑w.heap.words.length : Int)) ‹_› (by omega) (by omega)) (Fl 29 Page.dv w.heap.pages (Fp 30 (@tapeNext (t.step (↑w.heap.words.length : Int)) ((↑w.heap.pages.length : Int)) ‹_› (by omega) (by omega)) (Fp 32 (@sp_next12 ((t.step (↑w.heap.words.length : Int)).step (↑w.heap.pages.length : Int)) (6) ‹_› ‹_›) (Fp 99 (@tapeNext (((t.step (↑w.heap.words.length : Int)).step (↑w.heap.pages.length : Int)).step 12) (3) ‹_› (by omega) (by omega)) (Fi 100 ((((t.step (↑w.heap.words.length : Int)).step (↑w.heap.pages.length : Int)).step 12).next (3 :Int) - 1) (Fa (by (simp only [List.length_map]; omega) : 0≤(t.step (↑w.heap.words.length : Int)).next (↑w.heap.pages.length : Int)∧((t.step (↑w.heap.words.length : Int)).next (↑w.heap.pages.length : Int)).toNat < (List.map Page.dv w.heap.pages).length) (Fa (by exact el_of (by omega) : (List.map Page.dv w.heap.pages)[((t.step (↑w.heap.words.length : Int)).next (↑w.heap.pages.length : Int)).toNat]? = some (w.heap.pages.getD ((t.step (↑w.heap.words.length : Int)).next (↑w.heap.pages.length : Int)).toNat default).dv) (FS 10102 Page.dv w.heap.pages (((t.step (↑w.heap.words.length : Int)).next (↑w.heap.pages.length : Int)).toNat) (Page.mk (w.heap.pages.getD ((t.step (↑w.heap.words.length : Int)).next (↑w.heap.pages.length : Int)).toNat default).kind (w.heap.pages.getD ((t.step (↑w.heap.words.length : Int)).next (↑w.heap.pages.length : Int)).toNat default).space (w.heap.pages.getD ((t.step (↑w.heap.words.length : Int)).next (↑w.heap.pages.length : Int)).toNat default).used ((((t.step (↑w.heap.words.length : Int)).step (↑w.heap.pages.length : Int)).step 12).next (3 :Int) - 1)) ((w.heap.pages.getD ((t.step (↑w.heap.words.length : Int)).next (↑w.heap.pages.length : Int)).toNat default).dv) Fz))))))))))))))))
end
def pinL (w : WorldM) (tp : Tape) (i : Nat) : Tg := ⟨tm 156 [(2,.pt 8002 0 0),(4,.pt 8004 0 0),(5,.pt 16005 0 0),(8,int i)],[(0,tp.b),(16005,.box 27 [int w.heap.conf.pw,int w.heap.conf.pg,.ow 24014,.ow 24018,int w.heap.space,int w.heap.bump]),(24018,.arr 73 4 ((preM pinQ w.heap.pages i).map Page.dv)),(24014,.arr 29 1 (w.heap.words.map wdv)),(8004,.box 54 [int 0,int 0,.d (.sl 0 []),.d (.sl 0 []),int 0,int 0,.d (.sl 0 []),.d (.sl 0 [])]),(8002,.box 54 w.cells)],60⟩
theorem pinRound (w : WorldM) (tp : Tape) (i : Nat) (hl : w.heap.pages.length ≤ 64) (hi : i < w.heap.pages.length) : CSpec Tryz.prog (rndF Tryz.f46 1) (pinL w tp i).st .nrm (pinL w tp (i + 1)).st := by
 have ha := preM_get pinQ w.heap.pages (Nat.le_refl i) default
 have hn := preM_len pinQ w.heap.pages i
 by_cases hc : (w.heap.pages.getD i default).kind = 1
 ·have hq := preM_succ pinQ w.heap.pages hi default
  rw [show pinQ (w.heap.pages.getD i default) = ⟨(w.heap.pages.getD i default).kind,(w.heap.pages.getD i default).space,(w.heap.pages.getD i default).used,1⟩ by rw [pinQ,if_pos hc],← ha] at hq
  rw [← ha] at hc
  rcases bb (((preM pinQ w.heap.pages i).getD (↑i : Int).toNat default).kind == 1) with hc0 | hc0<;>have hc0p:=hc0<;>simp only [bs] at hc0p
  ·exact sF [] [false,false,false,false,false,false,true] (Fl 137 Page.dv (preM pinQ w.heap.pages i) (Ftb 138 (decide ((↑i : Int) < (↑(preM pinQ w.heap.pages i).length : Int))) (Fm 146 Page.dv (preM pinQ w.heap.pages i) (↑i) ((↑i : Int).toNat) (Ft 147 hc0 (Fm0 Page.dv (preM pinQ w.heap.pages i) (↑i) ((↑i : Int).toNat) (FS 10152 Page.dv (preM pinQ w.heap.pages i) ((↑i : Int).toNat) (Page.mk ((preM pinQ w.heap.pages i).getD (↑i : Int).toNat default).kind ((preM pinQ w.heap.pages i).getD (↑i : Int).toNat default).space ((preM pinQ w.heap.pages i).getD (↑i : Int).toNat default).used 1) (((preM pinQ w.heap.pages i).getD (↑i : Int).toNat default).dv) (Fx 140 i (Fr (73 : Int) (Fa (by refine congrArg _ ?_; exact hq : List.map Page.dv ((preM pinQ w.heap.pages i).set (↑i : Int).toNat (Page.mk ((preM pinQ w.heap.pages i).getD (↑i : Int).toNat default).kind ((preM pinQ w.heap.pages i).getD (↑i : Int).toNat default).space ((preM pinQ w.heap.pages i).getD (↑i : Int).toNat default).used 1)) =List.map Page.dv (preM pinQ w.heap.pages (i + 1))) Fz)))))))))
  ·contradiction
 ·have hq := preM_same pinQ w.heap.pages hi default (by rw [pinQ,if_neg hc])
  rw [← ha] at hc
  rcases bb (((preM pinQ w.heap.pages i).getD (↑i : Int).toNat default).kind == 1) with hc0 | hc0<;>have hc0p:=hc0<;>simp only [bs] at hc0p
  ·contradiction
  ·exact sF [] [false,false,false,false,false,false,true] (Fl 137 Page.dv (preM pinQ w.heap.pages i) (Ftb 138 (decide ((↑i : Int) < (↑(preM pinQ w.heap.pages i).length : Int))) (Fm 146 Page.dv (preM pinQ w.heap.pages i) (↑i) ((↑i : Int).toNat) (Ff 147 hc0 (Fx 140 i (Fr (73 : Int) (Fa (by refine congrArg _ ?_; exact hq : List.map Page.dv (preM pinQ w.heap.pages i) =List.map Page.dv (preM pinQ w.heap.pages (i + 1))) Fz)))))))
theorem pinEnd (w : WorldM) (tp : Tape) : CSpec Tryz.prog (rndF Tryz.f46 1) (pinL w tp w.heap.pages.length).st (.ext 1) (Tg.st ⟨tm 156 [(2,.pt 8002 0 0),(4,.pt 8004 0 0),(5,.pt 16005 0 0)],[(0,tp.b),(16005,.box 27 [int w.heap.conf.pw,int w.heap.conf.pg,.ow 24014,.ow 24018,int w.heap.space,int w.heap.bump]),(24018,.arr 73 4 ((w.heap.pages.map pinQ).map Page.dv)),(24014,.arr 29 1 (w.heap.words.map wdv)),(8004,.box 54 [int 0,int 0,.d (.sl 0 []),.d (.sl 0 []),int 0,int 0,.d (.sl 0 []),.d (.sl 0 [])]),(8002,.box 54 w.cells)],60⟩) := by
 have hq := preM_all pinQ w.heap.pages
 have hn := preM_len pinQ w.heap.pages w.heap.pages.length
 exact sF [] [false,false,false,false,false,true] (Fl 137 Page.dv (preM pinQ w.heap.pages w.heap.pages.length) (Ffb 138 (decide ((↑w.heap.pages.length : Int) < (↑(preM pinQ w.heap.pages w.heap.pages.length).length : Int))) (Fr (73 : Int) (Fa (by refine congrArg _ ?_; assumption : List.map Page.dv (preM pinQ w.heap.pages w.heap.pages.length) =List.map Page.dv (List.map pinQ w.heap.pages)) Fz))))
theorem pinLoop (w : WorldM) (tp : Tape) (hl : w.heap.pages.length ≤ 64) : CSpec Tryz.prog (blkF Tryz.f46 1) (Tg.st ⟨tm 156 [(2,.pt 8002 0 0),(4,.pt 8004 0 0),(5,.pt 16005 0 0),(8,int 0)],[(0,tp.b),(16005,.box 27 [int w.heap.conf.pw,int w.heap.conf.pg,.ow 24014,.ow 24018,int w.heap.space,int w.heap.bump]),(24018,.arr 73 4 (w.heap.pages.map Page.dv)),(24014,.arr 29 1 (w.heap.words.map wdv)),(8004,.box 54 [int 0,int 0,.d (.sl 0 []),.d (.sl 0 []),int 0,int 0,.d (.sl 0 []),.d (.sl 0 [])]),(8002,.box 54 w.cells)],60⟩) .nrm (Tg.st ⟨tm 156 [(2,.pt 8002 0 0),(4,.pt 8004 0 0),(5,.pt 16005 0 0)],[(0,tp.b),(16005,.box 27 [int w.heap.conf.pw,int w.heap.conf.pg,.ow 24014,.ow 24018,int w.heap.space,int w.heap.bump]),(24018,.arr 73 4 ((w.heap.pages.map pinQ).map Page.dv)),(24014,.arr 29 1 (w.heap.words.map wdv)),(8004,.box 54 [int 0,int 0,.d (.sl 0 []),.d (.sl 0 []),int 0,int 0,.d (.sl 0 []),.d (.sl 0 [])]),(8002,.box 54 w.cells)],60⟩) := by
 have := loop_ext_of (S := fun k => (pinL w tp k).st) w.heap.pages.length (by kernel_rfl) (fun k hk => pinRound w tp k hl hk) (pinEnd w tp)
 simp only [pinL,preM_zero] at this
 exact this
section
variable (w : WorldM) (t : Tape) (hm : MOk w 1000) (ht : TOk t) (ha : t.at' ≤ 900000) (hus : ∀ j,j < w.heap.pages.length → -1099511627776 ≤ (w.heap.pages.getD j default).used ∧ (w.heap.pages.getD j default).used ≤ 1099511627776)
include hm ht ha hus
theorem spoil7 (hd : (spT2 w t).next 12 = 7) : LentSpec Tryz.prog 46 [w.av,.pt 0 0 0] [t.b] (w.spoil t).av [(w.spoilT t).b] := by
 have e7 : w.spoil t = ⟨⟨w.heap.conf,w.heap.words,w.heap.pages,(spT3 w t).next 3,w.heap.bump⟩,w.strong,w.weak⟩ := by simp [WorldM.spoil,spH,hd]
 have e8 : w.spoilT t = (spT3 w t).step 3 := by simp [WorldM.spoilT,spN,hd]
 have s1 := step_at (t := t) (w.heap.words.length : Int)
 have s2 : (t.step (w.heap.words.length : Int)).at' ≤ (spT2 w t).at' ∧ (spT2 w t).at' ≤ (t.step (w.heap.words.length : Int)).at' + 1 ∧ (spT2 w t).l = (t.step (w.heap.words.length : Int)).l := step_at _
 have s3 : (spT2 w t).at' ≤ (spT3 w t).at' ∧ (spT3 w t).at' ≤ (spT2 w t).at' + 1 ∧ (spT3 w t).l = (spT2 w t).l := step_at _
 have k1 := tok_of ht s1.2.2 (by omega) (by omega)
 have k2 : TOk (spT2 w t) := tok_of k1 s2.2.2 (by omega) (by omega)
 have k3 : TOk (spT3 w t) := tok_of k2 s3.2.2 (by omega) (by omega)
 have a1 := area hm.hv
 have a2 := validB_iff.1 hm.hv
 have a3 := hm.L
 have a4 := hm.pl
 have hw := hm.words
 have n1 := next_range t (n := (w.heap.words.length : Int)) (by omega)
 have n2 := next_range (t.step (w.heap.words.length : Int)) (n := (w.heap.pages.length : Int)) (by omega)
 have n3 := next_range (spT3 w t) (n := 3) (by omega)
 rw [e7,e8]
 unfold spT3 spT2 at *
 exact lF Tryz.func46 [] (Fs 11 (List.map wdv []) (Fa (by (simp [spV,spQ,spPg,spI,spP,spT3,spT2,spList, *]; omega) : (List.map wdv []).length + (List.map wdv w.heap.words).length≤2 ^ 30) (Fs 14 (List.map wdv w.heap.words) (Fs 15 (List.map Page.dv []) (Fa (by (simp [spV,spQ,spPg,spI,spP,spT3,spT2,spList, *]; omega) : (List.map Page.dv []).length + (List.map Page.dv w.heap.pages).length≤2 ^ 30) (Fs 18 (List.map Page.dv w.heap.pages) (Fl 24 wdv w.heap.words (Fp 25 (@tapeNext t ((↑w.heap.words.length : Int)) ‹_› (by omega) (by omega)) (Fl 29 Page.dv w.heap.pages (Fp 30 (@tapeNext (t.step (↑w.heap.words.length : Int)) ((↑w.heap.pages.length : Int)) ‹_› (by omega) (by omega)) (Fp 32 (@sp_next12 ((t.step (↑w.heap.words.length : Int)).step (↑w.heap.pages.length : Int)) (7) ‹_› ‹_›) (Fp 106 (@tapeNext (((t.step (↑w.heap.words.length : Int)).step (↑w.heap.pages.length : Int)).step 12) (3) ‹_› (by omega) (by omega)) Fz))))))))))))
theorem spoil8 (hd : (spT2 w t).next 12 = 8) : LentSpec Tryz.prog 46 [w.av,.pt 0 0 0] [t.b] (w.spoil t).av [(w.spoilT t).b] := by
 have e7 : w.spoil t = ⟨⟨w.heap.conf,w.heap.words,w.heap.pages,w.heap.space,(spT3 w t).next ((w.heap.pages.length + 2 : Nat) : Int) - 1⟩,w.strong,w.weak⟩ := by simp [WorldM.spoil,spH,hd]
 have e8 : w.spoilT t = (spT3 w t).step ((w.heap.pages.length + 2 : Nat) : Int) := by simp [WorldM.spoilT,spN,hd]
 have s1 := step_at (t := t) (w.heap.words.length : Int)
 have s2 : (t.step (w.heap.words.length : Int)).at' ≤ (spT2 w t).at' ∧ (spT2 w t).at' ≤ (t.step (w.heap.words.length : Int)).at' + 1 ∧ (spT2 w t).l = (t.step (w.heap.words.length : Int)).l := step_at _
 have s3 : (spT2 w t).at' ≤ (spT3 w t).at' ∧ (spT3 w t).at' ≤ (spT2 w t).at' + 1 ∧ (spT3 w t).l = (spT2 w t).l := step_at _
 have k1 := tok_of ht s1.2.2 (by omega) (by omega)
 have k2 : TOk (spT2 w t) := tok_of k1 s2.2.2 (by omega) (by omega)
 have k3 : TOk (spT3 w t) := tok_of k2 s3.2.2 (by omega) (by omega)
 have a1 := area hm.hv
 have a2 := validB_iff.1 hm.hv
 have a3 := hm.L
 have a4 := hm.pl
 have hw := hm.words
 have n1 := next_range t (n := (w.heap.words.length : Int)) (by omega)
 have n2 := next_range (t.step (w.heap.words.length : Int)) (n := (w.heap.pages.length : Int)) (by omega)
 have n3 := next_range (spT3 w t) (n := ((w.heap.pages.length + 2 : Nat) : Int)) (by omega)
 rw [e7,e8]
 unfold spT3 spT2 at *
 exact lF Tryz.func46 [] (Fs 11 (List.map wdv []) (Fa (by (simp [spV,spQ,spPg,spI,spP,spT3,spT2,spList, *]; omega) : (List.map wdv []).length + (List.map wdv w.heap.words).length≤2 ^ 30) (Fs 14 (List.map wdv w.heap.words) (Fs 15 (List.map Page.dv []) (Fa (by (simp [spV,spQ,spPg,spI,spP,spT3,spT2,spList, *]; omega) : (List.map Page.dv []).length + (List.map Page.dv w.heap.pages).length≤2 ^ 30) (Fs 18 (List.map Page.dv w.heap.pages) (Fl 24 wdv w.heap.words (Fp 25 (@tapeNext t ((↑w.heap.words.length : Int)) ‹_› (by omega) (by omega)) (Fl 29 Page.dv w.heap.pages (Fp 30 (@tapeNext (t.step (↑w.heap.words.length : Int)) ((↑w.heap.pages.length : Int)) ‹_› (by omega) (by omega)) (Fp 32 (@sp_next12 ((t.step (↑w.heap.words.length : Int)).step (↑w.heap.pages.length : Int)) (8) ‹_› ‹_›) (Fl 113 Page.dv w.heap.pages (Fw 114 ((↑w.heap.pages.length : Int) + 2) (↑(w.heap.pages.length + 2) : Int) (Fp 115 (@tapeNext (((t.step (↑w.heap.words.length : Int)).step (↑w.heap.pages.length : Int)).step 12) ((↑(w.heap.pages.length + 2) : Int)) ‹_› (by omega) (by omega)) (Fi 116 ((((t.step (↑w.heap.words.length : Int)).step (↑w.heap.pages.length : Int)).step 12).next (↑(w.heap.pages.length + 2) : Int) - 1) Fz)))))))))))))))
theorem spoil9 (hd : (spT2 w t).next 12 = 9) : LentSpec Tryz.prog 46 [w.av,.pt 0 0 0] [t.b] (w.spoil t).av [(w.spoilT t).b] := by
 have e7 : w.spoil t = ⟨⟨⟨w.heap.conf.pw + 4,w.heap.conf.pg⟩,w.heap.words,w.heap.pages,w.heap.space,w.heap.bump⟩,w.strong,w.weak⟩ := by simp [WorldM.spoil,spH,hd]
 have e8 : w.spoilT t = spT3 w t := by simp [WorldM.spoilT,spN,hd]
 have s1 := step_at (t := t) (w.heap.words.length : Int)
 have s2 : (t.step (w.heap.words.length : Int)).at' ≤ (spT2 w t).at' ∧ (spT2 w t).at' ≤ (t.step (w.heap.words.length : Int)).at' + 1 ∧ (spT2 w t).l = (t.step (w.heap.words.length : Int)).l := step_at _
 have s3 : (spT2 w t).at' ≤ (spT3 w t).at' ∧ (spT3 w t).at' ≤ (spT2 w t).at' + 1 ∧ (spT3 w t).l = (spT2 w t).l := step_at _
 have k1 := tok_of ht s1.2.2 (by omega) (by omega)
 have k2 : TOk (spT2 w t) := tok_of k1 s2.2.2 (by omega) (by omega)
 have k3 : TOk (spT3 w t) := tok_of k2 s3.2.2 (by omega) (by omega)
 have a1 := area hm.hv
 have a2 := validB_iff.1 hm.hv
 have a3 := hm.L
 have a4 := hm.pl
 have hw := hm.words
 have n1 := next_range t (n := (w.heap.words.length : Int)) (by omega)
 have n2 := next_range (t.step (w.heap.words.length : Int)) (n := (w.heap.pages.length : Int)) (by omega)
 rw [e7,e8]
 unfold spT3 spT2 at *
 exact lF Tryz.func46 [] (Fs 11 (List.map wdv []) (Fa (by (simp [spV,spQ,spPg,spI,spP,spT3,spT2,spList, *]; omega) : (List.map wdv []).length + (List.map wdv w.heap.words).length≤2 ^ 30) (Fs 14 (List.map wdv w.heap.words) (Fs 15 (List.map Page.dv []) (Fa (by (simp [spV,spQ,spPg,spI,spP,spT3,spT2,spList, *]; omega) : (List.map Page.dv []).length + (List.map Page.dv w.heap.pages).length≤2 ^ 30) (Fs 18 (List.map Page.dv w.heap.pages) (Fl 24 wdv w.heap.words (Fp 25 (@tapeNext t ((↑w.heap.words.length : Int)) ‹_› (by omega) (by omega)) (Fl 29 Page.dv w.heap.pages (Fp 30 (@tapeNext (t.step (↑w.heap.words.length : Int)) ((↑w.heap.pages.length : Int)) ‹_› (by omega) (by omega)) (Fp 32 (@sp_next12 ((t.step (↑w.heap.words.length : Int)).step (↑w.heap.pages.length : Int)) (9) ‹_› ‹_›) (Fi 123 (w.heap.conf.pw + 4) Fz))))))))))))
theorem spoil10 (hd : (spT2 w t).next 12 = 10) : LentSpec Tryz.prog 46 [w.av,.pt 0 0 0] [t.b] (w.spoil t).av [(w.spoilT t).b] := by
 have e7 : w.spoil t = ⟨⟨w.heap.conf,w.heap.words,w.heap.pages.drop 1,w.heap.space,w.heap.bump⟩,w.strong,w.weak⟩ := by simp [WorldM.spoil,spH,hd]
 have e8 : w.spoilT t = spT3 w t := by simp [WorldM.spoilT,spN,hd]
 have s1 := step_at (t := t) (w.heap.words.length : Int)
 have s2 : (t.step (w.heap.words.length : Int)).at' ≤ (spT2 w t).at' ∧ (spT2 w t).at' ≤ (t.step (w.heap.words.length : Int)).at' + 1 ∧ (spT2 w t).l = (t.step (w.heap.words.length : Int)).l := step_at _
 have s3 : (spT2 w t).at' ≤ (spT3 w t).at' ∧ (spT3 w t).at' ≤ (spT2 w t).at' + 1 ∧ (spT3 w t).l = (spT2 w t).l := step_at _
 have k1 := tok_of ht s1.2.2 (by omega) (by omega)
 have k2 : TOk (spT2 w t) := tok_of k1 s2.2.2 (by omega) (by omega)
 have k3 : TOk (spT3 w t) := tok_of k2 s3.2.2 (by omega) (by omega)
 have a1 := area hm.hv
 have a2 := validB_iff.1 hm.hv
 have a3 := hm.L
 have a4 := hm.pl
 have hw := hm.words
 have n1 := next_range t (n := (w.heap.words.length : Int)) (by omega)
 have n2 := next_range (t.step (w.heap.words.length : Int)) (n := (w.heap.pages.length : Int)) (by omega)
 have hq : List.take ((↑(List.map Page.dv w.heap.pages).length : Int).toNat - Int.toNat 1) (List.drop (Int.toNat 1) (List.map Page.dv w.heap.pages)) = List.map Page.dv (w.heap.pages.drop 1) := by
  show List.take _ (List.drop 1 (List.map Page.dv w.heap.pages)) = _
  rw [← List.map_drop]
  exact List.take_of_length_le (by simp)
 rw [e7,e8]
 unfold spT3 spT2 at *
 exact lF Tryz.func46 [true] (Fs 11 (List.map wdv []) (Fa (by (simp [spV,spQ,spPg,spI,spP,spT3,spT2,spList, *]; omega) : (List.map wdv []).length + (List.map wdv w.heap.words).length≤2 ^ 30) (Fs 14 (List.map wdv w.heap.words) (Fs 15 (List.map Page.dv []) (Fa (by (simp [spV,spQ,spPg,spI,spP,spT3,spT2,spList, *]; omega) : (List.map Page.dv []).length + (List.map Page.dv w.heap.pages).length≤2 ^ 30) (Fs 18 (List.map Page.dv w.heap.pages) (Fl 24 wdv w.heap.words (Fp 25 (@tapeNext t ((↑w.heap.words.length : Int)) ‹_› (by omega) (by omega)) (Fl 29 Page.dv w.heap.pages (Fp 30 (@tapeNext (t.step (↑w.heap.words.length : Int)) ((↑w.heap.pages.length : Int)) ‹_› (by omega) (by omega)) (Fp 32 (@sp_next12 ((t.step (↑w.heap.words.length : Int)).step (↑w.heap.pages.length : Int)) (10) ‹_› ‹_›) (Fa (by (simp only [List.length_map]; omega) : (0 :Int)≤(1 :Int)∧1≤(↑(List.map Page.dv w.heap.pages).length : Int)) (Fr w.heap.conf.pw (Fr w.heap.conf.pg (Fr (List.map wdv w.heap.words) (Fa (by exact hq : List.take ((↑(List.map Page.dv w.heap.pages).length : Int).toNat - Int.toNat 1) (List.drop (Int.toNat 1) (List.map Page.dv w.heap.pages)) =List.map Page.dv (WorldM.mk (Heap.mk w.heap.conf w.heap.words (List.drop 1 w.heap.pages) w.heap.space w.heap.bump) w.strong w.weak).heap.pages) (Fr w.heap.space (Fr w.heap.bump (Fr (List.map wdv w.strong) (Fr (List.map wdv w.weak) Fz))))))))))))))))))))
theorem spoil11 (hd : (spT2 w t).next 12 = 11) : LentSpec Tryz.prog 46 [w.av,.pt 0 0 0] [t.b] (w.spoil t).av [(w.spoilT t).b] := by
 have e7 : w.spoil t = ⟨⟨w.heap.conf,w.heap.words,w.heap.pages.map pinQ,w.heap.space,w.heap.bump⟩,w.strong,w.weak⟩ := by simp [WorldM.spoil,spH,hd]
 have e8 : w.spoilT t = spT3 w t := by simp [WorldM.spoilT,spN,hd]
 have s1 := step_at (t := t) (w.heap.words.length : Int)
 have s2 : (t.step (w.heap.words.length : Int)).at' ≤ (spT2 w t).at' ∧ (spT2 w t).at' ≤ (t.step (w.heap.words.length : Int)).at' + 1 ∧ (spT2 w t).l = (t.step (w.heap.words.length : Int)).l := step_at _
 have s3 : (spT2 w t).at' ≤ (spT3 w t).at' ∧ (spT3 w t).at' ≤ (spT2 w t).at' + 1 ∧ (spT3 w t).l = (spT2 w t).l := step_at _
 have k1 := tok_of ht s1.2.2 (by omega) (by omega)
 have k2 : TOk (spT2 w t) := tok_of k1 s2.2.2 (by omega) (by omega)
 have k3 : TOk (spT3 w t) := tok_of k2 s3.2.2 (by omega) (by omega)
 have a1 := area hm.hv
 have a2 := validB_iff.1 hm.hv
 have a3 := hm.L
 have a4 := hm.pl
 have hw := hm.words
 have n1 := next_range t (n := (w.heap.words.length : Int)) (by omega)
 have n2 := next_range (t.step (w.heap.words.length : Int)) (n := (w.heap.pages.length : Int)) (by omega)
 rw [e7,e8]
 unfold spT3 spT2 at *
 exact lF Tryz.func46 [] (Fs 11 (List.map wdv []) (Fa (by (simp [spV,spQ,spPg,spI,spP,spT3,spT2,spList, *]; omega) : (List.map wdv []).length + (List.map wdv w.heap.words).length≤2 ^ 30) (Fs 14 (List.map wdv w.heap.words) (Fs 15 (List.map Page.dv []) (Fa (by (simp [spV,spQ,spPg,spI,spP,spT3,spT2,spList, *]; omega) : (List.map Page.dv []).length + (List.map Page.dv w.heap.pages).length≤2 ^ 30) (Fs 18 (List.map Page.dv w.heap.pages) (Fl 24 wdv w.heap.words (Fp 25 (@tapeNext t ((↑w.heap.words.length : Int)) ‹_› (by omega) (by omega)) (Fl 29 Page.dv w.heap.pages (Fp 30 (@tapeNext (t.step (↑w.heap.words.length : Int)) ((↑w.heap.pages.length : Int)) ‹_› (by omega) (by omega)) (Fp 32 (@sp_next12 ((t.step (↑w.heap.words.length : Int)).step (↑w.heap.pages.length : Int)) (11) ‹_› ‹_›) (Fu (@pinLoop w (((t.step (↑w.heap.words.length : Int)).step (↑w.heap.pages.length : Int)).step 12) (by omega)) Fz))))))))))))
theorem madeSpoil : LentSpec Tryz.prog 46 [w.av,.pt 0 0 0] [t.b] (w.spoil t).av [(w.spoilT t).b] := by
 have n := next_range (spT2 w t) (n := 12) (by decide)
 have hd : (spT2 w t).next 12 = 0 ∨ (spT2 w t).next 12 = 1 ∨ (spT2 w t).next 12 = 2 ∨ (spT2 w t).next 12 = 3 ∨ (spT2 w t).next 12 = 4 ∨ (spT2 w t).next 12 = 5 ∨ (spT2 w t).next 12 = 6 ∨ (spT2 w t).next 12 = 7 ∨ (spT2 w t).next 12 = 8 ∨ (spT2 w t).next 12 = 9 ∨ (spT2 w t).next 12 = 10 ∨ (spT2 w t).next 12 = 11 := by omega
 rcases hd with hd | hd | hd | hd | hd | hd | hd | hd | hd | hd | hd | hd
 ·exact spoil0 w t hm ht ha hus hd
 ·exact spoil1 w t hm ht ha hus hd
 ·exact spoil2 w t hm ht ha hus hd
 ·exact spoil3 w t hm ht ha hus hd
 ·exact spoil4 w t hm ht ha hus hd
 ·exact spoil5 w t hm ht ha hus hd
 ·exact spoil6 w t hm ht ha hus hd
 ·exact spoil7 w t hm ht ha hus hd
 ·exact spoil8 w t hm ht ha hus hd
 ·exact spoil9 w t hm ht ha hus hd
 ·exact spoil10 w t hm ht ha hus hd
 ·exact spoil11 w t hm ht ha hus hd
end
theorem headerValid (h : Header) (hm : 0 ≤ h.map ∧ h.map ≤ 4294967295) : GSpec Tryz.prog 90 [h.av] true (bool (validH h)) [] := by
 have hs := fun q => pow32 (n := h.length) q
 have ho : 0 ≤ h.length → h.length ≤ 32 → ones h.length = 2 ^ h.length.toNat - 1 := fun h0 h1 => by rw [ones,Nat.min_eq_left (by omega)]
 rcases bb (decide (h.kind < 0) || decide (3 < h.kind) || decide (h.length < 0) || decide (255 < h.length)) with hc0 | hc0<;>have hc0p:=hc0<;>simp only [bs] at hc0p
 ·exact gF [] Tryz.func90 [false,false,false,false,false,false,false,false,false,true] (Ft 20 hc0 (Fa (by (simp [validH, *]; omega) : false =validH h) Fz))
 ·obtain ⟨⟨⟨hc0paaa,hc0paab⟩,hc0pab⟩,hc0pb⟩ := hc0p
  rcases bb (h.kind == 1) with hc1 | hc1<;>have hc1p:=hc1<;>simp only [bs] at hc1p
  ·exact gF [] Tryz.func90 [false,false,false,false,false,false,false,false,false,false,false,false,false,false,false,false,true] (Ff 20 hc0 (Ft 23 hc1 (FvG 30 (decide (h.length≤32)) h.map (FcG 33 (decide (h.length≤32)) (fun hg => by (try simp only [bs] at hg); exact @bitsOnes h.length) (Fa (by grind [validH] : (decide (h.length≤32)&&decide (h.map≤ones h.length)) =validH h) Fz)))))
  ·exact gF [] Tryz.func90 [false,false,false,false,false,false,false,false,false,true] (Ff 20 hc0 (Ff 23 hc1 (Fa (by grind [validH] : (h.kind == h.kind&&(h.length == h.length&&h.map == 0)) =validH h) Fz)))
theorem headerSize (h : Header) (hm : 0 ≤ h.map ∧ h.map ≤ 4294967295) : GSpec Tryz.prog 54 [h.av] true (int (sizeH h)) [] := by
 rcases bb (!validH h) with hc0 | hc0<;>have hc0p:=hc0<;>simp only [bs] at hc0p
 ·exact gF [] Tryz.func54 [true] (Fc 4 (@headerValid h ‹_›) (Ft 5 hc0 (Fa (by simp [sizeH, *] : 0 =sizeH h) Fz)))
 ·have hf3 := validH_iff.1 hc0p
  obtain ⟨hf3a,⟨hf3ba,⟨hf3bba,⟨hf3bbba,hf3bbbb⟩⟩⟩⟩ := hf3
  exact gF [] Tryz.func54 [true] (Fc 4 (@headerValid h ‹_›) (Ff 5 hc0 (Fi 8 (h.length + 1) (Fa (by simp [sizeH, *] : h.length + 1 =sizeH h) Fz))))
theorem arenaPlace (ws : List Int) (a n : Int) (hw : ws.length ≤ 1048576) (h0 : 0 ≤ a ∧ a ≤ 18446744073709551615) : GSpec Tryz.prog 94 [wordsV ws,u64 a,int n] true (.tu [int (placeA ws a n).1,bool (placeA ws a n).2]) [] := by
 have Q0 {h_ c_ p_} (r_ : Fq h_ c_ p_) := FvG 13 (!decide (a < 4096)) (a - 4096) (FlG 15 (!decide (a < 4096)) wdv ws (FvG 16 (!decide (a < 4096)) (↑ws.length) r_))
 rcases bb (decide (a < 4096) || decide ((↑ws.length : Int) < a - 4096)) with hc0 | hc0<;>have hc0p:=hc0<;>simp only [bs] at hc0p
 ·exact gF [] Tryz.func94 [false,false,false,false,false,false,true] (Q0 (Ft 18 hc0 (Fa (by (simp only [placeA]; (repeat' split) <;> first | rfl | omega | (exfalso; omega) | simp_all) : 0 =(placeA ws a n).fst) (Fa (by (simp only [placeA]; (repeat' split) <;> first | rfl | omega | (exfalso; omega) | simp_all) : false =(placeA ws a n).snd) Fz))))
 ·obtain ⟨hc0pa,hc0pb⟩ := hc0p
  exact gF [] Tryz.func94 [false,false,false,false,false,false,true] (Q0 (Ff 18 hc0 (Fv 20 (a - 4096) (Fi 21 (a - 4096) (Fl 25 wdv ws (Fi 27 ((↑ws.length : Int) - (a - 4096)) (Fa (by (simp only [placeA]; (repeat' split) <;> first | rfl | omega | (exfalso; omega) | simp_all) : a - 4096 =(placeA ws a n).fst) (Fa (by (simp only [placeA]; (repeat' split) <;> first | rfl | omega | (exfalso; omega) | simp_all) : decide (n≤(↑ws.length : Int) - (a - 4096)) =(placeA ws a n).snd) Fz))))))))
end Go.Proofs.YtpklpkmnhgedbaaGreat
namespace Go.Sx
theorem gspec_empty {P : Program} {f s : Nat} {fr : Bool} {res : AV} {news : List Blk} (h : ∀ (p : Option Addr) (c : Nat),GSpec P f [.d (.sc (.slice p 0 c))] fr res news) : GSpec P f [.d (.sl s [])] fr res news := by
 intro w Im vs hI hn hr
 have h0 : vs.size = 1 := hn
 obtain ⟨v,hv⟩ : ∃ v,vs[0]? = some v := ⟨vs[0]'(by omega),by simp⟩
 have key : ∀ (p : Option Addr) (c : Nat),v = .slice p 0 c → Calls P f vs w fun e w' => ∃ v,e = .returned v ∧ RetOk w Im fr res news v w' := fun p c e => by
  refine h p c w Im vs hI hn fun i x u hx hu => ?_
  match i with
  | 0 =>
   simp only [List.getElem?_cons_zero,Option.some.injEq] at hx
   rw [hv] at hu
   cases hu; subst hx; subst e
   exact .d (.sc _ rfl)
  | i + 1 => simp at hx
 have h1 := hr 0 _ v rfl hv
 cases h1 with
 | d h1 =>
  generalize he : ([] : List (List DV)) = l at h1
  cases h1 with
  | slNil s p c => exact key p c rfl
  | sl s els p n c fn hn => subst he; simp at hn; subst hn; exact key _ c rfl
end Go.Sx
namespace Go.Proofs.YtpklpkmnhgedbaaGreat
open Go.Sx
def Heap.dvs (h : Heap) : List DV := [.sc (.int .i64 h.conf.pw),.sc (.int .i64 h.conf.pg),.sl 1 (h.words.map wdv),.sl 4 (h.pages.map Page.dv),.sc (.int .i64 h.space),.sc (.int .i64 h.bump)]
def lightB (h : Heap) : Bool := decide (h.words.length ≤ 5000 ∧ h.pages.length ≤ 100)
def heapsF (raw : Heap) (tape odd : List Int) : List Heap := [(makeF tape).heap,((makeF tape).spoil ⟨odd,0⟩).heap] ++ (if lightB raw = true then [raw] else [])
theorem ref4NewA : GSpec Tryz.prog 58 [.ag [int 16,int 8]] true (.tu [.ag [int 16,int 8,.ow 0,.ow 1,int 0,int (-1)],int 0]) [.arr 29 1 ((List.replicate 128 0).map wdv),.arr 73 4 ((List.replicate 8 (⟨0,0,0,0⟩ : Page)).map Page.dv)] := by
 have h : validB ⟨16,8⟩ = true := by decide
 have ei : (8 : Int) * 16 = 128 := rfl
 exact gF [24014,24017] Tryz.func58 [] (Fc 5 (@refValidConf (Conf.mk 16 8)) (Fa (by decide +kernel : 0≤IntKind.i64.wrap ((8 :Int) * 16)∧IntKind.i64.wrap ((8 :Int) * 16)≤IntKind.i64.wrap ((8 :Int) * 16)∧IntKind.i64.wrap ((8 :Int) * 16) * ((↑(nat_lit 7) : Int) + 1)≤2 ^ 48) (Fs 14 (List.map wdv (List.replicate (Int.toNat 128) 0)) (Fa (by decide +kernel : (0 :Int)≤(8 :Int)∧(8 :Int)≤(8 :Int)∧8 * ((↑(nat_lit 31) : Int) + 1)≤2 ^ 48) (Fs 17 (List.map Page.dv [Page.mk 0 0 0 0,Page.mk 0 0 0 0,Page.mk 0 0 0 0,Page.mk 0 0 0 0,Page.mk 0 0 0 0,Page.mk 0 0 0 0,Page.mk 0 0 0 0,Page.mk 0 0 0 0]) (Fa (by exact flat_wdv _ : FlatEls (List.map wdv (List.replicate (Int.toNat 128) 0))) (Fa (by exact flat_pages _ : FlatEls (List.map Page.dv [Page.mk 0 0 0 0,Page.mk 0 0 0 0,Page.mk 0 0 0 0,Page.mk 0 0 0 0,Page.mk 0 0 0 0,Page.mk 0 0 0 0,Page.mk 0 0 0 0,Page.mk 0 0 0 0])) Fz)))))))
structure HOk (h : Heap) : Prop where
 w : WOk h.words
 wl : h.words.length ≤ 1048576
 pl : h.pages.length ≤ 1048576
theorem wrapU_range (n : Int) : 0 ≤ IntKind.u64.wrap n ∧ IntKind.u64.wrap n ≤ 18446744073709551615 := by
 unfold IntKind.wrap
 simp only [IntKind.signed,IntKind.bits,Bool.false_and,Bool.false_eq_true,if_false]
 omega
theorem spV_range {w : WorldM} (hw : WOk w.heap.words) (t : Tape) (d : Int) : 0 ≤ spV w t d ∧ spV w t d ≤ 18446744073709551615 := by
 unfold spV
 split
 ·have h : ∀ x ∈ spList,0 ≤ x ∧ x ≤ 18446744073709551615 := by
   intro x hx
   simp only [spList,List.mem_cons,List.not_mem_nil,or_false] at hx
   omega
  exact getD_mem h _
 ·exact wrapU_range _
theorem spoil_ok {w : WorldM} (hm : MOk w 1000) (t : Tape) : HOk (w.spoil t).heap := by
 have a1 := area hm.hv
 have a2 := validB_iff.1 hm.hv
 have a3 := hm.L
 have a4 := hm.pl
 unfold WorldM.spoil spH
 simp only
 split
 ·refine ⟨fun x hx => ?_,by simp only [List.length_set]; omega,by simp only; omega⟩
  rcases List.mem_or_eq_of_mem_set hx with hx | rfl
  ·exact hm.words x hx
  ·exact spV_range hm.words _ _
 ·split
  ·exact ⟨hm.words,by simp only; omega,by simp only [List.length_set]; omega⟩
  ·split
   ·exact ⟨hm.words,by simp only; omega,by simp only; omega⟩
   ·split
    ·exact ⟨hm.words,by simp only; omega,by simp only; omega⟩
    ·split
     ·exact ⟨hm.words,by simp only; omega,by simp only; omega⟩
     ·split
      ·exact ⟨hm.words,by simp only; omega,by simp only [List.length_drop]; omega⟩
      ·exact ⟨hm.words,by simp only; omega,by simp only [List.length_map]; omega⟩
theorem heapsF_ok (raw : Heap) (tape odd : List Int) (hw : WOk raw.words) : (heapsF raw tape odd).length ≤ 3 ∧ ∀ h ∈ heapsF raw tape odd,HOk h := by
 have hm := makeF_ok tape
 have a1 := area hm.hv
 have a2 := validB_iff.1 hm.hv
 have a3 := hm.L
 have a4 := hm.pl
 have h1 : HOk (makeF tape).heap := ⟨hm.words,by omega,by omega⟩
 have h2 := spoil_ok hm ⟨odd,0⟩
 unfold heapsF
 split
 ·rename_i hc
  simp only [lightB,decide_eq_true_eq] at hc
  refine ⟨by simp,fun h hh => ?_⟩
  simp only [List.cons_append,List.nil_append,List.mem_cons,List.not_mem_nil,or_false] at hh
  rcases hh with rfl | rfl | rfl
  ·exact h1
  ·exact h2
  ·exact ⟨hw,by omega,by omega⟩
 ·refine ⟨by simp,fun h hh => ?_⟩
  simp only [List.append_nil,List.mem_cons,List.not_mem_nil,or_false] at hh
  rcases hh with rfl | rfl
  ·exact h1
  ·exact h2
theorem map_ne {α β : Type} {f : α → β} {l : List α} (h : l ≠ []) : l.map f ≠ [] := by simpa using h
theorem cloneWordsN (ws : List Int) (hw : ws.length ≤ 1048576) (hne : ws ≠ []) : GSpec Tryz.prog 95 [wordsV ws] true (.ow 0) [.arr 29 1 (ws.map wdv)] := by
 exact gF [24007] Tryz.func95 [] (Fa (by exact map_ne hne : List.map wdv ws ≠ []) (Fs 5 (List.map wdv []) (Fa (by (simp [*]; omega) : (List.map wdv []).length + (List.map wdv ws).length≤2 ^ 30) (Fs 7 (List.map wdv ws) (Fa (by exact flat_wdv _ : FlatEls (List.map wdv ws)) Fz)))))
theorem clonePages (l : List Page) (hl : l.length ≤ 1048576) (hne : l ≠ []) : GSpec Tryz.prog 97 [pagesV l] true (pagesV l) [] := by
 exact gF [] Tryz.func97 [] (Fa (by exact map_ne hne : List.map Page.dv l ≠ []) (Fs 5 (List.map Page.dv []) (Fa (by (simp [*]; omega) : (List.map Page.dv []).length + (List.map Page.dv l).length≤2 ^ 30) (Fs 7 (List.map Page.dv l) (Fa (by exact flat_pages _ : FlatEls (List.map Page.dv l)) Fz)))))
theorem ne_of_len {α : Type} {l : List α} (h : 0 < l.length) : l ≠ [] := by
 rintro rfl
 simp at h
theorem arenaWrite (ws l : List Int) (a : Int) (hw : ws.length ≤ 1048576) (hl : l.length ≤ 1048576) (h0 : 0 ≤ a ∧ a ≤ 18446744073709551615) (hn : 0 < l.length) : GSpec Tryz.prog 70 [wordsV ws,u64 a,wordsV l] true (.tu [wordsV (writeA ws a l).1,int (writeA ws a l).2]) [] := by
 by_cases h : 4096 ≤ a ∧ a - 4096 + l.length ≤ ws.length
 ·have e7 : writeA ws a l = (spl ws (a - 4096).toNat l,0) := by rw [writeA,if_pos h]
  have e1 : placeA ws a (l.length : Int) = (a - 4096,true) := by
   rw [placeA,if_pos (by omega)]
   simp; omega
  have e2 := congrArg (fun x => x.1) e1
  have e3 := congrArg (fun x => x.2) e1
  simp only at e2 e3
  have hne : ws ≠ [] := ne_of_len (by omega)
  have hs : spliceE (List.map wdv ws) (placeA ws a l.length).1.toNat (List.map wdv l) = List.map wdv (List.take (placeA ws a l.length).1.toNat ws ++ l ++ List.drop ((placeA ws a l.length).1.toNat + l.length) ws) := by simp [spliceE]
  rw [e7]
  exact gF [] Tryz.func70 [true] (Fh 27 [.els (List.map wdv (List.take (placeA ws a (↑l.length : Int)).fst.toNat ws ++ l ++ List.drop ((placeA ws a (↑l.length : Int)).fst.toNat + l.length) ws))] (Fl 15 wdv l (Fc 16 (@arenaPlace ws a ((↑l.length : Int)) ‹_› ‹_›) (Ffb 20 (!(placeA ws a (↑l.length : Int)).snd) (Fc 22 (@cloneWordsN ws ‹_› ‹_›) (Fa (by (simp only [List.length_map]; omega) : 0≤(placeA ws a (↑l.length : Int)).fst∧(placeA ws a (↑l.length : Int)).fst≤(↑(List.map wdv ws).length : Int)) (Fa (by (simp only [List.length_map]; omega) : (List.map wdv l).length≤(↑(List.map wdv ws).length : Int).toNat - (placeA ws a (↑l.length : Int)).fst.toNat) (Fa (by exact hs : spliceE (List.map wdv ws) (placeA ws a (↑l.length : Int)).fst.toNat (List.map wdv l) =List.map wdv (List.take (placeA ws a (↑l.length : Int)).fst.toNat ws ++ l ++ List.drop ((placeA ws a (↑l.length : Int)).fst.toNat + l.length) ws)) (Fa (by exact flat_wdv _ : FlatEls (List.map wdv (List.take (placeA ws a (↑l.length : Int)).fst.toNat ws ++ l ++ List.drop ((placeA ws a (↑l.length : Int)).fst.toNat + l.length) ws))) (Fa (by refine congrArg _ ?_; simp [spl, *] : List.map wdv (List.take (placeA ws a (↑l.length : Int)).fst.toNat ws ++ l ++ List.drop ((placeA ws a (↑l.length : Int)).fst.toNat + l.length) ws) =List.map wdv (spl ws (a - 4096).toNat l,0).fst) (Fr (0 : Int) Fz)))))))))))
 ·have e7 : writeA ws a l = ([],2) := by rw [writeA,if_neg h]
  have e3 : (placeA ws a (l.length : Int)).2 = false := by
   unfold placeA
   split
   ·simp; omega
   ·rfl
  rw [e7]
  exact gF [] Tryz.func70 [] (Fl 15 wdv l (Fc 16 (@arenaPlace ws a ((↑l.length : Int)) ‹_› ‹_›) (Ftb 20 (!(placeA ws a (↑l.length : Int)).snd) (Fnl Fz))))
theorem objectChanged0 (h : Heap) (ws : List Int) (e : Int) (hp : h.pages.length ≤ 1048576) (he : e = 0) (hne : h.pages ≠ []) : GSpec Tryz.prog 63 [h.av,wordsV ws,int e] false (.tu [Heap.av ⟨h.conf,ws,h.pages,h.space,h.bump⟩,int 0]) [] := by
 exact gF [] Tryz.func63 [] (Ffb 9 (e != 0) (Fc 15 (@clonePages h.pages ‹_› ‹_›) Fz))
theorem objectChangedE (h : Heap) (ws : List Int) (e : Int) (he : ¬ e = 0) : GSpec Tryz.prog 63 [h.av,wordsV ws,int e] false (.tu [noHeap.av,int e]) [] := by
 exact gF [] Tryz.func63 [] (Ftb 9 (e != 0) (Fnl (Fnl Fz)))
theorem spl_took {l : List Page} {i k : Nat} {p q : Page} (hk : 1 ≤ k) (h : i + k ≤ l.length) : spl l i (p :: List.replicate (k - 1) q) = tookP l i k p q := by
 obtain ⟨m,rfl⟩ : ∃ m,k = m + 1 := ⟨k - 1,by omega⟩
 have hl : (List.take i l).length = i := by simp; omega
 rw [tookP,wr,spl,List.take_of_length_le (l := List.replicate (m + 1) q) (by simp),List.append_assoc,List.append_assoc,List.set_append,if_neg (by omega),hl,Nat.sub_self]
 simp [List.replicate_succ]
theorem inUseN_zero {l : List Page} : ∀ {i : Nat},(∀ j,j < i → (l.getD j default).kind = 0) → inUseN l i = 0
 | 0,_ => rfl
 | i + 1,h => by
  have hp : pageAt l i = l.getD i default := by rw [pageAt_getD]; simp
  rw [inUseN,inUseN_zero (fun j hj => h j (by omega)),hp,if_pos (h i (by omega))]
theorem inUse_free {l : List Page} {i k : Nat} (h : i + k ≤ l.length) (hf : freeK l i k = true) : inUse ((l.drop i).take k) = 0 := by
 refine inUseN_zero fun j hj => ?_
 simp only [List.length_take,List.length_drop] at hj
 have := freeK_iff.1 hf j (by omega)
 rw [List.getD_eq_getElem?_getD] at this ⊢
 rwa [List.getElem?_take,if_pos (by omega),List.getElem?_drop]
theorem clonePagesN (l : List Page) (hl : l.length ≤ 1048576) (hne : l ≠ []) : GSpec Tryz.prog 97 [pagesV l] true (.ow 0) [.arr 73 4 (l.map Page.dv)] := by
 exact gF [24007] Tryz.func97 [] (Fa (by exact map_ne hne : List.map Page.dv l ≠ []) (Fs 5 (List.map Page.dv []) (Fa (by (simp [*]; omega) : (List.map Page.dv []).length + (List.map Page.dv l).length≤2 ^ 30) (Fs 7 (List.map Page.dv l) (Fa (by exact flat_pages _ : FlatEls (List.map Page.dv l)) Fz)))))
theorem pageMade (ps l : List Page) (i : Int) (hl : ps.length ≤ 1048576) (hll : l.length ≤ 1048576) (hi : 0 ≤ i) (h1 : i + l.length ≤ ps.length) (hf : freeK ps i.toNat l.length = true) (hn : 0 < ps.length) : GSpec Tryz.prog 131 [pagesV ps,int i,pagesV l] true (.tu [.ow 0,int 0]) [.arr 73 4 ((spl ps i.toNat l).map Page.dv)] := by
 have hne : ps ≠ [] := ne_of_len hn
 have e1 : inUse (List.take ((i + l.length).toNat - i.toNat) (List.drop i.toNat ps)) = 0 := by
  rw [show (i + l.length).toNat - i.toNat = l.length from by omega]
  exact inUse_free (by omega) hf
 have hs : spliceE (List.map Page.dv ps) i.toNat (List.map Page.dv l) = List.map Page.dv (spl ps i.toNat l) := by simp [spliceE,spl]
 exact gF [33030] Tryz.func131 [] (Fh 26 [.els (List.map Page.dv (List.take ((i + (↑l.length : Int)).toNat - i.toNat) (List.drop i.toNat ps)))] (Fh 35 [.els (List.map Page.dv (List.take i.toNat ps ++ l ++ List.drop (i.toNat + l.length) ps))] (FlG 14 (!decide (i < 0)) Page.dv ps (FlG 16 (!decide (i < 0)) Page.dv l (FiG 17 (!decide (i < 0)) ((↑ps.length : Int) - (↑l.length : Int)) (Ffb 19 (decide (i < 0)||decide ((↑ps.length : Int) - (↑l.length : Int) < i)) (Fl 24 Page.dv l (Fi 25 (i + (↑l.length : Int)) (Fa (by (simp only [List.length_map]; omega) : 0≤i∧i≤i + (↑l.length : Int)∧i + (↑l.length : Int)≤(↑(List.map Page.dv ps).length : Int)) (Fa (by simp [e1,spl,List.map_take,List.map_drop,List.map_set,List.map_append,wdv,idv] : List.take ((i + (↑l.length : Int)).toNat - i.toNat) (List.drop i.toNat (List.map Page.dv ps)) =List.map Page.dv (List.take ((i + (↑l.length : Int)).toNat - i.toNat) (List.drop i.toNat ps))) (Fc 27 (@pageInUse (List.take ((i + (↑l.length : Int)).toNat - i.toNat) (List.drop i.toNat ps)) (by (simp [e1,spl, *]; omega))) (Ffb 28 (decide (0 < (↑(inUse (List.take ((i + (↑l.length : Int)).toNat - i.toNat) (List.drop i.toNat ps))) : Int))) (Fc 30 (@clonePagesN ps ‹_› ‹_›) (Fa (by (simp only [List.length_map]; omega) : 0≤i∧i≤(↑(List.map Page.dv ps).length : Int)) (Fa (by (simp only [List.length_map]; omega) : (List.map Page.dv l).length≤(↑(List.map Page.dv ps).length : Int).toNat - i.toNat) (Fa (by exact hs : spliceE (List.map Page.dv ps) i.toNat (List.map Page.dv l) =List.map Page.dv (List.take i.toNat ps ++ l ++ List.drop (i.toNat + l.length) ps)) (Fa (by exact flat_pages _ : FlatEls (List.map Page.dv (List.take i.toNat ps ++ l ++ List.drop (i.toNat + l.length) ps))) Fz)))))))))))))))))
theorem took1 {l : List Page} {i : Nat} {p q : Page} (h : i + 1 ≤ l.length) : spl l i [p] = tookP l i 1 p q := by
 have := spl_took (l := l) (i := i) (k := 1) (p := p) (q := q) (Nat.le_refl _) h
 simpa using this
theorem pageSmallN (l : List Page) (i sp : Int) (hl : l.length ≤ 1048576) (hs : 0 ≤ sp ∧ sp ≤ 1) (hi : 0 ≤ i ∧ i + 1 ≤ l.length) (hf : freeK l i.toNat 1 = true) : GSpec Tryz.prog 107 [pagesV l,int i,int sp] true (.tu [.ow 0,int 0]) [.arr 73 4 ((tookP l i.toNat 1 ⟨1,sp,0,0⟩ ⟨0,0,0,0⟩).map Page.dv)] := by
 have e := took1 (l := l) (i := i.toNat) (p := ⟨1,sp,0,0⟩) (q := ⟨0,0,0,0⟩) (by omega)
 rw [← e]
 have e2 : freeK l i.toNat ([⟨1,sp,0,0⟩] : List Page).length = true := hf
 have e3 : spacedB ⟨1,sp,0,0⟩ = true := by simp [spacedB]; omega
 exact gF [33018] Tryz.func107 [] (Fc 12 (@entrySpaced (Page.mk 1 sp 0 0)) (Ffb 13 (!spacedB (Page.mk 1 sp 0 0)) (Fs 17 (List.map Page.dv [Page.mk 1 sp 0 0]) (Fc 18 (@pageMade l ([Page.mk 1 sp 0 0]) i ‹_› (by simp [*]) (by omega) (by simp [*]) ‹_› (by omega)) (Fa (by exact flat_pages _ : FlatEls (List.map Page.dv (spl l i.toNat [Page.mk 1 sp 0 0]))) Fz)))))
def lrgL (l : List Page) (i sp n k : Int) (j : Nat) : Tg := ⟨tm 45 [(1,pagesV l),(2,int i),(3,int sp),(10,.d (.sl 0 [])),(11,int 0),(13,int k),(14,.ow 40029)],[(40029,.arr 73 4 (((⟨2,sp,n,0⟩ : Page) :: List.replicate j ⟨3,sp,0,0⟩).map Page.dv))],60⟩
theorem lrgRound (l : List Page) (i sp n k : Int) (j : Nat) (hj : (j : Int) + 1 < k) (hk : k ≤ 1000) : CSpec Tryz.prog (rndF Tryz.f108 0) (lrgL l i sp n k j).st .nrm (lrgL l i sp n k (j + 1)).st := by
 have e : ((⟨2,sp,n,0⟩ : Page) :: List.replicate (j + 1) ⟨3,sp,0,0⟩) = (⟨2,sp,n,0⟩ :: List.replicate j ⟨3,sp,0,0⟩) ++ [⟨3,sp,0,0⟩] := by rw [List.replicate_succ',List.cons_append]
 exact sF [(488038,40029)] [false,false,false,false,false,false,false,true] (Fh 38 [.els (List.map Page.dv (Page.mk 2 sp n 0 :: List.replicate j (Page.mk 3 sp 0 0) ++ [Page.mk 3 sp 0 0]))] (Fg 31 (by simp only [List.length_map,List.length_append,List.length_take,List.length_drop,List.length_set,List.length_replicate,List.length_nil,List.length_cons] : (↑(List.map Page.dv (Page.mk 2 sp n 0 :: List.replicate j (Page.mk 3 sp 0 0))).length : Int) =(↑(j + 1) : Int)) (Ftb 33 (decide ((↑(j + 1) : Int) < k)) (Fs 37 (List.map Page.dv [Page.mk 3 sp 0 0]) (Fa (by (simp [*]; omega) : (List.map Page.dv (Page.mk 2 sp n 0 :: List.replicate j (Page.mk 3 sp 0 0))).length + (List.map Page.dv [Page.mk 3 sp 0 0]).length≤2 ^ 30) (Fa (by simp [List.map_take,List.map_drop,List.map_set,List.map_append,wdv,idv] : List.map Page.dv (Page.mk 2 sp n 0 :: List.replicate j (Page.mk 3 sp 0 0)) ++ List.map Page.dv [Page.mk 3 sp 0 0] =List.map Page.dv (Page.mk 2 sp n 0 :: List.replicate j (Page.mk 3 sp 0 0) ++ [Page.mk 3 sp 0 0])) (Fr (73 : Int) (Fa (by refine congrArg _ ?_; rw [e] : List.map Page.dv (Page.mk 2 sp n 0 :: List.replicate j (Page.mk 3 sp 0 0) ++ [Page.mk 3 sp 0 0]) =List.map Page.dv (Page.mk 2 sp n 0 :: List.replicate (j + 1) (Page.mk 3 sp 0 0))) Fz))))))))
theorem lrgEnd (l : List Page) (i sp n k : Int) (h1 : 1 ≤ k) : CSpec Tryz.prog (rndF Tryz.f108 0) (lrgL l i sp n k (k.toNat - 1)).st (.ext 0) (Tg.st ⟨tm 45 [(1,pagesV l),(2,int i),(10,.d (.sl 0 [])),(11,int 0),(14,.ow 40029)],[(40029,.arr 73 4 (((⟨2,sp,n,0⟩ : Page) :: List.replicate (k.toNat - 1) ⟨3,sp,0,0⟩).map Page.dv))],60⟩) := by
 exact sF [] [] (Fg 31 (by simp only [List.length_map,List.length_append,List.length_take,List.length_drop,List.length_set,List.length_replicate,List.length_nil,List.length_cons] : (↑(List.map Page.dv (Page.mk 2 sp n 0 :: List.replicate (k.toNat - 1) (Page.mk 3 sp 0 0))).length : Int) =(↑(k.toNat - 1 + 1) : Int)) (Ffb 33 (decide ((↑(k.toNat - 1 + 1) : Int) < k)) Fz))
theorem lrgLoop (l : List Page) (i sp n k : Int) (h1 : 1 ≤ k) (hk : k ≤ 1000) : CSpec Tryz.prog (blkF Tryz.f108 0) (Tg.st ⟨tm 45 [(1,pagesV l),(2,int i),(3,int sp),(10,.d (.sl 0 [])),(11,int 0),(13,int k),(14,.ow 40029)],[(40029,.arr 73 4 ([(⟨2,sp,n,0⟩ : Page)].map Page.dv))],60⟩) .nrm (Tg.st ⟨tm 45 [(1,pagesV l),(2,int i),(10,.d (.sl 0 [])),(11,int 0),(14,.ow 40029)],[(40029,.arr 73 4 (((⟨2,sp,n,0⟩ : Page) :: List.replicate (k.toNat - 1) ⟨3,sp,0,0⟩).map Page.dv))],60⟩) :=
 loop_ext_of (S := fun j => (lrgL l i sp n k j).st) (k.toNat - 1) (by kernel_rfl) (fun j hj => lrgRound l i sp n k j (by omega) hk) (lrgEnd l i sp n k h1)
theorem pageLargeN (c : Conf) (l : List Page) (i sp n : Int) (hl : l.length ≤ 1048576) (hs : 0 ≤ sp ∧ sp ≤ 1) (hn : 1 ≤ need c n) (hi : 0 ≤ i ∧ i + need c n ≤ l.length) (hf : freeK l i.toNat (need c n).toNat = true) : GSpec Tryz.prog 108 [c.av,pagesV l,int i,int sp,int n] true (.tu [.ow 0,int 0]) [.arr 73 4 ((tookP l i.toNat (need c n).toNat ⟨2,sp,n,0⟩ ⟨3,sp,0,0⟩).map Page.dv)] := by
 have e := spl_took (l := l) (i := i.toNat) (k := (need c n).toNat) (p := ⟨2,sp,n,0⟩) (q := ⟨3,sp,0,0⟩) (by omega) (by omega)
 rw [← e]
 have hr := need_range c n
 have e3 : spacedB ⟨2,sp,n,0⟩ = true := by simp [spacedB]; omega
 exact gF [481042] Tryz.func108 [] (Fc 20 (@pageNeed c n) (FcG 25 (!decide (need c n < 1)) (fun hg => by (try simp only [bs] at hg); exact @entrySpaced (Page.mk 2 sp n 0)) (Ff 27 (by simp [*] : (decide (need c n < 1)||!spacedB (Page.mk 2 sp n 0))=false) (Fs 29 (List.map Page.dv [Page.mk 2 sp n 0]) (Fu (@lrgLoop l i sp n (need c n) ‹_› (by omega)) (Fc 42 (@pageMade l (Page.mk 2 sp n 0 :: List.replicate ((need c n).toNat - 1) (Page.mk 3 sp 0 0)) i ‹_› (by (simp [*]; omega)) (by omega) (by (simp [*]; omega)) (by grind []) (by omega)) (Fa (by exact flat_pages _ : FlatEls (List.map Page.dv (spl l i.toNat (Page.mk 2 sp n 0 :: List.replicate ((need c n).toNat - 1) (Page.mk 3 sp 0 0))))) Fz)))))))
theorem asks_eq (c : Conf) (hd : Header) : (validH hd && hd.kind != 0 && decide (0 ≤ need c (sizeH hd))) = asksH c hd := by
 have hr := need_range c (sizeH hd)
 have e : decide (0 ≤ need c (sizeH hd)) = decide (need c (sizeH hd) ≠ -1) := decide_eq_decide.2 (by omega)
 have e3 : (hd.kind != 0) = decide (hd.kind ≠ 0) := by rw [Bool.eq_iff_iff]; simp
 rw [asksH,e,e3]
theorem allocAsks (c : Conf) (hd : Header) (hm : 0 ≤ hd.map ∧ hd.map ≤ 4294967295) : GSpec Tryz.prog 74 [c.av,hd.av] true (bool (asksH c hd)) [] := by
 exact gF [] Tryz.func74 [false,false,false,false,false,false,false,false,true] (Fc 6 (@headerValid hd ‹_›) (FcG 15 (validH hd&&hd.kind != 0) (fun hg => by (try simp only [bs] at hg); exact @headerSize hd (by (try simp only [bs] at hg); assumption)) (FcG 16 (validH hd&&hd.kind != 0) (fun hg => by (try simp only [bs] at hg); exact @pageNeed c (sizeH hd)) (Fa (by exact asks_eq _ _ : (validH hd&&hd.kind != 0&&decide (0≤need c (sizeH hd))) =asksH c hd) Fz))))
theorem allocPlaceFit (h : Heap) (n : Int) (hp : properB h = true) (hn : 1 ≤ n ∧ n ≤ 256) (hk : ¬ 0 < need h.conf n) (hf : fitsB h n) : GSpec Tryz.prog 84 [h.av,int n] false (.ic 98 (.ag [int h.bump,int (h.pages.getD h.bump.toNat default).used])) [] := by
 obtain ⟨o1,o2,o3,o4,o5,o6,o7,o8,o9⟩ := proper_ok hp
 have hb := (properB_iff.1 hp).2.2.2.2.1
 have hpg := fun hj => proper_page hp (j := h.bump.toNat) hj
 have hli := limit_le o1
 unfold fitsB at hf
 exact gF [] Tryz.func84 [] (Fc 13 (@pageInUse h.pages (by omega)) (Fc 16 (@pageLimit h.conf) (Fc 20 (@pageNeed h.conf n) (Ffb 22 (decide (0 < need h.conf n)) (Ftb 46 (decide (0≤h.bump)&&decide ((↑(inUse h.pages) : Int)≤limit h.conf)) (Fe 51 Page.dv h.pages h.bump (FiG 65 ((h.pages.getD h.bump.toNat default).space == h.space) (h.conf.pw - (h.pages.getD h.bump.toNat default).used) (Ftb 67 ((h.pages.getD h.bump.toNat default).space == h.space&&decide (n≤h.conf.pw - (h.pages.getD h.bump.toNat default).used)) Fz))))))))
theorem allocPlaceFresh (h : Heap) (n : Int) (hp : properB h = true) (hn : 1 ≤ n ∧ n ≤ 256) (hk : ¬ 0 < need h.conf n) (hf : ¬ fitsB h n) (hg : 0 ≤ first h.pages 1 ∧ (inUse h.pages : Int) < limit h.conf) : GSpec Tryz.prog 84 [h.av,int n] false (.ic 132 (.ag [int (first h.pages 1)])) [] := by
 obtain ⟨o1,o2,o3,o4,o5,o6,o7,o8,o9⟩ := proper_ok hp
 have hb := (properB_iff.1 hp).2.2.2.2.1
 have hpg := fun hj => proper_page hp (j := h.bump.toNat) hj
 have hli := limit_le o1
 unfold fitsB at hf
 have Q0 {h_ c_ p_} (r_ : Fq h_ c_ p_) := Fc 13 (@pageInUse h.pages (by omega)) (Fc 16 (@pageLimit h.conf) (Fc 20 (@pageNeed h.conf n) (Ffb 22 (decide (0 < need h.conf n)) r_)))
 rcases bb (decide (0 ≤ h.bump) && decide ((↑(inUse h.pages) : Int) ≤ limit h.conf)) with hc0 | hc0<;>have hc0p:=hc0<;>simp only [bs] at hc0p
 ·obtain ⟨hc0pa,hc0pb⟩ := hc0p
  exact gF [] Tryz.func84 [] (Q0 (Ft 46 hc0 (Fe 51 Page.dv h.pages h.bump (FiG 65 ((h.pages.getD h.bump.toNat default).space == h.space) (h.conf.pw - (h.pages.getD h.bump.toNat default).used) (Ffb 67 ((h.pages.getD h.bump.toNat default).space == h.space&&decide (n≤h.conf.pw - (h.pages.getD h.bump.toNat default).used)) (Fc 76 (@pageFirst h.pages (1) (by omega)) (Ftb 83 (decide (0≤first h.pages 1)&&decide ((↑(inUse h.pages) : Int) < limit h.conf)) Fz)))))))
 ·exact gF [] Tryz.func84 [] (Q0 (Ff 46 hc0 (Fc 76 (@pageFirst h.pages (1) (by omega)) (Ftb 83 (decide (0≤first h.pages 1)&&decide ((↑(inUse h.pages) : Int) < limit h.conf)) Fz))))
theorem allocPlaceFull (h : Heap) (n : Int) (hp : properB h = true) (hn : 1 ≤ n ∧ n ≤ 256) (hk : ¬ 0 < need h.conf n) (hf : ¬ fitsB h n) (hg : ¬ (0 ≤ first h.pages 1 ∧ (inUse h.pages : Int) < limit h.conf)) : GSpec Tryz.prog 84 [h.av,int n] false (.d (.sc .nilIface)) [] := by
 obtain ⟨o1,o2,o3,o4,o5,o6,o7,o8,o9⟩ := proper_ok hp
 have hb := (properB_iff.1 hp).2.2.2.2.1
 have hpg := fun hj => proper_page hp (j := h.bump.toNat) hj
 have hli := limit_le o1
 unfold fitsB at hf
 have Q0 {h_ c_ p_} (r_ : Fq h_ c_ p_) := Fc 13 (@pageInUse h.pages (by omega)) (Fc 16 (@pageLimit h.conf) (Fc 20 (@pageNeed h.conf n) (Ffb 22 (decide (0 < need h.conf n)) r_)))
 rcases bb (decide (0 ≤ h.bump) && decide ((↑(inUse h.pages) : Int) ≤ limit h.conf)) with hc0 | hc0<;>have hc0p:=hc0<;>simp only [bs] at hc0p
 ·obtain ⟨hc0pa,hc0pb⟩ := hc0p
  exact gF [] Tryz.func84 [] (Q0 (Ft 46 hc0 (Fe 51 Page.dv h.pages h.bump (FiG 65 ((h.pages.getD h.bump.toNat default).space == h.space) (h.conf.pw - (h.pages.getD h.bump.toNat default).used) (Ffb 67 ((h.pages.getD h.bump.toNat default).space == h.space&&decide (n≤h.conf.pw - (h.pages.getD h.bump.toNat default).used)) (Fc 76 (@pageFirst h.pages (1) (by omega)) (Ffb 83 (decide (0≤first h.pages 1)&&decide ((↑(inUse h.pages) : Int) < limit h.conf)) Fz)))))))
 ·exact gF [] Tryz.func84 [] (Q0 (Ff 46 hc0 (Fc 76 (@pageFirst h.pages (1) (by omega)) (Ffb 83 (decide (0≤first h.pages 1)&&decide ((↑(inUse h.pages) : Int) < limit h.conf)) Fz))))
theorem allocPlaceOwn (h : Heap) (n : Int) (hp : properB h = true) (hk : 0 < need h.conf n) (hg : 0 ≤ first h.pages (need h.conf n) ∧ inUse h.pages + need h.conf n ≤ limit h.conf) : GSpec Tryz.prog 84 [h.av,int n] false (.ic 136 (.ag [int (first h.pages (need h.conf n))])) [] := by
 obtain ⟨o1,o2,o3,o4,o5,o6,o7,o8,o9⟩ := proper_ok hp
 have hnr := need_range h.conf n
 have hli := limit_le o1
 exact gF [] Tryz.func84 [] (Fc 13 (@pageInUse h.pages (by omega)) (Fc 16 (@pageLimit h.conf) (Fc 20 (@pageNeed h.conf n) (Ftb 22 (decide (0 < need h.conf n)) (Fc 26 (@pageFirst h.pages (need h.conf n) (by omega)) (FiG 33 (decide (0≤first h.pages (need h.conf n))) (limit h.conf - need h.conf n) (Ftb 35 (decide (0≤first h.pages (need h.conf n))&&decide ((↑(inUse h.pages) : Int)≤limit h.conf - need h.conf n)) Fz)))))))
theorem allocPlaceNo (h : Heap) (n : Int) (hp : properB h = true) (hk : 0 < need h.conf n) (hg : ¬ (0 ≤ first h.pages (need h.conf n) ∧ inUse h.pages + need h.conf n ≤ limit h.conf)) : GSpec Tryz.prog 84 [h.av,int n] false (.d (.sc .nilIface)) [] := by
 obtain ⟨o1,o2,o3,o4,o5,o6,o7,o8,o9⟩ := proper_ok hp
 have hnr := need_range h.conf n
 have hli := limit_le o1
 exact gF [] Tryz.func84 [] (Fc 13 (@pageInUse h.pages (by omega)) (Fc 16 (@pageLimit h.conf) (Fc 20 (@pageNeed h.conf n) (Ftb 22 (decide (0 < need h.conf n)) (Fc 26 (@pageFirst h.pages (need h.conf n) (by omega)) (FiG 33 (decide (0≤first h.pages (need h.conf n))) (limit h.conf - need h.conf n) (Ffb 35 (decide (0≤first h.pages (need h.conf n))&&decide ((↑(inUse h.pages) : Int)≤limit h.conf - need h.conf n)) Fz)))))))
def putN (h : Heap) (n : Int) : Heap × Int × Bool := if 0 < need h.conf n then large7 h n (need h.conf n) else small7 h n
def prepI (h : Heap) (n : Int) : Int := if 0 < need h.conf n then first h.pages (need h.conf n) else if fitsB h n then h.bump else first h.pages 1
def prepO (h : Heap) (n : Int) : Int := if 0 < need h.conf n then 0 else if fitsB h n then (h.pages.getD h.bump.toNat default).used else 0
theorem allocPrepFit (h : Heap) (n : Int) (hp : properB h = true) (hn : 1 ≤ n ∧ n ≤ 256) (hk : ¬ 0 < need h.conf n) (hf : fitsB h n) : GSpec Tryz.prog 75 [h.av,int n] false (.tu [Heap.av ⟨h.conf,h.words,growP h.pages h.bump.toNat n,h.space,h.bump⟩,.ag [int h.bump,int (h.pages.getD h.bump.toNat default).used],int 0]) [] := by
 have po := proper_ok hp
 have hb := (properB_iff.1 hp).2.2.2.2.1
 have hf' := hf
 unfold fitsB at hf'
 have hne : h.pages ≠ [] := ne_of_len (by omega)
 have hpg := proper_page hp (j := h.bump.toNat) (by omega)
 exact gF [] Tryz.func75 [] (Fc 17 (@allocPlaceFit h n ‹_› ‹_› ‹_› ‹_›) (Fc 26 (@clonePagesN h.pages (by omega) ‹_›) (Fm 34 Page.dv h.pages h.bump h.bump.toNat (Fi 36 ((h.pages.getD h.bump.toNat default).used + n) (Fm0 Page.dv h.pages h.bump h.bump.toNat (FS 10038 Page.dv h.pages h.bump.toNat (Page.mk (h.pages.getD h.bump.toNat default).kind (h.pages.getD h.bump.toNat default).space ((h.pages.getD h.bump.toNat default).used + n) (h.pages.getD h.bump.toNat default).pins) ((h.pages.getD h.bump.toNat default).dv) Fz))))))
theorem allocPrepFresh (h : Heap) (n : Int) (hp : properB h = true) (hn : 1 ≤ n ∧ n ≤ 256) (hk : ¬ 0 < need h.conf n) (hf : ¬ fitsB h n) (hg : 0 ≤ first h.pages 1 ∧ (inUse h.pages : Int) < limit h.conf) : GSpec Tryz.prog 75 [h.av,int n] false (.tu [Heap.av ⟨h.conf,h.words,growP (freshP h) (first h.pages 1).toNat n,h.space,first h.pages 1⟩,.ag [int (first h.pages 1),int 0],int 0]) [] := by
 have po := proper_ok hp
 obtain ⟨q1,q2,q3,q4⟩ := freshP_ok (h := h) po.2.2.2.2.2.2.2.2 hg.1
 obtain ⟨r1,r2,r3⟩ := first_free hg.1
 have r4 : freeK h.pages (first h.pages 1).toNat 1 = true := r3
 rw [q1] at q2 q4 ⊢
 have q6 := congrArg Page.used q4
 simp only at q6
 exact gF [] Tryz.func75 [true] (Fc 17 (@allocPlaceFresh h n ‹_› ‹_› ‹_› ‹_› ‹_›) (Fc 54 (@pageSmallN h.pages (first h.pages 1) h.space (by omega) (by omega) (by omega) ‹_›) (Fa (by (simp only [List.length_map]; omega) : 0≤first h.pages 1∧(first h.pages 1).toNat < (List.map Page.dv (tookP h.pages (first h.pages 1).toNat 1 (Page.mk 1 h.space 0 0) (Page.mk 0 0 0 0))).length) (Fa (by exact el_of (by omega) : (List.map Page.dv (tookP h.pages (first h.pages 1).toNat 1 (Page.mk 1 h.space 0 0) (Page.mk 0 0 0 0)))[(first h.pages 1).toNat]? = some ((tookP h.pages (first h.pages 1).toNat 1 (Page.mk 1 h.space 0 0) (Page.mk 0 0 0 0)).getD (first h.pages 1).toNat default).dv) (FS 10072 Page.dv (tookP h.pages (first h.pages 1).toNat 1 (Page.mk 1 h.space 0 0) (Page.mk 0 0 0 0)) ((first h.pages 1).toNat) (Page.mk ((tookP h.pages (first h.pages 1).toNat 1 (Page.mk 1 h.space 0 0) (Page.mk 0 0 0 0)).getD (first h.pages 1).toNat default).kind ((tookP h.pages (first h.pages 1).toNat 1 (Page.mk 1 h.space 0 0) (Page.mk 0 0 0 0)).getD (first h.pages 1).toNat default).space n ((tookP h.pages (first h.pages 1).toNat 1 (Page.mk 1 h.space 0 0) (Page.mk 0 0 0 0)).getD (first h.pages 1).toNat default).pins) (((tookP h.pages (first h.pages 1).toNat 1 (Page.mk 1 h.space 0 0) (Page.mk 0 0 0 0)).getD (first h.pages 1).toNat default).dv) (Fr h.conf.pw (Fr h.conf.pg (Fr (List.map wdv h.words) (Fa (by refine congrArg _ ?_; (simp only [growP,q4]; (repeat' split) <;> first | rfl | omega | (exfalso; omega) | simp_all) : List.map Page.dv ((tookP h.pages (first h.pages 1).toNat 1 (Page.mk 1 h.space 0 0) (Page.mk 0 0 0 0)).set (first h.pages 1).toNat (Page.mk ((tookP h.pages (first h.pages 1).toNat 1 (Page.mk 1 h.space 0 0) (Page.mk 0 0 0 0)).getD (first h.pages 1).toNat default).kind ((tookP h.pages (first h.pages 1).toNat 1 (Page.mk 1 h.space 0 0) (Page.mk 0 0 0 0)).getD (first h.pages 1).toNat default).space n ((tookP h.pages (first h.pages 1).toNat 1 (Page.mk 1 h.space 0 0) (Page.mk 0 0 0 0)).getD (first h.pages 1).toNat default).pins)) =List.map Page.dv (Heap.mk h.conf h.words (growP (tookP h.pages (first h.pages 1).toNat 1 (Page.mk 1 h.space 0 0) (Page.mk 0 0 0 0)) (first h.pages 1).toNat n) h.space (first h.pages 1)).pages) (Fr h.space (Fr (first h.pages 1) (Fr (first h.pages 1) (Fr (0 : Int) (Fr (0 : Int) Fz))))))))))))))
theorem allocPrepFull (h : Heap) (n : Int) (hp : properB h = true) (hn : 1 ≤ n ∧ n ≤ 256) (hk : ¬ 0 < need h.conf n) (hf : ¬ fitsB h n) (hg : ¬ (0 ≤ first h.pages 1 ∧ (inUse h.pages : Int) < limit h.conf)) : GSpec Tryz.prog 75 [h.av,int n] false (.tu [noHeap.av,.ag [int 0,int 0],int 3]) [] := by
 exact gF [] Tryz.func75 [] (Fc 17 (@allocPlaceFull h n ‹_› ‹_› ‹_› ‹_› (by omega)) (Fnl (Fnl Fz)))
theorem allocPrepOwn (h : Heap) (n : Int) (hp : properB h = true) (hk : 0 < need h.conf n) (hg : 0 ≤ first h.pages (need h.conf n) ∧ inUse h.pages + need h.conf n ≤ limit h.conf) : GSpec Tryz.prog 75 [h.av,int n] false (.tu [Heap.av ⟨h.conf,h.words,(largeP h.conf h.pages (first h.pages (need h.conf n)) h.space n).1,h.space,h.bump⟩,.ag [int (first h.pages (need h.conf n)),int 0],int 0]) [] := by
 have po := proper_ok hp
 obtain ⟨r1,r2,r3⟩ := first_free hg.1
 have hnr := need_range h.conf n
 have e : (largeP h.conf h.pages (first h.pages (need h.conf n)) h.space n).1 = tookP h.pages (first h.pages (need h.conf n)).toNat (need h.conf n).toNat ⟨2,h.space,n,0⟩ ⟨3,h.space,0,0⟩ := by
  rw [largeP,if_pos (by omega),takeP,if_pos (by omega),if_pos r3]
 rw [e]
 exact gF [] Tryz.func75 [] (Fc 17 (@allocPlaceOwn h n ‹_› ‹_› ‹_›) (Fc 96 (@pageLargeN h.conf h.pages (first h.pages (need h.conf n)) h.space n (by omega) (by omega) ‹_› (by omega) ‹_›) Fz))
theorem allocPrepNo (h : Heap) (n : Int) (hp : properB h = true) (hk : 0 < need h.conf n) (hg : ¬ (0 ≤ first h.pages (need h.conf n) ∧ inUse h.pages + need h.conf n ≤ limit h.conf)) : GSpec Tryz.prog 75 [h.av,int n] false (.tu [noHeap.av,.ag [int 0,int 0],int 3]) [] := by
 exact gF [] Tryz.func75 [] (Fc 17 (@allocPlaceNo h n ‹_› ‹_› (by omega)) (Fnl (Fnl Fz)))
theorem or_add {a v k : Nat} (ha : a < 2 ^ k) (hv : a + v * 2 ^ k < 18446744073709551616) : bits .or .u64 (a : Int) ((v * 2 ^ k : Nat) : Int) = ((a + v * 2 ^ k : Nat) : Int) := by
 rw [bits_or_u64_nat a (v * 2 ^ k) (by omega) (by omega),Nat.mul_comm v,Nat.or_comm,← Nat.two_pow_add_eq_or_of_lt ha,Nat.add_comm]
theorem andNot_zero {v n : Nat} (hn : n ≤ 64) (hv : v < 2 ^ n) : bits .andNot .u64 (v : Int) (2 ^ n - 1) = 0 := by
 have h64 : (2 : Nat) ^ n ≤ 2 ^ 64 := Nat.pow_le_pow_right (by decide) hn
 have hp : 0 < (2 : Nat) ^ n := Nat.two_pow_pos n
 have e : ((2 : Int) ^ n - 1) = ((2 ^ n - 1 : Nat) : Int) := by
  have : ((2 ^ n : Nat) : Int) = 2 ^ n := by simp
  omega
 rw [e]
 have h1 : (BitVec.ofInt 64 (v : Int)).toNat = v := by
  rw [BitVec.ofInt_natCast,BitVec.toNat_ofNat]; exact Nat.mod_eq_of_lt (by omega)
 have h2 : (BitVec.ofInt 64 ((2 ^ n - 1 : Nat) : Int)).toNat = 2 ^ n - 1 := by
  rw [BitVec.ofInt_natCast,BitVec.toNat_ofNat]; exact Nat.mod_eq_of_lt (by omega)
 show IntKind.u64.wrap ((BitVec.ofInt 64 (v : Int) &&& ~~~ BitVec.ofInt 64 ((2 ^ n - 1 : Nat) : Int)).toNat : Int) = _
 rw [BitVec.toNat_and,BitVec.toNat_not,h1,h2]
 have e2 : 2 ^ 64 - 1 - (2 ^ n - 1) = 2 ^ n * (2 ^ (64 - n) - 1) := by
  have : (2 : Nat) ^ 64 = 2 ^ n * 2 ^ (64 - n) := by rw [← Nat.pow_add]; congr 1; omega
  rw [Nat.mul_sub,Nat.mul_one,← this]; omega
 have e3 : v &&& (2 ^ 64 - 1 - (2 ^ n - 1)) = 0 := by
  rw [e2]
  apply Nat.eq_of_testBit_eq
  intro i
  rw [Nat.testBit_and,Nat.zero_testBit,Nat.testBit_two_pow_mul]
  by_cases hi : n ≤ i
  ·rw [Nat.testBit_lt_two_pow (Nat.lt_of_lt_of_le hv (Nat.pow_le_pow_right (by decide) hi)),Bool.false_and]
  ·simp [hi]
 rw [e3]
 decide
theorem bitsFits (v n : Int) (h0 : 0 ≤ v) (hn : 0 ≤ n ∧ n ≤ 64) (hv : v < 2 ^ n.toNat) : GSpec Tryz.prog 128 [u64 v,int n] true (bool true) [] := by
 have e : bits .andNot .u64 v (ones n) = 0 := by
  obtain ⟨a,rfl⟩ := Int.eq_ofNat_of_zero_le h0
  rw [ones,Nat.min_eq_left (by omega)]
  exact andNot_zero (by omega) (by exact_mod_cast hv)
 exact gF [] Tryz.func128 [true] (Fc 7 (@bitsOnes n) (Fb ((bits BinOp.andNot IntKind.u64 v (ones n) == 0)=true) Fz))
structure BField where
 width : Int
 value : Int
 deriving DecidableEq,Inhabited
def BField.dv (f : BField) : List DV := [.sc (.int .i64 f.width),.sc (.int .u64 f.value)]
def packL (k l m : Int) : List BField := [⟨2,1⟩,⟨2,k⟩,⟨12,l⟩,⟨32,m⟩]
def pk1 (k l m : Int) (i : Nat) : Tg := ⟨tm 55 [(0,.d (.sl 2 ((packL k l m).map BField.dv))),(2,u64 0),(3,int 0),(4,int ([64,62,60,48,16].getD i 0)),(11,.d (.sl 2 ((packL k l m).map BField.dv))),(12,int (packL k l m).length),(13,int i)],[],4⟩
theorem pk1Round (k l m : Int) (i : Nat) (hi : i < 4) : CSpec Tryz.prog (rndF Tryz.f105 0) (pk1 k l m i).st .nrm (pk1 k l m (i + 1)).st := by
 have eL : (packL k l m).length = 4 := rfl
 have e0 : (packL k l m).getD 0 default = ⟨2,1⟩ := rfl
 have e1 : (packL k l m).getD 1 default = ⟨2,k⟩ := rfl
 have e2 : (packL k l m).getD 2 default = ⟨12,l⟩ := rfl
 have e3 : (packL k l m).getD 3 default = ⟨32,m⟩ := rfl
 have h : i = 0 ∨ i = 1 ∨ i = 2 ∨ i = 3 := by omega
 rcases h with rfl | rfl | rfl | rfl
 ·exact sF [] [] (Fek 15 BField.dv (packL k l m) (↑0 : Int) 0 (Fg 29 (rfl : IntKind.i64.wrap ([64,62,60,48,16].getD 0 0 - ((packL k l m).getD 0 default).width) =64 - ((packL k l m).getD 0 default).width) Fz))
 ·exact sF [] [] (Fek 15 BField.dv (packL k l m) (↑1 : Int) 1 (Fg 29 (rfl : IntKind.i64.wrap ([64,62,60,48,16].getD 1 0 - ((packL k l m).getD 1 default).width) =62 - ((packL k l m).getD 1 default).width) Fz))
 ·exact sF [] [] (Fek 15 BField.dv (packL k l m) (↑2 : Int) 2 (Fg 29 (rfl : IntKind.i64.wrap ([64,62,60,48,16].getD 2 0 - ((packL k l m).getD 2 default).width) =60 - ((packL k l m).getD 2 default).width) Fz))
 ·exact sF [] [] (Fek 15 BField.dv (packL k l m) (↑3 : Int) 3 (Fg 29 (rfl : IntKind.i64.wrap ([64,62,60,48,16].getD 3 0 - ((packL k l m).getD 3 default).width) =48 - ((packL k l m).getD 3 default).width) Fz))
theorem pk1End (k l m : Int) : CSpec Tryz.prog (rndF Tryz.f105 0) (pk1 k l m 4).st (.ext 0) (Tg.st ⟨tm 55 [(0,.d (.sl 2 ((packL k l m).map BField.dv))),(2,u64 0),(3,int 0)],[],4⟩) := by
 have eL : (packL k l m).length = 4 := rfl
 exact sF [] [] Fz
theorem pk1Loop (k l m : Int) : CSpec Tryz.prog (blkF Tryz.f105 0) (Tg.st ⟨tm 55 [(0,.d (.sl 2 ((packL k l m).map BField.dv))),(2,u64 0),(3,int 0),(4,int 64),(11,.d (.sl 2 ((packL k l m).map BField.dv))),(12,int (packL k l m).length),(13,int 0)],[],4⟩) .nrm (Tg.st ⟨tm 55 [(0,.d (.sl 2 ((packL k l m).map BField.dv))),(2,u64 0),(3,int 0)],[],4⟩) :=
 loop_ext_of (S := fun i => (pk1 k l m i).st) 4 (by kernel_rfl) (fun i hi => pk1Round k l m i hi) (pk1End k l m)
def pkW (k l m : Int) (i : Nat) : Int := [0,1,1 + 4 * k,1 + 4 * k + 16 * l,1 + 4 * k + 16 * l + 65536 * m].getD i 0
def pk2 (k l m : Int) (i : Nat) : Tg := ⟨tm 55 [(2,u64 0),(3,int 0),(7,u64 (pkW k l m i)),(8,int ([0,2,4,16,48].getD i 0)),(31,.d (.sl 2 ((packL k l m).map BField.dv))),(32,int (packL k l m).length),(33,int i)],[],6⟩
theorem orI (n : Nat) {p a v : Int} (hp : p = ((2 ^ n : Nat) : Int)) (ha : 0 ≤ a) (hv : 0 ≤ v) (h1 : a < p) (h2 : a + v * p < 18446744073709551616) : bits .or .u64 a (IntKind.u64.wrap (v * p)) = a + v * p := by
 obtain ⟨x,rfl⟩ := Int.eq_ofNat_of_zero_le ha
 obtain ⟨y,rfl⟩ := Int.eq_ofNat_of_zero_le hv
 have hm : (y : Int) * p = ((y * 2 ^ n : Nat) : Int) := by rw [hp,Int.natCast_mul]
 rw [hm] at h2 ⊢
 rw [wrapU' (by omega) (by omega)]
 exact or_add (by omega) (by omega)
theorem pk2Round (k l m : Int) (i : Nat) (h1 : 0 ≤ k ∧ k ≤ 3) (h2 : 0 ≤ l ∧ l ≤ 255) (h3 : 0 ≤ m ∧ m ≤ 4294967295) (hi : i < 4) : CSpec Tryz.prog (rndF Tryz.f105 2) (pk2 k l m i).st .nrm (pk2 k l m (i + 1)).st := by
 have eL : (packL k l m).length = 4 := rfl
 have e0 : (packL k l m).getD 0 default = ⟨2,1⟩ := rfl
 have e1 : (packL k l m).getD 1 default = ⟨2,k⟩ := rfl
 have e2 : (packL k l m).getD 2 default = ⟨12,l⟩ := rfl
 have e3 : (packL k l m).getD 3 default = ⟨32,m⟩ := rfl
 have h : i = 0 ∨ i = 1 ∨ i = 2 ∨ i = 3 := by omega
 have f1 : bits .or .u64 (pkW k l m 1) (IntKind.u64.wrap (((packL k l m).getD 1 default).value * 4)) = pkW k l m (1 + 1) := (orI 2 (a := 1) (v := k) (by decide) (by omega) (by omega) (by omega) (by omega)).trans (by show _ = 1 + 4 * k; omega)
 have f2 : bits .or .u64 (pkW k l m 2) (IntKind.u64.wrap (((packL k l m).getD 2 default).value * 16)) = pkW k l m (2 + 1) := (orI 4 (a := 1 + 4 * k) (v := l) (by decide) (by omega) (by omega) (by omega) (by omega)).trans (by show _ = 1 + 4 * k + 16 * l; omega)
 have f3 : bits .or .u64 (pkW k l m 3) (IntKind.u64.wrap (((packL k l m).getD 3 default).value * 65536)) = pkW k l m (3 + 1) := (orI 16 (a := 1 + 4 * k + 16 * l) (v := m) (by decide) (by omega) (by omega) (by omega) (by omega)).trans (by show _ = 1 + 4 * k + 16 * l + 65536 * m; omega)
 rcases h with rfl | rfl | rfl | rfl
 ·refine stretchE [((35 : Nat),[Hint.el ((packL k l m).getD (0 : Nat) default).dv]),((41 : Nat),[Hint.call true (Sx.bool true) []]),((47 : Nat),[Hint.int (((packL k l m).getD (0 : Nat) default).value * (1 : Int))]),((52 : Nat),[Hint.int ((0 : Int) + ((packL k l m).getD (0 : Nat) default).width)])] [] [] [] (φ := ((0 : Int) ≤ (↑(0 : Nat) : Int) ∧ (List.map BField.dv (packL k l m))[(↑(0 : Nat) : Int).toNat]? = some ((packL k l m).getD (0 : Nat) default).dv) ∧ GSpec Tryz.prog 128 [u64 ((packL k l m).getD (0 : Nat) default).value,int ((packL k l m).getD (0 : Nat) default).width] true (Sx.bool true) [] ∧ IntKind.u64.wrap (((packL k l m).getD (0 : Nat) default).value * (2 : Int) ^ min ([(0 : Int),(2 : Int),(4 : Int),(16 : Int),(48 : Int)].getD (0 : Nat) (0 : Int)).toNat (64 : Nat)) = ((packL k l m).getD (0 : Nat) default).value * (1 : Int) ∧ (0 : Int) ≤ [(0 : Int),(2 : Int),(4 : Int),(16 : Int),(48 : Int)].getD (0 : Nat) (0 : Int) ∧ IntKind.i64.wrap ([(0 : Int),(2 : Int),(4 : Int),(16 : Int),(48 : Int)].getD (0 : Nat) (0 : Int) + ((packL k l m).getD (0 : Nat) default).width) = (0 : Int) + ((packL k l m).getD (0 : Nat) default).width) ?_ (by kernel_rfl) (by kernel_rfl) (by kernel_rfl)
  exact ⟨(by exact elI (by omega) (by omega) (by omega)),(@bitsFits (((packL k l m).getD (0 : Nat) default).value) (((packL k l m).getD (0 : Nat) default).width) (by grind [pkW]) (by grind [pkW]) (by grind [pkW])),rfl,(by simp [pkW, *]),rfl⟩
 ·refine stretchE [((35 : Nat),[Hint.el ((packL k l m).getD (1 : Nat) default).dv]),((41 : Nat),[Hint.call true (Sx.bool true) []]),((48 : Nat),[Hint.int (bits BinOp.or IntKind.u64 (pkW k l m (1 : Nat)) (IntKind.u64.wrap (((packL k l m).getD (1 : Nat) default).value * (4 : Int))))]),((52 : Nat),[Hint.int ((2 : Int) + ((packL k l m).getD (1 : Nat) default).width)])] [] [] [false,false,true] (φ := ((0 : Int) ≤ (↑(1 : Nat) : Int) ∧ (List.map BField.dv (packL k l m))[(↑(1 : Nat) : Int).toNat]? = some ((packL k l m).getD (1 : Nat) default).dv) ∧ GSpec Tryz.prog 128 [u64 ((packL k l m).getD (1 : Nat) default).value,int ((packL k l m).getD (1 : Nat) default).width] true (Sx.bool true) [] ∧ (0 : Int) ≤ [(0 : Int),(2 : Int),(4 : Int),(16 : Int),(48 : Int)].getD (1 : Nat) (0 : Int) ∧ bits BinOp.or IntKind.u64 (pkW k l m (1 : Nat)) (IntKind.u64.wrap (((packL k l m).getD (1 : Nat) default).value * (2 : Int) ^ min ([(0 : Int),(2 : Int),(4 : Int),(16 : Int),(48 : Int)].getD (1 : Nat) (0 : Int)).toNat (64 : Nat))) = bits BinOp.or IntKind.u64 (pkW k l m (1 : Nat)) (IntKind.u64.wrap (((packL k l m).getD (1 : Nat) default).value * (4 : Int))) ∧ IntKind.i64.wrap ([(0 : Int),(2 : Int),(4 : Int),(16 : Int),(48 : Int)].getD (1 : Nat) (0 : Int) + ((packL k l m).getD (1 : Nat) default).width) = (2 : Int) + ((packL k l m).getD (1 : Nat) default).width ∧ bits BinOp.or IntKind.u64 (pkW k l m (1 : Nat)) (IntKind.u64.wrap (((packL k l m).getD (1 : Nat) default).value * (4 : Int))) = pkW k l m ((1 : Nat) + (1 : Nat))) ?_ (by kernel_rfl) (by kernel_rfl) (by kernel_rfl)
  exact ⟨(by exact elI (by omega) (by omega) (by omega)),(@bitsFits (((packL k l m).getD (1 : Nat) default).value) (((packL k l m).getD (1 : Nat) default).width) (by simp only [bs, *,true_or,or_true,true_and,and_true,not_true_eq_false,not_false_eq_true,Bool.true_eq_false,Bool.false_eq_true]) (by grind [pkW]) (by grind [pkW])),(by simp [pkW, *]),rfl,rfl,‹_›⟩
 ·refine stretchE [((35 : Nat),[Hint.el ((packL k l m).getD (2 : Nat) default).dv]),((41 : Nat),[Hint.call true (Sx.bool true) []]),((48 : Nat),[Hint.int (bits BinOp.or IntKind.u64 (pkW k l m (2 : Nat)) (IntKind.u64.wrap (((packL k l m).getD (2 : Nat) default).value * (16 : Int))))]),((52 : Nat),[Hint.int ((4 : Int) + ((packL k l m).getD (2 : Nat) default).width)])] [] [] [false,false,true] (φ := ((0 : Int) ≤ (↑(2 : Nat) : Int) ∧ (List.map BField.dv (packL k l m))[(↑(2 : Nat) : Int).toNat]? = some ((packL k l m).getD (2 : Nat) default).dv) ∧ GSpec Tryz.prog 128 [u64 ((packL k l m).getD (2 : Nat) default).value,int ((packL k l m).getD (2 : Nat) default).width] true (Sx.bool true) [] ∧ (0 : Int) ≤ [(0 : Int),(2 : Int),(4 : Int),(16 : Int),(48 : Int)].getD (2 : Nat) (0 : Int) ∧ bits BinOp.or IntKind.u64 (pkW k l m (2 : Nat)) (IntKind.u64.wrap (((packL k l m).getD (2 : Nat) default).value * (2 : Int) ^ min ([(0 : Int),(2 : Int),(4 : Int),(16 : Int),(48 : Int)].getD (2 : Nat) (0 : Int)).toNat (64 : Nat))) = bits BinOp.or IntKind.u64 (pkW k l m (2 : Nat)) (IntKind.u64.wrap (((packL k l m).getD (2 : Nat) default).value * (16 : Int))) ∧ IntKind.i64.wrap ([(0 : Int),(2 : Int),(4 : Int),(16 : Int),(48 : Int)].getD (2 : Nat) (0 : Int) + ((packL k l m).getD (2 : Nat) default).width) = (4 : Int) + ((packL k l m).getD (2 : Nat) default).width ∧ bits BinOp.or IntKind.u64 (pkW k l m (2 : Nat)) (IntKind.u64.wrap (((packL k l m).getD (2 : Nat) default).value * (16 : Int))) = pkW k l m ((2 : Nat) + (1 : Nat))) ?_ (by kernel_rfl) (by kernel_rfl) (by kernel_rfl)
  exact ⟨(by exact elI (by omega) (by omega) (by omega)),(@bitsFits (((packL k l m).getD (2 : Nat) default).value) (((packL k l m).getD (2 : Nat) default).width) (by simp only [bs, *,true_or,or_true,true_and,and_true,not_true_eq_false,not_false_eq_true,Bool.true_eq_false,Bool.false_eq_true]) (by grind [pkW]) (by grind [pkW])),(by simp [pkW, *]),rfl,rfl,‹_›⟩
 ·refine stretchE [((35 : Nat),[Hint.el ((packL k l m).getD (3 : Nat) default).dv]),((41 : Nat),[Hint.call true (Sx.bool true) []]),((48 : Nat),[Hint.int (bits BinOp.or IntKind.u64 (pkW k l m (3 : Nat)) (IntKind.u64.wrap (((packL k l m).getD (3 : Nat) default).value * (65536 : Int))))]),((52 : Nat),[Hint.int ((16 : Int) + ((packL k l m).getD (3 : Nat) default).width)])] [] [] [false,false,true] (φ := ((0 : Int) ≤ (↑(3 : Nat) : Int) ∧ (List.map BField.dv (packL k l m))[(↑(3 : Nat) : Int).toNat]? = some ((packL k l m).getD (3 : Nat) default).dv) ∧ GSpec Tryz.prog 128 [u64 ((packL k l m).getD (3 : Nat) default).value,int ((packL k l m).getD (3 : Nat) default).width] true (Sx.bool true) [] ∧ (0 : Int) ≤ [(0 : Int),(2 : Int),(4 : Int),(16 : Int),(48 : Int)].getD (3 : Nat) (0 : Int) ∧ bits BinOp.or IntKind.u64 (pkW k l m (3 : Nat)) (IntKind.u64.wrap (((packL k l m).getD (3 : Nat) default).value * (2 : Int) ^ min ([(0 : Int),(2 : Int),(4 : Int),(16 : Int),(48 : Int)].getD (3 : Nat) (0 : Int)).toNat (64 : Nat))) = bits BinOp.or IntKind.u64 (pkW k l m (3 : Nat)) (IntKind.u64.wrap (((packL k l m).getD (3 : Nat) default).value * (65536 : Int))) ∧ IntKind.i64.wrap ([(0 : Int),(2 : Int),(4 : Int),(16 : Int),(48 : Int)].getD (3 : Nat) (0 : Int) + ((packL k l m).getD (3 : Nat) default).width) = (16 : Int) + ((packL k l m).getD (3 : Nat) default).width ∧ bits BinOp.or IntKind.u64 (pkW k l m (3 : Nat)) (IntKind.u64.wrap (((packL k l m).getD (3 : Nat) default).value * (65536 : Int))) = pkW k l m ((3 : Nat) + (1 : Nat))) ?_ (by kernel_rfl) (by kernel_rfl) (by kernel_rfl)
  exact ⟨(by exact elI (by omega) (by omega) (by omega)),(@bitsFits (((packL k l m).getD (3 : Nat) default).value) (((packL k l m).getD (3 : Nat) default).width) (by simp only [bs, *,true_or,or_true,true_and,and_true,not_true_eq_false,not_false_eq_true,Bool.true_eq_false,Bool.false_eq_true]) (by grind [pkW]) (by grind [pkW])),(by simp [pkW, *]),rfl,rfl,‹_›⟩
theorem pk2End (k l m : Int) : CSpec Tryz.prog (rndF Tryz.f105 2) (pk2 k l m 4).st (.ext 2) (Tg.st ⟨tm 55 [(2,u64 0),(3,int 0),(7,u64 (1 + 4 * k + 16 * l + 65536 * m))],[],6⟩) := by
 have eL : (packL k l m).length = 4 := rfl
 have ew : pkW k l m 4 = 1 + 4 * k + 16 * l + 65536 * m := rfl
 exact sF [] [] Fz
theorem pk2Loop (k l m : Int) (h1 : 0 ≤ k ∧ k ≤ 3) (h2 : 0 ≤ l ∧ l ≤ 255) (h3 : 0 ≤ m ∧ m ≤ 4294967295) : CSpec Tryz.prog (blkF Tryz.f105 2) (Tg.st ⟨tm 55 [(2,u64 0),(3,int 0),(7,u64 0),(8,int 0),(31,.d (.sl 2 ((packL k l m).map BField.dv))),(32,int (packL k l m).length),(33,int 0)],[],6⟩) .nrm (Tg.st ⟨tm 55 [(2,u64 0),(3,int 0),(7,u64 (1 + 4 * k + 16 * l + 65536 * m))],[],6⟩) :=
 loop_ext_of (S := fun i => (pk2 k l m i).st) 4 (by kernel_rfl) (fun i hi => pk2Round k l m i h1 h2 h3 hi) (pk2End k l m)
theorem bitsPack (k l m : Int) (h1 : 0 ≤ k ∧ k ≤ 3) (h2 : 0 ≤ l ∧ l ≤ 255) (h3 : 0 ≤ m ∧ m ≤ 4294967295) : GSpec Tryz.prog 105 [.d (.sl 2 ((packL k l m).map BField.dv))] true (.tu [u64 (1 + 4 * k + 16 * l + 65536 * m),int 0]) [] := by
 exact gF [] Tryz.func105 [] (Fg 12 (rfl : (↑(List.map BField.dv (packL k l m)).length : Int) =(↑(packL k l m).length : Int)) (Fu (@pk1Loop k l m) (Fg 32 (rfl : (↑(List.map BField.dv (packL k l m)).length : Int) =(↑(packL k l m).length : Int)) (Fu (@pk2Loop k l m ‹_› ‹_› ‹_›) Fz))))
theorem headerEncode (h : Header) (hm : 0 ≤ h.map ∧ h.map ≤ 4294967295) : GSpec Tryz.prog 69 [h.av] true (.tu [u64 (encodeH h).1,int (encodeH h).2]) [] := by
 rcases bb (!validH h) with hc0 | hc0<;>have hc0p:=hc0<;>simp only [bs] at hc0p
 ·exact gF [] Tryz.func69 [true] (Fc 5 (@headerValid h ‹_›) (Ft 6 hc0 (Fa (by simp [encodeH, *] : 0 =(encodeH h).fst) (Fa (by simp [encodeH, *] : 1 =(encodeH h).snd) Fz))))
 ·have hf3 := validH_iff.1 hc0p
  obtain ⟨hf3a,⟨hf3ba,⟨hf3bba,⟨hf3bbba,hf3bbbb⟩⟩⟩⟩ := hf3
  exact gF [] Tryz.func69 [true] (Fc 5 (@headerValid h ‹_›) (Ff 6 hc0 (Fv 10 h.kind (Fv 14 h.length (Fv 18 h.map (Fs 20 (List.map BField.dv [BField.mk 2 1,BField.mk 2 h.kind,BField.mk 12 h.length,BField.mk 32 h.map]) (Fc 21 (@bitsPack h.kind h.length h.map (by omega) (by omega) ‹_›) (Fa (by simp [encodeH, *] : (1 :Int) + 4 * h.kind + 16 * h.length + 65536 * h.map =(encodeH h).fst) (Fa (by simp [encodeH, *] : 0 =(encodeH h).snd) Fz)))))))))
theorem cloneNil (c : Nat) : GSpec Tryz.prog 95 [.d (.sc (.slice none 0 c))] true (wordsV []) [] := by
 exact gF [] Tryz.func95 [] (Fnl Fz)
theorem cloneSome (p : Addr) (c : Nat) : GSpec Tryz.prog 95 [.d (.sc (.slice (some p) 0 c))] true (wordsV []) [] := by
 exact gF [] Tryz.func95 [] (Fs 5 (List.map wdv []) (Fa (by simp [*] : (List.map wdv []).length + ([] : List (List DV)).length≤2 ^ 30) (Fs 7 (List.map wdv []) (Fa (by exact flat_wdv _ : FlatEls (List.map wdv [])) Fz))))
theorem cloneWordsS (ws : List Int) (hw : ws.length ≤ 1048576) (hne : ws ≠ []) : GSpec Tryz.prog 95 [wordsV ws] true (wordsV ws) [] := by
 exact gF [] Tryz.func95 [] (Fa (by exact map_ne hne : List.map wdv ws ≠ []) (Fs 5 (List.map wdv []) (Fa (by (simp [*]; omega) : (List.map wdv []).length + (List.map wdv ws).length≤2 ^ 30) (Fs 7 (List.map wdv ws) (Fa (by exact flat_wdv _ : FlatEls (List.map wdv ws)) Fz)))))
theorem cloneWords (ws : List Int) (hw : ws.length ≤ 1048576) : GSpec Tryz.prog 95 [wordsV ws] true (wordsV ws) [] := by
 by_cases hne : ws = []
 ·subst hne
  exact gspec_empty fun p c => match p with | none => cloneNil c | some p => cloneSome p c
 ·exact cloneWordsS ws hw hne
theorem arenaRead (ws : List Int) (a n : Int) (hw : ws.length ≤ 1048576) (h0 : 0 ≤ a ∧ a ≤ 18446744073709551615) : GSpec Tryz.prog 60 [wordsV ws,u64 a,int n] false (.tu [wordsV (readA ws a n).1,int (readA ws a n).2]) [] := by
 rcases bb (decide (n < 0)) with hc0 | hc0<;>have hc0p:=hc0<;>simp only [bs] at hc0p
 ·exact gF [] Tryz.func60 [true] (Ft 11 hc0 (Fnl (Fa (by simp [readA, *] : [] =List.map wdv (readA ws a n).fst) (Fa (by simp [readA, *] : 1 =(readA ws a n).snd) Fz))))
 ·have Q0 {h_ c_ p_} (r_ : Fq h_ c_ p_) := Ff 11 hc0 (Fc 16 (@arenaPlace ws a n ‹_› ‹_›) r_)
  rcases bb (!(placeA ws a n).snd) with hc9 | hc9<;>have hc9p:=hc9<;>simp only [bs] at hc9p
  ·have hf12 := placeA_no hc9p
   exact gF [] Tryz.func60 [true] (Q0 (Ft 20 hc9 (Fnl (Fa (by (simp only [readA]; (repeat' split) <;> first | rfl | omega | (exfalso; omega) | simp_all) : [] =List.map wdv (readA ws a n).fst) (Fa (by (simp only [readA]; (repeat' split) <;> first | rfl | omega | (exfalso; omega) | simp_all) : 2 =(readA ws a n).snd) Fz)))))
  ·have hf14 := placeA_ok hc9p
   obtain ⟨hf14a,⟨hf14ba,⟨hf14bba,hf14bbb⟩⟩⟩ := hf14
   exact gF [] Tryz.func60 [true] (Fh 26 [.els (List.map wdv (List.take (((placeA ws a n).fst + n).toNat - (placeA ws a n).fst.toNat) (List.drop (placeA ws a n).fst.toNat ws)))] (Q0 (Ff 20 hc9 (Fi 25 ((placeA ws a n).fst + n) (Fa (by (simp only [List.length_map]; omega) : 0≤(placeA ws a n).fst∧(placeA ws a n).fst≤(placeA ws a n).fst + n∧(placeA ws a n).fst + n≤(↑(List.map wdv ws).length : Int)) (Fa (by simp [readA,List.map_take,List.map_drop,List.map_set,List.map_append,wdv,idv] : List.take (((placeA ws a n).fst + n).toNat - (placeA ws a n).fst.toNat) (List.drop (placeA ws a n).fst.toNat (List.map wdv ws)) =List.map wdv (List.take (((placeA ws a n).fst + n).toNat - (placeA ws a n).fst.toNat) (List.drop (placeA ws a n).fst.toNat ws))) (Fc 27 (@cloneWords (List.take (((placeA ws a n).fst + n).toNat - (placeA ws a n).fst.toNat) (List.drop (placeA ws a n).fst.toNat ws)) (by (simp [readA, *]; omega))) (Fa (by refine congrArg _ ?_; (simp [readA, *]; omega) : List.map wdv (List.take (((placeA ws a n).fst + n).toNat - (placeA ws a n).fst.toNat) (List.drop (placeA ws a n).fst.toNat ws)) =List.map wdv (readA ws a n).fst) (Fa (by simp [readA, *] : 0 =(readA ws a n).snd) Fz)))))))))
theorem objectInit (h : Heap) (a : Int) (hd : Header) (hw : WOk h.words) (h0 : 0 ≤ a ∧ a ≤ 18446744073709551615) (hm : 0 ≤ hd.map ∧ hd.map ≤ 4294967295) : GSpec Tryz.prog 29 [h.av,u64 a,hd.av] false (.tu [(initH h a hd).1.av,int (initH h a hd).2]) [] := by
 by_cases hp : properB h = true ∧ (encodeH hd).2 = 0
 ·have ok := encodeH_ok hp.2
  have hz : sizeH hd = hd.length + 1 := by rw [sizeH,if_pos ok.1]
  have po := proper_ok hp.1
  have hp1 := hp.1
  have hp2 := hp.2
  have es : (List.replicate (sizeH hd).toNat 0).set 0 (encodeH hd).1 = objW hd := by
   rw [hz,objW,show (hd.length + 1).toNat = hd.length.toNat + 1 from by omega,List.replicate_succ,List.set_cons_zero]
  have el : ((List.replicate (sizeH hd).toNat 0).set 0 (encodeH hd).1).length = hd.length.toNat + 1 := by rw [es]; simp [objW]
  have hne : h.pages ≠ [] := ne_of_len (by omega)
  by_cases e : (writeA h.words a ((List.replicate (sizeH hd).toNat 0).set 0 (encodeH hd).1)).2 = 0
  ·have e7 : initH h a hd = ({ h with words := (writeA h.words a ((List.replicate (sizeH hd).toNat 0).set 0 (encodeH hd).1)).1 },0) := by
    rw [es] at e ⊢
    rw [initH,if_pos ⟨hp.1,ok.1⟩,if_pos e]
   rw [e7]
   exact gF [] Tryz.func29 [] (Fh 27 [.els (List.map wdv (List.replicate (sizeH hd).toNat 0))] (Fh 10030 [.els (List.map wdv ((List.replicate (sizeH hd).toNat 0).set 0 (encodeH hd).fst))] (Fc 14 (@headerEncode hd ‹_›) (FcG 21 (!(encodeH hd).snd != 0) (fun hg => by (try simp only [bs] at hg); exact @pageProper h) (Ff 23 (by simp only [bs, *,true_or,or_true,true_and,and_true,not_true_eq_false,not_false_eq_true,Bool.true_eq_false,Bool.false_eq_true] : ((encodeH hd).snd != 0||!properB h)=false) (Fc 26 (@headerSize hd ‹_›) (Fb (0≤sizeH hd∧sizeH hd≤sizeH hd∧sizeH hd * ((↑(nat_lit 7) : Int) + 1)≤2 ^ 48) (Fa (by simp [List.map_take,List.map_drop,List.map_set,List.map_append,wdv,idv] : List.replicate (sizeH hd).toNat [du64 0] =List.map wdv (List.replicate (sizeH hd).toNat 0)) (Fa (by (simp [*]; omega) : (0 :Int)≤0∧Int.toNat 0 < (List.map wdv (List.replicate (sizeH hd).toNat 0)).length) (Fa (by (simp [*]; omega) : Int.toNat 0 < (List.map wdv (List.replicate (sizeH hd).toNat 0)).length) (Fa (by simp [List.map_take,List.map_drop,List.map_set,List.map_append,wdv,idv] : (List.map wdv (List.replicate (sizeH hd).toNat 0)).set (Int.toNat 0) [du64 (encodeH hd).fst] =List.map wdv ((List.replicate (sizeH hd).toNat 0).set 0 (encodeH hd).fst)) (Fc 36 (@arenaWrite h.words ((List.replicate (sizeH hd).toNat 0).set 0 (encodeH hd).fst) a (by omega) (by omega) ‹_› (by omega)) (Fc 42 (@objectChanged0 h ((writeA h.words a ((List.replicate (sizeH hd).toNat 0).set 0 (encodeH hd).fst)).fst) ((writeA h.words a ((List.replicate (sizeH hd).toNat 0).set 0 (encodeH hd).fst)).snd) (by omega) ‹_› ‹_›) Fz)))))))))))))
  ·have e7 : initH h a hd = (noHeap,(writeA h.words a ((List.replicate (sizeH hd).toNat 0).set 0 (encodeH hd).1)).2) := by
    rw [es] at e ⊢
    rw [initH,if_pos ⟨hp.1,ok.1⟩,if_neg e]
   rw [e7]
   exact gF [] Tryz.func29 [] (Fh 27 [.els (List.map wdv (List.replicate (sizeH hd).toNat 0))] (Fh 10030 [.els (List.map wdv ((List.replicate (sizeH hd).toNat 0).set 0 (encodeH hd).fst))] (Fc 14 (@headerEncode hd ‹_›) (FcG 21 (!(encodeH hd).snd != 0) (fun hg => by (try simp only [bs] at hg); exact @pageProper h) (Ff 23 (by simp only [bs, *,true_or,or_true,true_and,and_true,not_true_eq_false,not_false_eq_true,Bool.true_eq_false,Bool.false_eq_true] : ((encodeH hd).snd != 0||!properB h)=false) (Fc 26 (@headerSize hd ‹_›) (Fb (0≤sizeH hd∧sizeH hd≤sizeH hd∧sizeH hd * ((↑(nat_lit 7) : Int) + 1)≤2 ^ 48) (Fa (by simp [noHeap,List.map_take,List.map_drop,List.map_set,List.map_append,wdv,idv] : List.replicate (sizeH hd).toNat [du64 0] =List.map wdv (List.replicate (sizeH hd).toNat 0)) (Fa (by (simp [noHeap, *]; omega) : (0 :Int)≤0∧Int.toNat 0 < (List.map wdv (List.replicate (sizeH hd).toNat 0)).length) (Fa (by (simp [noHeap, *]; omega) : Int.toNat 0 < (List.map wdv (List.replicate (sizeH hd).toNat 0)).length) (Fa (by simp [noHeap,List.map_take,List.map_drop,List.map_set,List.map_append,wdv,idv] : (List.map wdv (List.replicate (sizeH hd).toNat 0)).set (Int.toNat 0) [du64 (encodeH hd).fst] =List.map wdv ((List.replicate (sizeH hd).toNat 0).set 0 (encodeH hd).fst)) (Fc 36 (@arenaWrite h.words ((List.replicate (sizeH hd).toNat 0).set 0 (encodeH hd).fst) a (by omega) (by omega) ‹_› (by omega)) (Fc 42 (@objectChangedE h ((writeA h.words a ((List.replicate (sizeH hd).toNat 0).set 0 (encodeH hd).fst)).fst) ((writeA h.words a ((List.replicate (sizeH hd).toNat 0).set 0 (encodeH hd).fst)).snd) ‹_›) Fz)))))))))))))
 ·have e7 : initH h a hd = (noHeap,1) := initH_bad (by
   by_cases q : properB h = true
   ·exact .inr fun q2 => hp ⟨q,q2⟩
   ·exact .inl (by simpa using q))
  rw [e7]
  have Q0 {h_ c_ p_} (r_ : Fq h_ c_ p_) := Fc 14 (@headerEncode hd ‹_›) (FcG 21 (!(encodeH hd).snd != 0) (fun hg => by (try simp only [bs] at hg); exact @pageProper h) r_)
  rcases bb ((encodeH hd).snd != 0 || !properB h) with hc0 | hc0<;>have hc0p:=hc0<;>simp only [bs] at hc0p
  ·exact gF [] Tryz.func29 [] (Q0 (Ft 23 hc0 (Fnl (Fnl Fz))))
  ·obtain ⟨hc0pa,hc0pb⟩ := hc0p
   exact gF [] Tryz.func29 [false,false,false,true] (Fh 27 [.els (List.map wdv (List.replicate (sizeH hd).toNat 0))] (Fh 10030 [.els (List.map wdv ((List.replicate (sizeH hd).toNat 0).set 0 (encodeH hd).fst))] (Q0 (Ff 23 hc0 (Fc 26 (@headerSize hd ‹_›) (Fa (by (simp only [noHeap]; (repeat' split) <;> first | rfl | omega | (exfalso; omega) | simp_all) : 0≤sizeH hd∧sizeH hd≤sizeH hd∧sizeH hd * ((↑(nat_lit 7) : Int) + 1)≤2 ^ 48) (Fa (by simp [noHeap,List.map_take,List.map_drop,List.map_set,List.map_append,wdv,idv] : List.replicate (sizeH hd).toNat [du64 0] =List.map wdv (List.replicate (sizeH hd).toNat 0)) (Fa (by grind [noHeap] : (0 :Int)≤0∧Int.toNat 0 < (List.map wdv (List.replicate (sizeH hd).toNat 0)).length) (Fa (by grind [noHeap] : Int.toNat 0 < (List.map wdv (List.replicate (sizeH hd).toNat 0)).length) (Fa (by simp [noHeap,List.map_take,List.map_drop,List.map_set,List.map_append,wdv,idv] : (List.map wdv (List.replicate (sizeH hd).toNat 0)).set (Int.toNat 0) [du64 (encodeH hd).fst] =List.map wdv ((List.replicate (sizeH hd).toNat 0).set 0 (encodeH hd).fst)) (Fc 36 (@arenaWrite h.words ((List.replicate (sizeH hd).toNat 0).set 0 (encodeH hd).fst) a (by grind [noHeap]) (by grind [noHeap]) ‹_› (by grind [noHeap])) (Fc 42 (@objectChanged0 h ((writeA h.words a ((List.replicate (sizeH hd).toNat 0).set 0 (encodeH hd).fst)).fst) ((writeA h.words a ((List.replicate (sizeH hd).toNat 0).set 0 (encodeH hd).fst)).snd) (by grind [noHeap]) (by grind [noHeap]) (by grind [noHeap])) (Fa (by (simp only [noHeap]; (repeat' split) <;> first | rfl | omega | (exfalso; omega) | simp_all) : (Heap.mk h.conf (writeA h.words a ((List.replicate (sizeH hd).toNat 0).set 0 (encodeH hd).fst)).fst h.pages h.space h.bump).conf.pw =0) (Fa (by (simp only [noHeap]; (repeat' split) <;> first | rfl | omega | (exfalso; omega) | simp_all) : (Heap.mk h.conf (writeA h.words a ((List.replicate (sizeH hd).toNat 0).set 0 (encodeH hd).fst)).fst h.pages h.space h.bump).conf.pg =0) (Fa (by refine congrArg _ ?_; (simp only [noHeap]; (repeat' split) <;> first | rfl | omega | (exfalso; omega) | simp_all) : List.map wdv (Heap.mk h.conf (writeA h.words a ((List.replicate (sizeH hd).toNat 0).set 0 (encodeH hd).fst)).fst h.pages h.space h.bump).words =List.map wdv (noHeap,1).fst.words) (Fa (by refine congrArg _ ?_; (simp only [noHeap]; (repeat' split) <;> first | rfl | omega | (exfalso; omega) | simp_all) : List.map Page.dv (Heap.mk h.conf (writeA h.words a ((List.replicate (sizeH hd).toNat 0).set 0 (encodeH hd).fst)).fst h.pages h.space h.bump).pages =List.map Page.dv (noHeap,1).fst.pages) (Fa (by (simp only [noHeap]; (repeat' split) <;> first | rfl | omega | (exfalso; omega) | simp_all) : (Heap.mk h.conf (writeA h.words a ((List.replicate (sizeH hd).toNat 0).set 0 (encodeH hd).fst)).fst h.pages h.space h.bump).space =0) (Fa (by (simp only [noHeap]; (repeat' split) <;> first | rfl | omega | (exfalso; omega) | simp_all) : (Heap.mk h.conf (writeA h.words a ((List.replicate (sizeH hd).toNat 0).set 0 (encodeH hd).fst)).fst h.pages h.space h.bump).bump =0) (Fa (by grind [noHeap] : (0 :Int) =1) Fz)))))))))))))))))))
end Go.Proofs.YtpklpkmnhgedbaaGreat
