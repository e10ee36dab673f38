/-
 The statement PageGives: part 11.
 Conditions: none.
-/
import Derived.Test.YtolnblaadleknaaGreatM10
set_option maxRecDepth 100000
set_option maxHeartbeats 2000000
set_option linter.all false
namespace Go.Proofs.YtolnblaadleknaaGreat
open Go.Sx
structure MOk (w : WorldM) (n : Nat) : Prop where
 words : WOk w.heap.words
 hv : validB w.heap.conf = true
 pl : (w.heap.pages.length : Int) = w.heap.conf.pg
 L : (w.heap.words.length : Int) = w.heap.conf.pw * w.heap.conf.pg
 pins : ∀ j,j < w.heap.pages.length → 0 ≤ (w.heap.pages.getD j default).pins ∧ (w.heap.pages.getD j default).pins ≤ n
 us : ∀ j,j < w.heap.pages.length → 0 ≤ (w.heap.pages.getD j default).used ∧ (w.heap.pages.getD j default).used ≤ 256
 strong : ULe w.strong
 weak : ULe w.weak
 sl : w.strong.length ≤ n
 wl : w.weak.length ≤ n
theorem MOk.wm {w : WorldM} {n : Nat} (h : MOk w n) (hn : n ≤ 1000000) : WMok w := ⟨h.words,h.strong,h.weak,Nat.le_trans h.sl (by omega),Nat.le_trans h.wl (by omega)⟩
def WorldM.dup (w : WorldM) (t : Tape) : WorldM := ⟨w.heap,w.strong ++ [w.pick t],w.weak⟩
def WorldM.step (w : WorldM) (t : Tape) : WorldM :=
 if t.next 12 ≤ 3 then w.put ((t.step 12).header w.heap.conf)
 else if t.next 12 ≤ 6 then w.link (t.step 12)
 else if t.next 12 ≤ 7 then w.pin (t.step 12)
 else if t.next 12 ≤ 9 then w.drop (t.step 12)
 else if t.next 12 ≤ 10 then w.collect
 else w.dup (t.step 12)
def WorldM.stepT (w : WorldM) (t : Tape) : Tape :=
 if t.next 12 ≤ 3 then (t.step 12).headerT w.heap.conf
 else if t.next 12 ≤ 6 then w.linkT (t.step 12)
 else if t.next 12 ≤ 7 then w.pinT (t.step 12)
 else if t.next 12 ≤ 9 then w.dropT (t.step 12)
 else if t.next 12 ≤ 10 then t.step 12
 else w.pickT (t.step 12)
theorem header_map (t : Tape) (c : Conf) : 0 ≤ (t.header c).map ∧ (t.header c).map ≤ 4294967295 := by
 have h : ∀ n : Int,0 ≤ ((hdr1T t c).step 4).next (2 ^ (min (min n 32) 12).toNat) ∧ ((hdr1T t c).step 4).next (2 ^ (min (min n 32) 12).toNat) ≤ 4294967295 := by
  intro n
  have p := pow12 (n := min (min n 32) 12) (by omega)
  have r := next_range ((hdr1T t c).step 4) (n := 2 ^ (min (min n 32) 12).toNat) p.1
  omega
 unfold Tape.header
 split
 ·simp
 ·split
  ·simp
  ·exact h _
theorem sp_next12 (t : Tape) (d : Int) (hd : t.next 12 = d) (ht : TOk t) : LentSpec Tryz.prog 107 [.pt 0 0 0,int 12] [t.b] (int d) [(t.step 12).b] := by
 rw [← hd]
 exact tapeNext t 12 ht (by decide) (by decide)
section
variable (w : WorldM) (t : Tape) (n : Nat) (hm : MOk w n) (hn : n ≤ 1000000) (ht : TOk t) (ha : t.at' ≤ 900000)
include hm hn ht ha
theorem worldStep : LentSpec Tryz.prog 77 [w.av,.pt 0 0 0] [t.b] (w.step t).av [(w.stepT t).b] := by
 have hw := hm.wm hn
 have h1 := hm.words
 have h2 := hm.strong
 have h3 := hm.weak
 have h4 := hm.sl
 have h5 := hm.wl
 have s1 := step_at (t := t) 12
 have k1 := tok_of ht s1.2.2 (by omega) (by omega)
 have n1 := next_range t (n := 12) (by decide)
 have hmap := header_map (t.step 12) w.heap.conf
 have hv := hm.hv
 have hpl := hm.pl
 have hpn : ∀ j,j < w.heap.pages.length → -1048576 ≤ (w.heap.pages.getD j default).pins ∧ (w.heap.pages.getD j default).pins ≤ 4294967296 := fun j hj => by
  have := hm.pins j hj; omega
 have hd : t.next 12 = 0 ∨ t.next 12 = 1 ∨ t.next 12 = 2 ∨ t.next 12 = 3 ∨ t.next 12 = 4 ∨ t.next 12 = 5 ∨ t.next 12 = 6 ∨ t.next 12 = 7 ∨ t.next 12 = 8 ∨ t.next 12 = 9 ∨ t.next 12 = 10 ∨ t.next 12 = 11 := by omega
 rcases hd with hd | hd | hd | hd | hd | hd | hd | hd | hd | hd | hd | hd
 ·have e7 : w.step t = w.put ((t.step 12).header w.heap.conf) := by simp [WorldM.step,hd]
  have e8 : w.stepT t = (t.step 12).headerT w.heap.conf := by simp [WorldM.stepT,hd]
  rw [e7,e8]
  exact lF Tryz.func77 [] (Fp 6 (@sp_next12 t (0) ‹_› ‹_›) (Fp 17 (@tapeHeader (t.step 12) w.heap.conf ‹_› (by omega) ‹_›) (Fc 18 (@worldPut w ((t.step 12).header w.heap.conf) ‹_› ‹_›) Fz)))
 ·have e7 : w.step t = w.put ((t.step 12).header w.heap.conf) := by simp [WorldM.step,hd]
  have e8 : w.stepT t = (t.step 12).headerT w.heap.conf := by simp [WorldM.stepT,hd]
  rw [e7,e8]
  exact lF Tryz.func77 [] (Fp 6 (@sp_next12 t (1) ‹_› ‹_›) (Fp 17 (@tapeHeader (t.step 12) w.heap.conf ‹_› (by omega) ‹_›) (Fc 18 (@worldPut w ((t.step 12).header w.heap.conf) ‹_› ‹_›) Fz)))
 ·have e7 : w.step t = w.put ((t.step 12).header w.heap.conf) := by simp [WorldM.step,hd]
  have e8 : w.stepT t = (t.step 12).headerT w.heap.conf := by simp [WorldM.stepT,hd]
  rw [e7,e8]
  exact lF Tryz.func77 [] (Fp 6 (@sp_next12 t (2) ‹_› ‹_›) (Fp 17 (@tapeHeader (t.step 12) w.heap.conf ‹_› (by omega) ‹_›) (Fc 18 (@worldPut w ((t.step 12).header w.heap.conf) ‹_› ‹_›) Fz)))
 ·have e7 : w.step t = w.put ((t.step 12).header w.heap.conf) := by simp [WorldM.step,hd]
  have e8 : w.stepT t = (t.step 12).headerT w.heap.conf := by simp [WorldM.stepT,hd]
  rw [e7,e8]
  exact lF Tryz.func77 [] (Fp 6 (@sp_next12 t (3) ‹_› ‹_›) (Fp 17 (@tapeHeader (t.step 12) w.heap.conf ‹_› (by omega) ‹_›) (Fc 18 (@worldPut w ((t.step 12).header w.heap.conf) ‹_› ‹_›) Fz)))
 ·have e7 : w.step t = w.link (t.step 12) := by simp [WorldM.step,hd]
  have e8 : w.stepT t = w.linkT (t.step 12) := by simp [WorldM.stepT,hd]
  rw [e7,e8]
  exact lF Tryz.func77 [] (Fp 6 (@sp_next12 t (4) ‹_› ‹_›) (Fp 25 (@worldLink w (t.step 12) ‹_› ‹_› (by omega)) Fz))
 ·have e7 : w.step t = w.link (t.step 12) := by simp [WorldM.step,hd]
  have e8 : w.stepT t = w.linkT (t.step 12) := by simp [WorldM.stepT,hd]
  rw [e7,e8]
  exact lF Tryz.func77 [] (Fp 6 (@sp_next12 t (5) ‹_› ‹_›) (Fp 25 (@worldLink w (t.step 12) ‹_› ‹_› (by omega)) Fz))
 ·have e7 : w.step t = w.link (t.step 12) := by simp [WorldM.step,hd]
  have e8 : w.stepT t = w.linkT (t.step 12) := by simp [WorldM.stepT,hd]
  rw [e7,e8]
  exact lF Tryz.func77 [] (Fp 6 (@sp_next12 t (6) ‹_› ‹_›) (Fp 25 (@worldLink w (t.step 12) ‹_› ‹_› (by omega)) Fz))
 ·have e7 : w.step t = w.pin (t.step 12) := by simp [WorldM.step,hd]
  have e8 : w.stepT t = w.pinT (t.step 12) := by simp [WorldM.stepT,hd]
  rw [e7,e8]
  exact lF Tryz.func77 [] (Fp 6 (@sp_next12 t (7) ‹_› ‹_›) (Fp 30 (@worldPin w (t.step 12) ‹_› ‹_› (by omega) ‹_› (by omega) ‹_›) Fz))
 ·have e7 : w.step t = w.drop (t.step 12) := by simp [WorldM.step,hd]
  have e8 : w.stepT t = w.dropT (t.step 12) := by simp [WorldM.stepT,hd]
  rw [e7,e8]
  exact lF Tryz.func77 [] (Fp 6 (@sp_next12 t (8) ‹_› ‹_›) (Fp 36 (@worldDrop w (t.step 12) ‹_› ‹_› (by omega)) Fz))
 ·have e7 : w.step t = w.drop (t.step 12) := by simp [WorldM.step,hd]
  have e8 : w.stepT t = w.dropT (t.step 12) := by simp [WorldM.stepT,hd]
  rw [e7,e8]
  exact lF Tryz.func77 [] (Fp 6 (@sp_next12 t (9) ‹_› ‹_›) (Fp 36 (@worldDrop w (t.step 12) ‹_› ‹_› (by omega)) Fz))
 ·have e7 : w.step t = w.collect := by simp [WorldM.step,hd]
  have e8 : w.stepT t = t.step 12 := by simp [WorldM.stepT,hd]
  rw [e7,e8]
  exact lF Tryz.func77 [] (Fp 6 (@sp_next12 t (10) ‹_› ‹_›) (Fc 40 (@worldCollect w ‹_› (by omega) (by omega) ‹_› ‹_›) Fz))
 ·have e7 : w.step t = w.dup (t.step 12) := by simp [WorldM.step,hd]
  have e8 : w.stepT t = w.pickT (t.step 12) := by simp [WorldM.stepT,hd]
  rw [e7,e8]
  exact lF Tryz.func77 [] (Fh 49 [.els (List.map wdv (w.strong ++ [w.pick (t.step 12)]))] (Fp 6 (@sp_next12 t (11) ‹_› ‹_›) (Fs 41 (List.map wdv []) (Fa (by (simp [WorldM.dup, *]; omega) : (List.map wdv []).length + (List.map wdv w.strong).length≤2 ^ 30) (Fs 44 (List.map wdv w.strong) (Fp 47 (@worldPick w (t.step 12) ‹_› ‹_› (by omega)) (Fs 48 (List.map wdv [w.pick (t.step 12)]) (Fa (by (simp [WorldM.dup, *]; omega) : (List.map wdv w.strong).length + (List.map wdv [w.pick (t.step 12)]).length≤2 ^ 30) (Fa (by simp [WorldM.dup,List.map_take,List.map_drop,List.map_set,List.map_append,wdv,idv] : List.map wdv w.strong ++ List.map wdv [w.pick (t.step 12)] =List.map wdv (w.strong ++ [w.pick (t.step 12)])) Fz)))))))))
end
theorem wok_freeWs {pw s : Int} {l : List Page} {ws : List Int} (h : WOk ws) : ∀ i,WOk (freeWs pw s l ws i)
 | 0 => h
 | i + 1 => by
  have ih := wok_freeWs (pw := pw) (s := s) (l := l) h i
  unfold freeWs
  split
  ·intro x hx
   simp only [spl,List.mem_append,List.mem_replicate] at hx
   rcases hx with (hx | hx) | hx
   ·exact ih x (List.mem_of_mem_take hx)
   ·omega
   ·exact ih x (List.mem_of_mem_drop hx)
  ·exact ih
theorem pt_free {c : Conf} {l : List Page} (h : PT c l) (s : Int) : PT c (l.map (freeQ s)) := by
 refine h.mapPages _ ?_ ?_ ?_ ?_
 ·intro p hp
  unfold freeQ
  split
  ·exact ⟨by simp,by simp,by simp,by simp,by simp,by simp⟩
  ·exact hp
 ·intro p hp hk
  unfold freeQ at hk ⊢
  split at hk
  ·simp at hk
  ·rename_i hc; rw [if_neg hc]; exact ⟨hk,rfl⟩
 ·intro p hp hk
  unfold freeQ at hk
  split at hk
  ·simp at hk
  ·exact hk
 ·intro p q hp hq h2 h3 he
  by_cases hg : p.space = s
  ·have e1 : freeQ s p = ⟨0,0,0,0⟩ := by rw [freeQ,if_pos ⟨by omega,hg⟩]
   have e2 : freeQ s q = ⟨0,0,0,0⟩ := by rw [freeQ,if_pos ⟨by omega,by omega⟩]
   rw [e1,e2]
   simp
  ·have e1 : freeQ s p = p := by rw [freeQ,if_neg (by unfold goneB; omega)]
   have e2 : freeQ s q = q := by rw [freeQ,if_neg (by unfold goneB; omega)]
   rw [e1,e2]
   exact ⟨⟨fun _ => h3,fun _ => h2⟩,fun _ => he⟩
theorem weakO_range {w : Work} (hw : WkOk w) (k : List Int) : ∀ i,∀ x ∈ weakO w k i,0 ≤ x ∧ x ≤ 4294967296
 | 0,x,hx => by simp [weakO] at hx
 | i + 1,x,hx => by
  simp only [weakO,List.mem_append,List.mem_singleton] at hx
  rcases hx with hx | rfl
  ·exact weakO_range hw k i x hx
  ·have h := weakS_is w k i
   unfold weakTo
   split
   ·omega
   ·unfold afterF
    rw [h.2.2.2.1,h.1]
    split
    ·rename_i hq
     have := hw.q _ hq
     omega
    ·have := targetA_range (loadA_range hw.words (k.getD i default)).1
     omega
structure ColOk (B : Int) (h : Heap) (s k : List Int) : Prop where
 p0 : properB h = true
 p1 : properB (collectF h s k).1 = true
 w : WOk (collectF h s k).1.words
 n : ∀ p ∈ (collectF h s k).1.pages,p.pins ≤ B
 c : (collectF h s k).1.conf = h.conf
 r : ∀ x ∈ (collectF h s k).2.1,0 ≤ x ∧ x ≤ 4294967296
 rl : (collectF h s k).2.1.length = s.length
 v : ∀ x ∈ (collectF h s k).2.2.1,0 ≤ x ∧ x ≤ 4294967296
 vl : (collectF h s k).2.2.1.length = k.length
theorem collect_ok {B : Int} (hB : 0 ≤ B) {h : Heap} {s k : List Int} (hw : WOk h.words) (hb : ∀ p ∈ h.pages,p.pins ≤ B) (e : (collectF h s k).2.2.2.2 = 0) : ColOk B h s k := by
 by_cases hp : properB h = true
 ·by_cases hr : refersF h s = true ∧ refersF h k = true
  ·by_cases e1 : (rootsF (beginW h) s).2.2 = 0
   ·by_cases e2 : (allF (rootsF (beginW h) s).1).2 = 0
    ·have e7 : collectF h s k = (endH (cW5 h s k),(rootsF (beginW h) s).2.1,weakO (cW2 h s) k k.length,(cW5 h s k).rep,0) := by rw [collectF,if_pos hp,if_pos hr,if_pos e1,if_pos e2]
     have ho := rootsF_ok (roots := s) (begin_ok hw hp) (begin_inv hp) e1
     have c := cOk h s k hw hp e1 e2
     have c5 := cOk5 h s k hw hp e1 e2
     have tb := cW2_tab hB hw hp hb e1 e2
     obtain ⟨g1,g2,g3,g4,g5⟩ := c.h4
     have hsp := c.w2.sp
     have hc2 : (cW2 h s).heap.conf = h.conf := c.x2.c
     have hpl := c.w2.pl
     rw [hc2] at hpl
     have hL := c.i4.L
     rw [g1] at hL
     have hfl := freeWs_len (s := (cW4 h s k).heap.space) c5.2.2.2.1 (cW4 h s k).heap.pages.length (Nat.le_refl _)
     refine ⟨hp, ?_, ?_, ?_, ?_, ?_, ?_, ?_, ?_⟩
     ·rw [e7,proper_pt]
      simp only [endH,cW5,freeW,g1,g2,g3,g4]
      have hptf := pt_free (s := (cW2 h s).heap.space) tb.pt
      rw [hc2] at hptf
      refine ⟨(proper_ok hp).1, ?_,by simp only [List.length_map]; exact hpl,by omega, ?_,hptf⟩
      ·rw [g1,g2,g3] at hfl
       rw [hfl]
       exact hL
      ·split
       ·rename_i ht
        have hm := lastT_mem (w := cW2 h s) ht
        have t1 := c.w2.tk _ hm
        have t2 := tb.tk _ hm
        refine Or.inr ⟨t1.1,by simp only [List.length_map]; exact t1.2.1, ?_⟩
        have hx : (List.map (freeQ (cW2 h s).heap.space) (cW2 h s).heap.pages).getD (lastT (cW2 h s)).toNat default = (cW2 h s).heap.pages.getD (lastT (cW2 h s)).toNat default := by
         have hi : (lastT (cW2 h s)).toNat < (cW2 h s).heap.pages.length := by omega
         have : (List.map (freeQ (cW2 h s).heap.space) (cW2 h s).heap.pages).getD (lastT (cW2 h s)).toNat default = freeQ (cW2 h s).heap.space ((cW2 h s).heap.pages.getD (lastT (cW2 h s)).toNat default) := by simp [List.getD_eq_getElem?_getD,hi]
         rw [this,freeQ,if_neg (by unfold goneB; omega)]
        show ((List.map (freeQ (cW2 h s).heap.space) (cW2 h s).heap.pages).getD (lastT (cW2 h s)).toNat default).kind = 1
        rw [hx]
        exact t1.2.2
       ·exact Or.inl rfl
     ·rw [e7]
      exact wok_freeWs c.f4.words _
     ·rw [e7]
      intro p hp'
      simp only [endH,cW5,freeW,g2,List.mem_map] at hp'
      obtain ⟨q,hq,rfl⟩ := hp'
      unfold freeQ
      split
      ·exact hB
      ·exact tb.pin q hq
     ·rw [e7]
      exact g1
     ·rw [e7]
      exact ho.2.2.2.1
     ·rw [e7]
      exact ho.2.2.2.2
     ·rw [e7]
      exact weakO_range c.w2 k _
     ·rw [e7]
      exact weakO_len _ _ _
    ·rw [collectF,if_pos hp,if_pos hr,if_pos e1,if_neg e2] at e
     exact absurd e e2
   ·rw [collectF,if_pos hp,if_pos hr,if_neg e1] at e
    exact absurd e e1
  ·rw [collectF,if_pos hp,if_neg hr] at e
   simp at e
 ·rw [collectF,if_neg hp] at e
  simp at e
theorem proper_pins {h : Heap} (hp : properB h = true) : ∀ p ∈ h.pages,0 ≤ p.pins := by
 rw [proper_pt] at hp
 intro p hp'
 obtain ⟨i,hi,e⟩ := List.mem_iff_getElem.1 hp'
 have := (hp.2.2.2.2.2.b i hi).n.1
 rwa [show h.pages.getD i default = p by rw [List.getD_eq_getElem?_getD,List.getElem?_eq_getElem hi,e]; rfl] at this
theorem MOk.of_proper {w : WorldM} {n : Nat} (hp : properB w.heap = true) (hw : WOk w.heap.words) (hn : ∀ p ∈ w.heap.pages,p.pins ≤ n) (h1 : ULe w.strong) (h2 : ULe w.weak) (h3 : w.strong.length ≤ n) (h4 : w.weak.length ≤ n) : MOk w n := by
 have po := proper_ok hp
 exact ⟨hw,po.1,po.2.2.2.2.2.2.2.1,po.2.2.2.2.2.1,fun j hj => ⟨proper_pins hp _ (getD_in hj),hn _ (getD_in hj)⟩,fun j hj => by have := proper_page hp hj; omega,h1,h2,h3,h4⟩
theorem MOk.pin_mem {w : WorldM} {n : Nat} (h : MOk w n) : ∀ p ∈ w.heap.pages,0 ≤ p.pins ∧ p.pins ≤ n := by
 intro p hp
 obtain ⟨i,hi,e⟩ := List.mem_iff_getElem.1 hp
 have := h.pins i hi
 rwa [show w.heap.pages.getD i default = p by rw [List.getD_eq_getElem?_getD,List.getElem?_eq_getElem hi,e]; rfl] at this
theorem MOk.mono {w : WorldM} {n : Nat} (h : MOk w n) : MOk w (n + 1) :=
 ⟨h.words,h.hv,h.pl,h.L,fun j hj => by have := h.pins j hj; omega,h.us,h.strong,h.weak,by have := h.sl; omega,by have := h.wl; omega⟩
theorem ule_app {l : List Int} (h : ULe l) {x : Int} (hx : 0 ≤ x ∧ x ≤ 18446744073709551615) : ULe (l ++ [x]) := by
 intro y hy
 simp only [List.mem_append,List.mem_singleton] at hy
 rcases hy with hy | rfl
 ·exact h y hy
 ·exact hx
theorem MOk.put {w : WorldM} {n : Nat} (h : MOk w n) {hd : Header} (hm : 0 ≤ hd.map ∧ hd.map ≤ 4294967295) : MOk (w.put hd) (n + 1) := by
 unfold WorldM.put
 split
 ·rename_i e
  obtain ⟨k1,k2,k3,k4,k5,k6,k7,k8⟩ := new7_ok h.words hm e
  have po := proper_ok k1
  have hl := h.sl
  have hl2 := h.wl
  have z := (asksH_ok k2).2.1
  have a1 := k3.lo
  have a2 := k3.hi
  refine MOk.of_proper k7 k8 ?_ (ule_app h.strong (by rw [k5]; omega)) h.weak (by simp; omega) (by simp only; omega)
  intro p hp
  simp only at hp
  rw [k6] at hp
  simp only at hp
  rcases k3.pin p hp with q | ⟨q,q1,q2⟩
  ·omega
  ·have := h.pin_mem q q1; omega
 ·exact h.mono
theorem MOk.link {w : WorldM} {n : Nat} (h : MOk w n) (hn : n ≤ 1000000) (t : Tape) : MOk (w.link t) (n + 1) := by
 unfold WorldM.link
 split
 ·rename_i hc
  have g := getH_ok hc.1
  have hw := h.wm hn
  have hlen : 1 ≤ (getH w.heap (w.pick t)).1.length := by omega
  have n1 := next_range (w.pickT (w.pickT t)) (n := 8) (by decide)
  have hi : 0 ≤ linkI w t ∧ linkI w t < (getH w.heap (w.pick t)).1.length := by
   unfold linkI
   rw [Int.tmod_eq_emod_of_nonneg n1.1]
   exact ⟨Int.emod_nonneg _ (by omega),Int.emod_lt_of_pos _ (by omega)⟩
  have hv : 0 ≤ linkV w t ∧ linkV w t ≤ 18446744073709551615 := by
   unfold linkV
   split
   ·exact pick_range hw _
   ·have := next_range ((w.pickT (w.pickT t)).step 8) (n := 1048576) (by decide)
    omega
  obtain ⟨s1,s2,s3⟩ := setField_ok h.words hv hc.1 hi
  have hl := h.sl
  have hl2 := h.wl
  refine MOk.of_proper s2 s3 ?_ h.strong h.weak (by simp only; omega) (by simp only; omega)
  intro p hp
  simp only at hp
  rw [s1] at hp
  have := h.pin_mem p hp
  omega
 ·exact h.mono
theorem pinB_ok {w : WorldM} {n : Nat} (h : MOk w n) {i : Nat} (hi : i < w.heap.pages.length) {d : Int} (hd : d = 1 ∨ (d = -1 ∧ 0 < (w.heap.pages.getD i default).pins)) : MOk (pinB w i d) (n + 1) := by
 have hp := h.pins i hi
 refine ⟨h.words,h.hv, ?_,h.L, ?_, ?_,h.strong,h.weak,by have := h.sl; simp only [pinB]; omega,by have := h.wl; simp only [pinB]; omega⟩
 ·simp only [pinB,List.length_set]; exact h.pl
 ·intro j hj
  simp only [pinB,List.length_set] at hj ⊢
  rw [getD_set hi]
  split
  ·simp only; omega
  ·have := h.pins j hj; omega
 ·intro j hj
  simp only [pinB,List.length_set] at hj ⊢
  rw [getD_set hi]
  split
  ·exact h.us i hi
  ·exact h.us j hj
theorem MOk.pin {w : WorldM} {n : Nat} (h : MOk w n) (t : Tape) : MOk (w.pin t) (n + 1) := by
 unfold WorldM.pin
 split
 ·rename_i e
  have o := ofA_ok h.hv e
  have hpl := h.pl
  have hi : pinI w t < w.heap.pages.length := by unfold pinI; omega
  split
  ·rename_i hc
   exact pinB_ok h hi (Or.inr ⟨rfl,hc.1⟩)
  ·split
   ·exact pinB_ok h hi (Or.inl rfl)
   ·exact h.mono
 ·exact h.mono
theorem MOk.drop {w : WorldM} {n : Nat} (h : MOk w n) (t : Tape) : MOk (w.drop t) (n + 1) := by
 unfold WorldM.drop
 split
 ·have hl := h.sl
  have hl2 := h.wl
  refine ⟨h.words,h.hv,h.pl,h.L,fun j hj => by have := h.pins j hj; simp only; omega,h.us, ?_, ?_, ?_, ?_⟩
  ·intro x hx
   rcases List.mem_append.1 hx with hx | hx
   ·exact h.strong x (List.mem_of_mem_take hx)
   ·exact h.strong x (List.mem_of_mem_drop hx)
  ·simp only
   split
   ·exact ule_app h.weak (getD_mem h.strong _)
   ·exact h.weak
  ·simp only [List.length_append,List.length_take,List.length_drop]; omega
  ·simp only
   split
   ·simp; omega
   ·omega
 ·exact h.mono
theorem MOk.collect {w : WorldM} {n : Nat} (h : MOk w n) : MOk w.collect (n + 1) := by
 unfold WorldM.collect
 split
 ·rename_i e
  have c := collect_ok (B := n) (by omega) h.words (fun p hp => (h.pin_mem p hp).2) e
  have hl := h.sl
  have hl2 := h.wl
  refine MOk.of_proper c.p1 c.w (fun p hp => by have := c.n p hp; omega) (fun x hx => by have := c.r x hx; omega) (fun x hx => by have := c.v x hx; omega) (by simp only [c.rl]; omega) (by simp only [c.vl]; omega)
 ·exact h.mono
theorem MOk.step {w : WorldM} {n : Nat} (h : MOk w n) (hn : n ≤ 1000000) (t : Tape) : MOk (w.step t) (n + 1) := by
 unfold WorldM.step
 repeat' split
 ·exact h.put (header_map _ _)
 ·exact h.link hn _
 ·exact h.pin _
 ·exact h.drop _
 ·exact h.collect
 ·have hl := h.sl
  have hl2 := h.wl
  exact ⟨h.words,h.hv,h.pl,h.L,fun j hj => by have := h.pins j hj; simp only [WorldM.dup] at *; omega,h.us,ule_app h.strong (pick_range (h.wm hn) _),h.weak,by simp only [WorldM.dup,List.length_append,List.length_singleton]; omega,by simp only [WorldM.dup]; omega⟩
def pgOf (w : Work) (x : Int) : Page := w.heap.pages.getD (ofA w.heap.conf x).1.toNat default
structure Rt (w : Work) : Prop where
 q : ∀ x ∈ w.queue,((pgOf w x).kind = 1 ∨ (pgOf w x).kind = 2) ∧ (pgOf w x).space = 1 - w.heap.space
 t : ∀ x ∈ w.old,(targetA (loadA w.heap.words x).1).2 = true → (targetA (loadA w.heap.words x).1).1 ∈ w.queue
theorem target_fwd {a : Int} (h0 : 0 ≤ a) (h1 : a < 4294967296) : targetA (4 * a + 2) = (a,true) := by
 have e : (4 * a + 2) / 4 = a := by omega
 rw [targetA,if_pos (by omega),e]
theorem Rt.copy {B : Int} {w : Work} (hw : WkOk w) (h : Inv w) (hT : Tab B w) (hR : Rt w) {r n : Int} (hr : r ∈ w.old) (hq : r ∉ w.queue) (hn : n = hlA w.heap.words r + 1) (hp : n ≤ w.heap.conf.pw) (hc : (w.place n).2.2 = true) : Rt ((w.place n).1.copy r (w.place n).2.1 n) := by
 have hlr := hlA_range w.heap.words r
 obtain ⟨i,p,t,h1,h2,h3,h4,h5,h6,h7,h8,e⟩ := place_more hw ⟨by omega,hp⟩ hc
 have hsp : p.space = 1 - w.heap.space := by
  by_cases hf : fitsW w n
  ·have e7 : w.place n = (⟨⟨w.heap.conf,w.heap.words,growP w.heap.pages (lastT w).toNat n,w.heap.space,w.heap.bump⟩,w.old,w.taken,w.queue,w.scanned,w.rep⟩,4096 + lastT w * w.heap.conf.pw + (w.heap.pages.getD (lastT w).toNat default).used,true) := by rw [Work.place,if_pos hf]
   unfold fitsW at hf
   have hm := hw.tk _ (lastT_mem hf.1)
   have ht := hT.tk _ (lastT_mem hf.1)
   have hi : (lastT w).toNat < w.heap.pages.length := by omega
   rw [e7] at e
   simp only [growP_eq,Work.mk.injEq,Heap.mk.injEq] at e
   have e2 := e.1.2.2.1
   have g1 : (w.heap.pages.set i p).getD i default = p := by rw [getD_set h1,if_pos rfl]
   rw [← e2,getD_set hi] at g1
   split at g1
   ·rw [← g1]; exact ht
   ·rename_i hne
    have g2 : (w.heap.pages.set i p).getD (lastT w).toNat default = w.heap.pages.getD (lastT w).toNat default := by rw [getD_set h1,if_neg (fun q => hne q.symm)]
    rw [← e2,getD_set hi,if_pos rfl] at g2
    have := congrArg Page.used g2
    simp only at this
    omega
  ·by_cases hg : 0 ≤ firstW w
   ·have e7 : w.place n = (⟨⟨w.heap.conf,w.heap.words,growP (freshW w) (firstW w).toNat n,w.heap.space,w.heap.bump⟩,w.old,w.taken ++ [firstW w],w.queue,w.scanned,w.rep⟩,4096 + firstW w * w.heap.conf.pw,true) := by rw [Work.place,if_neg hf,if_pos hg]
    obtain ⟨g1,g2,g3⟩ := fresh_grow (h := ⟨w.heap.conf,w.heap.words,w.heap.pages,1 - w.heap.space,w.heap.bump⟩) (by have := hw.sp; simp only; omega) hg n
    have g1' : growP (freshW w) (firstW w).toNat n = w.heap.pages.set (firstW w).toNat ⟨1,1 - w.heap.space,n,0⟩ := g1
    have g2' : (w.heap.pages.getD (firstW w).toNat default).kind = 0 := g2
    have g3' : (firstW w).toNat < w.heap.pages.length := g3
    rw [e7,g1'] at e
    simp only [Work.mk.injEq,Heap.mk.injEq] at e
    have e2 := e.1.2.2.1
    have k1 : (w.heap.pages.set i p).getD i default = p := by rw [getD_set h1,if_pos rfl]
    rw [← e2,getD_set g3'] at k1
    split at k1
    ·rw [← k1]
    ·rename_i hne
     have k2 : (w.heap.pages.set i p).getD (firstW w).toNat default = w.heap.pages.getD (firstW w).toNat default := by rw [getD_set h1,if_neg (fun q => hne q.symm)]
     rw [← e2,getD_set g3',if_pos rfl] at k2
     rw [← k2] at g2'
     simp at g2'
   ·rw [Work.place,if_neg hf,if_neg hg] at hc
    simp at hc
 have hb := validB_iff.1 hw.conf
 have hpl := hw.pl
 have hL := h.L
 have hio : (i : Int) * w.heap.conf.pw + w.heap.conf.pw ≤ w.heap.conf.pw * w.heap.conf.pg := by
  have := mul_step (i := i) (j := w.heap.conf.pg) (pw := w.heap.conf.pw) (by omega) (by omega)
  rw [Int.mul_comm w.heap.conf.pw]; exact this
 have hi0 : 0 ≤ (i : Int) * w.heap.conf.pw := Int.mul_nonneg (by omega) (by omega)
 have har := area hw.conf
 rw [e,h8]
 generalize hu : occP (w.heap.pages.getD i default) = u at *
 have hof : (ofA w.heap.conf (4096 + (i : Int) * w.heap.conf.pw + u)).1.toNat = i := by
  have := ofA_at (c := w.heap.conf) (i := i) (o := u) hw.conf (by omega) (by omega)
  rw [show 4096 + (i : Int) * w.heap.conf.pw + u = 4096 + ((i : Int) * w.heap.conf.pw + u) by omega,this]
  simp
 generalize ha : 4096 + (i : Int) * w.heap.conf.pw + u = at' at *
 have hrr := h.r r (List.mem_append_left _ hr)
 have hf := h.f i h1 (by rcases h2 with h2 | h2; exact Or.inl h2; exact Or.inr h2.1)
 rw [hu] at hf
 obtain ⟨m1,m2,m3⟩ := move_in (ws := w.heap.words) (a := at') (b := r) (n := n) (by omega) (by omega) (by omega)
 have hsr : 4096 ≤ r ∧ r < 4096 + (moveA w.heap.words at' r n).1.length := by omega
 refine ⟨?_, ?_⟩
 ·intro x hx
  simp only [Work.copy,List.mem_append,List.mem_singleton] at hx
  simp only [pgOf,Work.copy]
  rw [getD_set h1]
  split
  ·exact ⟨Or.inl h3,hsp⟩
  ·rename_i hne
   rcases hx with hx | rfl
   ·exact hR.q x hx
   ·exact absurd hof.symm hne
 ·intro x hx ht
  simp only [Work.copy] at hx ht ⊢
  by_cases hxr : x = r
  ·subst hxr
   rw [load_store_eq hsr] at ht ⊢
   simp only
   rw [target_fwd (by omega) (by omega)]
   simp
  ·have hfx := hf x (List.mem_append_left _ hx)
   have hlx := hlA_range w.heap.words x
   have el : loadA (storeA (moveA w.heap.words at' r n).1 r (4 * at' + 2)).1 x = loadA w.heap.words x := by rw [load_store_ne hsr hxr,m3 x (by omega)]
   rw [el] at ht ⊢
   exact List.mem_append_left _ (hR.t x hx ht)
structure PR (B : Int) (w : Work) : Prop where
 tab : Tab B w
 rt : Rt w
def ToOk (w : Work) (x : Int) : Prop := x = 0 ∨ x ∈ w.queue
theorem fwd_to {B : Int} (w : Work) (r : Int) (hp : PR B w) (e : (w.fwd r).2.2 = 0) : ToOk (w.fwd r).1 (w.fwd r).2.1 := by
 unfold Work.fwd at e ⊢
 split at e
 ·rename_i c1
  rw [if_pos c1]
  exact c1
 ·rename_i c1
  rw [if_neg c1]
  split at e
  ·simp at e
  ·rename_i c2
   rw [if_neg c2]
   have c2' : r ∈ w.old := Decidable.not_not.1 c2
   split at e
   ·rename_i c3
    rw [if_pos c3]
    exact Or.inr (hp.rt.t r c2' c3)
   ·rename_i c3
    rw [if_neg c3]
    split at e
    ·simp at e
    ·rename_i c4
     rw [if_neg c4]
     split at e
     ·rename_i c5
      rw [if_pos c5]
      exact Or.inr (List.mem_append_right _ (by simp))
     ·rename_i c5
      rw [if_neg c5]
      split at e
      ·rename_i c6
       rw [if_pos c6]
       exact Or.inr (List.mem_append_right _ (by simp))
      ·rename_i c6
       rw [if_neg c6]
       split at e
       ·simp at e
       ·rename_i c7
        rw [if_neg c7]
        exact Or.inr (List.mem_append_right _ (by simp))
theorem PR.fwd {B : Int} (hB : 0 ≤ B) (w : Work) (r : Int) (hw : WkOk w) (hi : Inv w) (h : PR B w) (e : (w.fwd r).2.2 = 0) : PR B (w.fwd r).1 := by
 refine ⟨h.tab.fwd hB w r hw hi e, ?_⟩
 have hR := h.rt
 have hsp := hw.sp
 unfold Work.fwd at e ⊢
 split at e
 ·rename_i c1
  rw [if_pos c1]
  exact hR
 ·rename_i c1
  rw [if_neg c1]
  have c1' : r ∉ w.queue := fun h => c1 (Or.inr h)
  split at e
  ·simp at e
  ·rename_i c2
   rw [if_neg c2]
   have c2' : r ∈ w.old := Decidable.not_not.1 c2
   split at e
   ·rename_i c3
    rw [if_pos c3]
    exact hR
   ·rename_i c3
    rw [if_neg c3]
    split at e
    ·simp at e
    ·rename_i c4
     rw [if_neg c4]
     have o := ofA_ok hw.conf (Decidable.not_not.1 c4)
     have hpl := hw.pl
     split at e
     ·rename_i c5
      rw [if_pos c5]
      simp only [promB,decide_eq_true_eq] at c5
      have ok := h.tab.pt.b (ofA w.heap.conf r).1.toNat (by omega)
      have oks := ok.s
      refine ⟨?_,fun x hx ht => List.mem_append_left _ (hR.t x hx ht)⟩
      intro x hx
      simp only [Work.keep,List.mem_append,List.mem_singleton] at hx
      rcases hx with hx | rfl
      ·exact hR.q x hx
      ·refine ⟨Or.inl c5.2.2.1, ?_⟩
       simp only [pgOf,Work.keep]
       omega
     ·rename_i c5
      rw [if_neg c5]
      split at e
      ·rename_i c6
       rw [if_pos c6]
       refine ⟨?_,fun x hx ht => List.mem_append_left _ (hR.t x hx ht)⟩
       have hlr : (ofA w.heap.conf r).1.toNat < w.heap.pages.length := by omega
       intro x hx
       simp only [Work.keep,List.mem_append,List.mem_singleton] at hx
       have hxl : (ofA w.heap.conf x).1.toNat < w.heap.pages.length := by
        rcases hx with hx | rfl
        ·by_cases q : (ofA w.heap.conf x).1.toNat < w.heap.pages.length
         ·exact q
         ·have := (hR.q x hx).1
          rw [pgOf,List.getD_eq_getElem?_getD,List.getElem?_eq_none (by omega)] at this
          simp only [Option.getD_none] at this
          have d : (default : Page).kind = 0 := rfl
          omega
        ·exact hlr
       simp only [pgOf,Work.keep,Work.flip]
       rw [flipP_get hxl]
       split
       ·refine ⟨?_,rfl⟩
        rcases hx with hx | rfl
        ·exact (hR.q x hx).1
        ·exact Or.inr c6
       ·rename_i hne
        rcases hx with hx | rfl
        ·exact hR.q x hx
        ·exact absurd ⟨Nat.le_refl _,Nat.le_add_right _ _⟩ hne
      ·rename_i c6
       rw [if_neg c6]
       split at e
       ·simp at e
       ·rename_i c7
        rw [if_neg c7]
        have c7' : (w.place (sizeH (hdW w r))).2.2 = true := by simpa using c7
        have hz := hi.z r c2'
        have hp : sizeH (hdW w r) ≤ w.heap.conf.pw := by
         rw [hdW_len]
         rcases hz with hz | hz
         ·exact absurd hz c6
         ·exact hz
        exact hR.copy hw hi h.tab c2' c1' (hdW_len w r) hp c7'
theorem PR.in1 {B : Int} (hB : 0 ≤ B) (w : Work) (q j : Int) (hw : WkOk w) (hi : Inv w) (h : PR B w) (hq : q ∈ w.queue) (h0 : 0 ≤ j) (h1 : j < hlA w.heap.words q) (e : (w.fwd (loadA w.heap.words (q + 1 + j)).1).2.2 = 0) : PR B (w.in1 (q + 1 + j)) := by
 have hf := PR.fwd hB w _ hw hi h e
 obtain ⟨i1,x1⟩ := fwd_inv hw hi _ e
 have hq1 := x1.q q hq
 have hl1 := x1.l q hq
 have hr := i1.r q (List.mem_append_right _ hq1)
 have hs := i1.s q (List.mem_append_right _ hq1)
 have hin : 4096 ≤ q + 1 + j ∧ q + 1 + j < 4096 + (w.fwd (loadA w.heap.words (q + 1 + j)).1).1.heap.words.length := by omega
 refine ⟨hf.tab.withWords _,hf.rt.q,fun x hx ht => ?_⟩
 have el : loadA (storeA (w.fwd (loadA w.heap.words (q + 1 + j)).1).1.heap.words (q + 1 + j) (w.fwd (loadA w.heap.words (q + 1 + j)).1).2.1).1 x = loadA (w.fwd (loadA w.heap.words (q + 1 + j)).1).1.heap.words x := by
  refine load_store_ne hin fun hc => ?_
  have := hs x (List.mem_append_left _ hx) (by omega)
  omega
 simp only [Work.in1] at hx ht ⊢
 rw [el] at ht ⊢
 exact hf.rt.t x hx ht
theorem begin_rt {h : Heap} (hp : properB h = true) : Rt (beginW h) := by
 refine ⟨by simp [beginW],fun x hx ht => ?_⟩
 exfalso
 simp only [beginW] at hx ht
 obtain ⟨j,j1,o⟩ := (objects_sep hp).1 x hx
 have e := o.at'
 have k := atH_ok e
 unfold atH at e
 rw [if_pos k.1,if_pos k.2.1] at e
 split at e
 ·rename_i g
  have hd := g.2.2
  unfold decodeH at hd
  split at hd
  ·rename_i c
   have c1 := c.1
   have c2 := c.2
   unfold encodeH at c1 c2
   split at c2
   ·unfold targetA at ht
    split at ht
    ·simp only at c2; omega
    ·simp at ht
   ·rename_i hv; rw [if_neg hv] at c1; simp at c1
  ·simp at hd
 ·simp at e
theorem cW2_PR {B : Int} (hB : 0 ≤ B) {h : Heap} {s : List Int} (hw : WOk h.words) (hp : properB h = true) (hb : ∀ p ∈ h.pages,p.pins ≤ B) (e : (rootsF (beginW h) s).2.2 = 0) (e2 : (allF (rootsF (beginW h) s).1).2 = 0) : PR B (cW2 h s) :=
 cW2_P (PR B) (fun w r hw hi h e => PR.fwd hB w r hw hi h e) (fun w q j hw hi h hq h0 h1 e => PR.in1 hB w q j hw hi h hq h0 h1 e) (fun w n h => ⟨⟨h.tab.pt,h.tab.tk,h.tab.pin⟩,h.rt.q,h.rt.t⟩) hw hp ⟨begin_tab hp hb,begin_rt hp⟩ e e2
theorem rootsN_to {B : Int} (hB : 0 ≤ B) {w : Work} {roots : List Int} (hw : WkOk w) (h : Inv w) (hp : PR B w) : ∀ k,(∀ j,j < k → rootsE w roots j = 0) → ∀ x ∈ (rootsN w roots k).2,ToOk (rootsN w roots k).1 x
 | 0,_,x,hx => by simp [rootsN] at hx
 | k + 1,hh,x,hx => by
  have ih := rootsN_to hB (roots := roots) hw h hp k (fun j hj => hh j (by omega))
  have ok := (rootsN_ok (roots := roots) hw k (fun j hj => hh j (by omega))).1
  have iv := (rootsN_inv (roots := roots) hw h k (fun j hj => hh j (by omega))).1
  have pr := rootsN_P (PR B) (fun w r hw hi h e => PR.fwd hB w r hw hi h e) (roots := roots) hw h hp k (fun j hj => hh j (by omega))
  have he := hh k (by omega)
  simp only [rootsN,List.mem_append,List.mem_singleton] at hx ⊢
  rcases hx with hx | rfl
  ·rcases ih x hx with q | q
   ·exact Or.inl q
   ·exact Or.inr ((fwd_inv ok iv _ he).2.q x q)
  ·exact fwd_to _ _ pr he
theorem madeLight (h : Heap) : GSpec Tryz.prog 41 [h.av] true (bool (decide (h.words.length ≤ 5000 ∧ h.pages.length ≤ 100))) [] := by
 exact gF [] Tryz.func41 [false,false,false,false,true] (Fl 5 wdv h.words (FlG 10 (decide ((↑h.words.length : Int)≤5000)) Page.dv h.pages (Fa (by grind [] : (decide ((↑h.words.length : Int)≤5000)&&decide ((↑h.pages.length : Int)≤100)) =decide (h.words.length≤5000∧h.pages.length≤100)) Fz)))
theorem sp_worldStep (w : WorldM) (t : Tape) (n : Nat) (hm : MOk w n) (hn : n ≤ 1000000) (ht : TOk t) (ha : t.at' ≤ 900000) : LentSpec Tryz.prog 77 [w.av,.pt 0 0 0] [t.b] (w.step t).av [(w.stepT t).b] :=
 worldStep w t n hm hn ht ha
structure TUp (n : Int) (t u : Tape) : Prop where
 l : u.l = t.l
 lo : t.at' ≤ u.at'
 hi : u.at' ≤ t.at' + n
theorem TUp.step (t : Tape) (n : Int) : TUp 1 t (t.step n) := by
 have := step_at (t := t) n
 exact ⟨this.2.2,this.1,this.2.1⟩
theorem TUp.trans {m n : Int} {t u v : Tape} (h1 : TUp m t u) (h2 : TUp n u v) : TUp (m + n) t v :=
 ⟨h2.l.trans h1.l,by have := h1.lo; have := h2.lo; omega,by have := h1.hi; have := h2.hi; omega⟩
theorem TUp.mono {m n : Int} {t u : Tape} (h : TUp m t u) (hmn : m ≤ n) : TUp n t u := ⟨h.l,h.lo,by have := h.hi; omega⟩
theorem headerT_up (t : Tape) (c : Conf) : TUp 10 t (t.headerT c) := by
 have h1 : TUp 4 t (hdr1T t c) := by
  unfold hdr1T
  split
  ·exact (((TUp.step t _).trans (TUp.step _ 12)).trans (TUp.step _ _)).mono (by decide)
  ·exact ((TUp.step t _).trans (TUp.step _ 12)).mono (by decide)
 unfold Tape.headerT
 repeat' split
 ·exact (h1.trans (TUp.step _ 4)).mono (by decide)
 ·exact (h1.trans (TUp.step _ 4)).mono (by decide)
 ·exact ((h1.trans (TUp.step _ 4)).trans (TUp.step _ _)).mono (by decide)
theorem linkT_up (w : WorldM) (t : Tape) : TUp 10 t (w.linkT t) := by
 have h1 : TUp 1 t (w.pickT t) := TUp.step _ _
 have h2 : TUp 1 (w.pickT t) (w.pickT (w.pickT t)) := TUp.step _ _
 unfold WorldM.linkT
 split
 ·exact ((((h1.trans h2).trans (TUp.step _ 8))).trans (TUp.step _ _)).mono (by decide)
 ·exact ((h1.trans h2).trans (TUp.step _ 8)).mono (by decide)
theorem stepT_up (w : WorldM) (t : Tape) : (w.stepT t).l = t.l ∧ t.at' + 1 ≤ (w.stepT t).at' ∧ (w.stepT t).at' ≤ t.at' + 20 := by
 have h0 : (t.step 12).at' = t.at' + 1 ∧ (t.step 12).l = t.l := by simp [Tape.step]
 have key : TUp 10 (t.step 12) (w.stepT t) := by
  unfold WorldM.stepT
  repeat' split
  ·exact headerT_up _ _
  ·exact linkT_up _ _
  ·unfold WorldM.pinT
   split
   ·exact ((TUp.step _ _).trans (TUp.step _ 2)).mono (by decide)
   ·exact (TUp.step _ _).mono (by decide)
  ·unfold WorldM.dropT
   split
   ·exact ((TUp.step _ _).trans (TUp.step _ 3)).mono (by decide)
   ·exact ⟨rfl,by omega,by omega⟩
  ·exact ⟨rfl,by omega,by omega⟩
  ·exact (TUp.step _ _).mono (by decide)
 have a := key.l
 have b := key.lo
 have c := key.hi
 exact ⟨a.trans h0.2,by omega,by omega⟩
def mkS (w : WorldM) (t : Tape) : Nat → WorldM × Tape
 | 0 => (w,t)
 | k + 1 => ((mkS w t k).1.step (mkS w t k).2,(mkS w t k).1.stepT (mkS w t k).2)
def mkB (w : WorldM) (t : Tape) (k : Nat) : Bool := decide (((mkS w t k).2.l.length : Int) ≤ (mkS w t k).2.at')
def mkN (w : WorldM) (t : Tape) : Nat := ((List.range (2 + t.l.length)).find? (mkB w t)).getD 0
def makeW (w : WorldM) (t : Tape) : WorldM := (mkS w t (mkN w t)).1
theorem mkS_up (w : WorldM) (t : Tape) : ∀ k : Nat,(mkS w t k).2.l = t.l ∧ t.at' + k ≤ (mkS w t k).2.at' ∧ (mkS w t k).2.at' ≤ t.at' + 20 * k
 | 0 => by simp [mkS]
 | k + 1 => by
  have ih := mkS_up w t k
  have := stepT_up (mkS w t k).1 (mkS w t k).2
  refine ⟨this.1.trans ih.1, ?_, ?_⟩
  ·simp only [mkS]; omega
  ·simp only [mkS]; omega
theorem mkS_ok {w : WorldM} {n : Nat} (h : MOk w n) (t : Tape) : ∀ k,n + k ≤ 1000000 → MOk (mkS w t k).1 (n + k)
 | 0,_ => h
 | k + 1,hk => (mkS_ok h t k (by omega)).step (by omega) _
theorem mkN_is (w : WorldM) (t : Tape) (ht : 0 ≤ t.at') : mkB w t (mkN w t) = true ∧ (∀ j,j < mkN w t → mkB w t j = false) ∧ mkN w t ≤ t.l.length + 1 := by
 cases hb : (List.range (2 + t.l.length)).find? (mkB w t) with
 | none =>
  exfalso
  have := List.find?_eq_none.1 hb t.l.length (List.mem_range.2 (by omega))
  have u := mkS_up w t t.l.length
  simp only [mkB,decide_eq_true_eq,u.1] at this
  omega
 | some k =>
  obtain ⟨h1,h2,h3⟩ := List.find?_range_eq_some.1 hb
  have h2 := List.mem_range.1 h2
  have e : mkN w t = k := by rw [mkN,hb]; rfl
  rw [e]
  exact ⟨h1,fun j hj => by simpa using h3 j hj,by omega⟩
def mkLA (w : WorldM) (t : Tape) : Tg := ⟨tm 22 [(2,.pt 8002 0 0),(3,.pt 32012 0 0),(4,.pt 40004 0 0)],[(40004,.box 30 w.cells),(32012,t.b),(8002,.box 30 [int 0,int 0,.d (.sl 0 []),.d (.sl 0 []),int 0,int 0,.d (.sl 0 []),.d (.sl 0 [])])],60⟩
theorem mkRoundA (w : WorldM) (t : Tape) (n : Nat) (hm : MOk w n) (hn : n ≤ 1000000) (ht : TOk t) (ha : t.at' ≤ 900000) (hd : t.at' < t.l.length) : CSpec Tryz.prog (rndF Tryz.f15 0) (mkLA w t).st .nrm (mkLA (w.step t) (w.stepT t)).st := by
 exact sF [] [] (Fp 16 (@tapeDone t ‹_›) (Ftb 17 (!decide ((↑t.l.length : Int)≤t.at')) (Fp 20 (@sp_worldStep w t n ‹_› ‹_› ‹_› ‹_›) Fz)))
theorem mkEndA (w : WorldM) (t : Tape) (ht : TOk t) (hd : ¬ t.at' < t.l.length) : CSpec Tryz.prog (rndF Tryz.f15 0) (mkLA w t).st (.ext 0) (Tg.st ⟨tm 22 [(2,.pt 8002 0 0),(4,.pt 40004 0 0)],[(40004,.box 30 w.cells),(8002,.box 30 [int 0,int 0,.d (.sl 0 []),.d (.sl 0 []),int 0,int 0,.d (.sl 0 []),.d (.sl 0 [])])],60⟩) := by
 exact sF [] [] (Fp 16 (@tapeDone t ‹_›) (Ffb 17 (!decide ((↑t.l.length : Int)≤t.at')) Fz))
theorem mkLoopA (w : WorldM) (t : Tape) (hm : MOk w 0) (hl : t.l.length ≤ 300) (h0 : 0 ≤ t.at') (h1 : t.at' ≤ 1000) : CSpec Tryz.prog (blkF Tryz.f15 0) (Tg.st ⟨tm 22 [(2,.pt 8002 0 0),(3,.pt 32012 0 0),(4,.pt 40004 0 0)],[(40004,.box 30 w.cells),(32012,t.b),(8002,.box 30 [int 0,int 0,.d (.sl 0 []),.d (.sl 0 []),int 0,int 0,.d (.sl 0 []),.d (.sl 0 [])])],60⟩) .nrm (Tg.st ⟨tm 22 [(2,.pt 8002 0 0),(4,.pt 40004 0 0)],[(40004,.box 30 (makeW w t).cells),(8002,.box 30 [int 0,int 0,.d (.sl 0 []),.d (.sl 0 []),int 0,int 0,.d (.sl 0 []),.d (.sl 0 [])])],60⟩) := by
 have hk := mkN_is w t h0
 have tok : ∀ k,k ≤ mkN w t → TOk (mkS w t k).2 ∧ (mkS w t k).2.at' ≤ 900000 := fun k hk' => by
  have u := mkS_up w t k
  refine ⟨?_,by omega⟩
  unfold TOk
  rw [u.1]
  omega
 refine loop_ext_of (S := fun k => (mkLA (mkS w t k).1 (mkS w t k).2).st) (mkN w t) (by kernel_rfl) (fun k hk' => ?_) ?_
 ·have hs := hk.2.1 k hk'
  simp only [mkB,decide_eq_false_iff_not] at hs
  have m := mkS_ok hm t k (by omega)
  exact mkRoundA _ _ (0 + k) m (by omega) (tok k (by omega)).1 (tok k (by omega)).2 (by omega)
 ·have hs := hk.1
  simp only [mkB,decide_eq_true_eq] at hs
  exact mkEndA _ _ (tok _ (Nat.le_refl _)).1 (by omega)
def mkLB (w : WorldM) (t : Tape) : Tg := ⟨tm 22 [(2,.pt 8002 0 0),(3,.pt 24012 0 0),(4,.pt 32004 0 0)],[(32004,.box 30 w.cells),(24012,t.b),(8002,.box 30 [int 0,int 0,.d (.sl 0 []),.d (.sl 0 []),int 0,int 0,.d (.sl 0 []),.d (.sl 0 [])])],60⟩
theorem mkRoundB (w : WorldM) (t : Tape) (n : Nat) (hm : MOk w n) (hn : n ≤ 1000000) (ht : TOk t) (ha : t.at' ≤ 900000) (hd : t.at' < t.l.length) : CSpec Tryz.prog (rndF Tryz.f15 0) (mkLB w t).st .nrm (mkLB (w.step t) (w.stepT t)).st := by
 exact sF [] [] (Fp 16 (@tapeDone t ‹_›) (Ftb 17 (!decide ((↑t.l.length : Int)≤t.at')) (Fp 20 (@sp_worldStep w t n ‹_› ‹_› ‹_› ‹_›) Fz)))
theorem mkEndB (w : WorldM) (t : Tape) (ht : TOk t) (hd : ¬ t.at' < t.l.length) : CSpec Tryz.prog (rndF Tryz.f15 0) (mkLB w t).st (.ext 0) (Tg.st ⟨tm 22 [(2,.pt 8002 0 0),(4,.pt 32004 0 0)],[(32004,.box 30 w.cells),(8002,.box 30 [int 0,int 0,.d (.sl 0 []),.d (.sl 0 []),int 0,int 0,.d (.sl 0 []),.d (.sl 0 [])])],60⟩) := by
 exact sF [] [] (Fp 16 (@tapeDone t ‹_›) (Ffb 17 (!decide ((↑t.l.length : Int)≤t.at')) Fz))
theorem mkLoopB (w : WorldM) (t : Tape) (hm : MOk w 0) (hl : t.l.length ≤ 300) (h0 : 0 ≤ t.at') (h1 : t.at' ≤ 1000) : CSpec Tryz.prog (blkF Tryz.f15 0) (Tg.st ⟨tm 22 [(2,.pt 8002 0 0),(3,.pt 24012 0 0),(4,.pt 32004 0 0)],[(32004,.box 30 w.cells),(24012,t.b),(8002,.box 30 [int 0,int 0,.d (.sl 0 []),.d (.sl 0 []),int 0,int 0,.d (.sl 0 []),.d (.sl 0 [])])],60⟩) .nrm (Tg.st ⟨tm 22 [(2,.pt 8002 0 0),(4,.pt 32004 0 0)],[(32004,.box 30 (makeW w t).cells),(8002,.box 30 [int 0,int 0,.d (.sl 0 []),.d (.sl 0 []),int 0,int 0,.d (.sl 0 []),.d (.sl 0 [])])],60⟩) := by
 have hk := mkN_is w t h0
 have tok : ∀ k,k ≤ mkN w t → TOk (mkS w t k).2 ∧ (mkS w t k).2.at' ≤ 900000 := fun k hk' => by
  have u := mkS_up w t k
  refine ⟨?_,by omega⟩
  unfold TOk
  rw [u.1]
  omega
 refine loop_ext_of (S := fun k => (mkLB (mkS w t k).1 (mkS w t k).2).st) (mkN w t) (by kernel_rfl) (fun k hk' => ?_) ?_
 ·have hs := hk.2.1 k hk'
  simp only [mkB,decide_eq_false_iff_not] at hs
  have m := mkS_ok hm t k (by omega)
  exact mkRoundB _ _ (0 + k) m (by omega) (tok k (by omega)).1 (tok k (by omega)).2 (by omega)
 ·have hs := hk.1
  simp only [mkB,decide_eq_true_eq] at hs
  exact mkEndB _ _ (tok _ (Nat.le_refl _)).1 (by omega)
def makeT (l : List Int) : Tape := ⟨l.take 300,0⟩
def makeF (l : List Int) : WorldM := makeW (makeT l).empty (((makeT l).step 4).step 5)
theorem empty_ok (t : Tape) : MOk t.empty 0 := by
 have hv := tape_conf_valid t
 have hb := validB_iff.1 hv
 refine ⟨?_,hv, ?_, ?_, ?_, ?_, ?_, ?_,by simp [Tape.empty],by simp [Tape.empty]⟩
 ·intro x hx
  simp only [Tape.empty,newHeap,List.mem_replicate] at hx
  omega
 ·simp only [Tape.empty,newHeap,List.length_replicate]; omega
 ·have := area hv
  simp only [Tape.empty,newHeap,List.length_replicate]; omega
 ·intro j hj
  simp only [Tape.empty,newHeap,List.length_replicate] at hj ⊢
  have : (List.replicate t.conf.pg.toNat (⟨0,0,0,0⟩ : Page)).getD j default = ⟨0,0,0,0⟩ := by simp [List.getD_eq_getElem?_getD,hj]
  rw [this]; simp
 ·intro j hj
  simp only [Tape.empty,newHeap,List.length_replicate] at hj ⊢
  have : (List.replicate t.conf.pg.toNat (⟨0,0,0,0⟩ : Page)).getD j default = ⟨0,0,0,0⟩ := by simp [List.getD_eq_getElem?_getD,hj]
  rw [this]; simp
 ·intro x hx; simp [Tape.empty] at hx
 ·intro x hx; simp [Tape.empty] at hx
theorem make_steps (l : List Int) : (((makeT l).step 4).step 5).l = l.take 300 ∧ (((makeT l).step 4).step 5).at' = 2 := by simp [makeT,Tape.step]
theorem makeF_ok (l : List Int) : MOk (makeF l) 1000 := by
 have e := make_steps l
 have hl : (((makeT l).step 4).step 5).l.length ≤ 300 := by rw [e.1]; simp; omega
 have hk := mkN_is (makeT l).empty (((makeT l).step 4).step 5) (by omega)
 have m := mkS_ok (empty_ok (makeT l)) (((makeT l).step 4).step 5) (mkN (makeT l).empty (((makeT l).step 4).step 5)) (by omega)
 have h2 : ∀ (w : WorldM) (a b : Nat),MOk w a → a ≤ b → MOk w b := fun w a b h hab =>
  ⟨h.words,h.hv,h.pl,h.L,fun j hj => by have := h.pins j hj; omega,h.us,h.strong,h.weak,by have := h.sl; omega,by have := h.wl; omega⟩
 exact h2 _ _ _ m (by omega)
theorem madeMake (l : List Int) (hl : l.length ≤ 140737488355328) : GSpec Tryz.prog 15 [intsV l] false (makeF l).av [] := by
 have e := make_steps l
 have he := empty_ok (makeT l)
 have h1 : (((makeT l).step 4).step 5).l.length ≤ 300 := by rw [e.1]; simp; omega
 have h2 := e.2
 by_cases h : 300 < l.length
 ·have ht : TOk ⟨List.take (Int.toNat 300) l,0⟩ := by simp [TOk]; omega
  have e9 : makeT l = ⟨List.take (Int.toNat 300) l,0⟩ := rfl
  unfold makeF
  rw [e9] at he h1 h2 ⊢
  exact gF [] Tryz.func15 [] (Fh 9 [.els (List.map idv (List.take (Int.toNat 300) l))] (Fl 6 idv l (Ftb 7 (decide (300 < (↑l.length : Int))) (Fa (by (simp only [List.length_map]; omega) : (0 :Int)≤(300 :Int)∧300≤(↑(List.map idv l).length : Int)) (Fa (by simp [List.map_take,List.map_drop,List.map_set,List.map_append,wdv,idv] : List.take (Int.toNat 300) (List.map idv l) =List.map idv (List.take (Int.toNat 300) l)) (Fp 14 (@tapeEmpty (Tape.mk (List.take (Int.toNat 300) l) 0) ‹_› (by (simp only [bs]; omega))) (Fu (@mkLoopA ((Tape.mk (List.take (Int.toNat 300) l) 0).empty) (((Tape.mk (List.take (Int.toNat 300) l) 0).step 4).step 5) ‹_› ‹_› (by omega) (by omega)) Fz)))))))
 ·have ht : TOk ⟨l,0⟩ := by simp [TOk]; omega
  have e9 : makeT l = ⟨l,0⟩ := by rw [makeT,List.take_of_length_le (by omega)]
  unfold makeF
  rw [e9] at he h1 h2 ⊢
  exact gF [] Tryz.func15 [] (Fl 6 idv l (Ffb 7 (decide (300 < (↑l.length : Int))) (Fp 14 (@tapeEmpty (Tape.mk l 0) ‹_› (by (simp only [bs]; omega))) (Fu (@mkLoopB ((Tape.mk l 0).empty) (((Tape.mk l 0).step 4).step 5) ‹_› ‹_› (by omega) (by omega)) Fz))))
def RootOn (h : Heap) (r : Int) : Prop := (ofA h.conf r).2.2 = 0 → (h.pages.getD (ofA h.conf r).1.toNat default).kind = 1 ∨ (h.pages.getD (ofA h.conf r).1.toNat default).kind = 2
structure POk (w : WorldM) : Prop where
 p : properB w.heap = true
 s : ∀ r ∈ w.strong,RootOn w.heap r
 k : ∀ r ∈ w.weak,RootOn w.heap r
theorem root0 (h : Heap) : RootOn h 0 := by
 intro e
 exfalso
 unfold ofA at e
 split at e
 ·split at e
  ·omega
  ·simp at e
 ·simp at e
theorem small7_kind {h : Heap} {n : Int} (hp : properB h = true) (hn : 1 ≤ n ∧ n ≤ h.conf.pw) (e : (small7 h n).2.2 = true) : (∀ j : Nat,(h.pages.getD j default).kind ≠ 0 → ((small7 h n).1.pages.getD j default).kind = (h.pages.getD j default).kind) ∧ RootOn (small7 h n).1 (small7 h n).2.1 := by
 have hp' := hp
 rw [proper_pt] at hp
 obtain ⟨p1,p2,p3,p4,p5,p6⟩ := hp
 have hb := validB_iff.1 p1
 by_cases hf : fitsB h n
 ·have e7 : small7 h n = (⟨h.conf,h.words,growP h.pages h.bump.toNat n,h.space,h.bump⟩,4096 + h.bump * h.conf.pw + (h.pages.getD h.bump.toNat default).used,true) := by rw [small7,if_pos hf]
  unfold fitsB at hf
  have hbi : h.bump.toNat < h.pages.length := by omega
  have hk : (h.pages.getD h.bump.toNat default).kind = 1 := by omega
  have u := (p6.b h.bump.toNat hbi).k1 hk
  rw [e7]
  refine ⟨fun j hj => ?_,fun _ => ?_⟩
  ·simp only [growP_eq]
   rw [getD_set hbi]
   split
   ·rename_i q; subst q; rfl
   ·rfl
  ·have := ofA_at (c := h.conf) (i := h.bump) (o := (h.pages.getD h.bump.toNat default).used) p1 (by omega) (by omega)
   simp only [growP_eq]
   rw [show 4096 + h.bump * h.conf.pw + (h.pages.getD h.bump.toNat default).used = 4096 + (h.bump * h.conf.pw + (h.pages.getD h.bump.toNat default).used) by omega,this]
   simp only
   rw [getD_set hbi,if_pos rfl]
   exact Or.inl hk
 ·by_cases hg : 0 ≤ first h.pages 1 ∧ (inUse h.pages : Int) < limit h.conf
  ·have e7 : small7 h n = (⟨h.conf,h.words,growP (freshP h) (first h.pages 1).toNat n,h.space,first h.pages 1⟩,4096 + first h.pages 1 * h.conf.pw + ((freshP h).getD (first h.pages 1).toNat default).used,true) := by rw [small7,if_neg hf,if_pos hg]
   obtain ⟨g1,g2,g3⟩ := fresh_grow p4 hg.1 n
   have g4 := congrArg Page.used (freshP_ok p4 hg.1).2.2.2
   simp only at g4
   rw [e7,g1,g4]
   refine ⟨fun j hj => ?_,fun _ => ?_⟩
   ·simp only
    rw [getD_set g3]
    split
    ·rename_i q; subst q; exact absurd g2 hj
    ·rfl
   ·have := ofA_at (c := h.conf) (i := first h.pages 1) (o := 0) p1 (by omega) (by omega)
    simp only
    rw [show 4096 + first h.pages 1 * h.conf.pw + 0 = 4096 + (first h.pages 1 * h.conf.pw + 0) by omega,this]
    simp only
    rw [getD_set g3,if_pos rfl]
    exact Or.inl rfl
  ·rw [small7,if_neg hf,if_neg hg] at e
   simp at e
theorem large7_kind {h : Heap} {n : Int} (hp : properB h = true) (hk : 1 ≤ need h.conf n) (e : (large7 h n (need h.conf n)).2.2 = true) : (∀ j : Nat,(h.pages.getD j default).kind ≠ 0 → ((large7 h n (need h.conf n)).1.pages.getD j default).kind = (h.pages.getD j default).kind) ∧ RootOn (large7 h n (need h.conf n)).1 (large7 h n (need h.conf n)).2.1 := by
 have hp' := hp
 rw [proper_pt] at hp
 obtain ⟨p1,p2,p3,p4,p5,p6⟩ := hp
 have hb := validB_iff.1 p1
 by_cases hg : 0 ≤ first h.pages (need h.conf n) ∧ inUse h.pages + need h.conf n ≤ limit h.conf
 ·obtain ⟨g1,g2,g3⟩ := first_free hg.1
  have el : (largeP h.conf h.pages (first h.pages (need h.conf n)) h.space n).1 = tookP h.pages (first h.pages (need h.conf n)).toNat (need h.conf n).toNat ⟨2,h.space,n,0⟩ ⟨3,h.space,0,0⟩ := by
   rw [largeP,if_pos ⟨hk,by omega⟩,takeP,if_pos (by omega),if_pos g3]
  have e7 : large7 h n (need h.conf n) = (⟨h.conf,h.words,tookP h.pages (first h.pages (need h.conf n)).toNat (need h.conf n).toNat ⟨2,h.space,n,0⟩ ⟨3,h.space,0,0⟩,h.space,h.bump⟩,4096 + first h.pages (need h.conf n) * h.conf.pw,true) := by rw [large7,if_pos hg,el]
  have hf : ∀ j,j < (need h.conf n).toNat → (h.pages.getD ((first h.pages (need h.conf n)).toNat + j) default).kind = 0 := freeK_iff.1 g3
  have hgt := tookP_get (l := h.pages) (i := (first h.pages (need h.conf n)).toNat) (k := (need h.conf n).toNat) (p := ⟨2,h.space,n,0⟩) (q := ⟨3,h.space,0,0⟩) (by omega) (by omega)
  rw [e7]
  refine ⟨fun j hj => ?_,fun _ => ?_⟩
  ·simp only
   have hne : ¬ ((first h.pages (need h.conf n)).toNat ≤ j ∧ j < (first h.pages (need h.conf n)).toNat + (need h.conf n).toNat) := fun hc => by
    have := hf (j - (first h.pages (need h.conf n)).toNat) (by omega)
    rw [show (first h.pages (need h.conf n)).toNat + (j - (first h.pages (need h.conf n)).toNat) = j by omega] at this
    exact hj this
   rw [hgt,if_neg (by omega),if_neg (by omega)]
  ·have := ofA_at (c := h.conf) (i := first h.pages (need h.conf n)) (o := 0) p1 (by omega) (by omega)
   simp only
   rw [show 4096 + first h.pages (need h.conf n) * h.conf.pw = 4096 + (first h.pages (need h.conf n) * h.conf.pw + 0) by omega,this]
   simp only
   rw [hgt,if_pos rfl]
   exact Or.inr rfl
 ·rw [large7,if_neg hg] at e
  simp at e
theorem RootOn.mono {h h' : Heap} {r : Int} (hr : RootOn h r) (hc : h'.conf = h.conf) (hk : ∀ j : Nat,(h.pages.getD j default).kind ≠ 0 → (h'.pages.getD j default).kind = (h.pages.getD j default).kind) : RootOn h' r := by
 intro e
 rw [hc] at e ⊢
 have q := hr e
 rw [hk _ (by omega)]
 exact q
theorem asks_small {c : Conf} {hd : Header} (ha : asksH c hd = true) (hv : validB c = true) (hn : ¬ 0 < need c (sizeH hd)) : sizeH hd ≤ c.pw := by
 obtain ⟨a1,a2,a3,a4,a5⟩ := asksH_ok ha
 have hb := validB_iff.1 hv
 unfold need at hn a4
 split at a4
 ·rename_i hc
  rw [if_pos hc] at hn
  split at a4
  ·omega
  ·rename_i hd'
   rw [if_neg hd'] at hn
   have e := Int.mul_ediv_add_emod (sizeH hd + c.pw - 1) c.pw
   have hz : (sizeH hd + c.pw - 1) / c.pw = 0 := by omega
   rw [hz] at e
   have := Int.emod_lt_of_pos (sizeH hd + c.pw - 1) (b := c.pw) (by omega)
   omega
 ·omega
theorem POk.put {w : WorldM} (h : POk w) (hw : WOk w.heap.words) {hd : Header} (hm : 0 ≤ hd.map ∧ hd.map ≤ 4294967295) : POk (w.put hd) := by
 unfold WorldM.put
 split
 ·rename_i e
  obtain ⟨k1,k2,k3,k4,k5,k6,k7,k8⟩ := new7_ok hw hm e
  have hv := (proper_ok k1).1
  obtain ⟨a1,a2,a3,a4,a5⟩ := asksH_ok k2
  have kk : (∀ j : Nat,(w.heap.pages.getD j default).kind ≠ 0 → ((put7 w.heap hd).1.pages.getD j default).kind = (w.heap.pages.getD j default).kind) ∧ RootOn (put7 w.heap hd).1 (put7 w.heap hd).2.1 := by
   by_cases hn : 0 < need w.heap.conf (sizeH hd)
   ·have e7 : put7 w.heap hd = large7 w.heap (sizeH hd) (need w.heap.conf (sizeH hd)) := by rw [put7,if_pos hn]
    rw [e7] at k4 ⊢
    exact large7_kind k1 (by omega) k4
   ·have e7 : put7 w.heap hd = small7 w.heap (sizeH hd) := by rw [put7,if_neg hn]
    rw [e7] at k4 ⊢
    exact small7_kind k1 ⟨a2,asks_small k2 hv hn⟩ k4
  have hc : (new7 w.heap hd).1.conf = w.heap.conf := by rw [k6]; exact k3.c
  have hk : ∀ j : Nat,(w.heap.pages.getD j default).kind ≠ 0 → ((new7 w.heap hd).1.pages.getD j default).kind = (w.heap.pages.getD j default).kind := by rw [k6]; exact kk.1
  refine ⟨k7,fun r hr => ?_,fun r hr => (h.k r hr).mono hc hk⟩
  rcases List.mem_append.1 hr with hr | hr
  ·exact (h.s r hr).mono hc hk
  ·simp only [List.mem_singleton] at hr
   subst hr
   rw [k5,k6]
   exact kk.2
 ·exact h
theorem POk.link {w : WorldM} {n : Nat} (h : POk w) (hm : MOk w n) (hn : n ≤ 1000000) (t : Tape) : POk (w.link t) := by
 unfold WorldM.link
 split
 ·rename_i hc
  have hw := hm.wm hn
  have g := getH_ok hc.1
  have n1 := next_range (w.pickT (w.pickT t)) (n := 8) (by decide)
  have hi : 0 ≤ linkI w t ∧ linkI w t < (getH w.heap (w.pick t)).1.length := by
   unfold linkI
   rw [Int.tmod_eq_emod_of_nonneg n1.1]
   exact ⟨Int.emod_nonneg _ (by omega),Int.emod_lt_of_pos _ (by omega)⟩
  have hv : 0 ≤ linkV w t ∧ linkV w t ≤ 18446744073709551615 := by
   unfold linkV
   split
   ·exact pick_range hw _
   ·have := next_range ((w.pickT (w.pickT t)).step 8) (n := 1048576) (by decide)
    omega
  obtain ⟨s1,s2,s3⟩ := setField_ok hm.words hv hc.1 hi
  refine ⟨s2,fun r hr => ?_,fun r hr => ?_⟩
  ·simp only
   rw [s1]
   exact h.s r hr
  ·simp only
   rw [s1]
   exact h.k r hr
 ·exact h
theorem PT.setPins {c : Conf} {l : List Page} (h : PT c l) {i : Nat} (hi : i < l.length) (hk : (l.getD i default).kind = 1 ∨ (l.getD i default).kind = 2) {n : Int} (hn : 0 ≤ n ∧ n ≤ 2147483647) : PT c (l.set i ⟨(l.getD i default).kind,(l.getD i default).space,(l.getD i default).used,n⟩) := by
 have e : ∀ j,((l.set i ⟨(l.getD i default).kind,(l.getD i default).space,(l.getD i default).used,n⟩).getD j default).kind = (l.getD j default).kind ∧ ((l.set i ⟨(l.getD i default).kind,(l.getD i default).space,(l.getD i default).used,n⟩).getD j default).space = (l.getD j default).space ∧ ((l.set i ⟨(l.getD i default).kind,(l.getD i default).space,(l.getD i default).used,n⟩).getD j default).used = (l.getD j default).used := by
  intro j
  rw [getD_set hi]
  split
  ·rename_i q; subst q; exact ⟨rfl,rfl,rfl⟩
  ·exact ⟨rfl,rfl,rfl⟩
 refine ⟨?_, ?_, ?_⟩
 ·intro j hj
  rw [List.length_set] at hj
  rw [getD_set hi]
  split
  ·have b := h.b i hi
   exact ⟨b.s,hn,b.k,fun q => by simp only at q; omega,b.k1,fun q => by simp only at q; omega⟩
  ·exact h.b j hj
 ·intro j hj hk2
  rw [List.length_set] at hj
  rw [(e j).1] at hk2
  rw [(e j).2.2,(e j).2.1]
  have q := h.lg j hj hk2
  refine ⟨q.1,fun m h1 h2 => ?_⟩
  rw [List.length_set,(e _).1,(e _).2.1]
  exact q.2 m h1 h2
 ·intro j hj hk3
  rw [List.length_set] at hj
  rw [(e j).1] at hk3
  obtain ⟨a,a1,a2,a3⟩ := h.tl j hj hk3
  exact ⟨a,a1,by rw [(e a).1]; exact a2,by rw [(e a).2.2]; exact a3⟩
theorem pinB_pok {w : WorldM} {n : Nat} (h : POk w) (hm : MOk w n) (hn : n ≤ 1000000) {i : Nat} (hi : i < w.heap.pages.length) (hk : (w.heap.pages.getD i default).kind = 1 ∨ (w.heap.pages.getD i default).kind = 2) {d : Int} (hd : d = 1 ∨ (d = -1 ∧ 0 < (w.heap.pages.getD i default).pins)) : POk (pinB w i d) := by
 have hp := hm.pins i hi
 have kk : ∀ j : Nat,((pinB w i d).heap.pages.getD j default).kind = (w.heap.pages.getD j default).kind := by
  intro j
  simp only [pinB]
  rw [getD_set hi]
  split
  ·rename_i q; subst q; rfl
  ·rfl
 have pr := h.p
 rw [proper_pt] at pr
 obtain ⟨p1,p2,p3,p4,p5,p6⟩ := pr
 refine ⟨?_,fun r hr => (h.s r hr).mono rfl (fun j _ => kk j),fun r hr => (h.k r hr).mono rfl (fun j _ => kk j)⟩
 rw [proper_pt]
 refine ⟨p1,p2,by simp only [pinB,List.length_set]; exact p3,p4, ?_,p6.setPins hi hk (by omega)⟩
 rcases p5 with p5 | p5
 ·exact Or.inl p5
 ·refine Or.inr ⟨p5.1,by simp only [pinB,List.length_set]; exact p5.2.1, ?_⟩
  rw [show (pinB w i d).heap.bump = w.heap.bump from rfl,kk]
  exact p5.2.2
theorem pick_mem (w : WorldM) (t : Tape) : w.pick t = 0 ∨ w.pick t ∈ w.strong ∨ w.pick t ∈ w.weak := by
 have hn := next_range t (n := (w.refs.length : Int)) (by simp [WorldM.refs]; omega)
 have : w.pick t ∈ w.refs := getD_mem_iff.2 ⟨_,by omega,rfl⟩
 simpa [WorldM.refs] using this
theorem POk.pick {w : WorldM} (h : POk w) (t : Tape) : RootOn w.heap (w.pick t) := by
 rcases pick_mem w t with e | e | e
 ·rw [e]; exact root0 _
 ·exact h.s _ e
 ·exact h.k _ e
theorem POk.pin {w : WorldM} {n : Nat} (h : POk w) (hm : MOk w n) (hn : n ≤ 1000000) (t : Tape) : POk (w.pin t) := by
 unfold WorldM.pin
 split
 ·rename_i e
  have o := ofA_ok hm.hv e
  have hpl := hm.pl
  have hi : pinI w t < w.heap.pages.length := by unfold pinI; omega
  have hk := h.pick t e
  split
  ·rename_i hc
   exact pinB_pok h hm hn hi hk (Or.inr ⟨rfl,hc.1⟩)
  ·split
   ·exact pinB_pok h hm hn hi hk (Or.inl rfl)
   ·exact h
 ·exact h
theorem POk.drop {w : WorldM} (h : POk w) (t : Tape) : POk (w.drop t) := by
 unfold WorldM.drop
 split
 ·rename_i hl
  have n1 := next_range t (n := (w.strong.length : Int)) (by omega)
  refine ⟨h.p,fun r hr => ?_,fun r hr => ?_⟩
  ·rcases List.mem_append.1 hr with hr | hr
   ·exact h.s r (List.mem_of_mem_take hr)
   ·exact h.s r (List.mem_of_mem_drop hr)
  ·simp only at hr
   split at hr
   ·rcases List.mem_append.1 hr with hr | hr
    ·exact h.k r hr
    ·simp only [List.mem_singleton] at hr
     subst hr
     refine h.s _ (getD_mem_iff.2 ⟨_, ?_,rfl⟩)
     unfold dropI
     omega
   ·exact h.k r hr
 ·exact h
theorem POk.collect {w : WorldM} {n : Nat} (h : POk w) (hm : MOk w n) : POk w.collect := by
 unfold WorldM.collect
 split
 ·rename_i e
  have c := collect_ok (B := n) (by omega) hm.words (fun p hp => (hm.pin_mem p hp).2) e
  have hp := h.p
  by_cases hr : refersF w.heap w.strong = true ∧ refersF w.heap w.weak = true
  ·by_cases e1 : (rootsF (beginW w.heap) w.strong).2.2 = 0
   ·by_cases e2 : (allF (rootsF (beginW w.heap) w.strong).1).2 = 0
    ·have e7 : collectF w.heap w.strong w.weak = (endH (cW5 w.heap w.strong w.weak),(rootsF (beginW w.heap) w.strong).2.1,weakO (cW2 w.heap w.strong) w.weak w.weak.length,(cW5 w.heap w.strong w.weak).rep,0) := by rw [collectF,if_pos hp,if_pos hr,if_pos e1,if_pos e2]
     have hb := begin_ok hm.words hp
     have hi := begin_inv hp
     have pr0 : PR n (beginW w.heap) := ⟨begin_tab hp (fun p hp => (hm.pin_mem p hp).2),begin_rt hp⟩
     have pr := cW2_PR (B := n) (by omega) hm.words hp (fun p hp => (hm.pin_mem p hp).2) e1 e2
     have ck := cOk w.heap w.strong w.weak hm.words hp e1 e2
     obtain ⟨g1,g2,g3,g4,g5⟩ := ck.h4
     have hc2 : (cW2 w.heap w.strong).heap.conf = w.heap.conf := ck.x2.c
     have hsp := ck.w2.sp
     have seen : ∀ x,ToOk (cW2 w.heap w.strong) x → RootOn (endH (cW5 w.heap w.strong w.weak)) x := by
      intro x hx
      rcases hx with rfl | hx
      ·exact root0 _
      ·intro he
       have q := pr.rt.q x hx
       unfold pgOf at q
       simp only [endH,cW5,freeW,g1,g2,g3] at he ⊢
       rw [hc2] at q
       have hlt : (ofA w.heap.conf x).1.toNat < (cW2 w.heap w.strong).heap.pages.length := by
        by_cases hq : (ofA w.heap.conf x).1.toNat < (cW2 w.heap w.strong).heap.pages.length
        ·exact hq
        ·have q1 := q.1
         rw [List.getD_eq_getElem?_getD,List.getElem?_eq_none (by omega)] at q1
         simp only [Option.getD_none] at q1
         have d : (default : Page).kind = 0 := rfl
         omega
       have ef : (List.map (freeQ (cW2 w.heap w.strong).heap.space) (cW2 w.heap w.strong).heap.pages).getD (ofA w.heap.conf x).1.toNat default = freeQ (cW2 w.heap w.strong).heap.space ((cW2 w.heap w.strong).heap.pages.getD (ofA w.heap.conf x).1.toNat default) := by simp [List.getD_eq_getElem?_getD,hlt]
       rw [ef,freeQ,if_neg (by unfold goneB; omega)]
       exact q.1
     have hall := rootsF_ok (roots := w.strong) hb hi e1
     have ax := allF_inv hall.1 hall.2.1 e2
     have r1 : ∀ x ∈ (rootsF (beginW w.heap) w.strong).2.1,ToOk (cW2 w.heap w.strong) x := by
      intro x hx
      have : ToOk (rootsF (beginW w.heap) w.strong).1 x := by
       unfold rootsF at e1 hx ⊢
       cases hbb : (List.range w.strong.length).find? (fun k => decide (rootsE (beginW w.heap) w.strong k ≠ 0)) with
       | none =>
        rw [hbb] at hx
        have h0 : ∀ j,j < w.strong.length → rootsE (beginW w.heap) w.strong j = 0 := fun j hj => by
         have := List.find?_eq_none.1 hbb j (List.mem_range.2 hj)
         simpa using this
        exact rootsN_to (B := n) (by omega) hb hi pr0 w.strong.length h0 x hx
       | some k =>
        rw [hbb] at e1
        simp only at e1
        have := (List.find?_range_eq_some.1 hbb).1
        simp [e1] at this
      rcases this with q | q
      ·exact Or.inl q
      ·exact Or.inr (ax.2.q x q)
     have r2 : ∀ i,i ≤ w.weak.length → ∀ x ∈ weakO (cW2 w.heap w.strong) w.weak i,ToOk (cW2 w.heap w.strong) x := by
      intro i
      induction i with
      | zero => intro _ x hx; simp [weakO] at hx
      | succ i ih =>
       intro hi' x hx
       simp only [weakO,List.mem_append,List.mem_singleton] at hx
       rcases hx with hx | rfl
       ·exact ih (by omega) x hx
       ·have hs := weakS_is (cW2 w.heap w.strong) w.weak i
        unfold weakTo
        split
        ·exact Or.inl rfl
        ·rename_i hne
         unfold afterF
         rw [hs.2.2.2.1,hs.1]
         split
         ·rename_i hq; exact Or.inr hq
         ·cases ht : (targetA (loadA (cW2 w.heap w.strong).heap.words (w.weak.getD i default)).1).2 with
          | true =>
           refine Or.inr (pr.rt.t _ ?_ ht)
           have ho : (cW2 w.heap w.strong).old = (objectsW w.heap).1 := ck.x2.o
           rw [ho]
           have hrf := hr.2
           simp only [refersF,Bool.and_eq_true,Option.isNone_iff_eq_none] at hrf
           have := List.find?_eq_none.1 hrf.2 i (List.mem_range.2 (by omega))
           simp only [rfsB,decide_eq_true_eq,not_and,Decidable.not_not] at this
           exact this hne
          | false =>
           refine Or.inl ?_
           unfold targetA at ht ⊢
           split at ht
           ·simp at ht
           ·rename_i hcc; rw [if_neg hcc]
     have p1 := c.p1
     rw [e7] at p1 ⊢
     exact ⟨p1,fun x hx => seen x (r1 x hx),fun x hx => seen x (r2 _ (Nat.le_refl _) x hx)⟩
    ·rw [collectF,if_pos hp,if_pos hr,if_pos e1,if_neg e2] at e
     exact absurd e e2
   ·rw [collectF,if_pos hp,if_pos hr,if_neg e1] at e
    exact absurd e e1
  ·rw [collectF,if_pos hp,if_neg hr] at e
   simp at e
 ·exact h
theorem POk.step {w : WorldM} {n : Nat} (h : POk w) (hm : MOk w n) (hn : n ≤ 1000000) (t : Tape) : POk (w.step t) := by
 unfold WorldM.step
 repeat' split
 ·exact h.put hm.words (header_map _ _)
 ·exact h.link hm hn _
 ·exact h.pin hm hn _
 ·exact h.drop _
 ·exact h.collect hm
 ·refine ⟨h.p,fun r hr => ?_,h.k⟩
  rcases List.mem_append.1 hr with hr | hr
  ·exact h.s r hr
  ·simp only [List.mem_singleton] at hr
   subst hr
   exact h.pick _
theorem empty_pok (t : Tape) : POk t.empty := by
 refine ⟨?_,by simp [Tape.empty],by simp [Tape.empty]⟩
 have hv := tape_conf_valid t
 have hb := validB_iff.1 hv
 have ha := area hv
 rw [proper_pt]
 have hg : ∀ j,j < t.conf.pg.toNat → (List.replicate t.conf.pg.toNat (⟨0,0,0,0⟩ : Page)).getD j default = ⟨0,0,0,0⟩ := fun j hj => by simp [List.getD_eq_getElem?_getD,hj]
 refine ⟨hv,by simp only [Tape.empty,newHeap,List.length_replicate]; omega,by simp only [Tape.empty,newHeap,List.length_replicate]; omega,Or.inl rfl,Or.inl rfl, ?_⟩
 simp only [Tape.empty,newHeap]
 refine ⟨fun j hj => ?_,fun j hj hk => ?_,fun j hj hk => ?_⟩
 ·rw [List.length_replicate] at hj
  rw [hg j hj]
  exact ⟨by simp,by simp,by simp,by simp,by simp,by simp⟩
 ·rw [List.length_replicate] at hj
  rw [hg j hj] at hk
  simp at hk
 ·rw [List.length_replicate] at hj
  rw [hg j hj] at hk
  simp at hk
theorem mkS_pok {w : WorldM} {n : Nat} (h : POk w) (hm : MOk w n) (t : Tape) : ∀ k,n + k ≤ 1000000 → POk (mkS w t k).1
 | 0,_ => h
 | k + 1,hk => (mkS_pok h hm t k (by omega)).step (mkS_ok hm t k (by omega)) (by omega) _
theorem makeF_pok (l : List Int) : POk (makeF l) := by
 have e := make_steps l
 have hl : (((makeT l).step 4).step 5).l.length ≤ 300 := by rw [e.1]; simp; omega
 have hk := mkN_is (makeT l).empty (((makeT l).step 4).step 5) (by omega)
 exact mkS_pok (empty_pok (makeT l)) (empty_ok (makeT l)) _ _ (by omega)
theorem and_i64_1 (x : Int) : bits .and .i64 x 1 = x % 2 := by
 have hm : (BitVec.ofInt 64 1).toNat = 1 := rfl
 have hx : (BitVec.ofInt 64 x).toNat = (x % 18446744073709551616).toNat := by simp [BitVec.toNat_ofInt]
 show IntKind.i64.wrap (((BitVec.ofInt 64 x) &&& (BitVec.ofInt 64 1)).toNat : Int) = x % 2
 rw [BitVec.toNat_and,hm,hx,show (1 : Nat) = 2 ^ 1 - 1 from rfl,Nat.and_two_pow_sub_one_eq_mod,IntKind.wrap_i64]
 omega
def zapP (l : List Page) (i m : Nat) : List Page := (List.range l.length).map fun j => if i ≤ j ∧ j ≤ i + m then ⟨0,0,0,0⟩ else l.getD j default
theorem zapP_len (l : List Page) (i m : Nat) : (zapP l i m).length = l.length := by simp [zapP]
theorem zapP_get {l : List Page} {i m j : Nat} (h : j < l.length) : (zapP l i m).getD j default = if i ≤ j ∧ j ≤ i + m then ⟨0,0,0,0⟩ else l.getD j default := by
 rw [List.getD_eq_getElem?_getD,List.getElem?_eq_getElem (by rw [zapP_len]; exact h)]
 simp [zapP]
theorem zapP_zero {l : List Page} {i : Nat} : zapP l i 0 = l.set i ⟨0,0,0,0⟩ := by
 refine List.ext_getElem (by simp [zapP]) fun j h1 h2 => ?_
 have h : j < l.length := by simpa using h2
 have e : l.getD j default = l[j] := by simp [List.getD_eq_getElem?_getD,h]
 simp only [zapP,List.getElem_map,List.getElem_range,List.getElem_set,e]
 by_cases hj : i = j
 ·subst hj; rw [if_pos (by omega),if_pos rfl]
 ·rw [if_neg (by omega),if_neg hj]
theorem zapP_succ {l : List Page} {i m : Nat} (h : i + 1 + m < l.length) : (zapP l i m).set (i + 1 + m) ⟨0,0,0,0⟩ = zapP l i (m + 1) := by
 refine List.ext_getElem (by simp [zapP]) fun j h1 h2 => ?_
 have h : j < l.length := by simpa [zapP] using h2
 simp only [zapP,List.getElem_map,List.getElem_range,List.getElem_set]
 by_cases hj : i + 1 + m = j
 ·subst hj; rw [if_pos rfl,if_pos (by omega)]
 ·rw [if_neg hj]
  by_cases hk : i ≤ j ∧ j ≤ i + m
  ·rw [if_pos hk,if_pos (by omega)]
  ·rw [if_neg hk,if_neg (by omega)]
theorem zapP_at {l : List Page} {i m : Nat} : (zapP l i m).getD (i + 1 + m) default = l.getD (i + 1 + m) default := by
 by_cases h : i + 1 + m < l.length
 ·rw [zapP_get h,if_neg (by omega)]
 ·rw [List.getD_eq_getElem?_getD,List.getD_eq_getElem?_getD,List.getElem?_eq_none (by rw [zapP_len]; omega),List.getElem?_eq_none (by omega)]
theorem page_zero {p : Page} {c : Conf} (h : PgOk c p) (hk : p.kind = 0) : p = ⟨0,0,0,0⟩ := by
 obtain ⟨k,s,u,n⟩ := p
 have := h.k0 hk
 simp only at hk this ⊢
 obtain ⟨h1,h2,h3⟩ := this
 subst hk h1 h2 h3
 rfl
theorem took_back {c : Conf} {l : List Page} (hP : PT c l) {i k : Nat} (hk : 1 ≤ k) (hik : i + k ≤ l.length) (hf : freeK l i k = true) (sp n : Int) :
  tailsN (tookP l i k ⟨2,sp,n,0⟩ ⟨3,sp,0,0⟩) i = k - 1 ∧ zapP (tookP l i k ⟨2,sp,n,0⟩ ⟨3,sp,0,0⟩) i (k - 1) = l := by
 have hf := freeK_iff.1 hf
 have hlen : (tookP l i k ⟨2,sp,n,0⟩ ⟨3,sp,0,0⟩).length = l.length := by
  simp [tookP,wr]; omega
 constructor
 ·have h1 : k - 1 ≤ tailsN (tookP l i k ⟨2,sp,n,0⟩ ⟨3,sp,0,0⟩) i := tailsN_ge fun m hm => by
   refine ⟨by omega, ?_⟩
   rw [tookP_get hk hik,if_neg (by omega),if_pos (by omega)]
  by_cases hc : tailsN (tookP l i k ⟨2,sp,n,0⟩ ⟨3,sp,0,0⟩) i = k - 1
  ·exact hc
  ·exfalso
   obtain ⟨h2,h3⟩ := tail_lt (l := tookP l i k ⟨2,sp,n,0⟩ ⟨3,sp,0,0⟩) (i := i) (m := k - 1) (by omega)
   rw [show i + 1 + (k - 1) = i + k from by omega] at h2 h3
   rw [tookP_get hk hik,if_neg (by omega),if_neg (by omega)] at h3
   obtain ⟨j,hj,hj2,hj3⟩ := hP.tl (i + k) (by omega) h3
   have hj4 := hP.lg j (by omega) hj2
   by_cases hji : j < i
   ·have := (hj4.2 (i - j) (by omega) (by omega)).2.1
    rw [show j + (i - j) = i + 0 from by omega,hf 0 (by omega)] at this
    omega
   ·have := hf (j - i) (by omega)
    rw [show i + (j - i) = j from by omega,hj2] at this
    omega
 ·refine List.ext_getElem (by rw [zapP_len,hlen]) fun j h1 h2 => ?_
  have e1 : (zapP (tookP l i k ⟨2,sp,n,0⟩ ⟨3,sp,0,0⟩) i (k - 1)).getD j default = l.getD j default := by
   rw [zapP_get (by rw [hlen]; exact h2)]
   split
   ·have := page_zero (hP.b (i + (j - i)) (by omega)) (hf (j - i) (by omega))
    rw [show i + (j - i) = j from by omega] at this
    exact this.symm
   ·rw [tookP_get hk hik,if_neg (by omega),if_neg (by omega)]
  simpa [List.getD_eq_getElem?_getD,h1,h2] using e1
theorem tookP_len' {l : List Page} {i k : Nat} (p q : Page) (h : i + k ≤ l.length) : (tookP l i k p q).length = l.length := by
 simp [tookP,wr]; omega
theorem took_inUseN {l : List Page} {i k : Nat} (hk : 1 ≤ k) (hik : i + k ≤ l.length) (hf : freeK l i k = true) (sp n : Int) : ∀ m : Nat,inUseN (tookP l i k ⟨2,sp,n,0⟩ ⟨3,sp,0,0⟩) m = inUseN l m + (if m ≤ i then 0 else if m ≤ i + k then m - i else k)
 | 0 => by simp [inUseN]
 | m + 1 => by
  have hp : ∀ l : List Page,pageAt l m = l.getD m default := fun l => by rw [pageAt_getD]; simp
  have hf := freeK_iff.1 hf
  rw [inUseN,inUseN,took_inUseN hk hik (freeK_iff.2 hf) sp n m,hp,hp,tookP_get hk hik]
  by_cases h1 : m < i
  ·have a1 : m ≤ i := by omega
   have a2 : m + 1 ≤ i := by omega
   have a3 : ¬ m = i := by omega
   have a4 : ¬ (i < m ∧ m < i + k) := by omega
   simp only [if_pos a1,if_pos a2,if_neg a3,if_neg a4]
   omega
  ·by_cases h2 : m < i + k
   ·have h3 := hf (m - i) (by omega)
    rw [show i + (m - i) = m from by omega] at h3
    have hz : ¬ ((if m = i then (⟨2,sp,n,0⟩ : Page) else if i < m ∧ m < i + k then ⟨3,sp,0,0⟩ else l.getD m default)).kind = 0 := by
     split
     ·simp
     ·rw [if_pos (by omega)]; simp
    have a2 : ¬ m + 1 ≤ i := by omega
    have a3 : m + 1 ≤ i + k := by omega
    have a4 : m ≤ i + k := by omega
    simp only [if_neg hz,if_pos h3,if_neg a2,if_pos a3,if_pos a4]
    by_cases a5 : m ≤ i
    ·simp only [if_pos a5]; omega
    ·simp only [if_neg a5]; omega
   ·have a1 : ¬ m ≤ i := by omega
    have a2 : ¬ m + 1 ≤ i := by omega
    have a3 : ¬ m = i := by omega
    have a4 : ¬ (i < m ∧ m < i + k) := by omega
    have a5 : ¬ m + 1 ≤ i + k := by omega
    simp only [if_neg a1,if_neg a2,if_neg a3,if_neg a4,if_neg a5]
    by_cases a6 : m ≤ i + k
    ·simp only [if_pos a6]; omega
    ·simp only [if_neg a6]; omega
theorem took_inUse {l : List Page} {i k : Nat} (hk : 1 ≤ k) (hik : i + k ≤ l.length) (hf : freeK l i k = true) (sp n : Int) : inUse (tookP l i k ⟨2,sp,n,0⟩ ⟨3,sp,0,0⟩) = inUse l + k := by
 have hlen : (tookP l i k ⟨2,sp,n,0⟩ ⟨3,sp,0,0⟩).length = l.length := by simp [tookP,wr]; omega
 rw [inUse,inUse,hlen,took_inUseN hk hik hf sp n]
 by_cases a1 : l.length ≤ i
 ·omega
 ·rw [if_neg a1]
  by_cases a2 : l.length ≤ i + k
  ·rw [if_pos a2]; omega
  ·rw [if_neg a2]
def pfreeL (l : List Page) (i : Int) (m : Nat) : Tg := ⟨tm 59 [(4,.d (.sl 0 [])),(5,int 0),(6,int (l.getD i.toNat default).kind),(7,.ow 41029),(8,int (i + 1 + m))],[(41029,.arr 134 4 ((zapP l i.toNat m).map Page.dv))],60⟩
section
variable (l : List Page) (i : Int) (hl : l.length ≤ 1048576) (hi : 0 ≤ i ∧ i < l.length) (hk : (l.getD i.toNat default).kind = 2)
include hl hi hk
theorem pfreeRound (m : Nat) (hm : m < tailsN l i.toNat) : CSpec Tryz.prog (rndF Tryz.f21 0) (pfreeL l i m).st .nrm (pfreeL l i (m + 1)).st := by
 obtain ⟨t1,t2⟩ := tail_lt hm
 have ha := zapP_at (l := l) (i := i.toNat) (m := m)
 have hq := zapP_succ (l := l) (i := i.toNat) (m := m) t1
 have hn := zapP_len l i.toNat m
 have eN : i.toNat + 1 + m = (i + 1 + (m : Int)).toNat := by omega
 rw [eN] at ha hq t2
 have t3 : ((zapP l i.toNat m).getD (i + 1 + (m : Int)).toNat default).kind = 3 := by rw [ha]; exact t2
 exact sF [] [false,false,false,false,false,false,false,false,false,false,false,false,false,false,true,true] (Fh 49 [.el ((zapP l i.toNat m).getD (i + 1 + (↑m : Int)).toNat default).dv] (Fh 10057 [.els (List.map Page.dv ((zapP l i.toNat m).set (i + 1 + (↑m : Int)).toNat (Page.mk 0 0 0 0)))] (FlG 41 ((l.getD i.toNat default).kind == 2) Page.dv (zapP l i.toNat m) (Fa (by intro hg; (try simp only [bs] at hg); (simp only [List.length_map]; omega) : ((l.getD i.toNat default).kind == 2&&decide (i + 1 + (↑m : Int) < (↑(zapP l i.toNat m).length : Int))) =true→0≤i + 1 + (↑m : Int)∧(i + 1 + (↑m : Int)).toNat < (List.map Page.dv (zapP l i.toNat m)).length) (Fa (by intro hg; (try simp only [bs] at hg); exact el_of (by omega) : ((l.getD i.toNat default).kind == 2&&decide (i + 1 + (↑m : Int) < (↑(zapP l i.toNat m).length : Int))) =true→(List.map Page.dv (zapP l i.toNat m))[(i + 1 + (↑m : Int)).toNat]? = some ((zapP l i.toNat m).getD (i + 1 + (↑m : Int)).toNat default).dv) (Ftb 51 ((l.getD i.toNat default).kind == 2&&decide (i + 1 + (↑m : Int) < (↑(zapP l i.toNat m).length : Int))&&((zapP l i.toNat m).getD (i + 1 + (↑m : Int)).toNat default).kind == 3) (Fa (by (simp only [List.length_map]; omega) : 0≤i + 1 + (↑m : Int)∧(i + 1 + (↑m : Int)).toNat < (List.map Page.dv (zapP l i.toNat m)).length) (Fa (by (simp only [List.length_map]; omega) : (i + 1 + (↑m : Int)).toNat < (List.map Page.dv (zapP l i.toNat m)).length) (Fa (by rw [List.map_set]; rfl : (List.map Page.dv (zapP l i.toNat m)).set (i + 1 + (↑m : Int)).toNat [dint 0,dint 0,dint 0,dint 0] =List.map Page.dv ((zapP l i.toNat m).set (i + 1 + (↑m : Int)).toNat (Page.mk 0 0 0 0))) (Fi 53 (i + 1 + (↑m : Int) + 1) (Fo (i + 1 + (↑m : Int) + 1 =i + 1 + (↑(m + 1) : Int)) (Fr (134 : Int) (Fa (by refine congrArg _ ?_; assumption : List.map Page.dv ((zapP l i.toNat m).set (i + 1 + (↑m : Int)).toNat (Page.mk 0 0 0 0)) =List.map Page.dv (zapP l i.toNat (m + 1))) Fz)))))))))))))
theorem pfreeEnd : CSpec Tryz.prog (rndF Tryz.f21 0) (pfreeL l i (tailsN l i.toNat)).st (.ext 0) (Tg.st ⟨tm 59 [(4,.d (.sl 0 [])),(5,int 0),(7,.ow 41029)],[(41029,.arr 134 4 ((zapP l i.toNat (tailsN l i.toNat)).map Page.dv))],60⟩) := by
 have ha := zapP_at (l := l) (i := i.toNat) (m := tailsN l i.toNat)
 have hn := zapP_len l i.toNat (tailsN l i.toNat)
 have eN : i.toNat + 1 + tailsN l i.toNat = (i + 1 + (tailsN l i.toNat : Int)).toNat := by omega
 have t3 : (i + 1 + (tailsN l i.toNat : Int)) < l.length → ¬ ((zapP l i.toNat (tailsN l i.toNat)).getD (i + 1 + (tailsN l i.toNat : Int)).toNat default).kind = 3 := fun h => by
  rw [← eN,ha]; exact tail_end (by omega)
 by_cases h : (i + 1 + (tailsN l i.toNat : Int)) < l.length
 ·have t4 := t3 h
  exact sF [] [] (Fh 49 [.el ((zapP l i.toNat (tailsN l i.toNat)).getD (i + 1 + (↑(tailsN l i.toNat) : Int)).toNat default).dv] (FlG 41 ((l.getD i.toNat default).kind == 2) Page.dv (zapP l i.toNat (tailsN l i.toNat)) (Fa (by intro hg; (try simp only [bs] at hg); (simp only [List.length_map]; omega) : ((l.getD i.toNat default).kind == 2&&decide (i + 1 + (↑(tailsN l i.toNat) : Int) < (↑(zapP l i.toNat (tailsN l i.toNat)).length : Int))) =true→0≤i + 1 + (↑(tailsN l i.toNat) : Int)∧(i + 1 + (↑(tailsN l i.toNat) : Int)).toNat < (List.map Page.dv (zapP l i.toNat (tailsN l i.toNat))).length) (Fa (by intro hg; (try simp only [bs] at hg); exact el_of (by omega) : ((l.getD i.toNat default).kind == 2&&decide (i + 1 + (↑(tailsN l i.toNat) : Int) < (↑(zapP l i.toNat (tailsN l i.toNat)).length : Int))) =true→(List.map Page.dv (zapP l i.toNat (tailsN l i.toNat)))[(i + 1 + (↑(tailsN l i.toNat) : Int)).toNat]? = some ((zapP l i.toNat (tailsN l i.toNat)).getD (i + 1 + (↑(tailsN l i.toNat) : Int)).toNat default).dv) (Ffb 51 ((l.getD i.toNat default).kind == 2&&decide (i + 1 + (↑(tailsN l i.toNat) : Int) < (↑(zapP l i.toNat (tailsN l i.toNat)).length : Int))&&((zapP l i.toNat (tailsN l i.toNat)).getD (i + 1 + (↑(tailsN l i.toNat) : Int)).toNat default).kind == 3) Fz)))))
 ·exact sF [] [] (Fh 49 [.el ((zapP l i.toNat (tailsN l i.toNat)).getD (i + 1 + (↑(tailsN l i.toNat) : Int)).toNat default).dv] (FlG 41 ((l.getD i.toNat default).kind == 2) Page.dv (zapP l i.toNat (tailsN l i.toNat)) (Fa (by intro hg; (try simp only [bs] at hg); omega : ((l.getD i.toNat default).kind == 2&&decide (i + 1 + (↑(tailsN l i.toNat) : Int) < (↑(zapP l i.toNat (tailsN l i.toNat)).length : Int))) =true→0≤i + 1 + (↑(tailsN l i.toNat) : Int)∧(i + 1 + (↑(tailsN l i.toNat) : Int)).toNat < (List.map Page.dv (zapP l i.toNat (tailsN l i.toNat))).length) (Fa (by intro hg; (try simp only [bs] at hg); exact el_of (by omega) : ((l.getD i.toNat default).kind == 2&&decide (i + 1 + (↑(tailsN l i.toNat) : Int) < (↑(zapP l i.toNat (tailsN l i.toNat)).length : Int))) =true→(List.map Page.dv (zapP l i.toNat (tailsN l i.toNat)))[(i + 1 + (↑(tailsN l i.toNat) : Int)).toNat]? = some ((zapP l i.toNat (tailsN l i.toNat)).getD (i + 1 + (↑(tailsN l i.toNat) : Int)).toNat default).dv) (Ffb 51 ((l.getD i.toNat default).kind == 2&&decide (i + 1 + (↑(tailsN l i.toNat) : Int) < (↑(zapP l i.toNat (tailsN l i.toNat)).length : Int))&&((zapP l i.toNat (tailsN l i.toNat)).getD (i + 1 + (↑(tailsN l i.toNat) : Int)).toNat default).kind == 3) Fz)))))
theorem pfreeLoop : CSpec Tryz.prog (blkF Tryz.f21 0) (Tg.st ⟨tm 59 [(4,.d (.sl 0 [])),(5,int 0),(6,int (l.getD i.toNat default).kind),(7,.ow 41029),(8,int (i + 1))],[(41029,.arr 134 4 ((l.set i.toNat ⟨0,0,0,0⟩).map Page.dv))],60⟩) .nrm (Tg.st ⟨tm 59 [(4,.d (.sl 0 [])),(5,int 0),(7,.ow 41029)],[(41029,.arr 134 4 ((zapP l i.toNat (tailsN l i.toNat)).map Page.dv))],60⟩) := by
 have h := loop_ext_of (S := fun j => (pfreeL l i j).st) (tailsN l i.toNat) (by kernel_rfl) (fun j hj => pfreeRound l i hl hi hk j hj) (pfreeEnd l i hl hi hk)
 simp only [pfreeL,zapP_zero] at h
 rw [show i + 1 + ((0 : Nat) : Int) = i + 1 from by omega] at h
 exact h
end
theorem pageFree (l : List Page) (i : Int) (hl : l.length ≤ 1048576) (hi : 0 ≤ i ∧ i < l.length) (hk : (l.getD i.toNat default).kind = 2) : GSpec Tryz.prog 21 [pagesV l,int i] true (.tu [.ow 0,int 0]) [.arr 134 4 ((zapP l i.toNat (tailsN l i.toNat)).map Page.dv)] := by
 have hne : l ≠ [] := ne_of_len (by omega)
 exact gF [41029] Tryz.func21 [] (Fh 10033 [.els (List.map Page.dv (l.set i.toNat (Page.mk 0 0 0 0)))] (FlG 14 (!decide (i < 0)) Page.dv l (Ffb 16 (decide (i < 0)||decide ((↑l.length : Int)≤i)) (Fe 19 Page.dv l i (Ffb 27 ((l.getD i.toNat default).kind != 1&&(l.getD i.toNat default).kind != 2) (Fc 29 (@clonePagesN l ‹_› ‹_›) (Fa (by (simp only [List.length_map]; omega) : 0≤i∧i.toNat < (List.map Page.dv l).length) (Fa (by (simp only [List.length_map]; omega) : i.toNat < (List.map Page.dv l).length) (Fa (by rw [List.map_set]; rfl : (List.map Page.dv l).set i.toNat [dint 0,dint 0,dint 0,dint 0] =List.map Page.dv (l.set i.toNat (Page.mk 0 0 0 0))) (Fi 35 (i + 1) (Fu (@pfreeLoop l i ‹_› ‹_› ‹_›) (Fa (by exact flat_pages _ : FlatEls (List.map Page.dv (zapP l i.toNat (tailsN l i.toNat)))) Fz))))))))))))
theorem pageFreeTook (h : Heap) (x sp n : Int) (k : Nat) (hp : properB h = true) (h0 : 0 ≤ x) (hk : 1 ≤ k) (hik : x.toNat + k ≤ h.pages.length) (hf : freeK h.pages x.toNat k = true) :
  GSpec Tryz.prog 21 [pagesV (tookP h.pages x.toNat k ⟨2,sp,n,0⟩ ⟨3,sp,0,0⟩),int x] true (.tu [.ow 0,int 0]) [.arr 134 4 (h.pages.map Page.dv)] := by
 obtain ⟨t1,t2⟩ := took_back (proper_pt.1 hp).2.2.2.2.2 hk hik hf sp n
 have po := proper_ok hp
 have hlen : (tookP h.pages x.toNat k ⟨2,sp,n,0⟩ ⟨3,sp,0,0⟩).length = h.pages.length := by simp [tookP,wr]; omega
 have := pageFree (tookP h.pages x.toNat k ⟨2,sp,n,0⟩ ⟨3,sp,0,0⟩) x (by omega) (by omega) (by rw [tookP_get hk hik,if_pos rfl])
 rw [t1,t2] at this
 exact this
theorem lawGives (tape : List Int) (words space : Int) (h1 : tape.length ≤ 140737488355328) (hw : -9223372036854775808 ≤ words ∧ words ≤ 9223372036854775807) (hs : -9223372036854775808 ≤ space ∧ space ≤ 9223372036854775807) : GSpec Tryz.prog 3 [intsV tape,int words,int space] true (bool true) [] := by
 have hm := makeF_ok tape
 have hp := (makeF_pok tape).p
 have po := proper_ok hp
 have b1 : -200 < words.tmod 200 ∧ words.tmod 200 < 200 := by
  have h1 := Int.tmod_lt_of_pos words (b := 200) (by omega)
  have h2 := Int.lt_tmod_of_pos words (b := 200) (by omega)
  omega
 have ei1 : IntKind.i64.wrap (words.tmod 200 + 200) = words.tmod 200 + 200 := by rw [IntKind.wrap_i64]; omega
 by_cases c1 : 1 ≤ need (makeF tape).heap.conf (5 + (words.tmod 200 + 200) % 200) ∧ 0 ≤ first (makeF tape).heap.pages (need (makeF tape).heap.conf (5 + (words.tmod 200 + 200) % 200))
 ·have ff := first_free c1.2
  have ei3 := and_i64_1 space
  have po := proper_ok hp
  have e8 := took_inUse (by omega) (by omega) ff.2.2 (space % 2) (5 + (words.tmod 200 + 200) % 200)
  have tl : (tookP (makeF tape).heap.pages (first (makeF tape).heap.pages (need (makeF tape).heap.conf (5 + (words.tmod 200 + 200) % 200))).toNat (need (makeF tape).heap.conf (5 + (words.tmod 200 + 200) % 200)).toNat ⟨2,space % 2,5 + (words.tmod 200 + 200) % 200,0⟩ ⟨3,space % 2,0,0⟩).length = (makeF tape).heap.pages.length := tookP_len' _ _ (by omega)
  have iu := inUseN_range (makeF tape).heap.pages
  have q8 : IntKind.i64.wrap ((inUse (makeF tape).heap.pages : Int) + need (makeF tape).heap.conf (5 + (words.tmod 200 + 200) % 200)) = inUse (makeF tape).heap.pages + need (makeF tape).heap.conf (5 + (words.tmod 200 + 200) % 200) := by rw [IntKind.wrap_i64]; omega
  exact gF [] Tryz.func3 [false,false,false,false,false,false,false,false,false,false,false,false,false,false,false,false,false,false,true] (Fc 16 (@madeMake tape ‹_›) (Fa (by decide : (200 :Int) ≠ 0) (Fi 20 (words.tmod (200 :Int) + 200) (Fg 21 (by exact Int.tmod_eq_emod_of_nonneg (by omega) : (words.tmod (200 :Int) + 200).tmod 200 =(words.tmod (200 :Int) + 200) % 200) (Fa (by decide : (200 :Int) ≠ 0) (Fi 22 (5 + (words.tmod (200 :Int) + 200) % 200) (Fc 26 (@pageNeed ((makeF tape).heap.conf) (5 + (words.tmod (200 :Int) + 200) % 200)) (Fc 30 (@pageFirst ((makeF tape).heap.pages) (need (makeF tape).heap.conf (5 + (words.tmod (200 :Int) + 200) % 200)) (by omega)) (Ffb 36 (decide (need (makeF tape).heap.conf (5 + (words.tmod (200 :Int) + 200) % 200) < 1)||decide (first (makeF tape).heap.pages (need (makeF tape).heap.conf (5 + (words.tmod (200 :Int) + 200) % 200)) < 0)) (Fg 53 (by assumption : bits BinOp.and IntKind.i64 space 1 =space % 2) (Fc 55 (@pageLargeN ((makeF tape).heap.conf) ((makeF tape).heap.pages) (first (makeF tape).heap.pages (need (makeF tape).heap.conf (5 + (words.tmod (200 :Int) + 200) % 200))) (space % 2) (5 + (words.tmod (200 :Int) + 200) % 200) (by omega) (by omega) (by omega) (by omega) (by simp only [bs, *,true_or,or_true,true_and,and_true,not_true_eq_false,not_false_eq_true,Bool.true_eq_false,Bool.false_eq_true])) (Fc 61 (@pageFreeTook ((makeF tape).heap) (first (makeF tape).heap.pages (need (makeF tape).heap.conf (5 + (words.tmod (200 :Int) + 200) % 200))) (space % 2) (5 + (words.tmod (200 :Int) + 200) % 200) ((need (makeF tape).heap.conf (5 + (words.tmod (200 :Int) + 200) % 200)).toNat) ‹_› (by omega) (by omega) (by omega) (by simp only [bs, *,true_or,or_true,true_and,and_true,not_true_eq_false,not_false_eq_true,Bool.true_eq_false,Bool.false_eq_true])) (Fc 64 (@lawAwake) (FcG 75 (true&&(0 :Int) == 0&&(0 :Int) == 0) (fun hg => by (try simp only [bs] at hg); exact @pageInUse (tookP (makeF tape).heap.pages (first (makeF tape).heap.pages (need (makeF tape).heap.conf (5 + (words.tmod (200 :Int) + 200) % 200))).toNat (need (makeF tape).heap.conf (5 + (words.tmod (200 :Int) + 200) % 200)).toNat (Page.mk 2 (space % 2) (5 + (words.tmod (200 :Int) + 200) % 200) 0) (Page.mk 3 (space % 2) 0 0)) (by (try simp only [bs] at hg); omega)) (FcG 78 (true&&(0 :Int) == 0&&(0 :Int) == 0) (fun hg => by (try simp only [bs] at hg); exact @pageInUse ((makeF tape).heap.pages) (by (try simp only [bs] at hg); omega)) (FiG 80 (true&&(0 :Int) == 0&&(0 :Int) == 0) ((↑(inUse (makeF tape).heap.pages) : Int) + need (makeF tape).heap.conf (5 + (words.tmod (200 :Int) + 200) % 200)) (FcG 87 (true&&(0 :Int) == 0&&(0 :Int) == 0&&(↑(inUse (tookP (makeF tape).heap.pages (first (makeF tape).heap.pages (need (makeF tape).heap.conf (5 + (words.tmod (200 :Int) + 200) % 200))).toNat (need (makeF tape).heap.conf (5 + (words.tmod (200 :Int) + 200) % 200)).toNat (Page.mk 2 (space % 2) (5 + (words.tmod (200 :Int) + 200) % 200) 0) (Page.mk 3 (space % 2) 0 0))) : Int) == (↑(inUse (makeF tape).heap.pages) : Int) + need (makeF tape).heap.conf (5 + (words.tmod (200 :Int) + 200) % 200)) (fun hg => by (try simp only [bs] at hg); exact @refSamePages ((makeF tape).heap.pages) ((makeF tape).heap.pages) (by (try simp only [bs] at hg); omega)) (Fa (by grind [] : ((↑(inUse (tookP (makeF tape).heap.pages (first (makeF tape).heap.pages (need (makeF tape).heap.conf (5 + (words.tmod (200 :Int) + 200) % 200))).toNat (need (makeF tape).heap.conf (5 + (words.tmod (200 :Int) + 200) % 200)).toNat (Page.mk 2 (space % 2) (5 + (words.tmod (200 :Int) + 200) % 200) 0) (Page.mk 3 (space % 2) 0 0))) : Int) == (↑(inUse (makeF tape).heap.pages) : Int) + need (makeF tape).heap.conf (5 + (words.tmod (200 :Int) + 200) % 200)&&decide ((makeF tape).heap.pages =(makeF tape).heap.pages))=true) Fz))))))))))))))))))
 ·exact gF [] Tryz.func3 [false,false,false,false,false,false,false,false,true] (Fc 16 (@madeMake tape ‹_›) (Fa (by decide : (200 :Int) ≠ 0) (Fi 20 (words.tmod (200 :Int) + 200) (Fg 21 (by exact Int.tmod_eq_emod_of_nonneg (by omega) : (words.tmod (200 :Int) + 200).tmod 200 =(words.tmod (200 :Int) + 200) % 200) (Fa (by decide : (200 :Int) ≠ 0) (Fi 22 (5 + (words.tmod (200 :Int) + 200) % 200) (Fc 26 (@pageNeed ((makeF tape).heap.conf) (5 + (words.tmod (200 :Int) + 200) % 200)) (Fc 30 (@pageFirst ((makeF tape).heap.pages) (need (makeF tape).heap.conf (5 + (words.tmod (200 :Int) + 200) % 200)) (by omega)) (Ftb 36 (decide (need (makeF tape).heap.conf (5 + (words.tmod (200 :Int) + 200) % 200) < 1)||decide (first (makeF tape).heap.pages (need (makeF tape).heap.conf (5 + (words.tmod (200 :Int) + 200) % 200)) < 0)) (Fc 37 (@lawAwake) (FcG 43 true (fun hg => by (try simp only [bs] at hg); exact @refNeed ((makeF tape).heap.conf) (5 + (words.tmod (200 :Int) + 200) % 200)) (Fa (by simp only [bs, *,true_or,or_true,true_and,and_true,not_true_eq_false,not_false_eq_true,Bool.true_eq_false,Bool.false_eq_true] : (need (makeF tape).heap.conf (5 + (words.tmod (200 :Int) + 200) % 200) == need (makeF tape).heap.conf (5 + (words.tmod (200 :Int) + 200) % 200))=true) Fz))))))))))))
end Go.Proofs.YtolnblaadleknaaGreat
namespace Go.Proofs.YtolnblaadleknaaGreat
open Go.Sx Go.RowKit
theorem pageGives_lifted (os : Os) (started : os.Started) (H : Type) (enc : TypeId × Value → H) :
  ReturnsInHanded {} Tryz.checked os 3 .any (Rows.pageGivesSpec.pre6 enc Tryz.prog Tryz.f3 Rows.pageGivesRow.domain false) (Rows.pageGivesSpec.post enc Tryz.prog Tryz.f3 false true false false) := by
 refine law_of_gspec (C := Tryz.checked) (tb := 4) 5 own0 started (by kernel_rfl) Tryz.func3
  (ChangeSpec.witness6 (enc := enc) (C := Tryz.checked) false ⟨#[],#[.slice none 0 0,.int .i64 0,.int .i64 0],[]⟩ 8 (by kernel_rfl) (by kernel_rfl) (by kernel_rfl) (by kernel_rfl))
  laidOut0 (by kernel_rfl) (by kernel_rfl) (by kernel_rfl) (by kernel_rfl) rfl (fun ds hd => ?_) (fun ls hl h => ?_)
 ·match ds,hd with
  | [a0,a1,a2],_ => rfl
 ·match ls,hl with
  | [l0,l1,l2],_ =>
   obtain ⟨tape,rfl,htape⟩ := shp_ints (n := 3) (h 0 22 l0 (by kernel_rfl) rfl)
   obtain ⟨words,rfl,hwords⟩ := shp_int (n := 4) (h 1 3 l1 (by kernel_rfl) rfl)
   obtain ⟨space,rfl,hspace⟩ := shp_int (n := 4) (h 2 3 l2 (by kernel_rfl) rfl)
   have e : zipAv Tryz.prog Tryz.f3.params.toList [[.sl 1 (tape.map idv)],[dint words],[dint space]] = [intsV tape,int words,int space] := by kernel_rfl
   exact ⟨true,e ▸ lawGives tape words space htape (range_i64 hwords) (range_i64 hspace)⟩
theorem pageGives_f1 : (Rows.pageGivesRow.inPlace == Tryz.prog.inPlace 3) = true := by kernel_rfl
theorem pageGives_f2 : (Rows.pageGivesRow.unfollowed == Tryz.prog.unfollowed 3) = true := by kernel_rfl
theorem pageGives_f3 : (Rows.pageGivesRow.recurses == Tryz.prog.recurses 3) = true := by kernel_rfl
theorem pageGives_f4 : (Rows.pageGivesRow.named == Tryz.prog.varsNamed 3) = true := by kernel_rfl
theorem pageGives_closed : joinedFacts Tryz.prog 3 Tryz.f3 Rows.pageGivesSpec Rows.pageGivesRow = true := by
 unfold joinedFacts
 rw [pageGives_f1,pageGives_f2,pageGives_f3,pageGives_f4]
 kernel_rfl
theorem pageGives_holds : Rows.PageGivesSaid :=
 OpenClaim.holds_of_wide 3 Tryz.f3 rfl rfl rfl rfl rfl rfl rfl ⟨rfl,rfl,rfl,rfl,rfl⟩ rfl rfl rfl rfl rfl (by kernel_rfl) Tryz.func3 pageGives_closed
  (of_decide_eq_true (by kernel_rfl)) (by unfold Func.isWrapper; first | (rw [if_pos (by decide +kernel)]; kernel_rfl) | (rw [if_neg (by decide +kernel)]; exact ⟨rfl,rfl⟩))
  (fun os started H enc _ => pageGives_lifted os started H enc)
end Go.Proofs.YtolnblaadleknaaGreat
