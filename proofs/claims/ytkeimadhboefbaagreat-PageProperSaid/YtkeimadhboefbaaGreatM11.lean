/-
 PageProper: the statement returns true, whatever the arguments.
 Conditions: none.
-/
import Derived.Test.YtkeimadhboefbaaGreatM10
set_option maxRecDepth 100000
set_option linter.all false
namespace Go.Proofs.YtkeimadhboefbaaGreat
open Go.Sx
structure MOk (w : WorldM) (n : Nat) : Prop where
 words : WOk w.heap.words
 hv : validB w.heap.conf = true
 pl : (w.heap.pages.length : Int) = w.heap.conf.pg
 L : (w.heap.words.length : Int) = w.heap.conf.pw * w.heap.conf.pg
 pins : ∀ j,j < w.heap.pages.length → 0 ≤ (w.heap.pages.getD j default).pins ∧ (w.heap.pages.getD j default).pins ≤ n
 us : ∀ j,j < w.heap.pages.length → 0 ≤ (w.heap.pages.getD j default).used ∧ (w.heap.pages.getD j default).used ≤ 256
 strong : ULe w.strong
 weak : ULe w.weak
 sl : w.strong.length ≤ n
 wl : w.weak.length ≤ n
theorem MOk.wm {w : WorldM} {n : Nat} (h : MOk w n) (hn : n ≤ 1000000) : WMok w := ⟨h.words,h.strong,h.weak,Nat.le_trans h.sl (by omega),Nat.le_trans h.wl (by omega)⟩
def WorldM.dup (w : WorldM) (t : Tape) : WorldM := ⟨w.heap,w.strong ++ [w.pick t],w.weak⟩
def WorldM.step (w : WorldM) (t : Tape) : WorldM :=
 if t.next 12 ≤ 3 then w.put ((t.step 12).header w.heap.conf)
 else if t.next 12 ≤ 6 then w.link (t.step 12)
 else if t.next 12 ≤ 7 then w.pin (t.step 12)
 else if t.next 12 ≤ 9 then w.drop (t.step 12)
 else if t.next 12 ≤ 10 then w.collect
 else w.dup (t.step 12)
def WorldM.stepT (w : WorldM) (t : Tape) : Tape :=
 if t.next 12 ≤ 3 then (t.step 12).headerT w.heap.conf
 else if t.next 12 ≤ 6 then w.linkT (t.step 12)
 else if t.next 12 ≤ 7 then w.pinT (t.step 12)
 else if t.next 12 ≤ 9 then w.dropT (t.step 12)
 else if t.next 12 ≤ 10 then t.step 12
 else w.pickT (t.step 12)
theorem header_map (t : Tape) (c : Conf) : 0 ≤ (t.header c).map ∧ (t.header c).map ≤ 4294967295 := by
 have h : ∀ n : Int,0 ≤ ((hdr1T t c).step 4).next (2 ^ (min (min n 32) 12).toNat) ∧ ((hdr1T t c).step 4).next (2 ^ (min (min n 32) 12).toNat) ≤ 4294967295 := by
  intro n
  have p := pow12 (n := min (min n 32) 12) (by omega)
  have r := next_range ((hdr1T t c).step 4) (n := 2 ^ (min (min n 32) 12).toNat) p.1
  omega
 unfold Tape.header
 split
 ·simp
 ·split
  ·simp
  ·exact h _
theorem sp_next12 (t : Tape) (d : Int) (hd : t.next 12 = d) (ht : TOk t) : LentSpec Tryz.prog 21 [.pt 0 0 0,int 12] [t.b] (int d) [(t.step 12).b] := by
 rw [← hd]
 exact tapeNext t 12 ht (by decide) (by decide)
section
variable (w : WorldM) (t : Tape) (n : Nat) (hm : MOk w n) (hn : n ≤ 1000000) (ht : TOk t) (ha : t.at' ≤ 900000)
include hm hn ht ha
theorem worldStep : LentSpec Tryz.prog 20 [w.av,.pt 0 0 0] [t.b] (w.step t).av [(w.stepT t).b] := by
 have hw := hm.wm hn
 have h1 := hm.words
 have h2 := hm.strong
 have h3 := hm.weak
 have h4 := hm.sl
 have h5 := hm.wl
 have s1 := step_at (t := t) 12
 have k1 := tok_of ht s1.2.2 (by omega) (by omega)
 have n1 := next_range t (n := 12) (by decide)
 have hmap := header_map (t.step 12) w.heap.conf
 have hv := hm.hv
 have hpl := hm.pl
 have hpn : ∀ j,j < w.heap.pages.length → -1048576 ≤ (w.heap.pages.getD j default).pins ∧ (w.heap.pages.getD j default).pins ≤ 4294967296 := fun j hj => by
  have := hm.pins j hj; omega
 have hd : t.next 12 = 0 ∨ t.next 12 = 1 ∨ t.next 12 = 2 ∨ t.next 12 = 3 ∨ t.next 12 = 4 ∨ t.next 12 = 5 ∨ t.next 12 = 6 ∨ t.next 12 = 7 ∨ t.next 12 = 8 ∨ t.next 12 = 9 ∨ t.next 12 = 10 ∨ t.next 12 = 11 := by omega
 rcases hd with hd | hd | hd | hd | hd | hd | hd | hd | hd | hd | hd | hd
 ·have e7 : w.step t = w.put ((t.step 12).header w.heap.conf) := by simp [WorldM.step,hd]
  have e8 : w.stepT t = (t.step 12).headerT w.heap.conf := by simp [WorldM.stepT,hd]
  rw [e7,e8]
  exact lE [(6,[.lent (int 0) [(t.step 12).b]]),(17,[.lent ((t.step 12).header w.heap.conf).av [((t.step 12).headerT w.heap.conf).b]]),(18,[.call false (w.put ((t.step 12).header w.heap.conf)).av []])] [] Tryz.func20 [] (an (@sp_next12 t (0) ‹_› ‹_›) (an (@tapeHeader (t.step 12) w.heap.conf ‹_› (by omega) ‹_›) (@worldPut w ((t.step 12).header w.heap.conf) ‹_› ‹_›)))
 ·have e7 : w.step t = w.put ((t.step 12).header w.heap.conf) := by simp [WorldM.step,hd]
  have e8 : w.stepT t = (t.step 12).headerT w.heap.conf := by simp [WorldM.stepT,hd]
  rw [e7,e8]
  exact lE [(6,[.lent (int 1) [(t.step 12).b]]),(17,[.lent ((t.step 12).header w.heap.conf).av [((t.step 12).headerT w.heap.conf).b]]),(18,[.call false (w.put ((t.step 12).header w.heap.conf)).av []])] [] Tryz.func20 [] (an (@sp_next12 t (1) ‹_› ‹_›) (an (@tapeHeader (t.step 12) w.heap.conf ‹_› (by omega) ‹_›) (@worldPut w ((t.step 12).header w.heap.conf) ‹_› ‹_›)))
 ·have e7 : w.step t = w.put ((t.step 12).header w.heap.conf) := by simp [WorldM.step,hd]
  have e8 : w.stepT t = (t.step 12).headerT w.heap.conf := by simp [WorldM.stepT,hd]
  rw [e7,e8]
  exact lE [(6,[.lent (int 2) [(t.step 12).b]]),(17,[.lent ((t.step 12).header w.heap.conf).av [((t.step 12).headerT w.heap.conf).b]]),(18,[.call false (w.put ((t.step 12).header w.heap.conf)).av []])] [] Tryz.func20 [] (an (@sp_next12 t (2) ‹_› ‹_›) (an (@tapeHeader (t.step 12) w.heap.conf ‹_› (by omega) ‹_›) (@worldPut w ((t.step 12).header w.heap.conf) ‹_› ‹_›)))
 ·have e7 : w.step t = w.put ((t.step 12).header w.heap.conf) := by simp [WorldM.step,hd]
  have e8 : w.stepT t = (t.step 12).headerT w.heap.conf := by simp [WorldM.stepT,hd]
  rw [e7,e8]
  exact lE [(6,[.lent (int 3) [(t.step 12).b]]),(17,[.lent ((t.step 12).header w.heap.conf).av [((t.step 12).headerT w.heap.conf).b]]),(18,[.call false (w.put ((t.step 12).header w.heap.conf)).av []])] [] Tryz.func20 [] (an (@sp_next12 t (3) ‹_› ‹_›) (an (@tapeHeader (t.step 12) w.heap.conf ‹_› (by omega) ‹_›) (@worldPut w ((t.step 12).header w.heap.conf) ‹_› ‹_›)))
 ·have e7 : w.step t = w.link (t.step 12) := by simp [WorldM.step,hd]
  have e8 : w.stepT t = w.linkT (t.step 12) := by simp [WorldM.stepT,hd]
  rw [e7,e8]
  exact lE [(6,[.lent (int 4) [(t.step 12).b]]),(25,[.lent (w.link (t.step 12)).av [(w.linkT (t.step 12)).b]])] [] Tryz.func20 [] (an (@sp_next12 t (4) ‹_› ‹_›) (@worldLink w (t.step 12) ‹_› ‹_› (by omega)))
 ·have e7 : w.step t = w.link (t.step 12) := by simp [WorldM.step,hd]
  have e8 : w.stepT t = w.linkT (t.step 12) := by simp [WorldM.stepT,hd]
  rw [e7,e8]
  exact lE [(6,[.lent (int 5) [(t.step 12).b]]),(25,[.lent (w.link (t.step 12)).av [(w.linkT (t.step 12)).b]])] [] Tryz.func20 [] (an (@sp_next12 t (5) ‹_› ‹_›) (@worldLink w (t.step 12) ‹_› ‹_› (by omega)))
 ·have e7 : w.step t = w.link (t.step 12) := by simp [WorldM.step,hd]
  have e8 : w.stepT t = w.linkT (t.step 12) := by simp [WorldM.stepT,hd]
  rw [e7,e8]
  exact lE [(6,[.lent (int 6) [(t.step 12).b]]),(25,[.lent (w.link (t.step 12)).av [(w.linkT (t.step 12)).b]])] [] Tryz.func20 [] (an (@sp_next12 t (6) ‹_› ‹_›) (@worldLink w (t.step 12) ‹_› ‹_› (by omega)))
 ·have e7 : w.step t = w.pin (t.step 12) := by simp [WorldM.step,hd]
  have e8 : w.stepT t = w.pinT (t.step 12) := by simp [WorldM.stepT,hd]
  rw [e7,e8]
  exact lE [(6,[.lent (int 7) [(t.step 12).b]]),(30,[.lent (w.pin (t.step 12)).av [(w.pinT (t.step 12)).b]])] [] Tryz.func20 [] (an (@sp_next12 t (7) ‹_› ‹_›) (@worldPin w (t.step 12) ‹_› ‹_› (by omega) ‹_› (by omega) ‹_›))
 ·have e7 : w.step t = w.drop (t.step 12) := by simp [WorldM.step,hd]
  have e8 : w.stepT t = w.dropT (t.step 12) := by simp [WorldM.stepT,hd]
  rw [e7,e8]
  exact lE [(6,[.lent (int 8) [(t.step 12).b]]),(36,[.lent (w.drop (t.step 12)).av [(w.dropT (t.step 12)).b]])] [] Tryz.func20 [] (an (@sp_next12 t (8) ‹_› ‹_›) (@worldDrop w (t.step 12) ‹_› ‹_› (by omega)))
 ·have e7 : w.step t = w.drop (t.step 12) := by simp [WorldM.step,hd]
  have e8 : w.stepT t = w.dropT (t.step 12) := by simp [WorldM.stepT,hd]
  rw [e7,e8]
  exact lE [(6,[.lent (int 9) [(t.step 12).b]]),(36,[.lent (w.drop (t.step 12)).av [(w.dropT (t.step 12)).b]])] [] Tryz.func20 [] (an (@sp_next12 t (9) ‹_› ‹_›) (@worldDrop w (t.step 12) ‹_› ‹_› (by omega)))
 ·have e7 : w.step t = w.collect := by simp [WorldM.step,hd]
  have e8 : w.stepT t = t.step 12 := by simp [WorldM.stepT,hd]
  rw [e7,e8]
  exact lE [(6,[.lent (int 10) [(t.step 12).b]]),(40,[.call false w.collect.av []])] [] Tryz.func20 [] (an (@sp_next12 t (10) ‹_› ‹_›) (@worldCollect w ‹_› (by omega) (by omega) ‹_› ‹_›))
 ·have e7 : w.step t = w.dup (t.step 12) := by simp [WorldM.step,hd]
  have e8 : w.stepT t = w.pickT (t.step 12) := by simp [WorldM.stepT,hd]
  rw [e7,e8]
  exact lE [(6,[.lent (int 11) [(t.step 12).b]]),(41,[.els (List.map wdv [])]),(44,[.els (List.map wdv w.strong)]),(47,[.lent (u64 (w.pick (t.step 12))) [(w.pickT (t.step 12)).b]]),(48,[.els (List.map wdv [w.pick (t.step 12)])]),(49,[.els (List.map wdv (w.strong ++ [w.pick (t.step 12)]))])] [] Tryz.func20 [] (an (@sp_next12 t (11) ‹_› ‹_›) (an (rf (List.map wdv [])) (an (by (simp [WorldM.dup, *]; omega) : (List.map wdv []).length + (List.map wdv w.strong).length ≤ 2 ^ 30) (an (rf (List.map wdv w.strong)) (an (@worldPick w (t.step 12) ‹_› ‹_› (by omega)) (an (rf (List.map wdv [w.pick (t.step 12)])) (an (by (simp [WorldM.dup, *]; omega) : (List.map wdv w.strong).length + (List.map wdv [w.pick (t.step 12)]).length ≤ 2 ^ 30) (by simp [WorldM.dup,List.map_take,List.map_drop,List.map_set,List.map_append,wdv,idv] : List.map wdv w.strong ++ List.map wdv [w.pick (t.step 12)] = List.map wdv (w.strong ++ [w.pick (t.step 12)])))))))))
end
theorem wok_freeWs {pw s : Int} {l : List Page} {ws : List Int} (h : WOk ws) : ∀ i,WOk (freeWs pw s l ws i)
 | 0 => h
 | i + 1 => by
  have ih := wok_freeWs (pw := pw) (s := s) (l := l) h i
  unfold freeWs
  split
  ·intro x hx
   simp only [spl,List.mem_append,List.mem_replicate] at hx
   rcases hx with (hx | hx) | hx
   ·exact ih x (List.mem_of_mem_take hx)
   ·omega
   ·exact ih x (List.mem_of_mem_drop hx)
  ·exact ih
theorem pt_free {c : Conf} {l : List Page} (h : PT c l) (s : Int) : PT c (l.map (freeQ s)) := by
 refine h.mapPages _ ?_ ?_ ?_ ?_
 ·intro p hp
  unfold freeQ
  split
  ·exact ⟨by simp,by simp,by simp,by simp,by simp,by simp⟩
  ·exact hp
 ·intro p hp hk
  unfold freeQ at hk ⊢
  split at hk
  ·simp at hk
  ·rename_i hc; rw [if_neg hc]; exact ⟨hk,rfl⟩
 ·intro p hp hk
  unfold freeQ at hk
  split at hk
  ·simp at hk
  ·exact hk
 ·intro p q hp hq h2 h3 he
  by_cases hg : p.space = s
  ·have e1 : freeQ s p = ⟨0,0,0,0⟩ := by rw [freeQ,if_pos ⟨by omega,hg⟩]
   have e2 : freeQ s q = ⟨0,0,0,0⟩ := by rw [freeQ,if_pos ⟨by omega,by omega⟩]
   rw [e1,e2]
   simp
  ·have e1 : freeQ s p = p := by rw [freeQ,if_neg (by unfold goneB; omega)]
   have e2 : freeQ s q = q := by rw [freeQ,if_neg (by unfold goneB; omega)]
   rw [e1,e2]
   exact ⟨⟨fun _ => h3,fun _ => h2⟩,fun _ => he⟩
theorem weakO_range {w : Work} (hw : WkOk w) (k : List Int) : ∀ i,∀ x ∈ weakO w k i,0 ≤ x ∧ x ≤ 4294967296
 | 0,x,hx => by simp [weakO] at hx
 | i + 1,x,hx => by
  simp only [weakO,List.mem_append,List.mem_singleton] at hx
  rcases hx with hx | rfl
  ·exact weakO_range hw k i x hx
  ·have h := weakS_is w k i
   unfold weakTo
   split
   ·omega
   ·unfold afterF
    rw [h.2.2.2.1,h.1]
    split
    ·rename_i hq
     have := hw.q _ hq
     omega
    ·have := targetA_range (loadA_range hw.words (k.getD i default)).1
     omega
structure ColOk (B : Int) (h : Heap) (s k : List Int) : Prop where
 p0 : properB h = true
 p1 : properB (collectF h s k).1 = true
 w : WOk (collectF h s k).1.words
 n : ∀ p ∈ (collectF h s k).1.pages,p.pins ≤ B
 c : (collectF h s k).1.conf = h.conf
 r : ∀ x ∈ (collectF h s k).2.1,0 ≤ x ∧ x ≤ 4294967296
 rl : (collectF h s k).2.1.length = s.length
 v : ∀ x ∈ (collectF h s k).2.2.1,0 ≤ x ∧ x ≤ 4294967296
 vl : (collectF h s k).2.2.1.length = k.length
theorem collect_ok {B : Int} (hB : 0 ≤ B) {h : Heap} {s k : List Int} (hw : WOk h.words) (hb : ∀ p ∈ h.pages,p.pins ≤ B) (e : (collectF h s k).2.2.2.2 = 0) : ColOk B h s k := by
 by_cases hp : properB h = true
 ·by_cases hr : refersF h s = true ∧ refersF h k = true
  ·by_cases e1 : (rootsF (beginW h) s).2.2 = 0
   ·by_cases e2 : (allF (rootsF (beginW h) s).1).2 = 0
    ·have e7 : collectF h s k = (endH (cW5 h s k),(rootsF (beginW h) s).2.1,weakO (cW2 h s) k k.length,(cW5 h s k).rep,0) := by rw [collectF,if_pos hp,if_pos hr,if_pos e1,if_pos e2]
     have ho := rootsF_ok (roots := s) (begin_ok hw hp) (begin_inv hp) e1
     have c := cOk h s k hw hp e1 e2
     have c5 := cOk5 h s k hw hp e1 e2
     have tb := cW2_tab hB hw hp hb e1 e2
     obtain ⟨g1,g2,g3,g4,g5⟩ := c.h4
     have hsp := c.w2.sp
     have hc2 : (cW2 h s).heap.conf = h.conf := c.x2.c
     have hpl := c.w2.pl
     rw [hc2] at hpl
     have hL := c.i4.L
     rw [g1] at hL
     have hfl := freeWs_len (s := (cW4 h s k).heap.space) c5.2.2.2.1 (cW4 h s k).heap.pages.length (Nat.le_refl _)
     refine ⟨hp, ?_, ?_, ?_, ?_, ?_, ?_, ?_, ?_⟩
     ·rw [e7,proper_pt]
      simp only [endH,cW5,freeW,g1,g2,g3,g4]
      have hptf := pt_free (s := (cW2 h s).heap.space) tb.pt
      rw [hc2] at hptf
      refine ⟨(proper_ok hp).1, ?_,by simp only [List.length_map]; exact hpl,by omega, ?_,hptf⟩
      ·rw [g1,g2,g3] at hfl
       rw [hfl]
       exact hL
      ·split
       ·rename_i ht
        have hm := lastT_mem (w := cW2 h s) ht
        have t1 := c.w2.tk _ hm
        have t2 := tb.tk _ hm
        refine Or.inr ⟨t1.1,by simp only [List.length_map]; exact t1.2.1, ?_⟩
        have hx : (List.map (freeQ (cW2 h s).heap.space) (cW2 h s).heap.pages).getD (lastT (cW2 h s)).toNat default = (cW2 h s).heap.pages.getD (lastT (cW2 h s)).toNat default := by
         have hi : (lastT (cW2 h s)).toNat < (cW2 h s).heap.pages.length := by omega
         have : (List.map (freeQ (cW2 h s).heap.space) (cW2 h s).heap.pages).getD (lastT (cW2 h s)).toNat default = freeQ (cW2 h s).heap.space ((cW2 h s).heap.pages.getD (lastT (cW2 h s)).toNat default) := by simp [List.getD_eq_getElem?_getD,hi]
         rw [this,freeQ,if_neg (by unfold goneB; omega)]
        show ((List.map (freeQ (cW2 h s).heap.space) (cW2 h s).heap.pages).getD (lastT (cW2 h s)).toNat default).kind = 1
        rw [hx]
        exact t1.2.2
       ·exact Or.inl rfl
     ·rw [e7]
      exact wok_freeWs c.f4.words _
     ·rw [e7]
      intro p hp'
      simp only [endH,cW5,freeW,g2,List.mem_map] at hp'
      obtain ⟨q,hq,rfl⟩ := hp'
      unfold freeQ
      split
      ·exact hB
      ·exact tb.pin q hq
     ·rw [e7]
      exact g1
     ·rw [e7]
      exact ho.2.2.2.1
     ·rw [e7]
      exact ho.2.2.2.2
     ·rw [e7]
      exact weakO_range c.w2 k _
     ·rw [e7]
      exact weakO_len _ _ _
    ·rw [collectF,if_pos hp,if_pos hr,if_pos e1,if_neg e2] at e
     exact absurd e e2
   ·rw [collectF,if_pos hp,if_pos hr,if_neg e1] at e
    exact absurd e e1
  ·rw [collectF,if_pos hp,if_neg hr] at e
   simp at e
 ·rw [collectF,if_neg hp] at e
  simp at e
theorem proper_pins {h : Heap} (hp : properB h = true) : ∀ p ∈ h.pages,0 ≤ p.pins := by
 rw [proper_pt] at hp
 intro p hp'
 obtain ⟨i,hi,e⟩ := List.mem_iff_getElem.1 hp'
 have := (hp.2.2.2.2.2.b i hi).n.1
 rwa [show h.pages.getD i default = p by rw [List.getD_eq_getElem?_getD,List.getElem?_eq_getElem hi,e]; rfl] at this
theorem MOk.of_proper {w : WorldM} {n : Nat} (hp : properB w.heap = true) (hw : WOk w.heap.words) (hn : ∀ p ∈ w.heap.pages,p.pins ≤ n) (h1 : ULe w.strong) (h2 : ULe w.weak) (h3 : w.strong.length ≤ n) (h4 : w.weak.length ≤ n) : MOk w n := by
 have po := proper_ok hp
 exact ⟨hw,po.1,po.2.2.2.2.2.2.2.1,po.2.2.2.2.2.1,fun j hj => ⟨proper_pins hp _ (getD_in hj),hn _ (getD_in hj)⟩,fun j hj => by have := proper_page hp hj; omega,h1,h2,h3,h4⟩
theorem MOk.pin_mem {w : WorldM} {n : Nat} (h : MOk w n) : ∀ p ∈ w.heap.pages,0 ≤ p.pins ∧ p.pins ≤ n := by
 intro p hp
 obtain ⟨i,hi,e⟩ := List.mem_iff_getElem.1 hp
 have := h.pins i hi
 rwa [show w.heap.pages.getD i default = p by rw [List.getD_eq_getElem?_getD,List.getElem?_eq_getElem hi,e]; rfl] at this
theorem MOk.mono {w : WorldM} {n : Nat} (h : MOk w n) : MOk w (n + 1) :=
 ⟨h.words,h.hv,h.pl,h.L,fun j hj => by have := h.pins j hj; omega,h.us,h.strong,h.weak,by have := h.sl; omega,by have := h.wl; omega⟩
theorem ule_app {l : List Int} (h : ULe l) {x : Int} (hx : 0 ≤ x ∧ x ≤ 18446744073709551615) : ULe (l ++ [x]) := by
 intro y hy
 simp only [List.mem_append,List.mem_singleton] at hy
 rcases hy with hy | rfl
 ·exact h y hy
 ·exact hx
theorem MOk.put {w : WorldM} {n : Nat} (h : MOk w n) {hd : Header} (hm : 0 ≤ hd.map ∧ hd.map ≤ 4294967295) : MOk (w.put hd) (n + 1) := by
 unfold WorldM.put
 split
 ·rename_i e
  obtain ⟨k1,k2,k3,k4,k5,k6,k7,k8⟩ := new7_ok h.words hm e
  have po := proper_ok k1
  have hl := h.sl
  have hl2 := h.wl
  have z := (asksH_ok k2).2.1
  have a1 := k3.lo
  have a2 := k3.hi
  refine MOk.of_proper k7 k8 ?_ (ule_app h.strong (by rw [k5]; omega)) h.weak (by simp; omega) (by simp only; omega)
  intro p hp
  simp only at hp
  rw [k6] at hp
  simp only at hp
  rcases k3.pin p hp with q | ⟨q,q1,q2⟩
  ·omega
  ·have := h.pin_mem q q1; omega
 ·exact h.mono
theorem MOk.link {w : WorldM} {n : Nat} (h : MOk w n) (hn : n ≤ 1000000) (t : Tape) : MOk (w.link t) (n + 1) := by
 unfold WorldM.link
 split
 ·rename_i hc
  have g := getH_ok hc.1
  have hw := h.wm hn
  have hlen : 1 ≤ (getH w.heap (w.pick t)).1.length := by omega
  have n1 := next_range (w.pickT (w.pickT t)) (n := 8) (by decide)
  have hi : 0 ≤ linkI w t ∧ linkI w t < (getH w.heap (w.pick t)).1.length := by
   unfold linkI
   rw [Int.tmod_eq_emod_of_nonneg n1.1]
   exact ⟨Int.emod_nonneg _ (by omega),Int.emod_lt_of_pos _ (by omega)⟩
  have hv : 0 ≤ linkV w t ∧ linkV w t ≤ 18446744073709551615 := by
   unfold linkV
   split
   ·exact pick_range hw _
   ·have := next_range ((w.pickT (w.pickT t)).step 8) (n := 1048576) (by decide)
    omega
  obtain ⟨s1,s2,s3⟩ := setField_ok h.words hv hc.1 hi
  have hl := h.sl
  have hl2 := h.wl
  refine MOk.of_proper s2 s3 ?_ h.strong h.weak (by simp only; omega) (by simp only; omega)
  intro p hp
  simp only at hp
  rw [s1] at hp
  have := h.pin_mem p hp
  omega
 ·exact h.mono
theorem pinB_ok {w : WorldM} {n : Nat} (h : MOk w n) {i : Nat} (hi : i < w.heap.pages.length) {d : Int} (hd : d = 1 ∨ (d = -1 ∧ 0 < (w.heap.pages.getD i default).pins)) : MOk (pinB w i d) (n + 1) := by
 have hp := h.pins i hi
 refine ⟨h.words,h.hv, ?_,h.L, ?_, ?_,h.strong,h.weak,by have := h.sl; simp only [pinB]; omega,by have := h.wl; simp only [pinB]; omega⟩
 ·simp only [pinB,List.length_set]; exact h.pl
 ·intro j hj
  simp only [pinB,List.length_set] at hj ⊢
  rw [getD_set hi]
  split
  ·simp only; omega
  ·have := h.pins j hj; omega
 ·intro j hj
  simp only [pinB,List.length_set] at hj ⊢
  rw [getD_set hi]
  split
  ·exact h.us i hi
  ·exact h.us j hj
theorem MOk.pin {w : WorldM} {n : Nat} (h : MOk w n) (t : Tape) : MOk (w.pin t) (n + 1) := by
 unfold WorldM.pin
 split
 ·rename_i e
  have o := ofA_ok h.hv e
  have hpl := h.pl
  have hi : pinI w t < w.heap.pages.length := by unfold pinI; omega
  split
  ·rename_i hc
   exact pinB_ok h hi (Or.inr ⟨rfl,hc.1⟩)
  ·split
   ·exact pinB_ok h hi (Or.inl rfl)
   ·exact h.mono
 ·exact h.mono
theorem MOk.drop {w : WorldM} {n : Nat} (h : MOk w n) (t : Tape) : MOk (w.drop t) (n + 1) := by
 unfold WorldM.drop
 split
 ·have hl := h.sl
  have hl2 := h.wl
  refine ⟨h.words,h.hv,h.pl,h.L,fun j hj => by have := h.pins j hj; simp only; omega,h.us, ?_, ?_, ?_, ?_⟩
  ·intro x hx
   rcases List.mem_append.1 hx with hx | hx
   ·exact h.strong x (List.mem_of_mem_take hx)
   ·exact h.strong x (List.mem_of_mem_drop hx)
  ·simp only
   split
   ·exact ule_app h.weak (getD_mem h.strong _)
   ·exact h.weak
  ·simp only [List.length_append,List.length_take,List.length_drop]; omega
  ·simp only
   split
   ·simp; omega
   ·omega
 ·exact h.mono
theorem MOk.collect {w : WorldM} {n : Nat} (h : MOk w n) : MOk w.collect (n + 1) := by
 unfold WorldM.collect
 split
 ·rename_i e
  have c := collect_ok (B := n) (by omega) h.words (fun p hp => (h.pin_mem p hp).2) e
  have hl := h.sl
  have hl2 := h.wl
  refine MOk.of_proper c.p1 c.w (fun p hp => by have := c.n p hp; omega) (fun x hx => by have := c.r x hx; omega) (fun x hx => by have := c.v x hx; omega) (by simp only [c.rl]; omega) (by simp only [c.vl]; omega)
 ·exact h.mono
theorem MOk.step {w : WorldM} {n : Nat} (h : MOk w n) (hn : n ≤ 1000000) (t : Tape) : MOk (w.step t) (n + 1) := by
 unfold WorldM.step
 repeat' split
 ·exact h.put (header_map _ _)
 ·exact h.link hn _
 ·exact h.pin _
 ·exact h.drop _
 ·exact h.collect
 ·have hl := h.sl
  have hl2 := h.wl
  exact ⟨h.words,h.hv,h.pl,h.L,fun j hj => by have := h.pins j hj; simp only [WorldM.dup] at *; omega,h.us,ule_app h.strong (pick_range (h.wm hn) _),h.weak,by simp only [WorldM.dup,List.length_append,List.length_singleton]; omega,by simp only [WorldM.dup]; omega⟩
theorem madeLight (h : Heap) : GSpec Tryz.prog 5 [h.av] true (bool (decide (h.words.length ≤ 5000 ∧ h.pages.length ≤ 100))) [] := by
 exact gE [(5,[.int ↑h.words.length]),(10,[.int ↑h.pages.length])] [] [] Tryz.func5 [false,false,false,false,true] (an (lm ((↑(List.map wdv h.words).length : Int) = (↑h.words.length : Int))) (an (by intro hg; (try simp only [bs] at hg); simp only [List.length_map] : decide ((↑h.words.length : Int) ≤ 5000) = true → (↑(List.map Page.dv h.pages).length : Int) = (↑h.pages.length : Int)) (by grind [] : (decide ((↑h.words.length : Int) ≤ 5000) && decide ((↑h.pages.length : Int) ≤ 100)) = decide (h.words.length ≤ 5000 ∧ h.pages.length ≤ 100))))
theorem sp_worldStep (w : WorldM) (t : Tape) (n : Nat) (hm : MOk w n) (hn : n ≤ 1000000) (ht : TOk t) (ha : t.at' ≤ 900000) : LentSpec Tryz.prog 20 [w.av,.pt 0 0 0] [t.b] (w.step t).av [(w.stepT t).b] :=
 worldStep w t n hm hn ht ha
structure TUp (n : Int) (t u : Tape) : Prop where
 l : u.l = t.l
 lo : t.at' ≤ u.at'
 hi : u.at' ≤ t.at' + n
theorem TUp.step (t : Tape) (n : Int) : TUp 1 t (t.step n) := by
 have := step_at (t := t) n
 exact ⟨this.2.2,this.1,this.2.1⟩
theorem TUp.trans {m n : Int} {t u v : Tape} (h1 : TUp m t u) (h2 : TUp n u v) : TUp (m + n) t v :=
 ⟨h2.l.trans h1.l,by have := h1.lo; have := h2.lo; omega,by have := h1.hi; have := h2.hi; omega⟩
theorem TUp.mono {m n : Int} {t u : Tape} (h : TUp m t u) (hmn : m ≤ n) : TUp n t u := ⟨h.l,h.lo,by have := h.hi; omega⟩
theorem headerT_up (t : Tape) (c : Conf) : TUp 10 t (t.headerT c) := by
 have h1 : TUp 4 t (hdr1T t c) := by
  unfold hdr1T
  split
  ·exact (((TUp.step t _).trans (TUp.step _ 12)).trans (TUp.step _ _)).mono (by decide)
  ·exact ((TUp.step t _).trans (TUp.step _ 12)).mono (by decide)
 unfold Tape.headerT
 repeat' split
 ·exact (h1.trans (TUp.step _ 4)).mono (by decide)
 ·exact (h1.trans (TUp.step _ 4)).mono (by decide)
 ·exact ((h1.trans (TUp.step _ 4)).trans (TUp.step _ _)).mono (by decide)
theorem linkT_up (w : WorldM) (t : Tape) : TUp 10 t (w.linkT t) := by
 have h1 : TUp 1 t (w.pickT t) := TUp.step _ _
 have h2 : TUp 1 (w.pickT t) (w.pickT (w.pickT t)) := TUp.step _ _
 unfold WorldM.linkT
 split
 ·exact ((((h1.trans h2).trans (TUp.step _ 8))).trans (TUp.step _ _)).mono (by decide)
 ·exact ((h1.trans h2).trans (TUp.step _ 8)).mono (by decide)
theorem stepT_up (w : WorldM) (t : Tape) : (w.stepT t).l = t.l ∧ t.at' + 1 ≤ (w.stepT t).at' ∧ (w.stepT t).at' ≤ t.at' + 20 := by
 have h0 : (t.step 12).at' = t.at' + 1 ∧ (t.step 12).l = t.l := by simp [Tape.step]
 have key : TUp 10 (t.step 12) (w.stepT t) := by
  unfold WorldM.stepT
  repeat' split
  ·exact headerT_up _ _
  ·exact linkT_up _ _
  ·unfold WorldM.pinT
   split
   ·exact ((TUp.step _ _).trans (TUp.step _ 2)).mono (by decide)
   ·exact (TUp.step _ _).mono (by decide)
  ·unfold WorldM.dropT
   split
   ·exact ((TUp.step _ _).trans (TUp.step _ 3)).mono (by decide)
   ·exact ⟨rfl,by omega,by omega⟩
  ·exact ⟨rfl,by omega,by omega⟩
  ·exact (TUp.step _ _).mono (by decide)
 have a := key.l
 have b := key.lo
 have c := key.hi
 exact ⟨a.trans h0.2,by omega,by omega⟩
def mkS (w : WorldM) (t : Tape) : Nat → WorldM × Tape
 | 0 => (w,t)
 | k + 1 => ((mkS w t k).1.step (mkS w t k).2,(mkS w t k).1.stepT (mkS w t k).2)
def mkB (w : WorldM) (t : Tape) (k : Nat) : Bool := decide (((mkS w t k).2.l.length : Int) ≤ (mkS w t k).2.at')
def mkN (w : WorldM) (t : Tape) : Nat := ((List.range (2 + t.l.length)).find? (mkB w t)).getD 0
def makeW (w : WorldM) (t : Tape) : WorldM := (mkS w t (mkN w t)).1
theorem mkS_up (w : WorldM) (t : Tape) : ∀ k : Nat,(mkS w t k).2.l = t.l ∧ t.at' + k ≤ (mkS w t k).2.at' ∧ (mkS w t k).2.at' ≤ t.at' + 20 * k
 | 0 => by simp [mkS]
 | k + 1 => by
  have ih := mkS_up w t k
  have := stepT_up (mkS w t k).1 (mkS w t k).2
  refine ⟨this.1.trans ih.1, ?_, ?_⟩
  ·simp only [mkS]; omega
  ·simp only [mkS]; omega
theorem mkS_ok {w : WorldM} {n : Nat} (h : MOk w n) (t : Tape) : ∀ k,n + k ≤ 1000000 → MOk (mkS w t k).1 (n + k)
 | 0,_ => h
 | k + 1,hk => (mkS_ok h t k (by omega)).step (by omega) _
theorem mkN_is (w : WorldM) (t : Tape) (ht : 0 ≤ t.at') : mkB w t (mkN w t) = true ∧ (∀ j,j < mkN w t → mkB w t j = false) ∧ mkN w t ≤ t.l.length + 1 := by
 cases hb : (List.range (2 + t.l.length)).find? (mkB w t) with
 | none =>
  exfalso
  have := List.find?_eq_none.1 hb t.l.length (List.mem_range.2 (by omega))
  have u := mkS_up w t t.l.length
  simp only [mkB,decide_eq_true_eq,u.1] at this
  omega
 | some k =>
  obtain ⟨h1,h2,h3⟩ := List.find?_range_eq_some.1 hb
  have h2 := List.mem_range.1 h2
  have e : mkN w t = k := by rw [mkN,hb]; rfl
  rw [e]
  exact ⟨h1,fun j hj => by simpa using h3 j hj,by omega⟩
def mkLA (w : WorldM) (t : Tape) : Tg := ⟨tm 22 [(2,.pt 8002 0 0),(3,.pt 32012 0 0),(4,.pt 40004 0 0)],[(40004,.box 31 w.cells),(32012,t.b),(8002,.box 31 [int 0,int 0,.d (.sl 0 []),.d (.sl 0 []),int 0,int 0,.d (.sl 0 []),.d (.sl 0 [])])],60⟩
theorem mkRoundA (w : WorldM) (t : Tape) (n : Nat) (hm : MOk w n) (hn : n ≤ 1000000) (ht : TOk t) (ha : t.at' ≤ 900000) (hd : t.at' < t.l.length) : CSpec Tryz.prog (rndF Tryz.f6 0) (mkLA w t).st .nrm (mkLA (w.step t) (w.stepT t)).st := by
 exact sE [(16,[.lent (Sx.bool (decide ((↑t.l.length : Int) ≤ t.at'))) [t.b]]),bT 17,(20,[.lent (w.step t).av [(w.stepT t).b]])] [] [] [] (an (@tapeDone t ‹_›) (an (bo ((!decide ((↑t.l.length : Int) ≤ t.at')) = true)) (an tt (@sp_worldStep w t n ‹_› ‹_› ‹_› ‹_›))))
theorem mkEndA (w : WorldM) (t : Tape) (ht : TOk t) (hd : ¬ t.at' < t.l.length) : CSpec Tryz.prog (rndF Tryz.f6 0) (mkLA w t).st (.ext 0) (Tg.st ⟨tm 22 [(2,.pt 8002 0 0),(4,.pt 40004 0 0)],[(40004,.box 31 w.cells),(8002,.box 31 [int 0,int 0,.d (.sl 0 []),.d (.sl 0 []),int 0,int 0,.d (.sl 0 []),.d (.sl 0 [])])],60⟩) := by
 exact sE [(16,[.lent (Sx.bool (decide ((↑t.l.length : Int) ≤ t.at'))) [t.b]]),bF 17] [] [] [] (an (@tapeDone t ‹_›) (an (bo ((!decide ((↑t.l.length : Int) ≤ t.at')) = false)) (rf false)))
theorem mkLoopA (w : WorldM) (t : Tape) (hm : MOk w 0) (hl : t.l.length ≤ 300) (h0 : 0 ≤ t.at') (h1 : t.at' ≤ 1000) : CSpec Tryz.prog (blkF Tryz.f6 0) (Tg.st ⟨tm 22 [(2,.pt 8002 0 0),(3,.pt 32012 0 0),(4,.pt 40004 0 0)],[(40004,.box 31 w.cells),(32012,t.b),(8002,.box 31 [int 0,int 0,.d (.sl 0 []),.d (.sl 0 []),int 0,int 0,.d (.sl 0 []),.d (.sl 0 [])])],60⟩) .nrm (Tg.st ⟨tm 22 [(2,.pt 8002 0 0),(4,.pt 40004 0 0)],[(40004,.box 31 (makeW w t).cells),(8002,.box 31 [int 0,int 0,.d (.sl 0 []),.d (.sl 0 []),int 0,int 0,.d (.sl 0 []),.d (.sl 0 [])])],60⟩) := by
 have hk := mkN_is w t h0
 have tok : ∀ k,k ≤ mkN w t → TOk (mkS w t k).2 ∧ (mkS w t k).2.at' ≤ 900000 := fun k hk' => by
  have u := mkS_up w t k
  refine ⟨?_,by omega⟩
  unfold TOk
  rw [u.1]
  omega
 refine loop_ext_of (S := fun k => (mkLA (mkS w t k).1 (mkS w t k).2).st) (mkN w t) (by kernel_rfl) (fun k hk' => ?_) ?_
 ·have hs := hk.2.1 k hk'
  simp only [mkB,decide_eq_false_iff_not] at hs
  have m := mkS_ok hm t k (by omega)
  exact mkRoundA _ _ (0 + k) m (by omega) (tok k (by omega)).1 (tok k (by omega)).2 (by omega)
 ·have hs := hk.1
  simp only [mkB,decide_eq_true_eq] at hs
  exact mkEndA _ _ (tok _ (Nat.le_refl _)).1 (by omega)
def mkLB (w : WorldM) (t : Tape) : Tg := ⟨tm 22 [(2,.pt 8002 0 0),(3,.pt 24012 0 0),(4,.pt 32004 0 0)],[(32004,.box 31 w.cells),(24012,t.b),(8002,.box 31 [int 0,int 0,.d (.sl 0 []),.d (.sl 0 []),int 0,int 0,.d (.sl 0 []),.d (.sl 0 [])])],60⟩
theorem mkRoundB (w : WorldM) (t : Tape) (n : Nat) (hm : MOk w n) (hn : n ≤ 1000000) (ht : TOk t) (ha : t.at' ≤ 900000) (hd : t.at' < t.l.length) : CSpec Tryz.prog (rndF Tryz.f6 0) (mkLB w t).st .nrm (mkLB (w.step t) (w.stepT t)).st := by
 exact sE [(16,[.lent (Sx.bool (decide ((↑t.l.length : Int) ≤ t.at'))) [t.b]]),bT 17,(20,[.lent (w.step t).av [(w.stepT t).b]])] [] [] [] (an (@tapeDone t ‹_›) (an (bo ((!decide ((↑t.l.length : Int) ≤ t.at')) = true)) (an tt (@sp_worldStep w t n ‹_› ‹_› ‹_› ‹_›))))
theorem mkEndB (w : WorldM) (t : Tape) (ht : TOk t) (hd : ¬ t.at' < t.l.length) : CSpec Tryz.prog (rndF Tryz.f6 0) (mkLB w t).st (.ext 0) (Tg.st ⟨tm 22 [(2,.pt 8002 0 0),(4,.pt 32004 0 0)],[(32004,.box 31 w.cells),(8002,.box 31 [int 0,int 0,.d (.sl 0 []),.d (.sl 0 []),int 0,int 0,.d (.sl 0 []),.d (.sl 0 [])])],60⟩) := by
 exact sE [(16,[.lent (Sx.bool (decide ((↑t.l.length : Int) ≤ t.at'))) [t.b]]),bF 17] [] [] [] (an (@tapeDone t ‹_›) (an (bo ((!decide ((↑t.l.length : Int) ≤ t.at')) = false)) (rf false)))
theorem mkLoopB (w : WorldM) (t : Tape) (hm : MOk w 0) (hl : t.l.length ≤ 300) (h0 : 0 ≤ t.at') (h1 : t.at' ≤ 1000) : CSpec Tryz.prog (blkF Tryz.f6 0) (Tg.st ⟨tm 22 [(2,.pt 8002 0 0),(3,.pt 24012 0 0),(4,.pt 32004 0 0)],[(32004,.box 31 w.cells),(24012,t.b),(8002,.box 31 [int 0,int 0,.d (.sl 0 []),.d (.sl 0 []),int 0,int 0,.d (.sl 0 []),.d (.sl 0 [])])],60⟩) .nrm (Tg.st ⟨tm 22 [(2,.pt 8002 0 0),(4,.pt 32004 0 0)],[(32004,.box 31 (makeW w t).cells),(8002,.box 31 [int 0,int 0,.d (.sl 0 []),.d (.sl 0 []),int 0,int 0,.d (.sl 0 []),.d (.sl 0 [])])],60⟩) := by
 have hk := mkN_is w t h0
 have tok : ∀ k,k ≤ mkN w t → TOk (mkS w t k).2 ∧ (mkS w t k).2.at' ≤ 900000 := fun k hk' => by
  have u := mkS_up w t k
  refine ⟨?_,by omega⟩
  unfold TOk
  rw [u.1]
  omega
 refine loop_ext_of (S := fun k => (mkLB (mkS w t k).1 (mkS w t k).2).st) (mkN w t) (by kernel_rfl) (fun k hk' => ?_) ?_
 ·have hs := hk.2.1 k hk'
  simp only [mkB,decide_eq_false_iff_not] at hs
  have m := mkS_ok hm t k (by omega)
  exact mkRoundB _ _ (0 + k) m (by omega) (tok k (by omega)).1 (tok k (by omega)).2 (by omega)
 ·have hs := hk.1
  simp only [mkB,decide_eq_true_eq] at hs
  exact mkEndB _ _ (tok _ (Nat.le_refl _)).1 (by omega)
def makeT (l : List Int) : Tape := ⟨l.take 300,0⟩
def makeF (l : List Int) : WorldM := makeW (makeT l).empty (((makeT l).step 4).step 5)
theorem empty_ok (t : Tape) : MOk t.empty 0 := by
 have hv := tape_conf_valid t
 have hb := validB_iff.1 hv
 refine ⟨?_,hv, ?_, ?_, ?_, ?_, ?_, ?_,by simp [Tape.empty],by simp [Tape.empty]⟩
 ·intro x hx
  simp only [Tape.empty,newHeap,List.mem_replicate] at hx
  omega
 ·simp only [Tape.empty,newHeap,List.length_replicate]; omega
 ·have := area hv
  simp only [Tape.empty,newHeap,List.length_replicate]; omega
 ·intro j hj
  simp only [Tape.empty,newHeap,List.length_replicate] at hj ⊢
  have : (List.replicate t.conf.pg.toNat (⟨0,0,0,0⟩ : Page)).getD j default = ⟨0,0,0,0⟩ := by simp [List.getD_eq_getElem?_getD,hj]
  rw [this]; simp
 ·intro j hj
  simp only [Tape.empty,newHeap,List.length_replicate] at hj ⊢
  have : (List.replicate t.conf.pg.toNat (⟨0,0,0,0⟩ : Page)).getD j default = ⟨0,0,0,0⟩ := by simp [List.getD_eq_getElem?_getD,hj]
  rw [this]; simp
 ·intro x hx; simp [Tape.empty] at hx
 ·intro x hx; simp [Tape.empty] at hx
theorem make_steps (l : List Int) : (((makeT l).step 4).step 5).l = l.take 300 ∧ (((makeT l).step 4).step 5).at' = 2 := by simp [makeT,Tape.step]
theorem makeF_ok (l : List Int) : MOk (makeF l) 1000 := by
 have e := make_steps l
 have hl : (((makeT l).step 4).step 5).l.length ≤ 300 := by rw [e.1]; simp; omega
 have hk := mkN_is (makeT l).empty (((makeT l).step 4).step 5) (by omega)
 have m := mkS_ok (empty_ok (makeT l)) (((makeT l).step 4).step 5) (mkN (makeT l).empty (((makeT l).step 4).step 5)) (by omega)
 have h2 : ∀ (w : WorldM) (a b : Nat),MOk w a → a ≤ b → MOk w b := fun w a b h hab =>
  ⟨h.words,h.hv,h.pl,h.L,fun j hj => by have := h.pins j hj; omega,h.us,h.strong,h.weak,by have := h.sl; omega,by have := h.wl; omega⟩
 exact h2 _ _ _ m (by omega)
theorem madeMake (l : List Int) (hl : l.length ≤ 140737488355328) : GSpec Tryz.prog 6 [intsV l] false (makeF l).av [] := by
 have e := make_steps l
 have he := empty_ok (makeT l)
 have h1 : (((makeT l).step 4).step 5).l.length ≤ 300 := by rw [e.1]; simp; omega
 have h2 := e.2
 by_cases h : 300 < l.length
 ·have ht : TOk ⟨List.take (Int.toNat 300) l,0⟩ := by simp [TOk]; omega
  have e9 : makeT l = ⟨List.take (Int.toNat 300) l,0⟩ := rfl
  unfold makeF
  rw [e9] at he h1 h2 ⊢
  refine gspec_ofE [((6 : Nat),[.int (↑l.length : Int)]),((7 : Nat),[.br true]),((9 : Nat),[.els (List.map idv (List.take (Int.toNat (300 : Int)) l))]),((14 : Nat),[.lent (Tape.mk (List.take (Int.toNat (300 : Int)) l) (0 : Int)).empty.av [(((Tape.mk (List.take (Int.toNat (300 : Int)) l) (0 : Int)).step (4 : Int)).step (5 : Int)).b]])] [((0 : Nat),Tg.mk (tm (22 : Nat) [((2 : Nat),AV.pt (8002 : Nat) (0 : Nat) (0 : Nat)),((3 : Nat),AV.pt (32012 : Nat) (0 : Nat) (0 : Nat)),((4 : Nat),AV.pt (40004 : Nat) (0 : Nat) (0 : Nat))]) [((40004 : Nat),Blk.box 31 (Tape.mk (List.take (Int.toNat (300 : Int)) l) (0 : Int)).empty.cells),((32012 : Nat),(((Tape.mk (List.take (Int.toNat (300 : Int)) l) (0 : Int)).step (4 : Int)).step (5 : Int)).b),((8002 : Nat),Blk.box 31 [int (0 : Int),int (0 : Int),AV.d (DV.sl (0 : Nat) []),AV.d (DV.sl (0 : Nat) []),int (0 : Int),int (0 : Int),AV.d (DV.sl (0 : Nat) []),AV.d (DV.sl (0 : Nat) [])])] (60 : Nat),Ex.nrm,Tg.mk (tm (22 : Nat) [((2 : Nat),AV.pt (8002 : Nat) (0 : Nat) (0 : Nat)),((4 : Nat),AV.pt (40004 : Nat) (0 : Nat) (0 : Nat))]) [((40004 : Nat),Blk.box 31 (makeW (Tape.mk (List.take (Int.toNat (300 : Int)) l) (0 : Int)).empty (((Tape.mk (List.take (Int.toNat (300 : Int)) l) (0 : Int)).step (4 : Int)).step (5 : Int))).cells),((8002 : Nat),Blk.box 31 [int (0 : Int),int (0 : Int),AV.d (DV.sl (0 : Nat) []),AV.d (DV.sl (0 : Nat) []),int (0 : Int),int (0 : Int),AV.d (DV.sl (0 : Nat) []),AV.d (DV.sl (0 : Nat) [])])] (60 : Nat))] [] (by decide) Tryz.func6 [] (φ := (↑(List.map idv l).length : Int) = (↑l.length : Int) ∧ decide ((300 : Int) < (↑l.length : Int)) = true ∧ true = true ∧ ((0 : Int) ≤ (300 : Int) ∧ (300 : Int) ≤ (↑(List.map idv l).length : Int)) ∧ List.take (Int.toNat (300 : Int)) (List.map idv l) = List.map idv (List.take (Int.toNat (300 : Int)) l) ∧ LentSpec Tryz.prog 18 [AV.pt (0 : Nat) (0 : Nat) (0 : Nat)] [(Tape.mk (List.take (Int.toNat (300 : Int)) l) (0 : Int)).b] (Tape.mk (List.take (Int.toNat (300 : Int)) l) (0 : Int)).empty.av [(((Tape.mk (List.take (Int.toNat (300 : Int)) l) (0 : Int)).step (4 : Int)).step (5 : Int)).b] ∧ CSpec Tryz.prog (blkF Tryz.f6 (0 : Nat)) (Tg.mk (tm (22 : Nat) [((2 : Nat),AV.pt (8002 : Nat) (0 : Nat) (0 : Nat)),((3 : Nat),AV.pt (32012 : Nat) (0 : Nat) (0 : Nat)),((4 : Nat),AV.pt (40004 : Nat) (0 : Nat) (0 : Nat))]) [((40004 : Nat),Blk.box 31 (Tape.mk (List.take (Int.toNat (300 : Int)) l) (0 : Int)).empty.cells),((32012 : Nat),(((Tape.mk (List.take (Int.toNat (300 : Int)) l) (0 : Int)).step (4 : Int)).step (5 : Int)).b),((8002 : Nat),Blk.box 31 [int (0 : Int),int (0 : Int),AV.d (DV.sl (0 : Nat) []),AV.d (DV.sl (0 : Nat) []),int (0 : Int),int (0 : Int),AV.d (DV.sl (0 : Nat) []),AV.d (DV.sl (0 : Nat) [])])] (60 : Nat)).st Ex.nrm (Tg.mk (tm (22 : Nat) [((2 : Nat),AV.pt (8002 : Nat) (0 : Nat) (0 : Nat)),((4 : Nat),AV.pt (40004 : Nat) (0 : Nat) (0 : Nat))]) [((40004 : Nat),Blk.box 31 (makeW (Tape.mk (List.take (Int.toNat (300 : Int)) l) (0 : Int)).empty (((Tape.mk (List.take (Int.toNat (300 : Int)) l) (0 : Int)).step (4 : Int)).step (5 : Int))).cells),((8002 : Nat),Blk.box 31 [int (0 : Int),int (0 : Int),AV.d (DV.sl (0 : Nat) []),AV.d (DV.sl (0 : Nat) []),int (0 : Int),int (0 : Int),AV.d (DV.sl (0 : Nat) []),AV.d (DV.sl (0 : Nat) [])])] (60 : Nat)).st) ?_ (by kernel_rfl) (by kernel_rfl)
  exact ⟨(by simp only [List.length_map]),(by (simp only [bs]; omega)),rfl,(by (simp only [List.length_map]; omega)),(by simp [List.map_take,List.map_drop,List.map_set,List.map_append,wdv,idv]),(@tapeEmpty (Tape.mk (List.take (Int.toNat (300 : Int)) l) (0 : Int)) ‹_› (by (simp only [bs]; omega))),(@mkLoopA ((Tape.mk (List.take (Int.toNat (300 : Int)) l) (0 : Int)).empty) (((Tape.mk (List.take (Int.toNat (300 : Int)) l) (0 : Int)).step (4 : Int)).step (5 : Int)) ‹_› ‹_› (by omega) (by omega))⟩
 ·have ht : TOk ⟨l,0⟩ := by simp [TOk]; omega
  have e9 : makeT l = ⟨l,0⟩ := by rw [makeT,List.take_of_length_le (by omega)]
  unfold makeF
  rw [e9] at he h1 h2 ⊢
  refine gspec_ofE [((6 : Nat),[.int (↑l.length : Int)]),((7 : Nat),[.br false]),((14 : Nat),[.lent (Tape.mk l (0 : Int)).empty.av [(((Tape.mk l (0 : Int)).step (4 : Int)).step (5 : Int)).b]])] [((0 : Nat),Tg.mk (tm (22 : Nat) [((2 : Nat),AV.pt (8002 : Nat) (0 : Nat) (0 : Nat)),((3 : Nat),AV.pt (24012 : Nat) (0 : Nat) (0 : Nat)),((4 : Nat),AV.pt (32004 : Nat) (0 : Nat) (0 : Nat))]) [((32004 : Nat),Blk.box 31 (Tape.mk l (0 : Int)).empty.cells),((24012 : Nat),(((Tape.mk l (0 : Int)).step (4 : Int)).step (5 : Int)).b),((8002 : Nat),Blk.box 31 [int (0 : Int),int (0 : Int),AV.d (DV.sl (0 : Nat) []),AV.d (DV.sl (0 : Nat) []),int (0 : Int),int (0 : Int),AV.d (DV.sl (0 : Nat) []),AV.d (DV.sl (0 : Nat) [])])] (60 : Nat),Ex.nrm,Tg.mk (tm (22 : Nat) [((2 : Nat),AV.pt (8002 : Nat) (0 : Nat) (0 : Nat)),((4 : Nat),AV.pt (32004 : Nat) (0 : Nat) (0 : Nat))]) [((32004 : Nat),Blk.box 31 (makeW (Tape.mk l (0 : Int)).empty (((Tape.mk l (0 : Int)).step (4 : Int)).step (5 : Int))).cells),((8002 : Nat),Blk.box 31 [int (0 : Int),int (0 : Int),AV.d (DV.sl (0 : Nat) []),AV.d (DV.sl (0 : Nat) []),int (0 : Int),int (0 : Int),AV.d (DV.sl (0 : Nat) []),AV.d (DV.sl (0 : Nat) [])])] (60 : Nat))] [] (by decide) Tryz.func6 [] (φ := (↑(List.map idv l).length : Int) = (↑l.length : Int) ∧ decide ((300 : Int) < (↑l.length : Int)) = false ∧ false = false ∧ LentSpec Tryz.prog 18 [AV.pt (0 : Nat) (0 : Nat) (0 : Nat)] [(Tape.mk l (0 : Int)).b] (Tape.mk l (0 : Int)).empty.av [(((Tape.mk l (0 : Int)).step (4 : Int)).step (5 : Int)).b] ∧ CSpec Tryz.prog (blkF Tryz.f6 (0 : Nat)) (Tg.mk (tm (22 : Nat) [((2 : Nat),AV.pt (8002 : Nat) (0 : Nat) (0 : Nat)),((3 : Nat),AV.pt (24012 : Nat) (0 : Nat) (0 : Nat)),((4 : Nat),AV.pt (32004 : Nat) (0 : Nat) (0 : Nat))]) [((32004 : Nat),Blk.box 31 (Tape.mk l (0 : Int)).empty.cells),((24012 : Nat),(((Tape.mk l (0 : Int)).step (4 : Int)).step (5 : Int)).b),((8002 : Nat),Blk.box 31 [int (0 : Int),int (0 : Int),AV.d (DV.sl (0 : Nat) []),AV.d (DV.sl (0 : Nat) []),int (0 : Int),int (0 : Int),AV.d (DV.sl (0 : Nat) []),AV.d (DV.sl (0 : Nat) [])])] (60 : Nat)).st Ex.nrm (Tg.mk (tm (22 : Nat) [((2 : Nat),AV.pt (8002 : Nat) (0 : Nat) (0 : Nat)),((4 : Nat),AV.pt (32004 : Nat) (0 : Nat) (0 : Nat))]) [((32004 : Nat),Blk.box 31 (makeW (Tape.mk l (0 : Int)).empty (((Tape.mk l (0 : Int)).step (4 : Int)).step (5 : Int))).cells),((8002 : Nat),Blk.box 31 [int (0 : Int),int (0 : Int),AV.d (DV.sl (0 : Nat) []),AV.d (DV.sl (0 : Nat) []),int (0 : Int),int (0 : Int),AV.d (DV.sl (0 : Nat) []),AV.d (DV.sl (0 : Nat) [])])] (60 : Nat)).st) ?_ (by kernel_rfl) (by kernel_rfl)
  exact ⟨(by simp only [List.length_map]),(by (simp only [bs]; omega)),rfl,(@tapeEmpty (Tape.mk l (0 : Int)) ‹_› (by (simp only [bs]; omega))),(@mkLoopB ((Tape.mk l (0 : Int)).empty) (((Tape.mk l (0 : Int)).step (4 : Int)).step (5 : Int)) ‹_› ‹_› (by omega) (by omega))⟩
def spT2 (w : WorldM) (t : Tape) : Tape := (t.step (w.heap.words.length : Int)).step (w.heap.pages.length : Int)
def spT3 (w : WorldM) (t : Tape) : Tape := (spT2 w t).step 12
def spI (w : WorldM) (t : Tape) : Nat := (t.next (w.heap.words.length : Int)).toNat
def spP (w : WorldM) (t : Tape) : Nat := ((t.step (w.heap.words.length : Int)).next (w.heap.pages.length : Int)).toNat
def spPg (w : WorldM) (t : Tape) : Page := w.heap.pages.getD (spP w t) default
def spList : List Int := [0,1,5,21,4096,4097,4112,16386,1099511627776,61]
def pinQ (p : Page) : Page := if p.kind = 1 then ⟨p.kind,p.space,p.used,1⟩ else p
def spV (w : WorldM) (t : Tape) (d : Int) : Int := if d ≤ 1 then spList.getD ((spT3 w t).next 10).toNat default else bits .xor .u64 (w.heap.words.getD (spI w t) default) (IntKind.u64.wrap (1 * 2 ^ min ((spT3 w t).next 64).toNat 64))
def spQ (w : WorldM) (t : Tape) (d : Int) : Page :=
 if d = 3 then ⟨(spT3 w t).next 5,(spPg w t).space,(spPg w t).used,(spPg w t).pins⟩
 else if d = 4 then ⟨(spPg w t).kind,(spT3 w t).next 3,(spPg w t).used,(spPg w t).pins⟩
 else if d = 5 then ⟨(spPg w t).kind,(spPg w t).space,(spPg w t).used + (spT3 w t).next 9 - 4,(spPg w t).pins⟩
 else ⟨(spPg w t).kind,(spPg w t).space,(spPg w t).used,(spT3 w t).next 3 - 1⟩
def spH (w : WorldM) (t : Tape) (d : Int) : Heap :=
 if d ≤ 2 then ⟨w.heap.conf,w.heap.words.set (spI w t) (spV w t d),w.heap.pages,w.heap.space,w.heap.bump⟩
 else if d ≤ 6 then ⟨w.heap.conf,w.heap.words,w.heap.pages.set (spP w t) (spQ w t d),w.heap.space,w.heap.bump⟩
 else if d = 7 then ⟨w.heap.conf,w.heap.words,w.heap.pages,(spT3 w t).next 3,w.heap.bump⟩
 else if d = 8 then ⟨w.heap.conf,w.heap.words,w.heap.pages,w.heap.space,(spT3 w t).next ((w.heap.pages.length + 2 : Nat) : Int) - 1⟩
 else if d = 9 then ⟨⟨w.heap.conf.pw + 4,w.heap.conf.pg⟩,w.heap.words,w.heap.pages,w.heap.space,w.heap.bump⟩
 else if d = 10 then ⟨w.heap.conf,w.heap.words,w.heap.pages.drop 1,w.heap.space,w.heap.bump⟩
 else ⟨w.heap.conf,w.heap.words,w.heap.pages.map pinQ,w.heap.space,w.heap.bump⟩
def spN (w : WorldM) (d : Int) : Int := if d ≤ 1 then 10 else if d = 2 then 64 else if d = 3 then 5 else if d = 4 then 3 else if d = 5 then 9 else if d = 6 then 3 else if d = 7 then 3 else if d = 8 then ((w.heap.pages.length + 2 : Nat) : Int) else 0
def WorldM.spoil (w : WorldM) (t : Tape) : WorldM := ⟨spH w t ((spT2 w t).next 12),w.strong,w.weak⟩
def WorldM.spoilT (w : WorldM) (t : Tape) : Tape := if (spT2 w t).next 12 ≤ 8 then (spT3 w t).step (spN w ((spT2 w t).next 12)) else spT3 w t
section
variable (w : WorldM) (t : Tape) (hm : MOk w 1000) (ht : TOk t) (ha : t.at' ≤ 900000) (hus : ∀ j,j < w.heap.pages.length → -1099511627776 ≤ (w.heap.pages.getD j default).used ∧ (w.heap.pages.getD j default).used ≤ 1099511627776)
include hm ht ha hus
theorem spoil0 (hd : (spT2 w t).next 12 = 0) : LentSpec Tryz.prog 7 [w.av,.pt 0 0 0] [t.b] (w.spoil t).av [(w.spoilT t).b] := by
 have e7 : w.spoil t = ⟨⟨w.heap.conf,w.heap.words.set (spI w t) (spV w t 0),w.heap.pages,w.heap.space,w.heap.bump⟩,w.strong,w.weak⟩ := by simp [WorldM.spoil,spH,hd]
 have e8 : w.spoilT t = (spT3 w t).step 10 := by simp [WorldM.spoilT,spN,hd]
 have s1 := step_at (t := t) (w.heap.words.length : Int)
 have s2 : (t.step (w.heap.words.length : Int)).at' ≤ (spT2 w t).at' ∧ (spT2 w t).at' ≤ (t.step (w.heap.words.length : Int)).at' + 1 ∧ (spT2 w t).l = (t.step (w.heap.words.length : Int)).l := step_at _
 have s3 : (spT2 w t).at' ≤ (spT3 w t).at' ∧ (spT3 w t).at' ≤ (spT2 w t).at' + 1 ∧ (spT3 w t).l = (spT2 w t).l := step_at _
 have k1 := tok_of ht s1.2.2 (by omega) (by omega)
 have k2 : TOk (spT2 w t) := tok_of k1 s2.2.2 (by omega) (by omega)
 have k3 : TOk (spT3 w t) := tok_of k2 s3.2.2 (by omega) (by omega)
 have a1 := area hm.hv
 have a2 := validB_iff.1 hm.hv
 have a3 := hm.L
 have a4 := hm.pl
 have hw := hm.words
 have n1 := next_range t (n := (w.heap.words.length : Int)) (by omega)
 have n2 := next_range (t.step (w.heap.words.length : Int)) (n := (w.heap.pages.length : Int)) (by omega)
 have n3 := next_range (spT3 w t) (n := 10) (by omega)
 rw [e7,e8]
 unfold spT3 spT2 at *
 exact lE [(11,[.els (List.map wdv [])]),(14,[.els (List.map wdv w.heap.words)]),(15,[.els (List.map Page.dv [])]),(18,[.els (List.map Page.dv w.heap.pages)]),(24,[.int ↑w.heap.words.length]),(25,[.lent (int (t.next (↑w.heap.words.length : Int))) [(t.step (↑w.heap.words.length : Int)).b]]),(29,[.int ↑w.heap.pages.length]),(30,[.lent (int ((t.step (↑w.heap.words.length : Int)).next (↑w.heap.pages.length : Int))) [((t.step (↑w.heap.words.length : Int)).step (↑w.heap.pages.length : Int)).b]]),(32,[.lent (int 0) [(((t.step (↑w.heap.words.length : Int)).step (↑w.heap.pages.length : Int)).step 12).b]]),(39,[.els (List.map wdv [0,1,5,21,4096,4097,4112,16386,1099511627776,61])]),(41,[.lent (int ((((t.step (↑w.heap.words.length : Int)).step (↑w.heap.pages.length : Int)).step 12).next 10)) [((((t.step (↑w.heap.words.length : Int)).step (↑w.heap.pages.length : Int)).step 12).step 10).b]]),(43,[.el (wdv ([0,1,5,21,4096,4097,4112,16386,1099511627776,61].getD ((((t.step (↑w.heap.words.length : Int)).step (↑w.heap.pages.length : Int)).step 12).next 10).toNat default))]),(10044,[.els (List.map wdv (w.heap.words.set (t.next (↑w.heap.words.length : Int)).toNat ([0,1,5,21,4096,4097,4112,16386,1099511627776,61].getD ((((t.step (↑w.heap.words.length : Int)).step (↑w.heap.pages.length : Int)).step 12).next 10).toNat default)))])] [] Tryz.func7 [] (an (rf (List.map wdv [])) (an (by (simp only [List.length_map,List.length_cons,List.length_nil]; omega) : (List.map wdv []).length + (List.map wdv w.heap.words).length ≤ 2 ^ 30) (an (rf (List.map wdv w.heap.words)) (an (rf (List.map Page.dv [])) (an (by (simp only [List.length_map,List.length_cons,List.length_nil]; omega) : (List.map Page.dv []).length + (List.map Page.dv w.heap.pages).length ≤ 2 ^ 30) (an (rf (List.map Page.dv w.heap.pages)) (an (lm ((↑(List.map wdv w.heap.words).length : Int) = (↑w.heap.words.length : Int))) (an (@tapeNext t ((↑w.heap.words.length : Int)) ‹_› (by omega) (by omega)) (an (lm ((↑(List.map Page.dv w.heap.pages).length : Int) = (↑w.heap.pages.length : Int))) (an (@tapeNext (t.step (↑w.heap.words.length : Int)) ((↑w.heap.pages.length : Int)) ‹_› (by omega) (by omega)) (an (@sp_next12 ((t.step (↑w.heap.words.length : Int)).step (↑w.heap.pages.length : Int)) (0) ‹_› ‹_›) (an (rf (List.map wdv [0,1,5,21,4096,4097,4112,16386,1099511627776,61])) (an (@tapeNext (((t.step (↑w.heap.words.length : Int)).step (↑w.heap.pages.length : Int)).step 12) (10) ‹_› (by omega) (by omega)) (an (by (simp only [List.length_map,List.length_cons,List.length_nil]; omega) : 0 ≤ (((t.step (↑w.heap.words.length : Int)).step (↑w.heap.pages.length : Int)).step 12).next 10 ∧ ((((t.step (↑w.heap.words.length : Int)).step (↑w.heap.pages.length : Int)).step 12).next 10).toNat < (List.map wdv [0,1,5,21,4096,4097,4112,16386,1099511627776,61]).length) (an (by exact el_of (by simp only [List.length_cons,List.length_nil]; omega) : (List.map wdv [0,1,5,21,4096,4097,4112,16386,1099511627776,61])[((((t.step (↑w.heap.words.length : Int)).step (↑w.heap.pages.length : Int)).step 12).next 10).toNat]? = some (wdv ([0,1,5,21,4096,4097,4112,16386,1099511627776,61].getD ((((t.step (↑w.heap.words.length : Int)).step (↑w.heap.pages.length : Int)).step 12).next 10).toNat default))) (an (by (simp only [List.length_map,List.length_cons,List.length_nil]; omega) : 0 ≤ t.next (↑w.heap.words.length : Int) ∧ (t.next (↑w.heap.words.length : Int)).toNat < (List.map wdv w.heap.words).length) (an (by (simp only [List.length_map,List.length_cons,List.length_nil]; omega) : (t.next (↑w.heap.words.length : Int)).toNat < (List.map wdv w.heap.words).length) (by simp [spV,spQ,spPg,spI,spP,spT3,spT2,spList,List.map_take,List.map_drop,List.map_set,List.map_append,wdv,idv] : (List.map wdv w.heap.words).set (t.next (↑w.heap.words.length : Int)).toNat [du64 ([0,1,5,21,4096,4097,4112,16386,1099511627776,61].getD ((((t.step (↑w.heap.words.length : Int)).step (↑w.heap.pages.length : Int)).step 12).next 10).toNat default)] = List.map wdv (w.heap.words.set (t.next (↑w.heap.words.length : Int)).toNat ([0,1,5,21,4096,4097,4112,16386,1099511627776,61].getD ((((t.step (↑w.heap.words.length : Int)).step (↑w.heap.pages.length : Int)).step 12).next 10).toNat default))))))))))))))))))))
theorem spoil1 (hd : (spT2 w t).next 12 = 1) : LentSpec Tryz.prog 7 [w.av,.pt 0 0 0] [t.b] (w.spoil t).av [(w.spoilT t).b] := by
 have e7 : w.spoil t = ⟨⟨w.heap.conf,w.heap.words.set (spI w t) (spV w t 1),w.heap.pages,w.heap.space,w.heap.bump⟩,w.strong,w.weak⟩ := by simp [WorldM.spoil,spH,hd]
 have e8 : w.spoilT t = (spT3 w t).step 10 := by simp [WorldM.spoilT,spN,hd]
 have s1 := step_at (t := t) (w.heap.words.length : Int)
 have s2 : (t.step (w.heap.words.length : Int)).at' ≤ (spT2 w t).at' ∧ (spT2 w t).at' ≤ (t.step (w.heap.words.length : Int)).at' + 1 ∧ (spT2 w t).l = (t.step (w.heap.words.length : Int)).l := step_at _
 have s3 : (spT2 w t).at' ≤ (spT3 w t).at' ∧ (spT3 w t).at' ≤ (spT2 w t).at' + 1 ∧ (spT3 w t).l = (spT2 w t).l := step_at _
 have k1 := tok_of ht s1.2.2 (by omega) (by omega)
 have k2 : TOk (spT2 w t) := tok_of k1 s2.2.2 (by omega) (by omega)
 have k3 : TOk (spT3 w t) := tok_of k2 s3.2.2 (by omega) (by omega)
 have a1 := area hm.hv
 have a2 := validB_iff.1 hm.hv
 have a3 := hm.L
 have a4 := hm.pl
 have hw := hm.words
 have n1 := next_range t (n := (w.heap.words.length : Int)) (by omega)
 have n2 := next_range (t.step (w.heap.words.length : Int)) (n := (w.heap.pages.length : Int)) (by omega)
 have n3 := next_range (spT3 w t) (n := 10) (by omega)
 rw [e7,e8]
 unfold spT3 spT2 at *
 exact lE [(11,[.els (List.map wdv [])]),(14,[.els (List.map wdv w.heap.words)]),(15,[.els (List.map Page.dv [])]),(18,[.els (List.map Page.dv w.heap.pages)]),(24,[.int ↑w.heap.words.length]),(25,[.lent (int (t.next (↑w.heap.words.length : Int))) [(t.step (↑w.heap.words.length : Int)).b]]),(29,[.int ↑w.heap.pages.length]),(30,[.lent (int ((t.step (↑w.heap.words.length : Int)).next (↑w.heap.pages.length : Int))) [((t.step (↑w.heap.words.length : Int)).step (↑w.heap.pages.length : Int)).b]]),(32,[.lent (int 1) [(((t.step (↑w.heap.words.length : Int)).step (↑w.heap.pages.length : Int)).step 12).b]]),(39,[.els (List.map wdv [0,1,5,21,4096,4097,4112,16386,1099511627776,61])]),(41,[.lent (int ((((t.step (↑w.heap.words.length : Int)).step (↑w.heap.pages.length : Int)).step 12).next 10)) [((((t.step (↑w.heap.words.length : Int)).step (↑w.heap.pages.length : Int)).step 12).step 10).b]]),(43,[.el (wdv ([0,1,5,21,4096,4097,4112,16386,1099511627776,61].getD ((((t.step (↑w.heap.words.length : Int)).step (↑w.heap.pages.length : Int)).step 12).next 10).toNat default))]),(10044,[.els (List.map wdv (w.heap.words.set (t.next (↑w.heap.words.length : Int)).toNat ([0,1,5,21,4096,4097,4112,16386,1099511627776,61].getD ((((t.step (↑w.heap.words.length : Int)).step (↑w.heap.pages.length : Int)).step 12).next 10).toNat default)))])] [] Tryz.func7 [] (an (rf (List.map wdv [])) (an (by (simp only [List.length_map,List.length_cons,List.length_nil]; omega) : (List.map wdv []).length + (List.map wdv w.heap.words).length ≤ 2 ^ 30) (an (rf (List.map wdv w.heap.words)) (an (rf (List.map Page.dv [])) (an (by (simp only [List.length_map,List.length_cons,List.length_nil]; omega) : (List.map Page.dv []).length + (List.map Page.dv w.heap.pages).length ≤ 2 ^ 30) (an (rf (List.map Page.dv w.heap.pages)) (an (lm ((↑(List.map wdv w.heap.words).length : Int) = (↑w.heap.words.length : Int))) (an (@tapeNext t ((↑w.heap.words.length : Int)) ‹_› (by omega) (by omega)) (an (lm ((↑(List.map Page.dv w.heap.pages).length : Int) = (↑w.heap.pages.length : Int))) (an (@tapeNext (t.step (↑w.heap.words.length : Int)) ((↑w.heap.pages.length : Int)) ‹_› (by omega) (by omega)) (an (@sp_next12 ((t.step (↑w.heap.words.length : Int)).step (↑w.heap.pages.length : Int)) (1) ‹_› ‹_›) (an (rf (List.map wdv [0,1,5,21,4096,4097,4112,16386,1099511627776,61])) (an (@tapeNext (((t.step (↑w.heap.words.length : Int)).step (↑w.heap.pages.length : Int)).step 12) (10) ‹_› (by omega) (by omega)) (an (by (simp only [List.length_map,List.length_cons,List.length_nil]; omega) : 0 ≤ (((t.step (↑w.heap.words.length : Int)).step (↑w.heap.pages.length : Int)).step 12).next 10 ∧ ((((t.step (↑w.heap.words.length : Int)).step (↑w.heap.pages.length : Int)).step 12).next 10).toNat < (List.map wdv [0,1,5,21,4096,4097,4112,16386,1099511627776,61]).length) (an (by exact el_of (by simp only [List.length_cons,List.length_nil]; omega) : (List.map wdv [0,1,5,21,4096,4097,4112,16386,1099511627776,61])[((((t.step (↑w.heap.words.length : Int)).step (↑w.heap.pages.length : Int)).step 12).next 10).toNat]? = some (wdv ([0,1,5,21,4096,4097,4112,16386,1099511627776,61].getD ((((t.step (↑w.heap.words.length : Int)).step (↑w.heap.pages.length : Int)).step 12).next 10).toNat default))) (an (by (simp only [List.length_map,List.length_cons,List.length_nil]; omega) : 0 ≤ t.next (↑w.heap.words.length : Int) ∧ (t.next (↑w.heap.words.length : Int)).toNat < (List.map wdv w.heap.words).length) (an (by (simp only [List.length_map,List.length_cons,List.length_nil]; omega) : (t.next (↑w.heap.words.length : Int)).toNat < (List.map wdv w.heap.words).length) (by simp [spV,spQ,spPg,spI,spP,spT3,spT2,spList,List.map_take,List.map_drop,List.map_set,List.map_append,wdv,idv] : (List.map wdv w.heap.words).set (t.next (↑w.heap.words.length : Int)).toNat [du64 ([0,1,5,21,4096,4097,4112,16386,1099511627776,61].getD ((((t.step (↑w.heap.words.length : Int)).step (↑w.heap.pages.length : Int)).step 12).next 10).toNat default)] = List.map wdv (w.heap.words.set (t.next (↑w.heap.words.length : Int)).toNat ([0,1,5,21,4096,4097,4112,16386,1099511627776,61].getD ((((t.step (↑w.heap.words.length : Int)).step (↑w.heap.pages.length : Int)).step 12).next 10).toNat default))))))))))))))))))))
theorem spoil2 (hd : (spT2 w t).next 12 = 2) : LentSpec Tryz.prog 7 [w.av,.pt 0 0 0] [t.b] (w.spoil t).av [(w.spoilT t).b] := by
 have e7 : w.spoil t = ⟨⟨w.heap.conf,w.heap.words.set (spI w t) (spV w t 2),w.heap.pages,w.heap.space,w.heap.bump⟩,w.strong,w.weak⟩ := by simp [WorldM.spoil,spH,hd]
 have e8 : w.spoilT t = (spT3 w t).step 64 := by simp [WorldM.spoilT,spN,hd]
 have s1 := step_at (t := t) (w.heap.words.length : Int)
 have s2 : (t.step (w.heap.words.length : Int)).at' ≤ (spT2 w t).at' ∧ (spT2 w t).at' ≤ (t.step (w.heap.words.length : Int)).at' + 1 ∧ (spT2 w t).l = (t.step (w.heap.words.length : Int)).l := step_at _
 have s3 : (spT2 w t).at' ≤ (spT3 w t).at' ∧ (spT3 w t).at' ≤ (spT2 w t).at' + 1 ∧ (spT3 w t).l = (spT2 w t).l := step_at _
 have k1 := tok_of ht s1.2.2 (by omega) (by omega)
 have k2 : TOk (spT2 w t) := tok_of k1 s2.2.2 (by omega) (by omega)
 have k3 : TOk (spT3 w t) := tok_of k2 s3.2.2 (by omega) (by omega)
 have a1 := area hm.hv
 have a2 := validB_iff.1 hm.hv
 have a3 := hm.L
 have a4 := hm.pl
 have hw := hm.words
 have n1 := next_range t (n := (w.heap.words.length : Int)) (by omega)
 have n2 := next_range (t.step (w.heap.words.length : Int)) (n := (w.heap.pages.length : Int)) (by omega)
 have n3 := next_range (spT3 w t) (n := 64) (by omega)
 rw [e7,e8]
 unfold spT3 spT2 at *
 exact lE [(11,[.els (List.map wdv [])]),(14,[.els (List.map wdv w.heap.words)]),(15,[.els (List.map Page.dv [])]),(18,[.els (List.map Page.dv w.heap.pages)]),(24,[.int ↑w.heap.words.length]),(25,[.lent (int (t.next (↑w.heap.words.length : Int))) [(t.step (↑w.heap.words.length : Int)).b]]),(29,[.int ↑w.heap.pages.length]),(30,[.lent (int ((t.step (↑w.heap.words.length : Int)).next (↑w.heap.pages.length : Int))) [((t.step (↑w.heap.words.length : Int)).step (↑w.heap.pages.length : Int)).b]]),(32,[.lent (int 2) [(((t.step (↑w.heap.words.length : Int)).step (↑w.heap.pages.length : Int)).step 12).b]]),(51,[.el (wdv (w.heap.words.getD (t.next (↑w.heap.words.length : Int)).toNat default))]),(53,[.lent (int ((((t.step (↑w.heap.words.length : Int)).step (↑w.heap.pages.length : Int)).step 12).next 64)) [((((t.step (↑w.heap.words.length : Int)).step (↑w.heap.pages.length : Int)).step 12).step 64).b]]),(54,[.int ((((t.step (↑w.heap.words.length : Int)).step (↑w.heap.pages.length : Int)).step 12).next 64)]),(10057,[.els (List.map wdv (w.heap.words.set (t.next (↑w.heap.words.length : Int)).toNat (bits BinOp.xor IntKind.u64 (w.heap.words.getD (t.next (↑w.heap.words.length : Int)).toNat default) (IntKind.u64.wrap (1 * 2 ^ min ((((t.step (↑w.heap.words.length : Int)).step (↑w.heap.pages.length : Int)).step 12).next 64).toNat 64)))))])] [] Tryz.func7 [] (an (rf (List.map wdv [])) (an (by (simp [spV,spQ,spPg,spI,spP,spT3,spT2,spList, *]; omega) : (List.map wdv []).length + (List.map wdv w.heap.words).length ≤ 2 ^ 30) (an (rf (List.map wdv w.heap.words)) (an (rf (List.map Page.dv [])) (an (by (simp [spV,spQ,spPg,spI,spP,spT3,spT2,spList, *]; omega) : (List.map Page.dv []).length + (List.map Page.dv w.heap.pages).length ≤ 2 ^ 30) (an (rf (List.map Page.dv w.heap.pages)) (an (lm ((↑(List.map wdv w.heap.words).length : Int) = (↑w.heap.words.length : Int))) (an (@tapeNext t ((↑w.heap.words.length : Int)) ‹_› (by omega) (by omega)) (an (lm ((↑(List.map Page.dv w.heap.pages).length : Int) = (↑w.heap.pages.length : Int))) (an (@tapeNext (t.step (↑w.heap.words.length : Int)) ((↑w.heap.pages.length : Int)) ‹_› (by omega) (by omega)) (an (@sp_next12 ((t.step (↑w.heap.words.length : Int)).step (↑w.heap.pages.length : Int)) (2) ‹_› ‹_›) (an (by (simp only [List.length_map]; omega) : 0 ≤ t.next (↑w.heap.words.length : Int) ∧ (t.next (↑w.heap.words.length : Int)).toNat < (List.map wdv w.heap.words).length) (an (by exact el_of (by omega) : (List.map wdv w.heap.words)[(t.next (↑w.heap.words.length : Int)).toNat]? = some (wdv (w.heap.words.getD (t.next (↑w.heap.words.length : Int)).toNat default))) (an (@tapeNext (((t.step (↑w.heap.words.length : Int)).step (↑w.heap.pages.length : Int)).step 12) (64) ‹_› (by omega) (by omega)) (an (wU (IntKind.u64.wrap ((((t.step (↑w.heap.words.length : Int)).step (↑w.heap.pages.length : Int)).step 12).next 64) = (((t.step (↑w.heap.words.length : Int)).step (↑w.heap.pages.length : Int)).step 12).next 64)) (an (om (0 ≤ (((t.step (↑w.heap.words.length : Int)).step (↑w.heap.pages.length : Int)).step 12).next 64)) (an (by (simp only [List.length_map]; omega) : 0 ≤ t.next (↑w.heap.words.length : Int) ∧ (t.next (↑w.heap.words.length : Int)).toNat < (List.map wdv w.heap.words).length) (an (by (simp only [List.length_map]; omega) : (t.next (↑w.heap.words.length : Int)).toNat < (List.map wdv w.heap.words).length) (by rw [List.map_set]; rfl : (List.map wdv w.heap.words).set (t.next (↑w.heap.words.length : Int)).toNat [du64 (bits BinOp.xor IntKind.u64 (w.heap.words.getD (t.next (↑w.heap.words.length : Int)).toNat default) (IntKind.u64.wrap (1 * 2 ^ min ((((t.step (↑w.heap.words.length : Int)).step (↑w.heap.pages.length : Int)).step 12).next 64).toNat IntKind.u64.bits)))] = List.map wdv (w.heap.words.set (t.next (↑w.heap.words.length : Int)).toNat (bits BinOp.xor IntKind.u64 (w.heap.words.getD (t.next (↑w.heap.words.length : Int)).toNat default) (IntKind.u64.wrap (1 * 2 ^ min ((((t.step (↑w.heap.words.length : Int)).step (↑w.heap.pages.length : Int)).step 12).next 64).toNat 64)))))))))))))))))))))))
theorem spoil3 (hd : (spT2 w t).next 12 = 3) : LentSpec Tryz.prog 7 [w.av,.pt 0 0 0] [t.b] (w.spoil t).av [(w.spoilT t).b] := by
 have e7 : w.spoil t = ⟨⟨w.heap.conf,w.heap.words,w.heap.pages.set (spP w t) (spQ w t 3),w.heap.space,w.heap.bump⟩,w.strong,w.weak⟩ := by simp [WorldM.spoil,spH,hd]
 have e8 : w.spoilT t = (spT3 w t).step 5 := by simp [WorldM.spoilT,spN,hd]
 have s1 := step_at (t := t) (w.heap.words.length : Int)
 have s2 : (t.step (w.heap.words.length : Int)).at' ≤ (spT2 w t).at' ∧ (spT2 w t).at' ≤ (t.step (w.heap.words.length : Int)).at' + 1 ∧ (spT2 w t).l = (t.step (w.heap.words.length : Int)).l := step_at _
 have s3 : (spT2 w t).at' ≤ (spT3 w t).at' ∧ (spT3 w t).at' ≤ (spT2 w t).at' + 1 ∧ (spT3 w t).l = (spT2 w t).l := step_at _
 have k1 := tok_of ht s1.2.2 (by omega) (by omega)
 have k2 : TOk (spT2 w t) := tok_of k1 s2.2.2 (by omega) (by omega)
 have k3 : TOk (spT3 w t) := tok_of k2 s3.2.2 (by omega) (by omega)
 have a1 := area hm.hv
 have a2 := validB_iff.1 hm.hv
 have a3 := hm.L
 have a4 := hm.pl
 have hw := hm.words
 have n1 := next_range t (n := (w.heap.words.length : Int)) (by omega)
 have n2 := next_range (t.step (w.heap.words.length : Int)) (n := (w.heap.pages.length : Int)) (by omega)
 have n3 := next_range (spT3 w t) (n := 5) (by omega)
 rw [e7,e8]
 unfold spT3 spT2 at *
 exact lE [(11,[.els (List.map wdv [])]),(14,[.els (List.map wdv w.heap.words)]),(15,[.els (List.map Page.dv [])]),(18,[.els (List.map Page.dv w.heap.pages)]),(24,[.int ↑w.heap.words.length]),(25,[.lent (int (t.next (↑w.heap.words.length : Int))) [(t.step (↑w.heap.words.length : Int)).b]]),(29,[.int ↑w.heap.pages.length]),(30,[.lent (int ((t.step (↑w.heap.words.length : Int)).next (↑w.heap.pages.length : Int))) [((t.step (↑w.heap.words.length : Int)).step (↑w.heap.pages.length : Int)).b]]),(32,[.lent (int 3) [(((t.step (↑w.heap.words.length : Int)).step (↑w.heap.pages.length : Int)).step 12).b]]),(64,[.lent (int ((((t.step (↑w.heap.words.length : Int)).step (↑w.heap.pages.length : Int)).step 12).next 5)) [((((t.step (↑w.heap.words.length : Int)).step (↑w.heap.pages.length : Int)).step 12).step 5).b]]),(10066,[.el (w.heap.pages.getD ((t.step (↑w.heap.words.length : Int)).next (↑w.heap.pages.length : Int)).toNat default).dv,.els (List.map Page.dv (w.heap.pages.set ((t.step (↑w.heap.words.length : Int)).next (↑w.heap.pages.length : Int)).toNat (Page.mk ((((t.step (↑w.heap.words.length : Int)).step (↑w.heap.pages.length : Int)).step 12).next 5) (w.heap.pages.getD ((t.step (↑w.heap.words.length : Int)).next (↑w.heap.pages.length : Int)).toNat default).space (w.heap.pages.getD ((t.step (↑w.heap.words.length : Int)).next (↑w.heap.pages.length : Int)).toNat default).used (w.heap.pages.getD ((t.step (↑w.heap.words.length : Int)).next (↑w.heap.pages.length : Int)).toNat default).pins)))])] [] Tryz.func7 [] (an (rf (List.map wdv [])) (an (by (simp [spV,spQ,spPg,spI,spP,spT3,spT2,spList, *]; omega) : (List.map wdv []).length + (List.map wdv w.heap.words).length ≤ 2 ^ 30) (an (rf (List.map wdv w.heap.words)) (an (rf (List.map Page.dv [])) (an (by (simp [spV,spQ,spPg,spI,spP,spT3,spT2,spList, *]; omega) : (List.map Page.dv []).length + (List.map Page.dv w.heap.pages).length ≤ 2 ^ 30) (an (rf (List.map Page.dv w.heap.pages)) (an (lm ((↑(List.map wdv w.heap.words).length : Int) = (↑w.heap.words.length : Int))) (an (@tapeNext t ((↑w.heap.words.length : Int)) ‹_› (by omega) (by omega)) (an (lm ((↑(List.map Page.dv w.heap.pages).length : Int) = (↑w.heap.pages.length : Int))) (an (@tapeNext (t.step (↑w.heap.words.length : Int)) ((↑w.heap.pages.length : Int)) ‹_› (by omega) (by omega)) (an (@sp_next12 ((t.step (↑w.heap.words.length : Int)).step (↑w.heap.pages.length : Int)) (3) ‹_› ‹_›) (an (@tapeNext (((t.step (↑w.heap.words.length : Int)).step (↑w.heap.pages.length : Int)).step 12) (5) ‹_› (by omega) (by omega)) (an (by (simp only [List.length_map]; omega) : 0 ≤ (t.step (↑w.heap.words.length : Int)).next (↑w.heap.pages.length : Int) ∧ ((t.step (↑w.heap.words.length : Int)).next (↑w.heap.pages.length : Int)).toNat < (List.map Page.dv w.heap.pages).length) (an (by exact el_of (by omega) : (List.map Page.dv w.heap.pages)[((t.step (↑w.heap.words.length : Int)).next (↑w.heap.pages.length : Int)).toNat]? = some (w.heap.pages.getD ((t.step (↑w.heap.words.length : Int)).next (↑w.heap.pages.length : Int)).toNat default).dv) (by rw [List.map_set]; rfl : (List.map Page.dv w.heap.pages).set ((t.step (↑w.heap.words.length : Int)).next (↑w.heap.pages.length : Int)).toNat (spliceD (w.heap.pages.getD ((t.step (↑w.heap.words.length : Int)).next (↑w.heap.pages.length : Int)).toNat default).dv (0 + #[Field.mk "Kind" 3 0 false "" "" 0,Field.mk "Space" 3 1 false "" "" 8,Field.mk "Used" 3 2 false "" "" 16,Field.mk "Pins" 3 3 false "" "" 24][0].offset) [dint ((((t.step (↑w.heap.words.length : Int)).step (↑w.heap.pages.length : Int)).step 12).next 5)]) = List.map Page.dv (w.heap.pages.set ((t.step (↑w.heap.words.length : Int)).next (↑w.heap.pages.length : Int)).toNat (Page.mk ((((t.step (↑w.heap.words.length : Int)).step (↑w.heap.pages.length : Int)).step 12).next 5) (w.heap.pages.getD ((t.step (↑w.heap.words.length : Int)).next (↑w.heap.pages.length : Int)).toNat default).space (w.heap.pages.getD ((t.step (↑w.heap.words.length : Int)).next (↑w.heap.pages.length : Int)).toNat default).used (w.heap.pages.getD ((t.step (↑w.heap.words.length : Int)).next (↑w.heap.pages.length : Int)).toNat default).pins)))))))))))))))))
theorem spoil4 (hd : (spT2 w t).next 12 = 4) : LentSpec Tryz.prog 7 [w.av,.pt 0 0 0] [t.b] (w.spoil t).av [(w.spoilT t).b] := by
 have e7 : w.spoil t = ⟨⟨w.heap.conf,w.heap.words,w.heap.pages.set (spP w t) (spQ w t 4),w.heap.space,w.heap.bump⟩,w.strong,w.weak⟩ := by simp [WorldM.spoil,spH,hd]
 have e8 : w.spoilT t = (spT3 w t).step 3 := by simp [WorldM.spoilT,spN,hd]
 have s1 := step_at (t := t) (w.heap.words.length : Int)
 have s2 : (t.step (w.heap.words.length : Int)).at' ≤ (spT2 w t).at' ∧ (spT2 w t).at' ≤ (t.step (w.heap.words.length : Int)).at' + 1 ∧ (spT2 w t).l = (t.step (w.heap.words.length : Int)).l := step_at _
 have s3 : (spT2 w t).at' ≤ (spT3 w t).at' ∧ (spT3 w t).at' ≤ (spT2 w t).at' + 1 ∧ (spT3 w t).l = (spT2 w t).l := step_at _
 have k1 := tok_of ht s1.2.2 (by omega) (by omega)
 have k2 : TOk (spT2 w t) := tok_of k1 s2.2.2 (by omega) (by omega)
 have k3 : TOk (spT3 w t) := tok_of k2 s3.2.2 (by omega) (by omega)
 have a1 := area hm.hv
 have a2 := validB_iff.1 hm.hv
 have a3 := hm.L
 have a4 := hm.pl
 have hw := hm.words
 have n1 := next_range t (n := (w.heap.words.length : Int)) (by omega)
 have n2 := next_range (t.step (w.heap.words.length : Int)) (n := (w.heap.pages.length : Int)) (by omega)
 have n3 := next_range (spT3 w t) (n := 3) (by omega)
 rw [e7,e8]
 unfold spT3 spT2 at *
 exact lE [(11,[.els (List.map wdv [])]),(14,[.els (List.map wdv w.heap.words)]),(15,[.els (List.map Page.dv [])]),(18,[.els (List.map Page.dv w.heap.pages)]),(24,[.int ↑w.heap.words.length]),(25,[.lent (int (t.next (↑w.heap.words.length : Int))) [(t.step (↑w.heap.words.length : Int)).b]]),(29,[.int ↑w.heap.pages.length]),(30,[.lent (int ((t.step (↑w.heap.words.length : Int)).next (↑w.heap.pages.length : Int))) [((t.step (↑w.heap.words.length : Int)).step (↑w.heap.pages.length : Int)).b]]),(32,[.lent (int 4) [(((t.step (↑w.heap.words.length : Int)).step (↑w.heap.pages.length : Int)).step 12).b]]),(73,[.lent (int ((((t.step (↑w.heap.words.length : Int)).step (↑w.heap.pages.length : Int)).step 12).next 3)) [((((t.step (↑w.heap.words.length : Int)).step (↑w.heap.pages.length : Int)).step 12).step 3).b]]),(10075,[.el (w.heap.pages.getD ((t.step (↑w.heap.words.length : Int)).next (↑w.heap.pages.length : Int)).toNat default).dv,.els (List.map Page.dv (w.heap.pages.set ((t.step (↑w.heap.words.length : Int)).next (↑w.heap.pages.length : Int)).toNat (Page.mk (w.heap.pages.getD ((t.step (↑w.heap.words.length : Int)).next (↑w.heap.pages.length : Int)).toNat default).kind ((((t.step (↑w.heap.words.length : Int)).step (↑w.heap.pages.length : Int)).step 12).next 3) (w.heap.pages.getD ((t.step (↑w.heap.words.length : Int)).next (↑w.heap.pages.length : Int)).toNat default).used (w.heap.pages.getD ((t.step (↑w.heap.words.length : Int)).next (↑w.heap.pages.length : Int)).toNat default).pins)))])] [] Tryz.func7 [] (an (rf (List.map wdv [])) (an (by (simp [spV,spQ,spPg,spI,spP,spT3,spT2,spList, *]; omega) : (List.map wdv []).length + (List.map wdv w.heap.words).length ≤ 2 ^ 30) (an (rf (List.map wdv w.heap.words)) (an (rf (List.map Page.dv [])) (an (by (simp [spV,spQ,spPg,spI,spP,spT3,spT2,spList, *]; omega) : (List.map Page.dv []).length + (List.map Page.dv w.heap.pages).length ≤ 2 ^ 30) (an (rf (List.map Page.dv w.heap.pages)) (an (lm ((↑(List.map wdv w.heap.words).length : Int) = (↑w.heap.words.length : Int))) (an (@tapeNext t ((↑w.heap.words.length : Int)) ‹_› (by omega) (by omega)) (an (lm ((↑(List.map Page.dv w.heap.pages).length : Int) = (↑w.heap.pages.length : Int))) (an (@tapeNext (t.step (↑w.heap.words.length : Int)) ((↑w.heap.pages.length : Int)) ‹_› (by omega) (by omega)) (an (@sp_next12 ((t.step (↑w.heap.words.length : Int)).step (↑w.heap.pages.length : Int)) (4) ‹_› ‹_›) (an (@tapeNext (((t.step (↑w.heap.words.length : Int)).step (↑w.heap.pages.length : Int)).step 12) (3) ‹_› (by omega) (by omega)) (an (by (simp only [List.length_map]; omega) : 0 ≤ (t.step (↑w.heap.words.length : Int)).next (↑w.heap.pages.length : Int) ∧ ((t.step (↑w.heap.words.length : Int)).next (↑w.heap.pages.length : Int)).toNat < (List.map Page.dv w.heap.pages).length) (an (by exact el_of (by omega) : (List.map Page.dv w.heap.pages)[((t.step (↑w.heap.words.length : Int)).next (↑w.heap.pages.length : Int)).toNat]? = some (w.heap.pages.getD ((t.step (↑w.heap.words.length : Int)).next (↑w.heap.pages.length : Int)).toNat default).dv) (by rw [List.map_set]; rfl : (List.map Page.dv w.heap.pages).set ((t.step (↑w.heap.words.length : Int)).next (↑w.heap.pages.length : Int)).toNat (spliceD (w.heap.pages.getD ((t.step (↑w.heap.words.length : Int)).next (↑w.heap.pages.length : Int)).toNat default).dv (0 + #[Field.mk "Kind" 3 0 false "" "" 0,Field.mk "Space" 3 1 false "" "" 8,Field.mk "Used" 3 2 false "" "" 16,Field.mk "Pins" 3 3 false "" "" 24][1].offset) [dint ((((t.step (↑w.heap.words.length : Int)).step (↑w.heap.pages.length : Int)).step 12).next 3)]) = List.map Page.dv (w.heap.pages.set ((t.step (↑w.heap.words.length : Int)).next (↑w.heap.pages.length : Int)).toNat (Page.mk (w.heap.pages.getD ((t.step (↑w.heap.words.length : Int)).next (↑w.heap.pages.length : Int)).toNat default).kind ((((t.step (↑w.heap.words.length : Int)).step (↑w.heap.pages.length : Int)).step 12).next 3) (w.heap.pages.getD ((t.step (↑w.heap.words.length : Int)).next (↑w.heap.pages.length : Int)).toNat default).used (w.heap.pages.getD ((t.step (↑w.heap.words.length : Int)).next (↑w.heap.pages.length : Int)).toNat default).pins)))))))))))))))))
theorem spoil5 (hd : (spT2 w t).next 12 = 5) : LentSpec Tryz.prog 7 [w.av,.pt 0 0 0] [t.b] (w.spoil t).av [(w.spoilT t).b] := by
 have e7 : w.spoil t = ⟨⟨w.heap.conf,w.heap.words,w.heap.pages.set (spP w t) (spQ w t 5),w.heap.space,w.heap.bump⟩,w.strong,w.weak⟩ := by simp [WorldM.spoil,spH,hd]
 have e8 : w.spoilT t = (spT3 w t).step 9 := by simp [WorldM.spoilT,spN,hd]
 have s1 := step_at (t := t) (w.heap.words.length : Int)
 have s2 : (t.step (w.heap.words.length : Int)).at' ≤ (spT2 w t).at' ∧ (spT2 w t).at' ≤ (t.step (w.heap.words.length : Int)).at' + 1 ∧ (spT2 w t).l = (t.step (w.heap.words.length : Int)).l := step_at _
 have s3 : (spT2 w t).at' ≤ (spT3 w t).at' ∧ (spT3 w t).at' ≤ (spT2 w t).at' + 1 ∧ (spT3 w t).l = (spT2 w t).l := step_at _
 have k1 := tok_of ht s1.2.2 (by omega) (by omega)
 have k2 : TOk (spT2 w t) := tok_of k1 s2.2.2 (by omega) (by omega)
 have k3 : TOk (spT3 w t) := tok_of k2 s3.2.2 (by omega) (by omega)
 have a1 := area hm.hv
 have a2 := validB_iff.1 hm.hv
 have a3 := hm.L
 have a4 := hm.pl
 have hw := hm.words
 have n1 := next_range t (n := (w.heap.words.length : Int)) (by omega)
 have n2 := next_range (t.step (w.heap.words.length : Int)) (n := (w.heap.pages.length : Int)) (by omega)
 have n3 := next_range (spT3 w t) (n := 9) (by omega)
 have pu := hus (spP w t)
 unfold spP at pu
 rw [e7,e8]
 unfold spT3 spT2 at *
 exact lE [(11,[.els (List.map wdv [])]),(14,[.els (List.map wdv w.heap.words)]),(15,[.els (List.map Page.dv [])]),(18,[.els (List.map Page.dv w.heap.pages)]),(24,[.int ↑w.heap.words.length]),(25,[.lent (int (t.next (↑w.heap.words.length : Int))) [(t.step (↑w.heap.words.length : Int)).b]]),(29,[.int ↑w.heap.pages.length]),(30,[.lent (int ((t.step (↑w.heap.words.length : Int)).next (↑w.heap.pages.length : Int))) [((t.step (↑w.heap.words.length : Int)).step (↑w.heap.pages.length : Int)).b]]),(32,[.lent (int 5) [(((t.step (↑w.heap.words.length : Int)).step (↑w.heap.pages.length : Int)).step 12).b]]),(86,[.el (w.heap.pages.getD ((t.step (↑w.heap.words.length : Int)).next (↑w.heap.pages.length : Int)).toNat default).dv]),(88,[.lent (int ((((t.step (↑w.heap.words.length : Int)).step (↑w.heap.pages.length : Int)).step 12).next 9)) [((((t.step (↑w.heap.words.length : Int)).step (↑w.heap.pages.length : Int)).step 12).step 9).b]]),(89,[.int ((w.heap.pages.getD ((t.step (↑w.heap.words.length : Int)).next (↑w.heap.pages.length : Int)).toNat default).used + (((t.step (↑w.heap.words.length : Int)).step (↑w.heap.pages.length : Int)).step 12).next 9)]),(90,[.int ((w.heap.pages.getD ((t.step (↑w.heap.words.length : Int)).next (↑w.heap.pages.length : Int)).toNat default).used + (((t.step (↑w.heap.words.length : Int)).step (↑w.heap.pages.length : Int)).step 12).next 9 - 4)]),(10092,[.el (w.heap.pages.getD ((t.step (↑w.heap.words.length : Int)).next (↑w.heap.pages.length : Int)).toNat default).dv,.els (List.map Page.dv (w.heap.pages.set ((t.step (↑w.heap.words.length : Int)).next (↑w.heap.pages.length : Int)).toNat (Page.mk (w.heap.pages.getD ((t.step (↑w.heap.words.length : Int)).next (↑w.heap.pages.length : Int)).toNat default).kind (w.heap.pages.getD ((t.step (↑w.heap.words.length : Int)).next (↑w.heap.pages.length : Int)).toNat default).space ((w.heap.pages.getD ((t.step (↑w.heap.words.length : Int)).next (↑w.heap.pages.length : Int)).toNat default).used + (((t.step (↑w.heap.words.length : Int)).step (↑w.heap.pages.length : Int)).step 12).next 9 - 4) (w.heap.pages.getD ((t.step (↑w.heap.words.length : Int)).next (↑w.heap.pages.length : Int)).toNat default).pins)))])] [] Tryz.func7 [] (an (rf (List.map wdv [])) (an (by (simp [spV,spQ,spPg,spI,spP,spT3,spT2,spList, *]; omega) : (List.map wdv []).length + (List.map wdv w.heap.words).length ≤ 2 ^ 30) (an (rf (List.map wdv w.heap.words)) (an (rf (List.map Page.dv [])) (an (by (simp [spV,spQ,spPg,spI,spP,spT3,spT2,spList, *]; omega) : (List.map Page.dv []).length + (List.map Page.dv w.heap.pages).length ≤ 2 ^ 30) (an (rf (List.map Page.dv w.heap.pages)) (an (lm ((↑(List.map wdv w.heap.words).length : Int) = (↑w.heap.words.length : Int))) (an (@tapeNext t ((↑w.heap.words.length : Int)) ‹_› (by omega) (by omega)) (an (lm ((↑(List.map Page.dv w.heap.pages).length : Int) = (↑w.heap.pages.length : Int))) (an (@tapeNext (t.step (↑w.heap.words.length : Int)) ((↑w.heap.pages.length : Int)) ‹_› (by omega) (by omega)) (an (@sp_next12 ((t.step (↑w.heap.words.length : Int)).step (↑w.heap.pages.length : Int)) (5) ‹_› ‹_›) (an (by (simp only [List.length_map]; omega) : 0 ≤ (t.step (↑w.heap.words.length : Int)).next (↑w.heap.pages.length : Int) ∧ ((t.step (↑w.heap.words.length : Int)).next (↑w.heap.pages.length : Int)).toNat < (List.map Page.dv w.heap.pages).length) (an (by exact el_of (by omega) : (List.map Page.dv w.heap.pages)[((t.step (↑w.heap.words.length : Int)).next (↑w.heap.pages.length : Int)).toNat]? = some (w.heap.pages.getD ((t.step (↑w.heap.words.length : Int)).next (↑w.heap.pages.length : Int)).toNat default).dv) (an (@tapeNext (((t.step (↑w.heap.words.length : Int)).step (↑w.heap.pages.length : Int)).step 12) (9) ‹_› (by omega) (by omega)) (an (wI (IntKind.i64.wrap ((w.heap.pages.getD ((t.step (↑w.heap.words.length : Int)).next (↑w.heap.pages.length : Int)).toNat default).used + (((t.step (↑w.heap.words.length : Int)).step (↑w.heap.pages.length : Int)).step 12).next 9) = (w.heap.pages.getD ((t.step (↑w.heap.words.length : Int)).next (↑w.heap.pages.length : Int)).toNat default).used + (((t.step (↑w.heap.words.length : Int)).step (↑w.heap.pages.length : Int)).step 12).next 9)) (an (wI (IntKind.i64.wrap ((w.heap.pages.getD ((t.step (↑w.heap.words.length : Int)).next (↑w.heap.pages.length : Int)).toNat default).used + (((t.step (↑w.heap.words.length : Int)).step (↑w.heap.pages.length : Int)).step 12).next 9 - 4) = (w.heap.pages.getD ((t.step (↑w.heap.words.length : Int)).next (↑w.heap.pages.length : Int)).toNat default).used + (((t.step (↑w.heap.words.length : Int)).step (↑w.heap.pages.length : Int)).step 12).next 9 - 4)) (an (by (simp only [List.length_map]; omega) : 0 ≤ (t.step (↑w.heap.words.length : Int)).next (↑w.heap.pages.length : Int) ∧ ((t.step (↑w.heap.words.length : Int)).next (↑w.heap.pages.length : Int)).toNat < (List.map Page.dv w.heap.pages).length) (an (by exact el_of (by omega) : (List.map Page.dv w.heap.pages)[((t.step (↑w.heap.words.length : Int)).next (↑w.heap.pages.length : Int)).toNat]? = some (w.heap.pages.getD ((t.step (↑w.heap.words.length : Int)).next (↑w.heap.pages.length : Int)).toNat default).dv) (by rw [List.map_set]; rfl : (List.map Page.dv w.heap.pages).set ((t.step (↑w.heap.words.length : Int)).next (↑w.heap.pages.length : Int)).toNat (spliceD (w.heap.pages.getD ((t.step (↑w.heap.words.length : Int)).next (↑w.heap.pages.length : Int)).toNat default).dv (0 + #[Field.mk "Kind" 3 0 false "" "" 0,Field.mk "Space" 3 1 false "" "" 8,Field.mk "Used" 3 2 false "" "" 16,Field.mk "Pins" 3 3 false "" "" 24][2].offset) [dint ((w.heap.pages.getD ((t.step (↑w.heap.words.length : Int)).next (↑w.heap.pages.length : Int)).toNat default).used + (((t.step (↑w.heap.words.length : Int)).step (↑w.heap.pages.length : Int)).step 12).next 9 - 4)]) = List.map Page.dv (w.heap.pages.set ((t.step (↑w.heap.words.length : Int)).next (↑w.heap.pages.length : Int)).toNat (Page.mk (w.heap.pages.getD ((t.step (↑w.heap.words.length : Int)).next (↑w.heap.pages.length : Int)).toNat default).kind (w.heap.pages.getD ((t.step (↑w.heap.words.length : Int)).next (↑w.heap.pages.length : Int)).toNat default).space ((w.heap.pages.getD ((t.step (↑w.heap.words.length : Int)).next (↑w.heap.pages.length : Int)).toNat default).used + (((t.step (↑w.heap.words.length : Int)).step (↑w.heap.pages.length : Int)).step 12).next 9 - 4) (w.heap.pages.getD ((t.step (↑w.heap.words.length : Int)).next (↑w.heap.pages.length : Int)).toNat default).pins)))))))))))))))))))))
theorem spoil6 (hd : (spT2 w t).next 12 = 6) : LentSpec Tryz.prog 7 [w.av,.pt 0 0 0] [t.b] (w.spoil t).av [(w.spoilT t).b] := by
 have e7 : w.spoil t = ⟨⟨w.heap.conf,w.heap.words,w.heap.pages.set (spP w t) (spQ w t 6),w.heap.space,w.heap.bump⟩,w.strong,w.weak⟩ := by simp [WorldM.spoil,spH,hd]
 have e8 : w.spoilT t = (spT3 w t).step 3 := by simp [WorldM.spoilT,spN,hd]
 have s1 := step_at (t := t) (w.heap.words.length : Int)
 have s2 : (t.step (w.heap.words.length : Int)).at' ≤ (spT2 w t).at' ∧ (spT2 w t).at' ≤ (t.step (w.heap.words.length : Int)).at' + 1 ∧ (spT2 w t).l = (t.step (w.heap.words.length : Int)).l := step_at _
 have s3 : (spT2 w t).at' ≤ (spT3 w t).at' ∧ (spT3 w t).at' ≤ (spT2 w t).at' + 1 ∧ (spT3 w t).l = (spT2 w t).l := step_at _
 have k1 := tok_of ht s1.2.2 (by omega) (by omega)
 have k2 : TOk (spT2 w t) := tok_of k1 s2.2.2 (by omega) (by omega)
 have k3 : TOk (spT3 w t) := tok_of k2 s3.2.2 (by omega) (by omega)
 have a1 := area hm.hv
 have a2 := validB_iff.1 hm.hv
 have a3 := hm.L
 have a4 := hm.pl
 have hw := hm.words
 have n1 := next_range t (n := (w.heap.words.length : Int)) (by omega)
 have n2 := next_range (t.step (w.heap.words.length : Int)) (n := (w.heap.pages.length : Int)) (by omega)
 have n3 := next_range (spT3 w t) (n := 3) (by omega)
 rw [e7,e8]
 unfold spT3 spT2 at *
 exact lE [(11,[.els (List.map wdv [])]),(14,[.els (List.map wdv w.heap.words)]),(15,[.els (List.map Page.dv [])]),(18,[.els (List.map Page.dv w.heap.pages)]),(24,[.int ↑w.heap.words.length]),(25,[.lent (int (t.next (↑w.heap.words.length : Int))) [(t.step (↑w.heap.words.length : Int)).b]]),(29,[.int ↑w.heap.pages.length]),(30,[.lent (int ((t.step (↑w.heap.words.length : Int)).next (↑w.heap.pages.length : Int))) [((t.step (↑w.heap.words.length : Int)).step (↑w.heap.pages.length : Int)).b]]),(32,[.lent (int 6) [(((t.step (↑w.heap.words.length : Int)).step (↑w.heap.pages.length : Int)).step 12).b]]),(99,[.lent (int ((((t.step (↑w.heap.words.length : Int)).step (↑w.heap.pages.length : Int)).step 12).next 3)) [((((t.step (↑w.heap.words.length : Int)).step (↑w.heap.pages.length : Int)).step 12).step 3).b]]),(100,[.int ((((t.step (↑w.heap.words.length : Int)).step (↑w.heap.pages.length : Int)).step 12).next 3 - 1)]),(10102,[.el (w.heap.pages.getD ((t.step (↑w.heap.words.length : Int)).next (↑w.heap.pages.length : Int)).toNat default).dv,.els (List.map Page.dv (w.heap.pages.set ((t.step (↑w.heap.words.length : Int)).next (↑w.heap.pages.length : Int)).toNat (Page.mk (w.heap.pages.getD ((t.step (↑w.heap.words.length : Int)).next (↑w.heap.pages.length : Int)).toNat default).kind (w.heap.pages.getD ((t.step (↑w.heap.words.length : Int)).next (↑w.heap.pages.length : Int)).toNat default).space (w.heap.pages.getD ((t.step (↑w.heap.words.length : Int)).next (↑w.heap.pages.length : Int)).toNat default).used ((((t.step (↑w.heap.words.length : Int)).step (↑w.heap.pages.length : Int)).step 12).next 3 - 1))))])] [] Tryz.func7 [] (an (rf (List.map wdv [])) (an (by (simp [spV,spQ,spPg,spI,spP,spT3,spT2,spList, *]; omega) : (List.map wdv []).length + (List.map wdv w.heap.words).length ≤ 2 ^ 30) (an (rf (List.map wdv w.heap.words)) (an (rf (List.map Page.dv [])) (an (by (simp [spV,spQ,spPg,spI,spP,spT3,spT2,spList, *]; omega) : (List.map Page.dv []).length + (List.map Page.dv w.heap.pages).length ≤ 2 ^ 30) (an (rf (List.map Page.dv w.heap.pages)) (an (lm ((↑(List.map wdv w.heap.words).length : Int) = (↑w.heap.words.length : Int))) (an (@tapeNext t ((↑w.heap.words.length : Int)) ‹_› (by omega) (by omega)) (an (lm ((↑(List.map Page.dv w.heap.pages).length : Int) = (↑w.heap.pages.length : Int))) (an (@tapeNext (t.step (↑w.heap.words.length : Int)) ((↑w.heap.pages.length : Int)) ‹_› (by omega) (by omega)) (an (@sp_next12 ((t.step (↑w.heap.words.length : Int)).step (↑w.heap.pages.length : Int)) (6) ‹_› ‹_›) (an (@tapeNext (((t.step (↑w.heap.words.length : Int)).step (↑w.heap.pages.length : Int)).step 12) (3) ‹_› (by omega) (by omega)) (an (wI (IntKind.i64.wrap ((((t.step (↑w.heap.words.length : Int)).step (↑w.heap.pages.length : Int)).step 12).next 3 - 1) = (((t.step (↑w.heap.words.length : Int)).step (↑w.heap.pages.length : Int)).step 12).next 3 - 1)) (an (by (simp only [List.length_map]; omega) : 0 ≤ (t.step (↑w.heap.words.length : Int)).next (↑w.heap.pages.length : Int) ∧ ((t.step (↑w.heap.words.length : Int)).next (↑w.heap.pages.length : Int)).toNat < (List.map Page.dv w.heap.pages).length) (an (by exact el_of (by omega) : (List.map Page.dv w.heap.pages)[((t.step (↑w.heap.words.length : Int)).next (↑w.heap.pages.length : Int)).toNat]? = some (w.heap.pages.getD ((t.step (↑w.heap.words.length : Int)).next (↑w.heap.pages.length : Int)).toNat default).dv) (by rw [List.map_set]; rfl : (List.map Page.dv w.heap.pages).set ((t.step (↑w.heap.words.length : Int)).next (↑w.heap.pages.length : Int)).toNat (spliceD (w.heap.pages.getD ((t.step (↑w.heap.words.length : Int)).next (↑w.heap.pages.length : Int)).toNat default).dv (0 + #[Field.mk "Kind" 3 0 false "" "" 0,Field.mk "Space" 3 1 false "" "" 8,Field.mk "Used" 3 2 false "" "" 16,Field.mk "Pins" 3 3 false "" "" 24][3].offset) [dint ((((t.step (↑w.heap.words.length : Int)).step (↑w.heap.pages.length : Int)).step 12).next 3 - 1)]) = List.map Page.dv (w.heap.pages.set ((t.step (↑w.heap.words.length : Int)).next (↑w.heap.pages.length : Int)).toNat (Page.mk (w.heap.pages.getD ((t.step (↑w.heap.words.length : Int)).next (↑w.heap.pages.length : Int)).toNat default).kind (w.heap.pages.getD ((t.step (↑w.heap.words.length : Int)).next (↑w.heap.pages.length : Int)).toNat default).space (w.heap.pages.getD ((t.step (↑w.heap.words.length : Int)).next (↑w.heap.pages.length : Int)).toNat default).used ((((t.step (↑w.heap.words.length : Int)).step (↑w.heap.pages.length : Int)).step 12).next 3 - 1)))))))))))))))))))
end
def pinL (w : WorldM) (tp : Tape) (i : Nat) : Tg := ⟨tm 156 [(2,.pt 8002 0 0),(4,.pt 8004 0 0),(5,.pt 16005 0 0),(8,int i)],[(0,tp.b),(16005,.box 27 [int w.heap.conf.pw,int w.heap.conf.pg,.ow 24014,.ow 24018,int w.heap.space,int w.heap.bump]),(24018,.arr 53 4 ((preM pinQ w.heap.pages i).map Page.dv)),(24014,.arr 50 1 (w.heap.words.map wdv)),(8004,.box 31 [int 0,int 0,.d (.sl 0 []),.d (.sl 0 []),int 0,int 0,.d (.sl 0 []),.d (.sl 0 [])]),(8002,.box 31 w.cells)],60⟩
theorem pinRound (w : WorldM) (tp : Tape) (i : Nat) (hl : w.heap.pages.length ≤ 64) (hi : i < w.heap.pages.length) : CSpec Tryz.prog (rndF Tryz.f7 1) (pinL w tp i).st .nrm (pinL w tp (i + 1)).st := by
 have ha := preM_get pinQ w.heap.pages (Nat.le_refl i) default
 have hn := preM_len pinQ w.heap.pages i
 by_cases hc : (w.heap.pages.getD i default).kind = 1
 ·have hq := preM_succ pinQ w.heap.pages hi default
  rw [show pinQ (w.heap.pages.getD i default) = ⟨(w.heap.pages.getD i default).kind,(w.heap.pages.getD i default).space,(w.heap.pages.getD i default).used,1⟩ by rw [pinQ,if_pos hc],← ha] at hq
  rw [← ha] at hc
  rcases Bool.eq_false_or_eq_true (((preM pinQ w.heap.pages i).getD (↑i : Int).toNat default).kind == (1 : Int)) with hc0 | hc0
  ·have hc0p := hc0
   simp only [bs] at hc0p
   exact sE [(137,[.int (↑(preM pinQ w.heap.pages i).length : Int)]),bT 138,(146,[.el ((preM pinQ w.heap.pages i).getD (↑i : Int).toNat default).dv]),bT 147,(10152,[.el ((preM pinQ w.heap.pages i).getD (↑i : Int).toNat default).dv,.els (List.map Page.dv ((preM pinQ w.heap.pages i).set (↑i : Int).toNat (Page.mk ((preM pinQ w.heap.pages i).getD (↑i : Int).toNat default).kind ((preM pinQ w.heap.pages i).getD (↑i : Int).toNat default).space ((preM pinQ w.heap.pages i).getD (↑i : Int).toNat default).used 1)))]),(140,[.int (↑(i + 1) : Int)])] [] [] [false,false,false,false,false,false,true] (an (lm ((↑(List.map Page.dv (preM pinQ w.heap.pages i)).length : Int) = (↑(preM pinQ w.heap.pages i).length : Int))) (an (bo (decide ((↑i : Int) < (↑(preM pinQ w.heap.pages i).length : Int)) = true)) (an tt (an (by (simp only [List.length_map]; omega) : 0 ≤ (↑i : Int) ∧ (↑i : Int).toNat < (List.map Page.dv (preM pinQ w.heap.pages i)).length) (an (by exact el_of (by omega) : (List.map Page.dv (preM pinQ w.heap.pages i))[(↑i : Int).toNat]? = some ((preM pinQ w.heap.pages i).getD (↑i : Int).toNat default).dv) (an ‹(((preM pinQ w.heap.pages i).getD (↑i : Int).toNat default).kind == 1) = true› (an tt (an (by (simp only [List.length_map]; omega) : 0 ≤ (↑i : Int) ∧ (↑i : Int).toNat < (List.map Page.dv (preM pinQ w.heap.pages i)).length) (an (by exact el_of (by omega) : (List.map Page.dv (preM pinQ w.heap.pages i))[(↑i : Int).toNat]? = some ((preM pinQ w.heap.pages i).getD (↑i : Int).toNat default).dv) (an (by rw [List.map_set]; rfl : (List.map Page.dv (preM pinQ w.heap.pages i)).set (↑i : Int).toNat (spliceD ((preM pinQ w.heap.pages i).getD (↑i : Int).toNat default).dv (0 + #[Field.mk "Kind" 3 0 false "" "" 0,Field.mk "Space" 3 1 false "" "" 8,Field.mk "Used" 3 2 false "" "" 16,Field.mk "Pins" 3 3 false "" "" 24][3].offset) [dint 1]) = List.map Page.dv ((preM pinQ w.heap.pages i).set (↑i : Int).toNat (Page.mk ((preM pinQ w.heap.pages i).getD (↑i : Int).toNat default).kind ((preM pinQ w.heap.pages i).getD (↑i : Int).toNat default).space ((preM pinQ w.heap.pages i).getD (↑i : Int).toNat default).used 1))) (an (wI (IntKind.i64.wrap ((↑i : Int) + 1) = (↑(i + 1) : Int))) (an (rf (53 : Int)) (by refine congrArg _ ?_; exact hq : List.map Page.dv ((preM pinQ w.heap.pages i).set (↑i : Int).toNat (Page.mk ((preM pinQ w.heap.pages i).getD (↑i : Int).toNat default).kind ((preM pinQ w.heap.pages i).getD (↑i : Int).toNat default).space ((preM pinQ w.heap.pages i).getD (↑i : Int).toNat default).used 1)) = List.map Page.dv (preM pinQ w.heap.pages (i + 1)))))))))))))))
  ·have hc0p := hc0
   simp only [bs] at hc0p
   contradiction
 ·have hq := preM_same pinQ w.heap.pages hi default (by rw [pinQ,if_neg hc])
  rw [← ha] at hc
  rcases Bool.eq_false_or_eq_true (((preM pinQ w.heap.pages i).getD (↑i : Int).toNat default).kind == (1 : Int)) with hc0 | hc0
  ·have hc0p := hc0
   simp only [bs] at hc0p
   contradiction
  ·have hc0p := hc0
   simp only [bs] at hc0p
   exact sE [(137,[.int (↑(preM pinQ w.heap.pages i).length : Int)]),bT 138,(146,[.el ((preM pinQ w.heap.pages i).getD (↑i : Int).toNat default).dv]),bF 147,(140,[.int (↑(i + 1) : Int)])] [] [] [false,false,false,false,false,false,true] (an (lm ((↑(List.map Page.dv (preM pinQ w.heap.pages i)).length : Int) = (↑(preM pinQ w.heap.pages i).length : Int))) (an (bo (decide ((↑i : Int) < (↑(preM pinQ w.heap.pages i).length : Int)) = true)) (an tt (an (by (simp only [List.length_map]; omega) : 0 ≤ (↑i : Int) ∧ (↑i : Int).toNat < (List.map Page.dv (preM pinQ w.heap.pages i)).length) (an (by exact el_of (by omega) : (List.map Page.dv (preM pinQ w.heap.pages i))[(↑i : Int).toNat]? = some ((preM pinQ w.heap.pages i).getD (↑i : Int).toNat default).dv) (an ‹(((preM pinQ w.heap.pages i).getD (↑i : Int).toNat default).kind == 1) = false› (an (rf false) (an (wI (IntKind.i64.wrap ((↑i : Int) + 1) = (↑(i + 1) : Int))) (an (rf (53 : Int)) (by refine congrArg _ ?_; exact hq : List.map Page.dv (preM pinQ w.heap.pages i) = List.map Page.dv (preM pinQ w.heap.pages (i + 1))))))))))))
theorem pinEnd (w : WorldM) (tp : Tape) : CSpec Tryz.prog (rndF Tryz.f7 1) (pinL w tp w.heap.pages.length).st (.ext 1) (Tg.st ⟨tm 156 [(2,.pt 8002 0 0),(4,.pt 8004 0 0),(5,.pt 16005 0 0)],[(0,tp.b),(16005,.box 27 [int w.heap.conf.pw,int w.heap.conf.pg,.ow 24014,.ow 24018,int w.heap.space,int w.heap.bump]),(24018,.arr 53 4 ((w.heap.pages.map pinQ).map Page.dv)),(24014,.arr 50 1 (w.heap.words.map wdv)),(8004,.box 31 [int 0,int 0,.d (.sl 0 []),.d (.sl 0 []),int 0,int 0,.d (.sl 0 []),.d (.sl 0 [])]),(8002,.box 31 w.cells)],60⟩) := by
 have hq := preM_all pinQ w.heap.pages
 have hn := preM_len pinQ w.heap.pages w.heap.pages.length
 exact sE [(137,[.int (↑(preM pinQ w.heap.pages w.heap.pages.length).length : Int)]),bF 138] [] [] [false,false,false,false,false,true] (an (lm ((↑(List.map Page.dv (preM pinQ w.heap.pages w.heap.pages.length)).length : Int) = (↑(preM pinQ w.heap.pages w.heap.pages.length).length : Int))) (an (bo (decide ((↑w.heap.pages.length : Int) < (↑(preM pinQ w.heap.pages w.heap.pages.length).length : Int)) = false)) (an (rf false) (an (rf (53 : Int)) (by refine congrArg _ ?_; assumption : List.map Page.dv (preM pinQ w.heap.pages w.heap.pages.length) = List.map Page.dv (List.map pinQ w.heap.pages))))))
theorem pinLoop (w : WorldM) (tp : Tape) (hl : w.heap.pages.length ≤ 64) : CSpec Tryz.prog (blkF Tryz.f7 1) (Tg.st ⟨tm 156 [(2,.pt 8002 0 0),(4,.pt 8004 0 0),(5,.pt 16005 0 0),(8,int 0)],[(0,tp.b),(16005,.box 27 [int w.heap.conf.pw,int w.heap.conf.pg,.ow 24014,.ow 24018,int w.heap.space,int w.heap.bump]),(24018,.arr 53 4 (w.heap.pages.map Page.dv)),(24014,.arr 50 1 (w.heap.words.map wdv)),(8004,.box 31 [int 0,int 0,.d (.sl 0 []),.d (.sl 0 []),int 0,int 0,.d (.sl 0 []),.d (.sl 0 [])]),(8002,.box 31 w.cells)],60⟩) .nrm (Tg.st ⟨tm 156 [(2,.pt 8002 0 0),(4,.pt 8004 0 0),(5,.pt 16005 0 0)],[(0,tp.b),(16005,.box 27 [int w.heap.conf.pw,int w.heap.conf.pg,.ow 24014,.ow 24018,int w.heap.space,int w.heap.bump]),(24018,.arr 53 4 ((w.heap.pages.map pinQ).map Page.dv)),(24014,.arr 50 1 (w.heap.words.map wdv)),(8004,.box 31 [int 0,int 0,.d (.sl 0 []),.d (.sl 0 []),int 0,int 0,.d (.sl 0 []),.d (.sl 0 [])]),(8002,.box 31 w.cells)],60⟩) := by
 have := loop_ext_of (S := fun k => (pinL w tp k).st) w.heap.pages.length (by kernel_rfl) (fun k hk => pinRound w tp k hl hk) (pinEnd w tp)
 simp only [pinL,preM_zero] at this
 exact this
section
variable (w : WorldM) (t : Tape) (hm : MOk w 1000) (ht : TOk t) (ha : t.at' ≤ 900000) (hus : ∀ j,j < w.heap.pages.length → -1099511627776 ≤ (w.heap.pages.getD j default).used ∧ (w.heap.pages.getD j default).used ≤ 1099511627776)
include hm ht ha hus
theorem spoil7 (hd : (spT2 w t).next 12 = 7) : LentSpec Tryz.prog 7 [w.av,.pt 0 0 0] [t.b] (w.spoil t).av [(w.spoilT t).b] := by
 have e7 : w.spoil t = ⟨⟨w.heap.conf,w.heap.words,w.heap.pages,(spT3 w t).next 3,w.heap.bump⟩,w.strong,w.weak⟩ := by simp [WorldM.spoil,spH,hd]
 have e8 : w.spoilT t = (spT3 w t).step 3 := by simp [WorldM.spoilT,spN,hd]
 have s1 := step_at (t := t) (w.heap.words.length : Int)
 have s2 : (t.step (w.heap.words.length : Int)).at' ≤ (spT2 w t).at' ∧ (spT2 w t).at' ≤ (t.step (w.heap.words.length : Int)).at' + 1 ∧ (spT2 w t).l = (t.step (w.heap.words.length : Int)).l := step_at _
 have s3 : (spT2 w t).at' ≤ (spT3 w t).at' ∧ (spT3 w t).at' ≤ (spT2 w t).at' + 1 ∧ (spT3 w t).l = (spT2 w t).l := step_at _
 have k1 := tok_of ht s1.2.2 (by omega) (by omega)
 have k2 : TOk (spT2 w t) := tok_of k1 s2.2.2 (by omega) (by omega)
 have k3 : TOk (spT3 w t) := tok_of k2 s3.2.2 (by omega) (by omega)
 have a1 := area hm.hv
 have a2 := validB_iff.1 hm.hv
 have a3 := hm.L
 have a4 := hm.pl
 have hw := hm.words
 have n1 := next_range t (n := (w.heap.words.length : Int)) (by omega)
 have n2 := next_range (t.step (w.heap.words.length : Int)) (n := (w.heap.pages.length : Int)) (by omega)
 have n3 := next_range (spT3 w t) (n := 3) (by omega)
 rw [e7,e8]
 unfold spT3 spT2 at *
 exact lE [(11,[.els (List.map wdv [])]),(14,[.els (List.map wdv w.heap.words)]),(15,[.els (List.map Page.dv [])]),(18,[.els (List.map Page.dv w.heap.pages)]),(24,[.int ↑w.heap.words.length]),(25,[.lent (int (t.next (↑w.heap.words.length : Int))) [(t.step (↑w.heap.words.length : Int)).b]]),(29,[.int ↑w.heap.pages.length]),(30,[.lent (int ((t.step (↑w.heap.words.length : Int)).next (↑w.heap.pages.length : Int))) [((t.step (↑w.heap.words.length : Int)).step (↑w.heap.pages.length : Int)).b]]),(32,[.lent (int 7) [(((t.step (↑w.heap.words.length : Int)).step (↑w.heap.pages.length : Int)).step 12).b]]),(106,[.lent (int ((((t.step (↑w.heap.words.length : Int)).step (↑w.heap.pages.length : Int)).step 12).next 3)) [((((t.step (↑w.heap.words.length : Int)).step (↑w.heap.pages.length : Int)).step 12).step 3).b]])] [] Tryz.func7 [] (an (rf (List.map wdv [])) (an (by (simp [spV,spQ,spPg,spI,spP,spT3,spT2,spList, *]; omega) : (List.map wdv []).length + (List.map wdv w.heap.words).length ≤ 2 ^ 30) (an (rf (List.map wdv w.heap.words)) (an (rf (List.map Page.dv [])) (an (by (simp [spV,spQ,spPg,spI,spP,spT3,spT2,spList, *]; omega) : (List.map Page.dv []).length + (List.map Page.dv w.heap.pages).length ≤ 2 ^ 30) (an (rf (List.map Page.dv w.heap.pages)) (an (lm ((↑(List.map wdv w.heap.words).length : Int) = (↑w.heap.words.length : Int))) (an (@tapeNext t ((↑w.heap.words.length : Int)) ‹_› (by omega) (by omega)) (an (lm ((↑(List.map Page.dv w.heap.pages).length : Int) = (↑w.heap.pages.length : Int))) (an (@tapeNext (t.step (↑w.heap.words.length : Int)) ((↑w.heap.pages.length : Int)) ‹_› (by omega) (by omega)) (an (@sp_next12 ((t.step (↑w.heap.words.length : Int)).step (↑w.heap.pages.length : Int)) (7) ‹_› ‹_›) (@tapeNext (((t.step (↑w.heap.words.length : Int)).step (↑w.heap.pages.length : Int)).step 12) (3) ‹_› (by omega) (by omega)))))))))))))
theorem spoil8 (hd : (spT2 w t).next 12 = 8) : LentSpec Tryz.prog 7 [w.av,.pt 0 0 0] [t.b] (w.spoil t).av [(w.spoilT t).b] := by
 have e7 : w.spoil t = ⟨⟨w.heap.conf,w.heap.words,w.heap.pages,w.heap.space,(spT3 w t).next ((w.heap.pages.length + 2 : Nat) : Int) - 1⟩,w.strong,w.weak⟩ := by simp [WorldM.spoil,spH,hd]
 have e8 : w.spoilT t = (spT3 w t).step ((w.heap.pages.length + 2 : Nat) : Int) := by simp [WorldM.spoilT,spN,hd]
 have s1 := step_at (t := t) (w.heap.words.length : Int)
 have s2 : (t.step (w.heap.words.length : Int)).at' ≤ (spT2 w t).at' ∧ (spT2 w t).at' ≤ (t.step (w.heap.words.length : Int)).at' + 1 ∧ (spT2 w t).l = (t.step (w.heap.words.length : Int)).l := step_at _
 have s3 : (spT2 w t).at' ≤ (spT3 w t).at' ∧ (spT3 w t).at' ≤ (spT2 w t).at' + 1 ∧ (spT3 w t).l = (spT2 w t).l := step_at _
 have k1 := tok_of ht s1.2.2 (by omega) (by omega)
 have k2 : TOk (spT2 w t) := tok_of k1 s2.2.2 (by omega) (by omega)
 have k3 : TOk (spT3 w t) := tok_of k2 s3.2.2 (by omega) (by omega)
 have a1 := area hm.hv
 have a2 := validB_iff.1 hm.hv
 have a3 := hm.L
 have a4 := hm.pl
 have hw := hm.words
 have n1 := next_range t (n := (w.heap.words.length : Int)) (by omega)
 have n2 := next_range (t.step (w.heap.words.length : Int)) (n := (w.heap.pages.length : Int)) (by omega)
 have n3 := next_range (spT3 w t) (n := ((w.heap.pages.length + 2 : Nat) : Int)) (by omega)
 rw [e7,e8]
 unfold spT3 spT2 at *
 exact lE [(11,[.els (List.map wdv [])]),(14,[.els (List.map wdv w.heap.words)]),(15,[.els (List.map Page.dv [])]),(18,[.els (List.map Page.dv w.heap.pages)]),(24,[.int ↑w.heap.words.length]),(25,[.lent (int (t.next (↑w.heap.words.length : Int))) [(t.step (↑w.heap.words.length : Int)).b]]),(29,[.int ↑w.heap.pages.length]),(30,[.lent (int ((t.step (↑w.heap.words.length : Int)).next (↑w.heap.pages.length : Int))) [((t.step (↑w.heap.words.length : Int)).step (↑w.heap.pages.length : Int)).b]]),(32,[.lent (int 8) [(((t.step (↑w.heap.words.length : Int)).step (↑w.heap.pages.length : Int)).step 12).b]]),(113,[.int ↑w.heap.pages.length]),(114,[.int (↑(w.heap.pages.length + 2) : Int)]),(115,[.lent (int ((((t.step (↑w.heap.words.length : Int)).step (↑w.heap.pages.length : Int)).step 12).next (↑(w.heap.pages.length + 2) : Int))) [((((t.step (↑w.heap.words.length : Int)).step (↑w.heap.pages.length : Int)).step 12).step (↑(w.heap.pages.length + 2) : Int)).b]]),(116,[.int ((((t.step (↑w.heap.words.length : Int)).step (↑w.heap.pages.length : Int)).step 12).next (↑(w.heap.pages.length + 2) : Int) - 1)])] [] Tryz.func7 [] (an (rf (List.map wdv [])) (an (by (simp [spV,spQ,spPg,spI,spP,spT3,spT2,spList, *]; omega) : (List.map wdv []).length + (List.map wdv w.heap.words).length ≤ 2 ^ 30) (an (rf (List.map wdv w.heap.words)) (an (rf (List.map Page.dv [])) (an (by (simp [spV,spQ,spPg,spI,spP,spT3,spT2,spList, *]; omega) : (List.map Page.dv []).length + (List.map Page.dv w.heap.pages).length ≤ 2 ^ 30) (an (rf (List.map Page.dv w.heap.pages)) (an (lm ((↑(List.map wdv w.heap.words).length : Int) = (↑w.heap.words.length : Int))) (an (@tapeNext t ((↑w.heap.words.length : Int)) ‹_› (by omega) (by omega)) (an (lm ((↑(List.map Page.dv w.heap.pages).length : Int) = (↑w.heap.pages.length : Int))) (an (@tapeNext (t.step (↑w.heap.words.length : Int)) ((↑w.heap.pages.length : Int)) ‹_› (by omega) (by omega)) (an (@sp_next12 ((t.step (↑w.heap.words.length : Int)).step (↑w.heap.pages.length : Int)) (8) ‹_› ‹_›) (an (lm ((↑(List.map Page.dv w.heap.pages).length : Int) = (↑w.heap.pages.length : Int))) (an (wI (IntKind.i64.wrap ((↑w.heap.pages.length : Int) + 2) = (↑(w.heap.pages.length + 2) : Int))) (an (@tapeNext (((t.step (↑w.heap.words.length : Int)).step (↑w.heap.pages.length : Int)).step 12) ((↑(w.heap.pages.length + 2) : Int)) ‹_› (by omega) (by omega)) (wI (IntKind.i64.wrap ((((t.step (↑w.heap.words.length : Int)).step (↑w.heap.pages.length : Int)).step 12).next (↑(w.heap.pages.length + 2) : Int) - 1) = (((t.step (↑w.heap.words.length : Int)).step (↑w.heap.pages.length : Int)).step 12).next (↑(w.heap.pages.length + 2) : Int) - 1))))))))))))))))
theorem spoil9 (hd : (spT2 w t).next 12 = 9) : LentSpec Tryz.prog 7 [w.av,.pt 0 0 0] [t.b] (w.spoil t).av [(w.spoilT t).b] := by
 have e7 : w.spoil t = ⟨⟨⟨w.heap.conf.pw + 4,w.heap.conf.pg⟩,w.heap.words,w.heap.pages,w.heap.space,w.heap.bump⟩,w.strong,w.weak⟩ := by simp [WorldM.spoil,spH,hd]
 have e8 : w.spoilT t = spT3 w t := by simp [WorldM.spoilT,spN,hd]
 have s1 := step_at (t := t) (w.heap.words.length : Int)
 have s2 : (t.step (w.heap.words.length : Int)).at' ≤ (spT2 w t).at' ∧ (spT2 w t).at' ≤ (t.step (w.heap.words.length : Int)).at' + 1 ∧ (spT2 w t).l = (t.step (w.heap.words.length : Int)).l := step_at _
 have s3 : (spT2 w t).at' ≤ (spT3 w t).at' ∧ (spT3 w t).at' ≤ (spT2 w t).at' + 1 ∧ (spT3 w t).l = (spT2 w t).l := step_at _
 have k1 := tok_of ht s1.2.2 (by omega) (by omega)
 have k2 : TOk (spT2 w t) := tok_of k1 s2.2.2 (by omega) (by omega)
 have k3 : TOk (spT3 w t) := tok_of k2 s3.2.2 (by omega) (by omega)
 have a1 := area hm.hv
 have a2 := validB_iff.1 hm.hv
 have a3 := hm.L
 have a4 := hm.pl
 have hw := hm.words
 have n1 := next_range t (n := (w.heap.words.length : Int)) (by omega)
 have n2 := next_range (t.step (w.heap.words.length : Int)) (n := (w.heap.pages.length : Int)) (by omega)
 rw [e7,e8]
 unfold spT3 spT2 at *
 exact lE [(11,[.els (List.map wdv [])]),(14,[.els (List.map wdv w.heap.words)]),(15,[.els (List.map Page.dv [])]),(18,[.els (List.map Page.dv w.heap.pages)]),(24,[.int ↑w.heap.words.length]),(25,[.lent (int (t.next (↑w.heap.words.length : Int))) [(t.step (↑w.heap.words.length : Int)).b]]),(29,[.int ↑w.heap.pages.length]),(30,[.lent (int ((t.step (↑w.heap.words.length : Int)).next (↑w.heap.pages.length : Int))) [((t.step (↑w.heap.words.length : Int)).step (↑w.heap.pages.length : Int)).b]]),(32,[.lent (int 9) [(((t.step (↑w.heap.words.length : Int)).step (↑w.heap.pages.length : Int)).step 12).b]]),(123,[.int (w.heap.conf.pw + 4)])] [] Tryz.func7 [] (an (rf (List.map wdv [])) (an (by (simp [spV,spQ,spPg,spI,spP,spT3,spT2,spList, *]; omega) : (List.map wdv []).length + (List.map wdv w.heap.words).length ≤ 2 ^ 30) (an (rf (List.map wdv w.heap.words)) (an (rf (List.map Page.dv [])) (an (by (simp [spV,spQ,spPg,spI,spP,spT3,spT2,spList, *]; omega) : (List.map Page.dv []).length + (List.map Page.dv w.heap.pages).length ≤ 2 ^ 30) (an (rf (List.map Page.dv w.heap.pages)) (an (lm ((↑(List.map wdv w.heap.words).length : Int) = (↑w.heap.words.length : Int))) (an (@tapeNext t ((↑w.heap.words.length : Int)) ‹_› (by omega) (by omega)) (an (lm ((↑(List.map Page.dv w.heap.pages).length : Int) = (↑w.heap.pages.length : Int))) (an (@tapeNext (t.step (↑w.heap.words.length : Int)) ((↑w.heap.pages.length : Int)) ‹_› (by omega) (by omega)) (an (@sp_next12 ((t.step (↑w.heap.words.length : Int)).step (↑w.heap.pages.length : Int)) (9) ‹_› ‹_›) (wI (IntKind.i64.wrap (w.heap.conf.pw + 4) = w.heap.conf.pw + 4)))))))))))))
theorem spoil10 (hd : (spT2 w t).next 12 = 10) : LentSpec Tryz.prog 7 [w.av,.pt 0 0 0] [t.b] (w.spoil t).av [(w.spoilT t).b] := by
 have e7 : w.spoil t = ⟨⟨w.heap.conf,w.heap.words,w.heap.pages.drop 1,w.heap.space,w.heap.bump⟩,w.strong,w.weak⟩ := by simp [WorldM.spoil,spH,hd]
 have e8 : w.spoilT t = spT3 w t := by simp [WorldM.spoilT,spN,hd]
 have s1 := step_at (t := t) (w.heap.words.length : Int)
 have s2 : (t.step (w.heap.words.length : Int)).at' ≤ (spT2 w t).at' ∧ (spT2 w t).at' ≤ (t.step (w.heap.words.length : Int)).at' + 1 ∧ (spT2 w t).l = (t.step (w.heap.words.length : Int)).l := step_at _
 have s3 : (spT2 w t).at' ≤ (spT3 w t).at' ∧ (spT3 w t).at' ≤ (spT2 w t).at' + 1 ∧ (spT3 w t).l = (spT2 w t).l := step_at _
 have k1 := tok_of ht s1.2.2 (by omega) (by omega)
 have k2 : TOk (spT2 w t) := tok_of k1 s2.2.2 (by omega) (by omega)
 have k3 : TOk (spT3 w t) := tok_of k2 s3.2.2 (by omega) (by omega)
 have a1 := area hm.hv
 have a2 := validB_iff.1 hm.hv
 have a3 := hm.L
 have a4 := hm.pl
 have hw := hm.words
 have n1 := next_range t (n := (w.heap.words.length : Int)) (by omega)
 have n2 := next_range (t.step (w.heap.words.length : Int)) (n := (w.heap.pages.length : Int)) (by omega)
 have hq : List.take ((↑(List.map Page.dv w.heap.pages).length : Int).toNat - Int.toNat 1) (List.drop (Int.toNat 1) (List.map Page.dv w.heap.pages)) = List.map Page.dv (w.heap.pages.drop 1) := by
  show List.take _ (List.drop 1 (List.map Page.dv w.heap.pages)) = _
  rw [← List.map_drop]
  exact List.take_of_length_le (by simp)
 rw [e7,e8]
 unfold spT3 spT2 at *
 refine lent_of [((11 : Nat),[.els (List.map wdv [])]),((14 : Nat),[.els (List.map wdv w.heap.words)]),((15 : Nat),[.els (List.map Page.dv [])]),((18 : Nat),[.els (List.map Page.dv w.heap.pages)]),((24 : Nat),[.int (↑w.heap.words.length : Int)]),((25 : Nat),[.lent (int (t.next (↑w.heap.words.length : Int))) [(t.step (↑w.heap.words.length : Int)).b]]),((29 : Nat),[.int (↑w.heap.pages.length : Int)]),((30 : Nat),[.lent (int ((t.step (↑w.heap.words.length : Int)).next (↑w.heap.pages.length : Int))) [((t.step (↑w.heap.words.length : Int)).step (↑w.heap.pages.length : Int)).b]]),((32 : Nat),[.lent (int (10 : Int)) [(((t.step (↑w.heap.words.length : Int)).step (↑w.heap.pages.length : Int)).step (12 : Int)).b]])] [] Tryz.func7 [true] (φ := List.replicate (0 : Nat) [du64 (0 : Int)] = List.map wdv [] ∧ (List.map wdv []).length + (List.map wdv w.heap.words).length ≤ (2 : Nat) ^ (30 : Nat) ∧ List.map wdv [] ++ List.map wdv w.heap.words = List.map wdv w.heap.words ∧ List.replicate (0 : Nat) [dint (0 : Int),dint (0 : Int),dint (0 : Int),dint (0 : Int)] = List.map Page.dv [] ∧ (List.map Page.dv []).length + (List.map Page.dv w.heap.pages).length ≤ (2 : Nat) ^ (30 : Nat) ∧ List.map Page.dv [] ++ List.map Page.dv w.heap.pages = List.map Page.dv w.heap.pages ∧ (↑(List.map wdv w.heap.words).length : Int) = (↑w.heap.words.length : Int) ∧ LentSpec Tryz.prog 21 [AV.pt (0 : Nat) (0 : Nat) (0 : Nat),int (↑w.heap.words.length : Int)] [t.b] (int (t.next (↑w.heap.words.length : Int))) [(t.step (↑w.heap.words.length : Int)).b] ∧ (↑(List.map Page.dv w.heap.pages).length : Int) = (↑w.heap.pages.length : Int) ∧ LentSpec Tryz.prog 21 [AV.pt (0 : Nat) (0 : Nat) (0 : Nat),int (↑w.heap.pages.length : Int)] [(t.step (↑w.heap.words.length : Int)).b] (int ((t.step (↑w.heap.words.length : Int)).next (↑w.heap.pages.length : Int))) [((t.step (↑w.heap.words.length : Int)).step (↑w.heap.pages.length : Int)).b] ∧ LentSpec Tryz.prog 21 [AV.pt (0 : Nat) (0 : Nat) (0 : Nat),int (12 : Int)] [((t.step (↑w.heap.words.length : Int)).step (↑w.heap.pages.length : Int)).b] (int (10 : Int)) [(((t.step (↑w.heap.words.length : Int)).step (↑w.heap.pages.length : Int)).step (12 : Int)).b] ∧ ((0 : Int) ≤ (1 : Int) ∧ (1 : Int) ≤ (↑(List.map Page.dv w.heap.pages).length : Int)) ∧ w.heap.conf.pw = (WorldM.mk (Heap.mk w.heap.conf w.heap.words (List.drop (1 : Nat) w.heap.pages) w.heap.space w.heap.bump) w.strong w.weak).heap.conf.pw ∧ w.heap.conf.pg = (WorldM.mk (Heap.mk w.heap.conf w.heap.words (List.drop (1 : Nat) w.heap.pages) w.heap.space w.heap.bump) w.strong w.weak).heap.conf.pg ∧ List.map wdv w.heap.words = List.map wdv (WorldM.mk (Heap.mk w.heap.conf w.heap.words (List.drop (1 : Nat) w.heap.pages) w.heap.space w.heap.bump) w.strong w.weak).heap.words ∧ List.take ((↑(List.map Page.dv w.heap.pages).length : Int).toNat - Int.toNat (1 : Int)) (List.drop (Int.toNat (1 : Int)) (List.map Page.dv w.heap.pages)) = List.map Page.dv (WorldM.mk (Heap.mk w.heap.conf w.heap.words (List.drop (1 : Nat) w.heap.pages) w.heap.space w.heap.bump) w.strong w.weak).heap.pages ∧ w.heap.space = (WorldM.mk (Heap.mk w.heap.conf w.heap.words (List.drop (1 : Nat) w.heap.pages) w.heap.space w.heap.bump) w.strong w.weak).heap.space ∧ w.heap.bump = (WorldM.mk (Heap.mk w.heap.conf w.heap.words (List.drop (1 : Nat) w.heap.pages) w.heap.space w.heap.bump) w.strong w.weak).heap.bump ∧ List.map wdv w.strong = List.map wdv (WorldM.mk (Heap.mk w.heap.conf w.heap.words (List.drop (1 : Nat) w.heap.pages) w.heap.space w.heap.bump) w.strong w.weak).strong ∧ List.map wdv w.weak = List.map wdv (WorldM.mk (Heap.mk w.heap.conf w.heap.words (List.drop (1 : Nat) w.heap.pages) w.heap.space w.heap.bump) w.strong w.weak).weak) ?_ (by kernel_rfl) (by kernel_rfl)
 exact ⟨rfl,(by (simp [spV,spQ,spPg,spI,spP,spT3,spT2,spList, *]; omega)),rfl,rfl,(by (simp [spV,spQ,spPg,spI,spP,spT3,spT2,spList, *]; omega)),rfl,(by simp only [List.length_map]),(@tapeNext (t) ((↑w.heap.words.length : Int)) ‹_› (by omega) (by omega)),(by simp only [List.length_map]),(@tapeNext (t.step (↑w.heap.words.length : Int)) ((↑w.heap.pages.length : Int)) ‹_› (by omega) (by omega)),(@sp_next12 ((t.step (↑w.heap.words.length : Int)).step (↑w.heap.pages.length : Int)) ((10 : Int)) ‹_› ‹_›),(by (simp only [List.length_map]; omega)),rfl,rfl,rfl,(by exact hq),rfl,rfl,rfl,rfl⟩
theorem spoil11 (hd : (spT2 w t).next 12 = 11) : LentSpec Tryz.prog 7 [w.av,.pt 0 0 0] [t.b] (w.spoil t).av [(w.spoilT t).b] := by
 have e7 : w.spoil t = ⟨⟨w.heap.conf,w.heap.words,w.heap.pages.map pinQ,w.heap.space,w.heap.bump⟩,w.strong,w.weak⟩ := by simp [WorldM.spoil,spH,hd]
 have e8 : w.spoilT t = spT3 w t := by simp [WorldM.spoilT,spN,hd]
 have s1 := step_at (t := t) (w.heap.words.length : Int)
 have s2 : (t.step (w.heap.words.length : Int)).at' ≤ (spT2 w t).at' ∧ (spT2 w t).at' ≤ (t.step (w.heap.words.length : Int)).at' + 1 ∧ (spT2 w t).l = (t.step (w.heap.words.length : Int)).l := step_at _
 have s3 : (spT2 w t).at' ≤ (spT3 w t).at' ∧ (spT3 w t).at' ≤ (spT2 w t).at' + 1 ∧ (spT3 w t).l = (spT2 w t).l := step_at _
 have k1 := tok_of ht s1.2.2 (by omega) (by omega)
 have k2 : TOk (spT2 w t) := tok_of k1 s2.2.2 (by omega) (by omega)
 have k3 : TOk (spT3 w t) := tok_of k2 s3.2.2 (by omega) (by omega)
 have a1 := area hm.hv
 have a2 := validB_iff.1 hm.hv
 have a3 := hm.L
 have a4 := hm.pl
 have hw := hm.words
 have n1 := next_range t (n := (w.heap.words.length : Int)) (by omega)
 have n2 := next_range (t.step (w.heap.words.length : Int)) (n := (w.heap.pages.length : Int)) (by omega)
 rw [e7,e8]
 unfold spT3 spT2 at *
 exact lE [(11,[.els (List.map wdv [])]),(14,[.els (List.map wdv w.heap.words)]),(15,[.els (List.map Page.dv [])]),(18,[.els (List.map Page.dv w.heap.pages)]),(24,[.int ↑w.heap.words.length]),(25,[.lent (int (t.next (↑w.heap.words.length : Int))) [(t.step (↑w.heap.words.length : Int)).b]]),(29,[.int ↑w.heap.pages.length]),(30,[.lent (int ((t.step (↑w.heap.words.length : Int)).next (↑w.heap.pages.length : Int))) [((t.step (↑w.heap.words.length : Int)).step (↑w.heap.pages.length : Int)).b]]),(32,[.lent (int 11) [(((t.step (↑w.heap.words.length : Int)).step (↑w.heap.pages.length : Int)).step 12).b]])] [cutOf (@pinLoop w (((t.step (↑w.heap.words.length : Int)).step (↑w.heap.pages.length : Int)).step 12) (by omega))] Tryz.func7 [] (an (rf (List.map wdv [])) (an (by (simp [spV,spQ,spPg,spI,spP,spT3,spT2,spList, *]; omega) : (List.map wdv []).length + (List.map wdv w.heap.words).length ≤ 2 ^ 30) (an (rf (List.map wdv w.heap.words)) (an (rf (List.map Page.dv [])) (an (by (simp [spV,spQ,spPg,spI,spP,spT3,spT2,spList, *]; omega) : (List.map Page.dv []).length + (List.map Page.dv w.heap.pages).length ≤ 2 ^ 30) (an (rf (List.map Page.dv w.heap.pages)) (an (lm ((↑(List.map wdv w.heap.words).length : Int) = (↑w.heap.words.length : Int))) (an (@tapeNext t ((↑w.heap.words.length : Int)) ‹_› (by omega) (by omega)) (an (lm ((↑(List.map Page.dv w.heap.pages).length : Int) = (↑w.heap.pages.length : Int))) (an (@tapeNext (t.step (↑w.heap.words.length : Int)) ((↑w.heap.pages.length : Int)) ‹_› (by omega) (by omega)) (an (@sp_next12 ((t.step (↑w.heap.words.length : Int)).step (↑w.heap.pages.length : Int)) (11) ‹_› ‹_›) (@pinLoop w (((t.step (↑w.heap.words.length : Int)).step (↑w.heap.pages.length : Int)).step 12) (by omega)))))))))))))
theorem madeSpoil : LentSpec Tryz.prog 7 [w.av,.pt 0 0 0] [t.b] (w.spoil t).av [(w.spoilT t).b] := by
 have n := next_range (spT2 w t) (n := 12) (by decide)
 have hd : (spT2 w t).next 12 = 0 ∨ (spT2 w t).next 12 = 1 ∨ (spT2 w t).next 12 = 2 ∨ (spT2 w t).next 12 = 3 ∨ (spT2 w t).next 12 = 4 ∨ (spT2 w t).next 12 = 5 ∨ (spT2 w t).next 12 = 6 ∨ (spT2 w t).next 12 = 7 ∨ (spT2 w t).next 12 = 8 ∨ (spT2 w t).next 12 = 9 ∨ (spT2 w t).next 12 = 10 ∨ (spT2 w t).next 12 = 11 := by omega
 rcases hd with hd | hd | hd | hd | hd | hd | hd | hd | hd | hd | hd | hd
 ·exact spoil0 w t hm ht ha hus hd
 ·exact spoil1 w t hm ht ha hus hd
 ·exact spoil2 w t hm ht ha hus hd
 ·exact spoil3 w t hm ht ha hus hd
 ·exact spoil4 w t hm ht ha hus hd
 ·exact spoil5 w t hm ht ha hus hd
 ·exact spoil6 w t hm ht ha hus hd
 ·exact spoil7 w t hm ht ha hus hd
 ·exact spoil8 w t hm ht ha hus hd
 ·exact spoil9 w t hm ht ha hus hd
 ·exact spoil10 w t hm ht ha hus hd
 ·exact spoil11 w t hm ht ha hus hd
end
def pgOf (w : Work) (x : Int) : Page := w.heap.pages.getD (ofA w.heap.conf x).1.toNat default
structure Rt (w : Work) : Prop where
 q : ∀ x ∈ w.queue,((pgOf w x).kind = 1 ∨ (pgOf w x).kind = 2) ∧ (pgOf w x).space = 1 - w.heap.space
 t : ∀ x ∈ w.old,(targetA (loadA w.heap.words x).1).2 = true → (targetA (loadA w.heap.words x).1).1 ∈ w.queue
theorem target_fwd {a : Int} (h0 : 0 ≤ a) (h1 : a < 4294967296) : targetA (4 * a + 2) = (a,true) := by
 have e : (4 * a + 2) / 4 = a := by omega
 rw [targetA,if_pos (by omega),e]
theorem Rt.copy {B : Int} {w : Work} (hw : WkOk w) (h : Inv w) (hT : Tab B w) (hR : Rt w) {r n : Int} (hr : r ∈ w.old) (hq : r ∉ w.queue) (hn : n = hlA w.heap.words r + 1) (hp : n ≤ w.heap.conf.pw) (hc : (w.place n).2.2 = true) : Rt ((w.place n).1.copy r (w.place n).2.1 n) := by
 have hlr := hlA_range w.heap.words r
 obtain ⟨i,p,t,h1,h2,h3,h4,h5,h6,h7,h8,e⟩ := place_more hw ⟨by omega,hp⟩ hc
 have hsp : p.space = 1 - w.heap.space := by
  by_cases hf : fitsW w n
  ·have e7 : w.place n = (⟨⟨w.heap.conf,w.heap.words,growP w.heap.pages (lastT w).toNat n,w.heap.space,w.heap.bump⟩,w.old,w.taken,w.queue,w.scanned,w.rep⟩,4096 + lastT w * w.heap.conf.pw + (w.heap.pages.getD (lastT w).toNat default).used,true) := by rw [Work.place,if_pos hf]
   unfold fitsW at hf
   have hm := hw.tk _ (lastT_mem hf.1)
   have ht := hT.tk _ (lastT_mem hf.1)
   have hi : (lastT w).toNat < w.heap.pages.length := by omega
   rw [e7] at e
   simp only [growP_eq,Work.mk.injEq,Heap.mk.injEq] at e
   have e2 := e.1.2.2.1
   have g1 : (w.heap.pages.set i p).getD i default = p := by rw [getD_set h1,if_pos rfl]
   rw [← e2,getD_set hi] at g1
   split at g1
   ·rw [← g1]; exact ht
   ·rename_i hne
    have g2 : (w.heap.pages.set i p).getD (lastT w).toNat default = w.heap.pages.getD (lastT w).toNat default := by rw [getD_set h1,if_neg (fun q => hne q.symm)]
    rw [← e2,getD_set hi,if_pos rfl] at g2
    have := congrArg Page.used g2
    simp only at this
    omega
  ·by_cases hg : 0 ≤ firstW w
   ·have e7 : w.place n = (⟨⟨w.heap.conf,w.heap.words,growP (freshW w) (firstW w).toNat n,w.heap.space,w.heap.bump⟩,w.old,w.taken ++ [firstW w],w.queue,w.scanned,w.rep⟩,4096 + firstW w * w.heap.conf.pw,true) := by rw [Work.place,if_neg hf,if_pos hg]
    obtain ⟨g1,g2,g3⟩ := fresh_grow (h := ⟨w.heap.conf,w.heap.words,w.heap.pages,1 - w.heap.space,w.heap.bump⟩) (by have := hw.sp; simp only; omega) hg n
    have g1' : growP (freshW w) (firstW w).toNat n = w.heap.pages.set (firstW w).toNat ⟨1,1 - w.heap.space,n,0⟩ := g1
    have g2' : (w.heap.pages.getD (firstW w).toNat default).kind = 0 := g2
    have g3' : (firstW w).toNat < w.heap.pages.length := g3
    rw [e7,g1'] at e
    simp only [Work.mk.injEq,Heap.mk.injEq] at e
    have e2 := e.1.2.2.1
    have k1 : (w.heap.pages.set i p).getD i default = p := by rw [getD_set h1,if_pos rfl]
    rw [← e2,getD_set g3'] at k1
    split at k1
    ·rw [← k1]
    ·rename_i hne
     have k2 : (w.heap.pages.set i p).getD (firstW w).toNat default = w.heap.pages.getD (firstW w).toNat default := by rw [getD_set h1,if_neg (fun q => hne q.symm)]
     rw [← e2,getD_set g3',if_pos rfl] at k2
     rw [← k2] at g2'
     simp at g2'
   ·rw [Work.place,if_neg hf,if_neg hg] at hc
    simp at hc
 have hb := validB_iff.1 hw.conf
 have hpl := hw.pl
 have hL := h.L
 have hio : (i : Int) * w.heap.conf.pw + w.heap.conf.pw ≤ w.heap.conf.pw * w.heap.conf.pg := by
  have := mul_step (i := i) (j := w.heap.conf.pg) (pw := w.heap.conf.pw) (by omega) (by omega)
  rw [Int.mul_comm w.heap.conf.pw]; exact this
 have hi0 : 0 ≤ (i : Int) * w.heap.conf.pw := Int.mul_nonneg (by omega) (by omega)
 have har := area hw.conf
 rw [e,h8]
 generalize hu : occP (w.heap.pages.getD i default) = u at *
 have hof : (ofA w.heap.conf (4096 + (i : Int) * w.heap.conf.pw + u)).1.toNat = i := by
  have := ofA_at (c := w.heap.conf) (i := i) (o := u) hw.conf (by omega) (by omega)
  rw [show 4096 + (i : Int) * w.heap.conf.pw + u = 4096 + ((i : Int) * w.heap.conf.pw + u) by omega,this]
  simp
 generalize ha : 4096 + (i : Int) * w.heap.conf.pw + u = at' at *
 have hrr := h.r r (List.mem_append_left _ hr)
 have hf := h.f i h1 (by rcases h2 with h2 | h2; exact Or.inl h2; exact Or.inr h2.1)
 rw [hu] at hf
 obtain ⟨m1,m2,m3⟩ := move_in (ws := w.heap.words) (a := at') (b := r) (n := n) (by omega) (by omega) (by omega)
 have hsr : 4096 ≤ r ∧ r < 4096 + (moveA w.heap.words at' r n).1.length := by omega
 refine ⟨?_, ?_⟩
 ·intro x hx
  simp only [Work.copy,List.mem_append,List.mem_singleton] at hx
  simp only [pgOf,Work.copy]
  rw [getD_set h1]
  split
  ·exact ⟨Or.inl h3,hsp⟩
  ·rename_i hne
   rcases hx with hx | rfl
   ·exact hR.q x hx
   ·exact absurd hof.symm hne
 ·intro x hx ht
  simp only [Work.copy] at hx ht ⊢
  by_cases hxr : x = r
  ·subst hxr
   rw [load_store_eq hsr] at ht ⊢
   simp only
   rw [target_fwd (by omega) (by omega)]
   simp
  ·have hfx := hf x (List.mem_append_left _ hx)
   have hlx := hlA_range w.heap.words x
   have el : loadA (storeA (moveA w.heap.words at' r n).1 r (4 * at' + 2)).1 x = loadA w.heap.words x := by rw [load_store_ne hsr hxr,m3 x (by omega)]
   rw [el] at ht ⊢
   exact List.mem_append_left _ (hR.t x hx ht)
structure PR (B : Int) (w : Work) : Prop where
 tab : Tab B w
 rt : Rt w
def ToOk (w : Work) (x : Int) : Prop := x = 0 ∨ x ∈ w.queue
theorem fwd_to {B : Int} (w : Work) (r : Int) (hp : PR B w) (e : (w.fwd r).2.2 = 0) : ToOk (w.fwd r).1 (w.fwd r).2.1 := by
 unfold Work.fwd at e ⊢
 split at e
 ·rename_i c1
  rw [if_pos c1]
  exact c1
 ·rename_i c1
  rw [if_neg c1]
  split at e
  ·simp at e
  ·rename_i c2
   rw [if_neg c2]
   have c2' : r ∈ w.old := Decidable.not_not.1 c2
   split at e
   ·rename_i c3
    rw [if_pos c3]
    exact Or.inr (hp.rt.t r c2' c3)
   ·rename_i c3
    rw [if_neg c3]
    split at e
    ·simp at e
    ·rename_i c4
     rw [if_neg c4]
     split at e
     ·rename_i c5
      rw [if_pos c5]
      exact Or.inr (List.mem_append_right _ (by simp))
     ·rename_i c5
      rw [if_neg c5]
      split at e
      ·rename_i c6
       rw [if_pos c6]
       exact Or.inr (List.mem_append_right _ (by simp))
      ·rename_i c6
       rw [if_neg c6]
       split at e
       ·simp at e
       ·rename_i c7
        rw [if_neg c7]
        exact Or.inr (List.mem_append_right _ (by simp))
theorem PR.fwd {B : Int} (hB : 0 ≤ B) (w : Work) (r : Int) (hw : WkOk w) (hi : Inv w) (h : PR B w) (e : (w.fwd r).2.2 = 0) : PR B (w.fwd r).1 := by
 refine ⟨h.tab.fwd hB w r hw hi e, ?_⟩
 have hR := h.rt
 have hsp := hw.sp
 unfold Work.fwd at e ⊢
 split at e
 ·rename_i c1
  rw [if_pos c1]
  exact hR
 ·rename_i c1
  rw [if_neg c1]
  have c1' : r ∉ w.queue := fun h => c1 (Or.inr h)
  split at e
  ·simp at e
  ·rename_i c2
   rw [if_neg c2]
   have c2' : r ∈ w.old := Decidable.not_not.1 c2
   split at e
   ·rename_i c3
    rw [if_pos c3]
    exact hR
   ·rename_i c3
    rw [if_neg c3]
    split at e
    ·simp at e
    ·rename_i c4
     rw [if_neg c4]
     have o := ofA_ok hw.conf (Decidable.not_not.1 c4)
     have hpl := hw.pl
     split at e
     ·rename_i c5
      rw [if_pos c5]
      simp only [promB,decide_eq_true_eq] at c5
      have ok := h.tab.pt.b (ofA w.heap.conf r).1.toNat (by omega)
      have oks := ok.s
      refine ⟨?_,fun x hx ht => List.mem_append_left _ (hR.t x hx ht)⟩
      intro x hx
      simp only [Work.keep,List.mem_append,List.mem_singleton] at hx
      rcases hx with hx | rfl
      ·exact hR.q x hx
      ·refine ⟨Or.inl c5.2.2.1, ?_⟩
       simp only [pgOf,Work.keep]
       omega
     ·rename_i c5
      rw [if_neg c5]
      split at e
      ·rename_i c6
       rw [if_pos c6]
       refine ⟨?_,fun x hx ht => List.mem_append_left _ (hR.t x hx ht)⟩
       have hlr : (ofA w.heap.conf r).1.toNat < w.heap.pages.length := by omega
       intro x hx
       simp only [Work.keep,List.mem_append,List.mem_singleton] at hx
       have hxl : (ofA w.heap.conf x).1.toNat < w.heap.pages.length := by
        rcases hx with hx | rfl
        ·by_cases q : (ofA w.heap.conf x).1.toNat < w.heap.pages.length
         ·exact q
         ·have := (hR.q x hx).1
          rw [pgOf,List.getD_eq_getElem?_getD,List.getElem?_eq_none (by omega)] at this
          simp only [Option.getD_none] at this
          have d : (default : Page).kind = 0 := rfl
          omega
        ·exact hlr
       simp only [pgOf,Work.keep,Work.flip]
       rw [flipP_get hxl]
       split
       ·refine ⟨?_,rfl⟩
        rcases hx with hx | rfl
        ·exact (hR.q x hx).1
        ·exact Or.inr c6
       ·rename_i hne
        rcases hx with hx | rfl
        ·exact hR.q x hx
        ·exact absurd ⟨Nat.le_refl _,Nat.le_add_right _ _⟩ hne
      ·rename_i c6
       rw [if_neg c6]
       split at e
       ·simp at e
       ·rename_i c7
        rw [if_neg c7]
        have c7' : (w.place (sizeH (hdW w r))).2.2 = true := by simpa using c7
        have hz := hi.z r c2'
        have hp : sizeH (hdW w r) ≤ w.heap.conf.pw := by
         rw [hdW_len]
         rcases hz with hz | hz
         ·exact absurd hz c6
         ·exact hz
        exact hR.copy hw hi h.tab c2' c1' (hdW_len w r) hp c7'
theorem PR.in1 {B : Int} (hB : 0 ≤ B) (w : Work) (q j : Int) (hw : WkOk w) (hi : Inv w) (h : PR B w) (hq : q ∈ w.queue) (h0 : 0 ≤ j) (h1 : j < hlA w.heap.words q) (e : (w.fwd (loadA w.heap.words (q + 1 + j)).1).2.2 = 0) : PR B (w.in1 (q + 1 + j)) := by
 have hf := PR.fwd hB w _ hw hi h e
 obtain ⟨i1,x1⟩ := fwd_inv hw hi _ e
 have hq1 := x1.q q hq
 have hl1 := x1.l q hq
 have hr := i1.r q (List.mem_append_right _ hq1)
 have hs := i1.s q (List.mem_append_right _ hq1)
 have hin : 4096 ≤ q + 1 + j ∧ q + 1 + j < 4096 + (w.fwd (loadA w.heap.words (q + 1 + j)).1).1.heap.words.length := by omega
 refine ⟨hf.tab.withWords _,hf.rt.q,fun x hx ht => ?_⟩
 have el : loadA (storeA (w.fwd (loadA w.heap.words (q + 1 + j)).1).1.heap.words (q + 1 + j) (w.fwd (loadA w.heap.words (q + 1 + j)).1).2.1).1 x = loadA (w.fwd (loadA w.heap.words (q + 1 + j)).1).1.heap.words x := by
  refine load_store_ne hin fun hc => ?_
  have := hs x (List.mem_append_left _ hx) (by omega)
  omega
 simp only [Work.in1] at hx ht ⊢
 rw [el] at ht ⊢
 exact hf.rt.t x hx ht
theorem begin_rt {h : Heap} (hp : properB h = true) : Rt (beginW h) := by
 refine ⟨by simp [beginW],fun x hx ht => ?_⟩
 exfalso
 simp only [beginW] at hx ht
 obtain ⟨j,j1,o⟩ := (objects_sep hp).1 x hx
 have e := o.at'
 have k := atH_ok e
 unfold atH at e
 rw [if_pos k.1,if_pos k.2.1] at e
 split at e
 ·rename_i g
  have hd := g.2.2
  unfold decodeH at hd
  split at hd
  ·rename_i c
   have c1 := c.1
   have c2 := c.2
   unfold encodeH at c1 c2
   split at c2
   ·unfold targetA at ht
    split at ht
    ·simp only at c2; omega
    ·simp at ht
   ·rename_i hv; rw [if_neg hv] at c1; simp at c1
  ·simp at hd
 ·simp at e
theorem cW2_PR {B : Int} (hB : 0 ≤ B) {h : Heap} {s : List Int} (hw : WOk h.words) (hp : properB h = true) (hb : ∀ p ∈ h.pages,p.pins ≤ B) (e : (rootsF (beginW h) s).2.2 = 0) (e2 : (allF (rootsF (beginW h) s).1).2 = 0) : PR B (cW2 h s) :=
 cW2_P (PR B) (fun w r hw hi h e => PR.fwd hB w r hw hi h e) (fun w q j hw hi h hq h0 h1 e => PR.in1 hB w q j hw hi h hq h0 h1 e) (fun w n h => ⟨⟨h.tab.pt,h.tab.tk,h.tab.pin⟩,h.rt.q,h.rt.t⟩) hw hp ⟨begin_tab hp hb,begin_rt hp⟩ e e2
theorem rootsN_to {B : Int} (hB : 0 ≤ B) {w : Work} {roots : List Int} (hw : WkOk w) (h : Inv w) (hp : PR B w) : ∀ k,(∀ j,j < k → rootsE w roots j = 0) → ∀ x ∈ (rootsN w roots k).2,ToOk (rootsN w roots k).1 x
 | 0,_,x,hx => by simp [rootsN] at hx
 | k + 1,hh,x,hx => by
  have ih := rootsN_to hB (roots := roots) hw h hp k (fun j hj => hh j (by omega))
  have ok := (rootsN_ok (roots := roots) hw k (fun j hj => hh j (by omega))).1
  have iv := (rootsN_inv (roots := roots) hw h k (fun j hj => hh j (by omega))).1
  have pr := rootsN_P (PR B) (fun w r hw hi h e => PR.fwd hB w r hw hi h e) (roots := roots) hw h hp k (fun j hj => hh j (by omega))
  have he := hh k (by omega)
  simp only [rootsN,List.mem_append,List.mem_singleton] at hx ⊢
  rcases hx with hx | rfl
  ·rcases ih x hx with q | q
   ·exact Or.inl q
   ·exact Or.inr ((fwd_inv ok iv _ he).2.q x q)
  ·exact fwd_to _ _ pr he
def RootOn (h : Heap) (r : Int) : Prop := (ofA h.conf r).2.2 = 0 → (h.pages.getD (ofA h.conf r).1.toNat default).kind = 1 ∨ (h.pages.getD (ofA h.conf r).1.toNat default).kind = 2
structure POk (w : WorldM) : Prop where
 p : properB w.heap = true
 s : ∀ r ∈ w.strong,RootOn w.heap r
 k : ∀ r ∈ w.weak,RootOn w.heap r
theorem root0 (h : Heap) : RootOn h 0 := by
 intro e
 exfalso
 unfold ofA at e
 split at e
 ·split at e
  ·omega
  ·simp at e
 ·simp at e
theorem small7_kind {h : Heap} {n : Int} (hp : properB h = true) (hn : 1 ≤ n ∧ n ≤ h.conf.pw) (e : (small7 h n).2.2 = true) : (∀ j : Nat,(h.pages.getD j default).kind ≠ 0 → ((small7 h n).1.pages.getD j default).kind = (h.pages.getD j default).kind) ∧ RootOn (small7 h n).1 (small7 h n).2.1 := by
 have hp' := hp
 rw [proper_pt] at hp
 obtain ⟨p1,p2,p3,p4,p5,p6⟩ := hp
 have hb := validB_iff.1 p1
 by_cases hf : fitsB h n
 ·have e7 : small7 h n = (⟨h.conf,h.words,growP h.pages h.bump.toNat n,h.space,h.bump⟩,4096 + h.bump * h.conf.pw + (h.pages.getD h.bump.toNat default).used,true) := by rw [small7,if_pos hf]
  unfold fitsB at hf
  have hbi : h.bump.toNat < h.pages.length := by omega
  have hk : (h.pages.getD h.bump.toNat default).kind = 1 := by omega
  have u := (p6.b h.bump.toNat hbi).k1 hk
  rw [e7]
  refine ⟨fun j hj => ?_,fun _ => ?_⟩
  ·simp only [growP_eq]
   rw [getD_set hbi]
   split
   ·rename_i q; subst q; rfl
   ·rfl
  ·have := ofA_at (c := h.conf) (i := h.bump) (o := (h.pages.getD h.bump.toNat default).used) p1 (by omega) (by omega)
   simp only [growP_eq]
   rw [show 4096 + h.bump * h.conf.pw + (h.pages.getD h.bump.toNat default).used = 4096 + (h.bump * h.conf.pw + (h.pages.getD h.bump.toNat default).used) by omega,this]
   simp only
   rw [getD_set hbi,if_pos rfl]
   exact Or.inl hk
 ·by_cases hg : 0 ≤ first h.pages 1 ∧ (inUse h.pages : Int) < limit h.conf
  ·have e7 : small7 h n = (⟨h.conf,h.words,growP (freshP h) (first h.pages 1).toNat n,h.space,first h.pages 1⟩,4096 + first h.pages 1 * h.conf.pw + ((freshP h).getD (first h.pages 1).toNat default).used,true) := by rw [small7,if_neg hf,if_pos hg]
   obtain ⟨g1,g2,g3⟩ := fresh_grow p4 hg.1 n
   have g4 := congrArg Page.used (freshP_ok p4 hg.1).2.2.2
   simp only at g4
   rw [e7,g1,g4]
   refine ⟨fun j hj => ?_,fun _ => ?_⟩
   ·simp only
    rw [getD_set g3]
    split
    ·rename_i q; subst q; exact absurd g2 hj
    ·rfl
   ·have := ofA_at (c := h.conf) (i := first h.pages 1) (o := 0) p1 (by omega) (by omega)
    simp only
    rw [show 4096 + first h.pages 1 * h.conf.pw + 0 = 4096 + (first h.pages 1 * h.conf.pw + 0) by omega,this]
    simp only
    rw [getD_set g3,if_pos rfl]
    exact Or.inl rfl
  ·rw [small7,if_neg hf,if_neg hg] at e
   simp at e
theorem large7_kind {h : Heap} {n : Int} (hp : properB h = true) (hk : 1 ≤ need h.conf n) (e : (large7 h n (need h.conf n)).2.2 = true) : (∀ j : Nat,(h.pages.getD j default).kind ≠ 0 → ((large7 h n (need h.conf n)).1.pages.getD j default).kind = (h.pages.getD j default).kind) ∧ RootOn (large7 h n (need h.conf n)).1 (large7 h n (need h.conf n)).2.1 := by
 have hp' := hp
 rw [proper_pt] at hp
 obtain ⟨p1,p2,p3,p4,p5,p6⟩ := hp
 have hb := validB_iff.1 p1
 by_cases hg : 0 ≤ first h.pages (need h.conf n) ∧ inUse h.pages + need h.conf n ≤ limit h.conf
 ·obtain ⟨g1,g2,g3⟩ := first_free hg.1
  have el : (largeP h.conf h.pages (first h.pages (need h.conf n)) h.space n).1 = tookP h.pages (first h.pages (need h.conf n)).toNat (need h.conf n).toNat ⟨2,h.space,n,0⟩ ⟨3,h.space,0,0⟩ := by
   rw [largeP,if_pos ⟨hk,by omega⟩,takeP,if_pos (by omega),if_pos g3]
  have e7 : large7 h n (need h.conf n) = (⟨h.conf,h.words,tookP h.pages (first h.pages (need h.conf n)).toNat (need h.conf n).toNat ⟨2,h.space,n,0⟩ ⟨3,h.space,0,0⟩,h.space,h.bump⟩,4096 + first h.pages (need h.conf n) * h.conf.pw,true) := by rw [large7,if_pos hg,el]
  have hf : ∀ j,j < (need h.conf n).toNat → (h.pages.getD ((first h.pages (need h.conf n)).toNat + j) default).kind = 0 := freeK_iff.1 g3
  have hgt := tookP_get (l := h.pages) (i := (first h.pages (need h.conf n)).toNat) (k := (need h.conf n).toNat) (p := ⟨2,h.space,n,0⟩) (q := ⟨3,h.space,0,0⟩) (by omega) (by omega)
  rw [e7]
  refine ⟨fun j hj => ?_,fun _ => ?_⟩
  ·simp only
   have hne : ¬ ((first h.pages (need h.conf n)).toNat ≤ j ∧ j < (first h.pages (need h.conf n)).toNat + (need h.conf n).toNat) := fun hc => by
    have := hf (j - (first h.pages (need h.conf n)).toNat) (by omega)
    rw [show (first h.pages (need h.conf n)).toNat + (j - (first h.pages (need h.conf n)).toNat) = j by omega] at this
    exact hj this
   rw [hgt,if_neg (by omega),if_neg (by omega)]
  ·have := ofA_at (c := h.conf) (i := first h.pages (need h.conf n)) (o := 0) p1 (by omega) (by omega)
   simp only
   rw [show 4096 + first h.pages (need h.conf n) * h.conf.pw = 4096 + (first h.pages (need h.conf n) * h.conf.pw + 0) by omega,this]
   simp only
   rw [hgt,if_pos rfl]
   exact Or.inr rfl
 ·rw [large7,if_neg hg] at e
  simp at e
theorem RootOn.mono {h h' : Heap} {r : Int} (hr : RootOn h r) (hc : h'.conf = h.conf) (hk : ∀ j : Nat,(h.pages.getD j default).kind ≠ 0 → (h'.pages.getD j default).kind = (h.pages.getD j default).kind) : RootOn h' r := by
 intro e
 rw [hc] at e ⊢
 have q := hr e
 rw [hk _ (by omega)]
 exact q
theorem asks_small {c : Conf} {hd : Header} (ha : asksH c hd = true) (hv : validB c = true) (hn : ¬ 0 < need c (sizeH hd)) : sizeH hd ≤ c.pw := by
 obtain ⟨a1,a2,a3,a4,a5⟩ := asksH_ok ha
 have hb := validB_iff.1 hv
 unfold need at hn a4
 split at a4
 ·rename_i hc
  rw [if_pos hc] at hn
  split at a4
  ·omega
  ·rename_i hd'
   rw [if_neg hd'] at hn
   have e := Int.mul_ediv_add_emod (sizeH hd + c.pw - 1) c.pw
   have hz : (sizeH hd + c.pw - 1) / c.pw = 0 := by omega
   rw [hz] at e
   have := Int.emod_lt_of_pos (sizeH hd + c.pw - 1) (b := c.pw) (by omega)
   omega
 ·omega
theorem POk.put {w : WorldM} (h : POk w) (hw : WOk w.heap.words) {hd : Header} (hm : 0 ≤ hd.map ∧ hd.map ≤ 4294967295) : POk (w.put hd) := by
 unfold WorldM.put
 split
 ·rename_i e
  obtain ⟨k1,k2,k3,k4,k5,k6,k7,k8⟩ := new7_ok hw hm e
  have hv := (proper_ok k1).1
  obtain ⟨a1,a2,a3,a4,a5⟩ := asksH_ok k2
  have kk : (∀ j : Nat,(w.heap.pages.getD j default).kind ≠ 0 → ((put7 w.heap hd).1.pages.getD j default).kind = (w.heap.pages.getD j default).kind) ∧ RootOn (put7 w.heap hd).1 (put7 w.heap hd).2.1 := by
   by_cases hn : 0 < need w.heap.conf (sizeH hd)
   ·have e7 : put7 w.heap hd = large7 w.heap (sizeH hd) (need w.heap.conf (sizeH hd)) := by rw [put7,if_pos hn]
    rw [e7] at k4 ⊢
    exact large7_kind k1 (by omega) k4
   ·have e7 : put7 w.heap hd = small7 w.heap (sizeH hd) := by rw [put7,if_neg hn]
    rw [e7] at k4 ⊢
    exact small7_kind k1 ⟨a2,asks_small k2 hv hn⟩ k4
  have hc : (new7 w.heap hd).1.conf = w.heap.conf := by rw [k6]; exact k3.c
  have hk : ∀ j : Nat,(w.heap.pages.getD j default).kind ≠ 0 → ((new7 w.heap hd).1.pages.getD j default).kind = (w.heap.pages.getD j default).kind := by rw [k6]; exact kk.1
  refine ⟨k7,fun r hr => ?_,fun r hr => (h.k r hr).mono hc hk⟩
  rcases List.mem_append.1 hr with hr | hr
  ·exact (h.s r hr).mono hc hk
  ·simp only [List.mem_singleton] at hr
   subst hr
   rw [k5,k6]
   exact kk.2
 ·exact h
theorem POk.link {w : WorldM} {n : Nat} (h : POk w) (hm : MOk w n) (hn : n ≤ 1000000) (t : Tape) : POk (w.link t) := by
 unfold WorldM.link
 split
 ·rename_i hc
  have hw := hm.wm hn
  have g := getH_ok hc.1
  have n1 := next_range (w.pickT (w.pickT t)) (n := 8) (by decide)
  have hi : 0 ≤ linkI w t ∧ linkI w t < (getH w.heap (w.pick t)).1.length := by
   unfold linkI
   rw [Int.tmod_eq_emod_of_nonneg n1.1]
   exact ⟨Int.emod_nonneg _ (by omega),Int.emod_lt_of_pos _ (by omega)⟩
  have hv : 0 ≤ linkV w t ∧ linkV w t ≤ 18446744073709551615 := by
   unfold linkV
   split
   ·exact pick_range hw _
   ·have := next_range ((w.pickT (w.pickT t)).step 8) (n := 1048576) (by decide)
    omega
  obtain ⟨s1,s2,s3⟩ := setField_ok hm.words hv hc.1 hi
  refine ⟨s2,fun r hr => ?_,fun r hr => ?_⟩
  ·simp only
   rw [s1]
   exact h.s r hr
  ·simp only
   rw [s1]
   exact h.k r hr
 ·exact h
theorem PT.setPins {c : Conf} {l : List Page} (h : PT c l) {i : Nat} (hi : i < l.length) (hk : (l.getD i default).kind = 1 ∨ (l.getD i default).kind = 2) {n : Int} (hn : 0 ≤ n ∧ n ≤ 2147483647) : PT c (l.set i ⟨(l.getD i default).kind,(l.getD i default).space,(l.getD i default).used,n⟩) := by
 have e : ∀ j,((l.set i ⟨(l.getD i default).kind,(l.getD i default).space,(l.getD i default).used,n⟩).getD j default).kind = (l.getD j default).kind ∧ ((l.set i ⟨(l.getD i default).kind,(l.getD i default).space,(l.getD i default).used,n⟩).getD j default).space = (l.getD j default).space ∧ ((l.set i ⟨(l.getD i default).kind,(l.getD i default).space,(l.getD i default).used,n⟩).getD j default).used = (l.getD j default).used := by
  intro j
  rw [getD_set hi]
  split
  ·rename_i q; subst q; exact ⟨rfl,rfl,rfl⟩
  ·exact ⟨rfl,rfl,rfl⟩
 refine ⟨?_, ?_, ?_⟩
 ·intro j hj
  rw [List.length_set] at hj
  rw [getD_set hi]
  split
  ·have b := h.b i hi
   exact ⟨b.s,hn,b.k,fun q => by simp only at q; omega,b.k1,fun q => by simp only at q; omega⟩
  ·exact h.b j hj
 ·intro j hj hk2
  rw [List.length_set] at hj
  rw [(e j).1] at hk2
  rw [(e j).2.2,(e j).2.1]
  have q := h.lg j hj hk2
  refine ⟨q.1,fun m h1 h2 => ?_⟩
  rw [List.length_set,(e _).1,(e _).2.1]
  exact q.2 m h1 h2
 ·intro j hj hk3
  rw [List.length_set] at hj
  rw [(e j).1] at hk3
  obtain ⟨a,a1,a2,a3⟩ := h.tl j hj hk3
  exact ⟨a,a1,by rw [(e a).1]; exact a2,by rw [(e a).2.2]; exact a3⟩
theorem pinB_pok {w : WorldM} {n : Nat} (h : POk w) (hm : MOk w n) (hn : n ≤ 1000000) {i : Nat} (hi : i < w.heap.pages.length) (hk : (w.heap.pages.getD i default).kind = 1 ∨ (w.heap.pages.getD i default).kind = 2) {d : Int} (hd : d = 1 ∨ (d = -1 ∧ 0 < (w.heap.pages.getD i default).pins)) : POk (pinB w i d) := by
 have hp := hm.pins i hi
 have kk : ∀ j : Nat,((pinB w i d).heap.pages.getD j default).kind = (w.heap.pages.getD j default).kind := by
  intro j
  simp only [pinB]
  rw [getD_set hi]
  split
  ·rename_i q; subst q; rfl
  ·rfl
 have pr := h.p
 rw [proper_pt] at pr
 obtain ⟨p1,p2,p3,p4,p5,p6⟩ := pr
 refine ⟨?_,fun r hr => (h.s r hr).mono rfl (fun j _ => kk j),fun r hr => (h.k r hr).mono rfl (fun j _ => kk j)⟩
 rw [proper_pt]
 refine ⟨p1,p2,by simp only [pinB,List.length_set]; exact p3,p4, ?_,p6.setPins hi hk (by omega)⟩
 rcases p5 with p5 | p5
 ·exact Or.inl p5
 ·refine Or.inr ⟨p5.1,by simp only [pinB,List.length_set]; exact p5.2.1, ?_⟩
  rw [show (pinB w i d).heap.bump = w.heap.bump from rfl,kk]
  exact p5.2.2
theorem pick_mem (w : WorldM) (t : Tape) : w.pick t = 0 ∨ w.pick t ∈ w.strong ∨ w.pick t ∈ w.weak := by
 have hn := next_range t (n := (w.refs.length : Int)) (by simp [WorldM.refs]; omega)
 have : w.pick t ∈ w.refs := getD_mem_iff.2 ⟨_,by omega,rfl⟩
 simpa [WorldM.refs] using this
theorem POk.pick {w : WorldM} (h : POk w) (t : Tape) : RootOn w.heap (w.pick t) := by
 rcases pick_mem w t with e | e | e
 ·rw [e]; exact root0 _
 ·exact h.s _ e
 ·exact h.k _ e
theorem POk.pin {w : WorldM} {n : Nat} (h : POk w) (hm : MOk w n) (hn : n ≤ 1000000) (t : Tape) : POk (w.pin t) := by
 unfold WorldM.pin
 split
 ·rename_i e
  have o := ofA_ok hm.hv e
  have hpl := hm.pl
  have hi : pinI w t < w.heap.pages.length := by unfold pinI; omega
  have hk := h.pick t e
  split
  ·rename_i hc
   exact pinB_pok h hm hn hi hk (Or.inr ⟨rfl,hc.1⟩)
  ·split
   ·exact pinB_pok h hm hn hi hk (Or.inl rfl)
   ·exact h
 ·exact h
theorem POk.drop {w : WorldM} (h : POk w) (t : Tape) : POk (w.drop t) := by
 unfold WorldM.drop
 split
 ·rename_i hl
  have n1 := next_range t (n := (w.strong.length : Int)) (by omega)
  refine ⟨h.p,fun r hr => ?_,fun r hr => ?_⟩
  ·rcases List.mem_append.1 hr with hr | hr
   ·exact h.s r (List.mem_of_mem_take hr)
   ·exact h.s r (List.mem_of_mem_drop hr)
  ·simp only at hr
   split at hr
   ·rcases List.mem_append.1 hr with hr | hr
    ·exact h.k r hr
    ·simp only [List.mem_singleton] at hr
     subst hr
     refine h.s _ (getD_mem_iff.2 ⟨_, ?_,rfl⟩)
     unfold dropI
     omega
   ·exact h.k r hr
 ·exact h
theorem POk.collect {w : WorldM} {n : Nat} (h : POk w) (hm : MOk w n) : POk w.collect := by
 unfold WorldM.collect
 split
 ·rename_i e
  have c := collect_ok (B := n) (by omega) hm.words (fun p hp => (hm.pin_mem p hp).2) e
  have hp := h.p
  by_cases hr : refersF w.heap w.strong = true ∧ refersF w.heap w.weak = true
  ·by_cases e1 : (rootsF (beginW w.heap) w.strong).2.2 = 0
   ·by_cases e2 : (allF (rootsF (beginW w.heap) w.strong).1).2 = 0
    ·have e7 : collectF w.heap w.strong w.weak = (endH (cW5 w.heap w.strong w.weak),(rootsF (beginW w.heap) w.strong).2.1,weakO (cW2 w.heap w.strong) w.weak w.weak.length,(cW5 w.heap w.strong w.weak).rep,0) := by rw [collectF,if_pos hp,if_pos hr,if_pos e1,if_pos e2]
     have hb := begin_ok hm.words hp
     have hi := begin_inv hp
     have pr0 : PR n (beginW w.heap) := ⟨begin_tab hp (fun p hp => (hm.pin_mem p hp).2),begin_rt hp⟩
     have pr := cW2_PR (B := n) (by omega) hm.words hp (fun p hp => (hm.pin_mem p hp).2) e1 e2
     have ck := cOk w.heap w.strong w.weak hm.words hp e1 e2
     obtain ⟨g1,g2,g3,g4,g5⟩ := ck.h4
     have hc2 : (cW2 w.heap w.strong).heap.conf = w.heap.conf := ck.x2.c
     have hsp := ck.w2.sp
     have seen : ∀ x,ToOk (cW2 w.heap w.strong) x → RootOn (endH (cW5 w.heap w.strong w.weak)) x := by
      intro x hx
      rcases hx with rfl | hx
      ·exact root0 _
      ·intro he
       have q := pr.rt.q x hx
       unfold pgOf at q
       simp only [endH,cW5,freeW,g1,g2,g3] at he ⊢
       rw [hc2] at q
       have hlt : (ofA w.heap.conf x).1.toNat < (cW2 w.heap w.strong).heap.pages.length := by
        by_cases hq : (ofA w.heap.conf x).1.toNat < (cW2 w.heap w.strong).heap.pages.length
        ·exact hq
        ·have q1 := q.1
         rw [List.getD_eq_getElem?_getD,List.getElem?_eq_none (by omega)] at q1
         simp only [Option.getD_none] at q1
         have d : (default : Page).kind = 0 := rfl
         omega
       have ef : (List.map (freeQ (cW2 w.heap w.strong).heap.space) (cW2 w.heap w.strong).heap.pages).getD (ofA w.heap.conf x).1.toNat default = freeQ (cW2 w.heap w.strong).heap.space ((cW2 w.heap w.strong).heap.pages.getD (ofA w.heap.conf x).1.toNat default) := by simp [List.getD_eq_getElem?_getD,hlt]
       rw [ef,freeQ,if_neg (by unfold goneB; omega)]
       exact q.1
     have hall := rootsF_ok (roots := w.strong) hb hi e1
     have ax := allF_inv hall.1 hall.2.1 e2
     have r1 : ∀ x ∈ (rootsF (beginW w.heap) w.strong).2.1,ToOk (cW2 w.heap w.strong) x := by
      intro x hx
      have : ToOk (rootsF (beginW w.heap) w.strong).1 x := by
       unfold rootsF at e1 hx ⊢
       cases hbb : (List.range w.strong.length).find? (fun k => decide (rootsE (beginW w.heap) w.strong k ≠ 0)) with
       | none =>
        rw [hbb] at hx
        have h0 : ∀ j,j < w.strong.length → rootsE (beginW w.heap) w.strong j = 0 := fun j hj => by
         have := List.find?_eq_none.1 hbb j (List.mem_range.2 hj)
         simpa using this
        exact rootsN_to (B := n) (by omega) hb hi pr0 w.strong.length h0 x hx
       | some k =>
        rw [hbb] at e1
        simp only at e1
        have := (List.find?_range_eq_some.1 hbb).1
        simp [e1] at this
      rcases this with q | q
      ·exact Or.inl q
      ·exact Or.inr (ax.2.q x q)
     have r2 : ∀ i,i ≤ w.weak.length → ∀ x ∈ weakO (cW2 w.heap w.strong) w.weak i,ToOk (cW2 w.heap w.strong) x := by
      intro i
      induction i with
      | zero => intro _ x hx; simp [weakO] at hx
      | succ i ih =>
       intro hi' x hx
       simp only [weakO,List.mem_append,List.mem_singleton] at hx
       rcases hx with hx | rfl
       ·exact ih (by omega) x hx
       ·have hs := weakS_is (cW2 w.heap w.strong) w.weak i
        unfold weakTo
        split
        ·exact Or.inl rfl
        ·rename_i hne
         unfold afterF
         rw [hs.2.2.2.1,hs.1]
         split
         ·rename_i hq; exact Or.inr hq
         ·cases ht : (targetA (loadA (cW2 w.heap w.strong).heap.words (w.weak.getD i default)).1).2 with
          | true =>
           refine Or.inr (pr.rt.t _ ?_ ht)
           have ho : (cW2 w.heap w.strong).old = (objectsW w.heap).1 := ck.x2.o
           rw [ho]
           have hrf := hr.2
           simp only [refersF,Bool.and_eq_true,Option.isNone_iff_eq_none] at hrf
           have := List.find?_eq_none.1 hrf.2 i (List.mem_range.2 (by omega))
           simp only [rfsB,decide_eq_true_eq,not_and,Decidable.not_not] at this
           exact this hne
          | false =>
           refine Or.inl ?_
           unfold targetA at ht ⊢
           split at ht
           ·simp at ht
           ·rename_i hcc; rw [if_neg hcc]
     have p1 := c.p1
     rw [e7] at p1 ⊢
     exact ⟨p1,fun x hx => seen x (r1 x hx),fun x hx => seen x (r2 _ (Nat.le_refl _) x hx)⟩
    ·rw [collectF,if_pos hp,if_pos hr,if_pos e1,if_neg e2] at e
     exact absurd e e2
   ·rw [collectF,if_pos hp,if_pos hr,if_neg e1] at e
    exact absurd e e1
  ·rw [collectF,if_pos hp,if_neg hr] at e
   simp at e
 ·exact h
theorem POk.step {w : WorldM} {n : Nat} (h : POk w) (hm : MOk w n) (hn : n ≤ 1000000) (t : Tape) : POk (w.step t) := by
 unfold WorldM.step
 repeat' split
 ·exact h.put hm.words (header_map _ _)
 ·exact h.link hm hn _
 ·exact h.pin hm hn _
 ·exact h.drop _
 ·exact h.collect hm
 ·refine ⟨h.p,fun r hr => ?_,h.k⟩
  rcases List.mem_append.1 hr with hr | hr
  ·exact h.s r hr
  ·simp only [List.mem_singleton] at hr
   subst hr
   exact h.pick _
theorem empty_pok (t : Tape) : POk t.empty := by
 refine ⟨?_,by simp [Tape.empty],by simp [Tape.empty]⟩
 have hv := tape_conf_valid t
 have hb := validB_iff.1 hv
 have ha := area hv
 rw [proper_pt]
 have hg : ∀ j,j < t.conf.pg.toNat → (List.replicate t.conf.pg.toNat (⟨0,0,0,0⟩ : Page)).getD j default = ⟨0,0,0,0⟩ := fun j hj => by simp [List.getD_eq_getElem?_getD,hj]
 refine ⟨hv,by simp only [Tape.empty,newHeap,List.length_replicate]; omega,by simp only [Tape.empty,newHeap,List.length_replicate]; omega,Or.inl rfl,Or.inl rfl, ?_⟩
 simp only [Tape.empty,newHeap]
 refine ⟨fun j hj => ?_,fun j hj hk => ?_,fun j hj hk => ?_⟩
 ·rw [List.length_replicate] at hj
  rw [hg j hj]
  exact ⟨by simp,by simp,by simp,by simp,by simp,by simp⟩
 ·rw [List.length_replicate] at hj
  rw [hg j hj] at hk
  simp at hk
 ·rw [List.length_replicate] at hj
  rw [hg j hj] at hk
  simp at hk
theorem mkS_pok {w : WorldM} {n : Nat} (h : POk w) (hm : MOk w n) (t : Tape) : ∀ k,n + k ≤ 1000000 → POk (mkS w t k).1
 | 0,_ => h
 | k + 1,hk => (mkS_pok h hm t k (by omega)).step (mkS_ok hm t k (by omega)) (by omega) _
theorem makeF_pok (l : List Int) : POk (makeF l) := by
 have e := make_steps l
 have hl : (((makeT l).step 4).step 5).l.length ≤ 300 := by rw [e.1]; simp; omega
 have hk := mkN_is (makeT l).empty (((makeT l).step 4).step 5) (by omega)
 exact mkS_pok (empty_pok (makeT l)) (empty_ok (makeT l)) _ _ (by omega)
theorem lawProper (raw : Heap) (tape odd : List Int) (h1 : tape.length ≤ 140737488355328) (h2 : odd.length ≤ 140737488355328) : GSpec Tryz.prog 3 [raw.av,intsV tape,intsV odd] true (bool true) [] := by
 have hm := makeF_ok tape
 have hp := (makeF_pok tape).p
 have ht : TOk ⟨odd,0⟩ := by simp [TOk]; omega
 have hus : ∀ j,j < (makeF tape).heap.pages.length → -1099511627776 ≤ ((makeF tape).heap.pages.getD j default).used ∧ ((makeF tape).heap.pages.getD j default).used ≤ 1099511627776 := fun j hj => by
  have := hm.us j hj; omega
 by_cases hl : raw.words.length ≤ 5000 ∧ raw.pages.length ≤ 100
 ·exact gE [(10,[Hint.call true (Sx.bool (decide (raw.words.length ≤ 5000 ∧ raw.pages.length ≤ 100))) []]),bF 11,(13,[Hint.call false (makeF tape).av []]),(18,[Hint.lent ((makeF tape).spoil (Tape.mk odd 0)).av [((makeF tape).spoilT (Tape.mk odd 0)).b]]),(19,[Hint.call true (Sx.bool true) []]),(22,[Hint.call true (Sx.bool (properB raw)) []]),(24,[Hint.call true (Sx.bool (properB raw)) []]),(30,[Hint.call true (Sx.bool (properB (makeF tape).heap)) []]),(35,[Hint.call true (Sx.bool (properB ((makeF tape).spoil (Tape.mk odd 0)).heap)) []]),(38,[Hint.call true (Sx.bool (properB ((makeF tape).spoil (Tape.mk odd 0)).heap)) []])] [] [] Tryz.func3 [false,false,false,false,false,false,false,false,false,false,false,false,false,false,false,true] (an (@madeLight raw) (an (bo ((!decide (raw.words.length ≤ 5000 ∧ raw.pages.length ≤ 100)) = false)) (an (rf false) (an (@madeMake tape ‹_›) (an (@madeSpoil (makeF tape) (Tape.mk odd 0) ‹_› ‹_› (by (simp only [bs]; omega)) ‹_›) (an (@lawAwake) (an ((fun hg => by (try simp only [bs] at hg); exact @pageProper raw) : true = true → GSpec Tryz.prog 9 [raw.av] true (Sx.bool (properB raw)) []) (an ((fun hg => by (try simp only [bs] at hg); exact @ref4Proper raw) : true = true → GSpec Tryz.prog 10 [raw.av] true (Sx.bool (properB raw)) []) (an ((fun hg => by (try simp only [bs] at hg); exact @pageProper ((makeF tape).heap)) : (true && properB raw == properB raw) = true → GSpec Tryz.prog 9 [(makeF tape).heap.av] true (Sx.bool (properB (makeF tape).heap)) []) (an ((fun hg => by (try simp only [bs] at hg); exact @pageProper (((makeF tape).spoil (Tape.mk odd 0)).heap)) : (true && properB raw == properB raw && properB (makeF tape).heap) = true → GSpec Tryz.prog 9 [((makeF tape).spoil (Tape.mk odd 0)).heap.av] true (Sx.bool (properB ((makeF tape).spoil (Tape.mk odd 0)).heap)) []) (an ((fun hg => by (try simp only [bs] at hg); exact @ref4Proper (((makeF tape).spoil (Tape.mk odd 0)).heap)) : (true && properB raw == properB raw && properB (makeF tape).heap) = true → GSpec Tryz.prog 10 [((makeF tape).spoil (Tape.mk odd 0)).heap.av] true (Sx.bool (properB ((makeF tape).spoil (Tape.mk odd 0)).heap)) []) (by simp only [bs, *,true_or,or_true,true_and,and_true,not_true_eq_false,not_false_eq_true,Bool.true_eq_false,Bool.false_eq_true] : (properB raw == properB raw && properB (makeF tape).heap && properB ((makeF tape).spoil (Tape.mk odd 0)).heap == properB ((makeF tape).spoil (Tape.mk odd 0)).heap) = true))))))))))))
 ·exact gE [(10,[Hint.call true (Sx.bool (decide (raw.words.length ≤ 5000 ∧ raw.pages.length ≤ 100))) []]),bT 11] [] [] Tryz.func3 [] (an (@madeLight raw) (an (bo ((!decide (raw.words.length ≤ 5000 ∧ raw.pages.length ≤ 100)) = true)) tt))
end Go.Proofs.YtkeimadhboefbaaGreat
namespace Go.Proofs.YtkeimadhboefbaaGreat
open Go.Sx Go.RowKit
theorem pageProper_lifted (os : Os) (started : os.Started) (H : Type) (enc : TypeId × Value → H) :
  ReturnsInHanded {} Tryz.checked os 3 .any (Rows.pageProperSpec.pre6 enc Tryz.prog Tryz.f3 Rows.pageProperRow.domain false) (Rows.pageProperSpec.post enc Tryz.prog Tryz.f3 false true false false) := by
 refine law_of_gspec (C := Tryz.checked) (tb := 4) 5 own0 started (by kernel_rfl) Tryz.func3
  (ChangeSpec.witness6 (enc := enc) (C := Tryz.checked) false ⟨#[],#[.agg #[.int .i64 0,.int .i64 0,.slice none 0 0,.slice none 0 0,.int .i64 0,.int .i64 0],.slice none 0 0,.slice none 0 0],[]⟩ 8 (by kernel_rfl) (by kernel_rfl) (by kernel_rfl) (by kernel_rfl))
  laidOut0 (by kernel_rfl) (by kernel_rfl) (by kernel_rfl) (by kernel_rfl) rfl (fun ds hd => ?_) (fun ls hl h => ?_)
 ·match ds,hd with
  | [a,b,c],_ => rfl
 ·match ls,hl with
  | [a,b,c],_ =>
   obtain ⟨x,rfl,hx⟩ := shp_heap (n := 1) (h 0 27 a (by kernel_rfl) rfl)
   obtain ⟨tape,rfl,ht⟩ := shp_ints (n := 3) (h 1 28 b (by kernel_rfl) rfl)
   obtain ⟨odd,rfl,ho⟩ := shp_ints (n := 3) (h 2 28 c (by kernel_rfl) rfl)
   have e : zipAv Tryz.prog Tryz.f3.params.toList [heapD x,[.sl 1 (tape.map idv)],[.sl 1 (odd.map idv)]] = [x.av,intsV tape,intsV odd] := by kernel_rfl
   exact ⟨true,e ▸ lawProper x tape odd ht ho⟩
theorem pageProper_holds : Rows.PageProperSaid :=
 OpenClaim.holds_of_wide 3 Tryz.f3 rfl rfl rfl rfl rfl rfl rfl ⟨rfl,rfl,rfl,rfl,rfl⟩ rfl rfl rfl rfl rfl (by kernel_rfl) Tryz.func3 (by kernel_rfl)
  (of_decide_eq_true (by kernel_rfl)) (by unfold Func.isWrapper; first | (rw [if_pos (by decide +kernel)]; kernel_rfl) | (rw [if_neg (by decide +kernel)]; exact ⟨rfl,rfl⟩))
  (fun os started H enc _ => pageProper_lifted os started H enc)
end Go.Proofs.YtkeimadhboefbaaGreat
