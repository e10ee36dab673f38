/-
 The statement ObjectInits: part 11.
 Conditions: none.
-/
import Derived.Test.YtpklpkmnhgedbaaGreatM10
set_option maxRecDepth 100000
set_option linter.all false
namespace Go.Proofs.YtpklpkmnhgedbaaGreat
open Go.Sx
structure MOk (w : WorldM) (n : Nat) : Prop where
 words : WOk w.heap.words
 hv : validB w.heap.conf = true
 pl : (w.heap.pages.length : Int) = w.heap.conf.pg
 L : (w.heap.words.length : Int) = w.heap.conf.pw * w.heap.conf.pg
 pins : ∀ j,j < w.heap.pages.length → 0 ≤ (w.heap.pages.getD j default).pins ∧ (w.heap.pages.getD j default).pins ≤ n
 us : ∀ j,j < w.heap.pages.length → 0 ≤ (w.heap.pages.getD j default).used ∧ (w.heap.pages.getD j default).used ≤ 256
 strong : ULe w.strong
 weak : ULe w.weak
 sl : w.strong.length ≤ n
 wl : w.weak.length ≤ n
theorem MOk.wm {w : WorldM} {n : Nat} (h : MOk w n) (hn : n ≤ 1000000) : WMok w := ⟨h.words,h.strong,h.weak,Nat.le_trans h.sl (by omega),Nat.le_trans h.wl (by omega)⟩
def WorldM.dup (w : WorldM) (t : Tape) : WorldM := ⟨w.heap,w.strong ++ [w.pick t],w.weak⟩
def WorldM.step (w : WorldM) (t : Tape) : WorldM :=
 if t.next 12 ≤ 3 then w.put ((t.step 12).header w.heap.conf)
 else if t.next 12 ≤ 6 then w.link (t.step 12)
 else if t.next 12 ≤ 7 then w.pin (t.step 12)
 else if t.next 12 ≤ 9 then w.drop (t.step 12)
 else if t.next 12 ≤ 10 then w.collect
 else w.dup (t.step 12)
def WorldM.stepT (w : WorldM) (t : Tape) : Tape :=
 if t.next 12 ≤ 3 then (t.step 12).headerT w.heap.conf
 else if t.next 12 ≤ 6 then w.linkT (t.step 12)
 else if t.next 12 ≤ 7 then w.pinT (t.step 12)
 else if t.next 12 ≤ 9 then w.dropT (t.step 12)
 else if t.next 12 ≤ 10 then t.step 12
 else w.pickT (t.step 12)
theorem header_map (t : Tape) (c : Conf) : 0 ≤ (t.header c).map ∧ (t.header c).map ≤ 4294967295 := by
 have h : ∀ n : Int,0 ≤ ((hdr1T t c).step 4).next (2 ^ (min (min n 32) 12).toNat) ∧ ((hdr1T t c).step 4).next (2 ^ (min (min n 32) 12).toNat) ≤ 4294967295 := by
  intro n
  have p := pow12 (n := min (min n 32) 12) (by omega)
  have r := next_range ((hdr1T t c).step 4) (n := 2 ^ (min (min n 32) 12).toNat) p.1
  omega
 unfold Tape.header
 split
 ·simp
 ·split
  ·simp
  ·exact h _
theorem sp_next12 (t : Tape) (d : Int) (hd : t.next 12 = d) (ht : TOk t) : LentSpec Tryz.prog 41 [.pt 0 0 0,int 12] [t.b] (int d) [(t.step 12).b] := by
 rw [← hd]
 exact tapeNext t 12 ht (by decide) (by decide)
section
variable (w : WorldM) (t : Tape) (n : Nat) (hm : MOk w n) (hn : n ≤ 1000000) (ht : TOk t) (ha : t.at' ≤ 900000)
include hm hn ht ha
theorem worldStep : LentSpec Tryz.prog 68 [w.av,.pt 0 0 0] [t.b] (w.step t).av [(w.stepT t).b] := by
 have hw := hm.wm hn
 have h1 := hm.words
 have h2 := hm.strong
 have h3 := hm.weak
 have h4 := hm.sl
 have h5 := hm.wl
 have s1 := step_at (t := t) 12
 have k1 := tok_of ht s1.2.2 (by omega) (by omega)
 have n1 := next_range t (n := 12) (by decide)
 have hmap := header_map (t.step 12) w.heap.conf
 have hv := hm.hv
 have hpl := hm.pl
 have hpn : ∀ j,j < w.heap.pages.length → -1048576 ≤ (w.heap.pages.getD j default).pins ∧ (w.heap.pages.getD j default).pins ≤ 4294967296 := fun j hj => by
  have := hm.pins j hj; omega
 have hd : t.next 12 = 0 ∨ t.next 12 = 1 ∨ t.next 12 = 2 ∨ t.next 12 = 3 ∨ t.next 12 = 4 ∨ t.next 12 = 5 ∨ t.next 12 = 6 ∨ t.next 12 = 7 ∨ t.next 12 = 8 ∨ t.next 12 = 9 ∨ t.next 12 = 10 ∨ t.next 12 = 11 := by omega
 rcases hd with hd | hd | hd | hd | hd | hd | hd | hd | hd | hd | hd | hd
 ·have e7 : w.step t = w.put ((t.step 12).header w.heap.conf) := by simp [WorldM.step,hd]
  have e8 : w.stepT t = (t.step 12).headerT w.heap.conf := by simp [WorldM.stepT,hd]
  rw [e7,e8]
  exact lE [(6,[Hint.lent (int 0) [(t.step 12).b]]),(17,[Hint.lent ((t.step 12).header w.heap.conf).av [((t.step 12).headerT w.heap.conf).b]]),(18,[Hint.call false (w.put ((t.step 12).header w.heap.conf)).av []])] [] Tryz.func68 [] (an (@sp_next12 t (0) ‹_› ‹_›) (an (@tapeHeader (t.step 12) w.heap.conf ‹_› (by omega) ‹_›) (@worldPut w ((t.step 12).header w.heap.conf) ‹_› ‹_›)))
 ·have e7 : w.step t = w.put ((t.step 12).header w.heap.conf) := by simp [WorldM.step,hd]
  have e8 : w.stepT t = (t.step 12).headerT w.heap.conf := by simp [WorldM.stepT,hd]
  rw [e7,e8]
  exact lE [(6,[Hint.lent (int 1) [(t.step 12).b]]),(17,[Hint.lent ((t.step 12).header w.heap.conf).av [((t.step 12).headerT w.heap.conf).b]]),(18,[Hint.call false (w.put ((t.step 12).header w.heap.conf)).av []])] [] Tryz.func68 [] (an (@sp_next12 t (1) ‹_› ‹_›) (an (@tapeHeader (t.step 12) w.heap.conf ‹_› (by omega) ‹_›) (@worldPut w ((t.step 12).header w.heap.conf) ‹_› ‹_›)))
 ·have e7 : w.step t = w.put ((t.step 12).header w.heap.conf) := by simp [WorldM.step,hd]
  have e8 : w.stepT t = (t.step 12).headerT w.heap.conf := by simp [WorldM.stepT,hd]
  rw [e7,e8]
  exact lE [(6,[Hint.lent (int 2) [(t.step 12).b]]),(17,[Hint.lent ((t.step 12).header w.heap.conf).av [((t.step 12).headerT w.heap.conf).b]]),(18,[Hint.call false (w.put ((t.step 12).header w.heap.conf)).av []])] [] Tryz.func68 [] (an (@sp_next12 t (2) ‹_› ‹_›) (an (@tapeHeader (t.step 12) w.heap.conf ‹_› (by omega) ‹_›) (@worldPut w ((t.step 12).header w.heap.conf) ‹_› ‹_›)))
 ·have e7 : w.step t = w.put ((t.step 12).header w.heap.conf) := by simp [WorldM.step,hd]
  have e8 : w.stepT t = (t.step 12).headerT w.heap.conf := by simp [WorldM.stepT,hd]
  rw [e7,e8]
  exact lE [(6,[Hint.lent (int 3) [(t.step 12).b]]),(17,[Hint.lent ((t.step 12).header w.heap.conf).av [((t.step 12).headerT w.heap.conf).b]]),(18,[Hint.call false (w.put ((t.step 12).header w.heap.conf)).av []])] [] Tryz.func68 [] (an (@sp_next12 t (3) ‹_› ‹_›) (an (@tapeHeader (t.step 12) w.heap.conf ‹_› (by omega) ‹_›) (@worldPut w ((t.step 12).header w.heap.conf) ‹_› ‹_›)))
 ·have e7 : w.step t = w.link (t.step 12) := by simp [WorldM.step,hd]
  have e8 : w.stepT t = w.linkT (t.step 12) := by simp [WorldM.stepT,hd]
  rw [e7,e8]
  exact lE [(6,[Hint.lent (int 4) [(t.step 12).b]]),(25,[Hint.lent (w.link (t.step 12)).av [(w.linkT (t.step 12)).b]])] [] Tryz.func68 [] (an (@sp_next12 t (4) ‹_› ‹_›) (@worldLink w (t.step 12) ‹_› ‹_› (by omega)))
 ·have e7 : w.step t = w.link (t.step 12) := by simp [WorldM.step,hd]
  have e8 : w.stepT t = w.linkT (t.step 12) := by simp [WorldM.stepT,hd]
  rw [e7,e8]
  exact lE [(6,[Hint.lent (int 5) [(t.step 12).b]]),(25,[Hint.lent (w.link (t.step 12)).av [(w.linkT (t.step 12)).b]])] [] Tryz.func68 [] (an (@sp_next12 t (5) ‹_› ‹_›) (@worldLink w (t.step 12) ‹_› ‹_› (by omega)))
 ·have e7 : w.step t = w.link (t.step 12) := by simp [WorldM.step,hd]
  have e8 : w.stepT t = w.linkT (t.step 12) := by simp [WorldM.stepT,hd]
  rw [e7,e8]
  exact lE [(6,[Hint.lent (int 6) [(t.step 12).b]]),(25,[Hint.lent (w.link (t.step 12)).av [(w.linkT (t.step 12)).b]])] [] Tryz.func68 [] (an (@sp_next12 t (6) ‹_› ‹_›) (@worldLink w (t.step 12) ‹_› ‹_› (by omega)))
 ·have e7 : w.step t = w.pin (t.step 12) := by simp [WorldM.step,hd]
  have e8 : w.stepT t = w.pinT (t.step 12) := by simp [WorldM.stepT,hd]
  rw [e7,e8]
  exact lE [(6,[Hint.lent (int 7) [(t.step 12).b]]),(30,[Hint.lent (w.pin (t.step 12)).av [(w.pinT (t.step 12)).b]])] [] Tryz.func68 [] (an (@sp_next12 t (7) ‹_› ‹_›) (@worldPin w (t.step 12) ‹_› ‹_› (by omega) ‹_› (by omega) ‹_›))
 ·have e7 : w.step t = w.drop (t.step 12) := by simp [WorldM.step,hd]
  have e8 : w.stepT t = w.dropT (t.step 12) := by simp [WorldM.stepT,hd]
  rw [e7,e8]
  exact lE [(6,[Hint.lent (int 8) [(t.step 12).b]]),(36,[Hint.lent (w.drop (t.step 12)).av [(w.dropT (t.step 12)).b]])] [] Tryz.func68 [] (an (@sp_next12 t (8) ‹_› ‹_›) (@worldDrop w (t.step 12) ‹_› ‹_› (by omega)))
 ·have e7 : w.step t = w.drop (t.step 12) := by simp [WorldM.step,hd]
  have e8 : w.stepT t = w.dropT (t.step 12) := by simp [WorldM.stepT,hd]
  rw [e7,e8]
  exact lE [(6,[Hint.lent (int 9) [(t.step 12).b]]),(36,[Hint.lent (w.drop (t.step 12)).av [(w.dropT (t.step 12)).b]])] [] Tryz.func68 [] (an (@sp_next12 t (9) ‹_› ‹_›) (@worldDrop w (t.step 12) ‹_› ‹_› (by omega)))
 ·have e7 : w.step t = w.collect := by simp [WorldM.step,hd]
  have e8 : w.stepT t = t.step 12 := by simp [WorldM.stepT,hd]
  rw [e7,e8]
  exact lE [(6,[Hint.lent (int 10) [(t.step 12).b]]),(40,[Hint.call false w.collect.av []])] [] Tryz.func68 [] (an (@sp_next12 t (10) ‹_› ‹_›) (@worldCollect w ‹_› (by omega) (by omega) ‹_› ‹_›))
 ·have e7 : w.step t = w.dup (t.step 12) := by simp [WorldM.step,hd]
  have e8 : w.stepT t = w.pickT (t.step 12) := by simp [WorldM.stepT,hd]
  rw [e7,e8]
  exact lE [(6,[Hint.lent (int 11) [(t.step 12).b]]),(41,[Hint.els (List.map wdv [])]),(44,[Hint.els (List.map wdv w.strong)]),(47,[Hint.lent (u64 (w.pick (t.step 12))) [(w.pickT (t.step 12)).b]]),(48,[Hint.els (List.map wdv [w.pick (t.step 12)])]),(49,[Hint.els (List.map wdv (w.strong ++ [w.pick (t.step 12)]))])] [] Tryz.func68 [] (an (@sp_next12 t (11) ‹_› ‹_›) (an (rf (List.map wdv [])) (an (by (simp [WorldM.dup, *]; omega) : (List.map wdv []).length + (List.map wdv w.strong).length≤2 ^ 30) (an (rf (List.map wdv w.strong)) (an (@worldPick w (t.step 12) ‹_› ‹_› (by omega)) (an (rf (List.map wdv [w.pick (t.step 12)])) (an (by (simp [WorldM.dup, *]; omega) : (List.map wdv w.strong).length + (List.map wdv [w.pick (t.step 12)]).length≤2 ^ 30) (by simp [WorldM.dup,List.map_take,List.map_drop,List.map_set,List.map_append,wdv,idv] : List.map wdv w.strong ++ List.map wdv [w.pick (t.step 12)] = List.map wdv (w.strong ++ [w.pick (t.step 12)])))))))))
end
theorem wok_freeWs {pw s : Int} {l : List Page} {ws : List Int} (h : WOk ws) : ∀ i,WOk (freeWs pw s l ws i)
 | 0 => h
 | i + 1 => by
  have ih := wok_freeWs (pw := pw) (s := s) (l := l) h i
  unfold freeWs
  split
  ·intro x hx
   simp only [spl,List.mem_append,List.mem_replicate] at hx
   rcases hx with (hx | hx) | hx
   ·exact ih x (List.mem_of_mem_take hx)
   ·omega
   ·exact ih x (List.mem_of_mem_drop hx)
  ·exact ih
theorem pt_free {c : Conf} {l : List Page} (h : PT c l) (s : Int) : PT c (l.map (freeQ s)) := by
 refine h.mapPages _ ?_ ?_ ?_ ?_
 ·intro p hp
  unfold freeQ
  split
  ·exact ⟨by simp,by simp,by simp,by simp,by simp,by simp⟩
  ·exact hp
 ·intro p hp hk
  unfold freeQ at hk ⊢
  split at hk
  ·simp at hk
  ·rename_i hc; rw [if_neg hc]; exact ⟨hk,rfl⟩
 ·intro p hp hk
  unfold freeQ at hk
  split at hk
  ·simp at hk
  ·exact hk
 ·intro p q hp hq h2 h3 he
  by_cases hg : p.space = s
  ·have e1 : freeQ s p = ⟨0,0,0,0⟩ := by rw [freeQ,if_pos ⟨by omega,hg⟩]
   have e2 : freeQ s q = ⟨0,0,0,0⟩ := by rw [freeQ,if_pos ⟨by omega,by omega⟩]
   rw [e1,e2]
   simp
  ·have e1 : freeQ s p = p := by rw [freeQ,if_neg (by unfold goneB; omega)]
   have e2 : freeQ s q = q := by rw [freeQ,if_neg (by unfold goneB; omega)]
   rw [e1,e2]
   exact ⟨⟨fun _ => h3,fun _ => h2⟩,fun _ => he⟩
theorem weakO_range {w : Work} (hw : WkOk w) (k : List Int) : ∀ i,∀ x ∈ weakO w k i,0 ≤ x ∧ x ≤ 4294967296
 | 0,x,hx => by simp [weakO] at hx
 | i + 1,x,hx => by
  simp only [weakO,List.mem_append,List.mem_singleton] at hx
  rcases hx with hx | rfl
  ·exact weakO_range hw k i x hx
  ·have h := weakS_is w k i
   unfold weakTo
   split
   ·omega
   ·unfold afterF
    rw [h.2.2.2.1,h.1]
    split
    ·rename_i hq
     have := hw.q _ hq
     omega
    ·have := targetA_range (loadA_range hw.words (k.getD i default)).1
     omega
structure ColOk (B : Int) (h : Heap) (s k : List Int) : Prop where
 p0 : properB h = true
 p1 : properB (collectF h s k).1 = true
 w : WOk (collectF h s k).1.words
 n : ∀ p ∈ (collectF h s k).1.pages,p.pins ≤ B
 c : (collectF h s k).1.conf = h.conf
 r : ∀ x ∈ (collectF h s k).2.1,0 ≤ x ∧ x ≤ 4294967296
 rl : (collectF h s k).2.1.length = s.length
 v : ∀ x ∈ (collectF h s k).2.2.1,0 ≤ x ∧ x ≤ 4294967296
 vl : (collectF h s k).2.2.1.length = k.length
theorem collect_ok {B : Int} (hB : 0 ≤ B) {h : Heap} {s k : List Int} (hw : WOk h.words) (hb : ∀ p ∈ h.pages,p.pins ≤ B) (e : (collectF h s k).2.2.2.2 = 0) : ColOk B h s k := by
 by_cases hp : properB h = true
 ·by_cases hr : refersF h s = true ∧ refersF h k = true
  ·by_cases e1 : (rootsF (beginW h) s).2.2 = 0
   ·by_cases e2 : (allF (rootsF (beginW h) s).1).2 = 0
    ·have e7 : collectF h s k = (endH (cW5 h s k),(rootsF (beginW h) s).2.1,weakO (cW2 h s) k k.length,(cW5 h s k).rep,0) := by rw [collectF,if_pos hp,if_pos hr,if_pos e1,if_pos e2]
     have ho := rootsF_ok (roots := s) (begin_ok hw hp) (begin_inv hp) e1
     have c := cOk h s k hw hp e1 e2
     have c5 := cOk5 h s k hw hp e1 e2
     have tb := cW2_tab hB hw hp hb e1 e2
     obtain ⟨g1,g2,g3,g4,g5⟩ := c.h4
     have hsp := c.w2.sp
     have hc2 : (cW2 h s).heap.conf = h.conf := c.x2.c
     have hpl := c.w2.pl
     rw [hc2] at hpl
     have hL := c.i4.L
     rw [g1] at hL
     have hfl := freeWs_len (s := (cW4 h s k).heap.space) c5.2.2.2.1 (cW4 h s k).heap.pages.length (Nat.le_refl _)
     refine ⟨hp, ?_, ?_, ?_, ?_, ?_, ?_, ?_, ?_⟩
     ·rw [e7,proper_pt]
      simp only [endH,cW5,freeW,g1,g2,g3,g4]
      have hptf := pt_free (s := (cW2 h s).heap.space) tb.pt
      rw [hc2] at hptf
      refine ⟨(proper_ok hp).1, ?_,by simp only [List.length_map]; exact hpl,by omega, ?_,hptf⟩
      ·rw [g1,g2,g3] at hfl
       rw [hfl]
       exact hL
      ·split
       ·rename_i ht
        have hm := lastT_mem (w := cW2 h s) ht
        have t1 := c.w2.tk _ hm
        have t2 := tb.tk _ hm
        refine Or.inr ⟨t1.1,by simp only [List.length_map]; exact t1.2.1, ?_⟩
        have hx : (List.map (freeQ (cW2 h s).heap.space) (cW2 h s).heap.pages).getD (lastT (cW2 h s)).toNat default = (cW2 h s).heap.pages.getD (lastT (cW2 h s)).toNat default := by
         have hi : (lastT (cW2 h s)).toNat < (cW2 h s).heap.pages.length := by omega
         have : (List.map (freeQ (cW2 h s).heap.space) (cW2 h s).heap.pages).getD (lastT (cW2 h s)).toNat default = freeQ (cW2 h s).heap.space ((cW2 h s).heap.pages.getD (lastT (cW2 h s)).toNat default) := by simp [List.getD_eq_getElem?_getD,hi]
         rw [this,freeQ,if_neg (by unfold goneB; omega)]
        show ((List.map (freeQ (cW2 h s).heap.space) (cW2 h s).heap.pages).getD (lastT (cW2 h s)).toNat default).kind = 1
        rw [hx]
        exact t1.2.2
       ·exact Or.inl rfl
     ·rw [e7]
      exact wok_freeWs c.f4.words _
     ·rw [e7]
      intro p hp'
      simp only [endH,cW5,freeW,g2,List.mem_map] at hp'
      obtain ⟨q,hq,rfl⟩ := hp'
      unfold freeQ
      split
      ·exact hB
      ·exact tb.pin q hq
     ·rw [e7]
      exact g1
     ·rw [e7]
      exact ho.2.2.2.1
     ·rw [e7]
      exact ho.2.2.2.2
     ·rw [e7]
      exact weakO_range c.w2 k _
     ·rw [e7]
      exact weakO_len _ _ _
    ·rw [collectF,if_pos hp,if_pos hr,if_pos e1,if_neg e2] at e
     exact absurd e e2
   ·rw [collectF,if_pos hp,if_pos hr,if_neg e1] at e
    exact absurd e e1
  ·rw [collectF,if_pos hp,if_neg hr] at e
   simp at e
 ·rw [collectF,if_neg hp] at e
  simp at e
theorem proper_pins {h : Heap} (hp : properB h = true) : ∀ p ∈ h.pages,0 ≤ p.pins := by
 rw [proper_pt] at hp
 intro p hp'
 obtain ⟨i,hi,e⟩ := List.mem_iff_getElem.1 hp'
 have := (hp.2.2.2.2.2.b i hi).n.1
 rwa [show h.pages.getD i default = p by rw [List.getD_eq_getElem?_getD,List.getElem?_eq_getElem hi,e]; rfl] at this
theorem MOk.of_proper {w : WorldM} {n : Nat} (hp : properB w.heap = true) (hw : WOk w.heap.words) (hn : ∀ p ∈ w.heap.pages,p.pins ≤ n) (h1 : ULe w.strong) (h2 : ULe w.weak) (h3 : w.strong.length ≤ n) (h4 : w.weak.length ≤ n) : MOk w n := by
 have po := proper_ok hp
 exact ⟨hw,po.1,po.2.2.2.2.2.2.2.1,po.2.2.2.2.2.1,fun j hj => ⟨proper_pins hp _ (getD_in hj),hn _ (getD_in hj)⟩,fun j hj => by have := proper_page hp hj; omega,h1,h2,h3,h4⟩
theorem MOk.pin_mem {w : WorldM} {n : Nat} (h : MOk w n) : ∀ p ∈ w.heap.pages,0 ≤ p.pins ∧ p.pins ≤ n := by
 intro p hp
 obtain ⟨i,hi,e⟩ := List.mem_iff_getElem.1 hp
 have := h.pins i hi
 rwa [show w.heap.pages.getD i default = p by rw [List.getD_eq_getElem?_getD,List.getElem?_eq_getElem hi,e]; rfl] at this
theorem MOk.mono {w : WorldM} {n : Nat} (h : MOk w n) : MOk w (n + 1) :=
 ⟨h.words,h.hv,h.pl,h.L,fun j hj => by have := h.pins j hj; omega,h.us,h.strong,h.weak,by have := h.sl; omega,by have := h.wl; omega⟩
theorem ule_app {l : List Int} (h : ULe l) {x : Int} (hx : 0 ≤ x ∧ x ≤ 18446744073709551615) : ULe (l ++ [x]) := by
 intro y hy
 simp only [List.mem_append,List.mem_singleton] at hy
 rcases hy with hy | rfl
 ·exact h y hy
 ·exact hx
theorem MOk.put {w : WorldM} {n : Nat} (h : MOk w n) {hd : Header} (hm : 0 ≤ hd.map ∧ hd.map ≤ 4294967295) : MOk (w.put hd) (n + 1) := by
 unfold WorldM.put
 split
 ·rename_i e
  obtain ⟨k1,k2,k3,k4,k5,k6,k7,k8⟩ := new7_ok h.words hm e
  have po := proper_ok k1
  have hl := h.sl
  have hl2 := h.wl
  have z := (asksH_ok k2).2.1
  have a1 := k3.lo
  have a2 := k3.hi
  refine MOk.of_proper k7 k8 ?_ (ule_app h.strong (by rw [k5]; omega)) h.weak (by simp; omega) (by simp only; omega)
  intro p hp
  simp only at hp
  rw [k6] at hp
  simp only at hp
  rcases k3.pin p hp with q | ⟨q,q1,q2⟩
  ·omega
  ·have := h.pin_mem q q1; omega
 ·exact h.mono
theorem MOk.link {w : WorldM} {n : Nat} (h : MOk w n) (hn : n ≤ 1000000) (t : Tape) : MOk (w.link t) (n + 1) := by
 unfold WorldM.link
 split
 ·rename_i hc
  have g := getH_ok hc.1
  have hw := h.wm hn
  have hlen : 1 ≤ (getH w.heap (w.pick t)).1.length := by omega
  have n1 := next_range (w.pickT (w.pickT t)) (n := 8) (by decide)
  have hi : 0 ≤ linkI w t ∧ linkI w t < (getH w.heap (w.pick t)).1.length := by
   unfold linkI
   rw [Int.tmod_eq_emod_of_nonneg n1.1]
   exact ⟨Int.emod_nonneg _ (by omega),Int.emod_lt_of_pos _ (by omega)⟩
  have hv : 0 ≤ linkV w t ∧ linkV w t ≤ 18446744073709551615 := by
   unfold linkV
   split
   ·exact pick_range hw _
   ·have := next_range ((w.pickT (w.pickT t)).step 8) (n := 1048576) (by decide)
    omega
  obtain ⟨s1,s2,s3⟩ := setField_ok h.words hv hc.1 hi
  have hl := h.sl
  have hl2 := h.wl
  refine MOk.of_proper s2 s3 ?_ h.strong h.weak (by simp only; omega) (by simp only; omega)
  intro p hp
  simp only at hp
  rw [s1] at hp
  have := h.pin_mem p hp
  omega
 ·exact h.mono
theorem pinB_ok {w : WorldM} {n : Nat} (h : MOk w n) {i : Nat} (hi : i < w.heap.pages.length) {d : Int} (hd : d = 1 ∨ (d = -1 ∧ 0 < (w.heap.pages.getD i default).pins)) : MOk (pinB w i d) (n + 1) := by
 have hp := h.pins i hi
 refine ⟨h.words,h.hv, ?_,h.L, ?_, ?_,h.strong,h.weak,by have := h.sl; simp only [pinB]; omega,by have := h.wl; simp only [pinB]; omega⟩
 ·simp only [pinB,List.length_set]; exact h.pl
 ·intro j hj
  simp only [pinB,List.length_set] at hj ⊢
  rw [getD_set hi]
  split
  ·simp only; omega
  ·have := h.pins j hj; omega
 ·intro j hj
  simp only [pinB,List.length_set] at hj ⊢
  rw [getD_set hi]
  split
  ·exact h.us i hi
  ·exact h.us j hj
theorem MOk.pin {w : WorldM} {n : Nat} (h : MOk w n) (t : Tape) : MOk (w.pin t) (n + 1) := by
 unfold WorldM.pin
 split
 ·rename_i e
  have o := ofA_ok h.hv e
  have hpl := h.pl
  have hi : pinI w t < w.heap.pages.length := by unfold pinI; omega
  split
  ·rename_i hc
   exact pinB_ok h hi (Or.inr ⟨rfl,hc.1⟩)
  ·split
   ·exact pinB_ok h hi (Or.inl rfl)
   ·exact h.mono
 ·exact h.mono
theorem MOk.drop {w : WorldM} {n : Nat} (h : MOk w n) (t : Tape) : MOk (w.drop t) (n + 1) := by
 unfold WorldM.drop
 split
 ·have hl := h.sl
  have hl2 := h.wl
  refine ⟨h.words,h.hv,h.pl,h.L,fun j hj => by have := h.pins j hj; simp only; omega,h.us, ?_, ?_, ?_, ?_⟩
  ·intro x hx
   rcases List.mem_append.1 hx with hx | hx
   ·exact h.strong x (List.mem_of_mem_take hx)
   ·exact h.strong x (List.mem_of_mem_drop hx)
  ·simp only
   split
   ·exact ule_app h.weak (getD_mem h.strong _)
   ·exact h.weak
  ·simp only [List.length_append,List.length_take,List.length_drop]; omega
  ·simp only
   split
   ·simp; omega
   ·omega
 ·exact h.mono
theorem MOk.collect {w : WorldM} {n : Nat} (h : MOk w n) : MOk w.collect (n + 1) := by
 unfold WorldM.collect
 split
 ·rename_i e
  have c := collect_ok (B := n) (by omega) h.words (fun p hp => (h.pin_mem p hp).2) e
  have hl := h.sl
  have hl2 := h.wl
  refine MOk.of_proper c.p1 c.w (fun p hp => by have := c.n p hp; omega) (fun x hx => by have := c.r x hx; omega) (fun x hx => by have := c.v x hx; omega) (by simp only [c.rl]; omega) (by simp only [c.vl]; omega)
 ·exact h.mono
theorem MOk.step {w : WorldM} {n : Nat} (h : MOk w n) (hn : n ≤ 1000000) (t : Tape) : MOk (w.step t) (n + 1) := by
 unfold WorldM.step
 repeat' split
 ·exact h.put (header_map _ _)
 ·exact h.link hn _
 ·exact h.pin _
 ·exact h.drop _
 ·exact h.collect
 ·have hl := h.sl
  have hl2 := h.wl
  exact ⟨h.words,h.hv,h.pl,h.L,fun j hj => by have := h.pins j hj; simp only [WorldM.dup] at *; omega,h.us,ule_app h.strong (pick_range (h.wm hn) _),h.weak,by simp only [WorldM.dup,List.length_append,List.length_singleton]; omega,by simp only [WorldM.dup]; omega⟩
theorem madeLight (h : Heap) : GSpec Tryz.prog 47 [h.av] true (bool (decide (h.words.length ≤ 5000 ∧ h.pages.length ≤ 100))) [] := by
 exact gF [] Tryz.func47 [false,false,false,false,true] (Fh 10 [.int ↑h.pages.length] (Fl 5 wdv h.words (Fa (by intro hg; (try simp only [bs] at hg); simp only [List.length_map] : decide ((↑h.words.length : Int)≤5000) =true→(↑(List.map Page.dv h.pages).length : Int) =(↑h.pages.length : Int)) (Fa (by grind [] : (decide ((↑h.words.length : Int)≤5000)&&decide ((↑h.pages.length : Int)≤100)) =decide (h.words.length≤5000∧h.pages.length≤100)) Fz))))
theorem sp_worldStep (w : WorldM) (t : Tape) (n : Nat) (hm : MOk w n) (hn : n ≤ 1000000) (ht : TOk t) (ha : t.at' ≤ 900000) : LentSpec Tryz.prog 68 [w.av,.pt 0 0 0] [t.b] (w.step t).av [(w.stepT t).b] :=
 worldStep w t n hm hn ht ha
structure TUp (n : Int) (t u : Tape) : Prop where
 l : u.l = t.l
 lo : t.at' ≤ u.at'
 hi : u.at' ≤ t.at' + n
theorem TUp.step (t : Tape) (n : Int) : TUp 1 t (t.step n) := by
 have := step_at (t := t) n
 exact ⟨this.2.2,this.1,this.2.1⟩
theorem TUp.trans {m n : Int} {t u v : Tape} (h1 : TUp m t u) (h2 : TUp n u v) : TUp (m + n) t v :=
 ⟨h2.l.trans h1.l,by have := h1.lo; have := h2.lo; omega,by have := h1.hi; have := h2.hi; omega⟩
theorem TUp.mono {m n : Int} {t u : Tape} (h : TUp m t u) (hmn : m ≤ n) : TUp n t u := ⟨h.l,h.lo,by have := h.hi; omega⟩
theorem headerT_up (t : Tape) (c : Conf) : TUp 10 t (t.headerT c) := by
 have h1 : TUp 4 t (hdr1T t c) := by
  unfold hdr1T
  split
  ·exact (((TUp.step t _).trans (TUp.step _ 12)).trans (TUp.step _ _)).mono (by decide)
  ·exact ((TUp.step t _).trans (TUp.step _ 12)).mono (by decide)
 unfold Tape.headerT
 repeat' split
 ·exact (h1.trans (TUp.step _ 4)).mono (by decide)
 ·exact (h1.trans (TUp.step _ 4)).mono (by decide)
 ·exact ((h1.trans (TUp.step _ 4)).trans (TUp.step _ _)).mono (by decide)
theorem linkT_up (w : WorldM) (t : Tape) : TUp 10 t (w.linkT t) := by
 have h1 : TUp 1 t (w.pickT t) := TUp.step _ _
 have h2 : TUp 1 (w.pickT t) (w.pickT (w.pickT t)) := TUp.step _ _
 unfold WorldM.linkT
 split
 ·exact ((((h1.trans h2).trans (TUp.step _ 8))).trans (TUp.step _ _)).mono (by decide)
 ·exact ((h1.trans h2).trans (TUp.step _ 8)).mono (by decide)
theorem stepT_up (w : WorldM) (t : Tape) : (w.stepT t).l = t.l ∧ t.at' + 1 ≤ (w.stepT t).at' ∧ (w.stepT t).at' ≤ t.at' + 20 := by
 have h0 : (t.step 12).at' = t.at' + 1 ∧ (t.step 12).l = t.l := by simp [Tape.step]
 have key : TUp 10 (t.step 12) (w.stepT t) := by
  unfold WorldM.stepT
  repeat' split
  ·exact headerT_up _ _
  ·exact linkT_up _ _
  ·unfold WorldM.pinT
   split
   ·exact ((TUp.step _ _).trans (TUp.step _ 2)).mono (by decide)
   ·exact (TUp.step _ _).mono (by decide)
  ·unfold WorldM.dropT
   split
   ·exact ((TUp.step _ _).trans (TUp.step _ 3)).mono (by decide)
   ·exact ⟨rfl,by omega,by omega⟩
  ·exact ⟨rfl,by omega,by omega⟩
  ·exact (TUp.step _ _).mono (by decide)
 have a := key.l
 have b := key.lo
 have c := key.hi
 exact ⟨a.trans h0.2,by omega,by omega⟩
def mkS (w : WorldM) (t : Tape) : Nat → WorldM × Tape
 | 0 => (w,t)
 | k + 1 => ((mkS w t k).1.step (mkS w t k).2,(mkS w t k).1.stepT (mkS w t k).2)
def mkB (w : WorldM) (t : Tape) (k : Nat) : Bool := decide (((mkS w t k).2.l.length : Int) ≤ (mkS w t k).2.at')
def mkN (w : WorldM) (t : Tape) : Nat := ((List.range (2 + t.l.length)).find? (mkB w t)).getD 0
def makeW (w : WorldM) (t : Tape) : WorldM := (mkS w t (mkN w t)).1
theorem mkS_up (w : WorldM) (t : Tape) : ∀ k : Nat,(mkS w t k).2.l = t.l ∧ t.at' + k ≤ (mkS w t k).2.at' ∧ (mkS w t k).2.at' ≤ t.at' + 20 * k
 | 0 => by simp [mkS]
 | k + 1 => by
  have ih := mkS_up w t k
  have := stepT_up (mkS w t k).1 (mkS w t k).2
  refine ⟨this.1.trans ih.1, ?_, ?_⟩
  ·simp only [mkS]; omega
  ·simp only [mkS]; omega
theorem mkS_ok {w : WorldM} {n : Nat} (h : MOk w n) (t : Tape) : ∀ k,n + k ≤ 1000000 → MOk (mkS w t k).1 (n + k)
 | 0,_ => h
 | k + 1,hk => (mkS_ok h t k (by omega)).step (by omega) _
theorem mkN_is (w : WorldM) (t : Tape) (ht : 0 ≤ t.at') : mkB w t (mkN w t) = true ∧ (∀ j,j < mkN w t → mkB w t j = false) ∧ mkN w t ≤ t.l.length + 1 := by
 cases hb : (List.range (2 + t.l.length)).find? (mkB w t) with
 | none =>
  exfalso
  have := List.find?_eq_none.1 hb t.l.length (List.mem_range.2 (by omega))
  have u := mkS_up w t t.l.length
  simp only [mkB,decide_eq_true_eq,u.1] at this
  omega
 | some k =>
  obtain ⟨h1,h2,h3⟩ := List.find?_range_eq_some.1 hb
  have h2 := List.mem_range.1 h2
  have e : mkN w t = k := by rw [mkN,hb]; rfl
  rw [e]
  exact ⟨h1,fun j hj => by simpa using h3 j hj,by omega⟩
def mkLA (w : WorldM) (t : Tape) : Tg := ⟨tm 22 [(2,.pt 8002 0 0),(3,.pt 32012 0 0),(4,.pt 40004 0 0)],[(40004,.box 54 w.cells),(32012,t.b),(8002,.box 54 [int 0,int 0,.d (.sl 0 []),.d (.sl 0 []),int 0,int 0,.d (.sl 0 []),.d (.sl 0 [])])],60⟩
theorem mkRoundA (w : WorldM) (t : Tape) (n : Nat) (hm : MOk w n) (hn : n ≤ 1000000) (ht : TOk t) (ha : t.at' ≤ 900000) (hd : t.at' < t.l.length) : CSpec Tryz.prog (rndF Tryz.f28 0) (mkLA w t).st .nrm (mkLA (w.step t) (w.stepT t)).st := by
 exact sE [(16,[Hint.lent (Sx.bool (decide ((↑t.l.length : Int)≤t.at'))) [t.b]]),bT 17,(20,[Hint.lent (w.step t).av [(w.stepT t).b]])] [] [] [] (an (@tapeDone t ‹_›) (an (bo ((!decide ((↑t.l.length : Int)≤t.at'))=true)) (an tt (@sp_worldStep w t n ‹_› ‹_› ‹_› ‹_›))))
theorem mkEndA (w : WorldM) (t : Tape) (ht : TOk t) (hd : ¬ t.at' < t.l.length) : CSpec Tryz.prog (rndF Tryz.f28 0) (mkLA w t).st (.ext 0) (Tg.st ⟨tm 22 [(2,.pt 8002 0 0),(4,.pt 40004 0 0)],[(40004,.box 54 w.cells),(8002,.box 54 [int 0,int 0,.d (.sl 0 []),.d (.sl 0 []),int 0,int 0,.d (.sl 0 []),.d (.sl 0 [])])],60⟩) := by
 exact sE [(16,[Hint.lent (Sx.bool (decide ((↑t.l.length : Int)≤t.at'))) [t.b]]),bF 17] [] [] [] (an (@tapeDone t ‹_›) (an (bo ((!decide ((↑t.l.length : Int)≤t.at')) = false)) (rf false)))
theorem mkLoopA (w : WorldM) (t : Tape) (hm : MOk w 0) (hl : t.l.length ≤ 300) (h0 : 0 ≤ t.at') (h1 : t.at' ≤ 1000) : CSpec Tryz.prog (blkF Tryz.f28 0) (Tg.st ⟨tm 22 [(2,.pt 8002 0 0),(3,.pt 32012 0 0),(4,.pt 40004 0 0)],[(40004,.box 54 w.cells),(32012,t.b),(8002,.box 54 [int 0,int 0,.d (.sl 0 []),.d (.sl 0 []),int 0,int 0,.d (.sl 0 []),.d (.sl 0 [])])],60⟩) .nrm (Tg.st ⟨tm 22 [(2,.pt 8002 0 0),(4,.pt 40004 0 0)],[(40004,.box 54 (makeW w t).cells),(8002,.box 54 [int 0,int 0,.d (.sl 0 []),.d (.sl 0 []),int 0,int 0,.d (.sl 0 []),.d (.sl 0 [])])],60⟩) := by
 have hk := mkN_is w t h0
 have tok : ∀ k,k ≤ mkN w t → TOk (mkS w t k).2 ∧ (mkS w t k).2.at' ≤ 900000 := fun k hk' => by
  have u := mkS_up w t k
  refine ⟨?_,by omega⟩
  unfold TOk
  rw [u.1]
  omega
 refine loop_ext_of (S := fun k => (mkLA (mkS w t k).1 (mkS w t k).2).st) (mkN w t) (by kernel_rfl) (fun k hk' => ?_) ?_
 ·have hs := hk.2.1 k hk'
  simp only [mkB,decide_eq_false_iff_not] at hs
  have m := mkS_ok hm t k (by omega)
  exact mkRoundA _ _ (0 + k) m (by omega) (tok k (by omega)).1 (tok k (by omega)).2 (by omega)
 ·have hs := hk.1
  simp only [mkB,decide_eq_true_eq] at hs
  exact mkEndA _ _ (tok _ (Nat.le_refl _)).1 (by omega)
def mkLB (w : WorldM) (t : Tape) : Tg := ⟨tm 22 [(2,.pt 8002 0 0),(3,.pt 24012 0 0),(4,.pt 32004 0 0)],[(32004,.box 54 w.cells),(24012,t.b),(8002,.box 54 [int 0,int 0,.d (.sl 0 []),.d (.sl 0 []),int 0,int 0,.d (.sl 0 []),.d (.sl 0 [])])],60⟩
theorem mkRoundB (w : WorldM) (t : Tape) (n : Nat) (hm : MOk w n) (hn : n ≤ 1000000) (ht : TOk t) (ha : t.at' ≤ 900000) (hd : t.at' < t.l.length) : CSpec Tryz.prog (rndF Tryz.f28 0) (mkLB w t).st .nrm (mkLB (w.step t) (w.stepT t)).st := by
 exact sE [(16,[Hint.lent (Sx.bool (decide ((↑t.l.length : Int)≤t.at'))) [t.b]]),bT 17,(20,[Hint.lent (w.step t).av [(w.stepT t).b]])] [] [] [] (an (@tapeDone t ‹_›) (an (bo ((!decide ((↑t.l.length : Int)≤t.at'))=true)) (an tt (@sp_worldStep w t n ‹_› ‹_› ‹_› ‹_›))))
theorem mkEndB (w : WorldM) (t : Tape) (ht : TOk t) (hd : ¬ t.at' < t.l.length) : CSpec Tryz.prog (rndF Tryz.f28 0) (mkLB w t).st (.ext 0) (Tg.st ⟨tm 22 [(2,.pt 8002 0 0),(4,.pt 32004 0 0)],[(32004,.box 54 w.cells),(8002,.box 54 [int 0,int 0,.d (.sl 0 []),.d (.sl 0 []),int 0,int 0,.d (.sl 0 []),.d (.sl 0 [])])],60⟩) := by
 exact sE [(16,[Hint.lent (Sx.bool (decide ((↑t.l.length : Int)≤t.at'))) [t.b]]),bF 17] [] [] [] (an (@tapeDone t ‹_›) (an (bo ((!decide ((↑t.l.length : Int)≤t.at')) = false)) (rf false)))
theorem mkLoopB (w : WorldM) (t : Tape) (hm : MOk w 0) (hl : t.l.length ≤ 300) (h0 : 0 ≤ t.at') (h1 : t.at' ≤ 1000) : CSpec Tryz.prog (blkF Tryz.f28 0) (Tg.st ⟨tm 22 [(2,.pt 8002 0 0),(3,.pt 24012 0 0),(4,.pt 32004 0 0)],[(32004,.box 54 w.cells),(24012,t.b),(8002,.box 54 [int 0,int 0,.d (.sl 0 []),.d (.sl 0 []),int 0,int 0,.d (.sl 0 []),.d (.sl 0 [])])],60⟩) .nrm (Tg.st ⟨tm 22 [(2,.pt 8002 0 0),(4,.pt 32004 0 0)],[(32004,.box 54 (makeW w t).cells),(8002,.box 54 [int 0,int 0,.d (.sl 0 []),.d (.sl 0 []),int 0,int 0,.d (.sl 0 []),.d (.sl 0 [])])],60⟩) := by
 have hk := mkN_is w t h0
 have tok : ∀ k,k ≤ mkN w t → TOk (mkS w t k).2 ∧ (mkS w t k).2.at' ≤ 900000 := fun k hk' => by
  have u := mkS_up w t k
  refine ⟨?_,by omega⟩
  unfold TOk
  rw [u.1]
  omega
 refine loop_ext_of (S := fun k => (mkLB (mkS w t k).1 (mkS w t k).2).st) (mkN w t) (by kernel_rfl) (fun k hk' => ?_) ?_
 ·have hs := hk.2.1 k hk'
  simp only [mkB,decide_eq_false_iff_not] at hs
  have m := mkS_ok hm t k (by omega)
  exact mkRoundB _ _ (0 + k) m (by omega) (tok k (by omega)).1 (tok k (by omega)).2 (by omega)
 ·have hs := hk.1
  simp only [mkB,decide_eq_true_eq] at hs
  exact mkEndB _ _ (tok _ (Nat.le_refl _)).1 (by omega)
def makeT (l : List Int) : Tape := ⟨l.take 300,0⟩
def makeF (l : List Int) : WorldM := makeW (makeT l).empty (((makeT l).step 4).step 5)
theorem empty_ok (t : Tape) : MOk t.empty 0 := by
 have hv := tape_conf_valid t
 have hb := validB_iff.1 hv
 refine ⟨?_,hv, ?_, ?_, ?_, ?_, ?_, ?_,by simp [Tape.empty],by simp [Tape.empty]⟩
 ·intro x hx
  simp only [Tape.empty,newHeap,List.mem_replicate] at hx
  omega
 ·simp only [Tape.empty,newHeap,List.length_replicate]; omega
 ·have := area hv
  simp only [Tape.empty,newHeap,List.length_replicate]; omega
 ·intro j hj
  simp only [Tape.empty,newHeap,List.length_replicate] at hj ⊢
  have : (List.replicate t.conf.pg.toNat (⟨0,0,0,0⟩ : Page)).getD j default = ⟨0,0,0,0⟩ := by simp [List.getD_eq_getElem?_getD,hj]
  rw [this]; simp
 ·intro j hj
  simp only [Tape.empty,newHeap,List.length_replicate] at hj ⊢
  have : (List.replicate t.conf.pg.toNat (⟨0,0,0,0⟩ : Page)).getD j default = ⟨0,0,0,0⟩ := by simp [List.getD_eq_getElem?_getD,hj]
  rw [this]; simp
 ·intro x hx; simp [Tape.empty] at hx
 ·intro x hx; simp [Tape.empty] at hx
theorem make_steps (l : List Int) : (((makeT l).step 4).step 5).l = l.take 300 ∧ (((makeT l).step 4).step 5).at' = 2 := by simp [makeT,Tape.step]
theorem makeF_ok (l : List Int) : MOk (makeF l) 1000 := by
 have e := make_steps l
 have hl : (((makeT l).step 4).step 5).l.length ≤ 300 := by rw [e.1]; simp; omega
 have hk := mkN_is (makeT l).empty (((makeT l).step 4).step 5) (by omega)
 have m := mkS_ok (empty_ok (makeT l)) (((makeT l).step 4).step 5) (mkN (makeT l).empty (((makeT l).step 4).step 5)) (by omega)
 have h2 : ∀ (w : WorldM) (a b : Nat),MOk w a → a ≤ b → MOk w b := fun w a b h hab =>
  ⟨h.words,h.hv,h.pl,h.L,fun j hj => by have := h.pins j hj; omega,h.us,h.strong,h.weak,by have := h.sl; omega,by have := h.wl; omega⟩
 exact h2 _ _ _ m (by omega)
theorem madeMake (l : List Int) (hl : l.length ≤ 140737488355328) : GSpec Tryz.prog 28 [intsV l] false (makeF l).av [] := by
 have e := make_steps l
 have he := empty_ok (makeT l)
 have h1 : (((makeT l).step 4).step 5).l.length ≤ 300 := by rw [e.1]; simp; omega
 have h2 := e.2
 by_cases h : 300 < l.length
 ·have ht : TOk ⟨List.take (Int.toNat 300) l,0⟩ := by simp [TOk]; omega
  have e9 : makeT l = ⟨List.take (Int.toNat 300) l,0⟩ := rfl
  unfold makeF
  rw [e9] at he h1 h2 ⊢
  exact gE [(6,[Hint.int ↑l.length]),bT 7,(9,[Hint.els (List.map idv (List.take (Int.toNat 300) l))]),(14,[Hint.lent (Tape.mk (List.take (Int.toNat 300) l) 0).empty.av [(((Tape.mk (List.take (Int.toNat 300) l) 0).step 4).step 5).b]])] [cutOf (@mkLoopA ((Tape.mk (List.take (Int.toNat 300) l) 0).empty) (((Tape.mk (List.take (Int.toNat 300) l) 0).step 4).step 5) ‹_› ‹_› (by omega) (by omega))] [] Tryz.func28 [] (an (lm ((↑(List.map idv l).length : Int) = (↑l.length : Int))) (an (bo (decide (300 < (↑l.length : Int))=true)) (an tt (an (by (simp only [List.length_map]; omega) : (0 :Int)≤(300 :Int)∧300≤(↑(List.map idv l).length : Int)) (an (by simp [List.map_take,List.map_drop,List.map_set,List.map_append,wdv,idv] : List.take (Int.toNat 300) (List.map idv l) = List.map idv (List.take (Int.toNat 300) l)) (an (@tapeEmpty (Tape.mk (List.take (Int.toNat 300) l) 0) ‹_› (by (simp only [bs]; omega))) (@mkLoopA ((Tape.mk (List.take (Int.toNat 300) l) 0).empty) (((Tape.mk (List.take (Int.toNat 300) l) 0).step 4).step 5) ‹_› ‹_› (by omega) (by omega))))))))
 ·have ht : TOk ⟨l,0⟩ := by simp [TOk]; omega
  have e9 : makeT l = ⟨l,0⟩ := by rw [makeT,List.take_of_length_le (by omega)]
  unfold makeF
  rw [e9] at he h1 h2 ⊢
  exact gE [(6,[Hint.int ↑l.length]),bF 7,(14,[Hint.lent (Tape.mk l 0).empty.av [(((Tape.mk l 0).step 4).step 5).b]])] [cutOf (@mkLoopB ((Tape.mk l 0).empty) (((Tape.mk l 0).step 4).step 5) ‹_› ‹_› (by omega) (by omega))] [] Tryz.func28 [] (an (lm ((↑(List.map idv l).length : Int) = (↑l.length : Int))) (an (bo (decide (300 < (↑l.length : Int)) = false)) (an (rf false) (an (@tapeEmpty (Tape.mk l 0) ‹_› (by (simp only [bs]; omega))) (@mkLoopB ((Tape.mk l 0).empty) (((Tape.mk l 0).step 4).step 5) ‹_› ‹_› (by omega) (by omega))))))
def spT2 (w : WorldM) (t : Tape) : Tape := (t.step (w.heap.words.length : Int)).step (w.heap.pages.length : Int)
def spT3 (w : WorldM) (t : Tape) : Tape := (spT2 w t).step 12
def spI (w : WorldM) (t : Tape) : Nat := (t.next (w.heap.words.length : Int)).toNat
def spP (w : WorldM) (t : Tape) : Nat := ((t.step (w.heap.words.length : Int)).next (w.heap.pages.length : Int)).toNat
def spPg (w : WorldM) (t : Tape) : Page := w.heap.pages.getD (spP w t) default
def spList : List Int := [0,1,5,21,4096,4097,4112,16386,1099511627776,61]
def pinQ (p : Page) : Page := if p.kind = 1 then ⟨p.kind,p.space,p.used,1⟩ else p
def spV (w : WorldM) (t : Tape) (d : Int) : Int := if d ≤ 1 then spList.getD ((spT3 w t).next 10).toNat default else bits .xor .u64 (w.heap.words.getD (spI w t) default) (IntKind.u64.wrap (1 * 2 ^ min ((spT3 w t).next 64).toNat 64))
def spQ (w : WorldM) (t : Tape) (d : Int) : Page :=
 if d = 3 then ⟨(spT3 w t).next 5,(spPg w t).space,(spPg w t).used,(spPg w t).pins⟩
 else if d = 4 then ⟨(spPg w t).kind,(spT3 w t).next 3,(spPg w t).used,(spPg w t).pins⟩
 else if d = 5 then ⟨(spPg w t).kind,(spPg w t).space,(spPg w t).used + (spT3 w t).next 9 - 4,(spPg w t).pins⟩
 else ⟨(spPg w t).kind,(spPg w t).space,(spPg w t).used,(spT3 w t).next 3 - 1⟩
def spH (w : WorldM) (t : Tape) (d : Int) : Heap :=
 if d ≤ 2 then ⟨w.heap.conf,w.heap.words.set (spI w t) (spV w t d),w.heap.pages,w.heap.space,w.heap.bump⟩
 else if d ≤ 6 then ⟨w.heap.conf,w.heap.words,w.heap.pages.set (spP w t) (spQ w t d),w.heap.space,w.heap.bump⟩
 else if d = 7 then ⟨w.heap.conf,w.heap.words,w.heap.pages,(spT3 w t).next 3,w.heap.bump⟩
 else if d = 8 then ⟨w.heap.conf,w.heap.words,w.heap.pages,w.heap.space,(spT3 w t).next ((w.heap.pages.length + 2 : Nat) : Int) - 1⟩
 else if d = 9 then ⟨⟨w.heap.conf.pw + 4,w.heap.conf.pg⟩,w.heap.words,w.heap.pages,w.heap.space,w.heap.bump⟩
 else if d = 10 then ⟨w.heap.conf,w.heap.words,w.heap.pages.drop 1,w.heap.space,w.heap.bump⟩
 else ⟨w.heap.conf,w.heap.words,w.heap.pages.map pinQ,w.heap.space,w.heap.bump⟩
def spN (w : WorldM) (d : Int) : Int := if d ≤ 1 then 10 else if d = 2 then 64 else if d = 3 then 5 else if d = 4 then 3 else if d = 5 then 9 else if d = 6 then 3 else if d = 7 then 3 else if d = 8 then ((w.heap.pages.length + 2 : Nat) : Int) else 0
def WorldM.spoil (w : WorldM) (t : Tape) : WorldM := ⟨spH w t ((spT2 w t).next 12),w.strong,w.weak⟩
def WorldM.spoilT (w : WorldM) (t : Tape) : Tape := if (spT2 w t).next 12 ≤ 8 then (spT3 w t).step (spN w ((spT2 w t).next 12)) else spT3 w t
section
variable (w : WorldM) (t : Tape) (hm : MOk w 1000) (ht : TOk t) (ha : t.at' ≤ 900000) (hus : ∀ j,j < w.heap.pages.length → -1099511627776 ≤ (w.heap.pages.getD j default).used ∧ (w.heap.pages.getD j default).used ≤ 1099511627776)
include hm ht ha hus
theorem spoil0 (hd : (spT2 w t).next 12 = 0) : LentSpec Tryz.prog 46 [w.av,.pt 0 0 0] [t.b] (w.spoil t).av [(w.spoilT t).b] := by
 have e7 : w.spoil t = ⟨⟨w.heap.conf,w.heap.words.set (spI w t) (spV w t 0),w.heap.pages,w.heap.space,w.heap.bump⟩,w.strong,w.weak⟩ := by simp [WorldM.spoil,spH,hd]
 have e8 : w.spoilT t = (spT3 w t).step 10 := by simp [WorldM.spoilT,spN,hd]
 have s1 := step_at (t := t) (w.heap.words.length : Int)
 have s2 : (t.step (w.heap.words.length : Int)).at' ≤ (spT2 w t).at' ∧ (spT2 w t).at' ≤ (t.step (w.heap.words.length : Int)).at' + 1 ∧ (spT2 w t).l = (t.step (w.heap.words.length : Int)).l := step_at _
 have s3 : (spT2 w t).at' ≤ (spT3 w t).at' ∧ (spT3 w t).at' ≤ (spT2 w t).at' + 1 ∧ (spT3 w t).l = (spT2 w t).l := step_at _
 have k1 := tok_of ht s1.2.2 (by omega) (by omega)
 have k2 : TOk (spT2 w t) := tok_of k1 s2.2.2 (by omega) (by omega)
 have k3 : TOk (spT3 w t) := tok_of k2 s3.2.2 (by omega) (by omega)
 have a1 := area hm.hv
 have a2 := validB_iff.1 hm.hv
 have a3 := hm.L
 have a4 := hm.pl
 have hw := hm.words
 have n1 := next_range t (n := (w.heap.words.length : Int)) (by omega)
 have n2 := next_range (t.step (w.heap.words.length : Int)) (n := (w.heap.pages.length : Int)) (by omega)
 have n3 := next_range (spT3 w t) (n := 10) (by omega)
 rw [e7,e8]
 unfold spT3 spT2 at *
 exact lE [(11,[Hint.els (List.map wdv [])]),(14,[Hint.els (List.map wdv w.heap.words)]),(15,[Hint.els (List.map Page.dv [])]),(18,[Hint.els (List.map Page.dv w.heap.pages)]),(24,[Hint.int ↑w.heap.words.length]),(25,[Hint.lent (int (t.next (↑w.heap.words.length : Int))) [(t.step (↑w.heap.words.length : Int)).b]]),(29,[Hint.int ↑w.heap.pages.length]),(30,[Hint.lent (int ((t.step (↑w.heap.words.length : Int)).next (↑w.heap.pages.length : Int))) [((t.step (↑w.heap.words.length : Int)).step (↑w.heap.pages.length : Int)).b]]),(32,[Hint.lent (int 0) [(((t.step (↑w.heap.words.length : Int)).step (↑w.heap.pages.length : Int)).step 12).b]]),(39,[Hint.els (List.map wdv [0,1,5,21,4096,4097,4112,16386,1099511627776,61])]),(41,[Hint.lent (int ((((t.step (↑w.heap.words.length : Int)).step (↑w.heap.pages.length : Int)).step 12).next 10)) [((((t.step (↑w.heap.words.length : Int)).step (↑w.heap.pages.length : Int)).step 12).step 10).b]]),(43,[Hint.el (wdv ([0,1,5,21,4096,4097,4112,16386,1099511627776,61].getD ((((t.step (↑w.heap.words.length : Int)).step (↑w.heap.pages.length : Int)).step 12).next 10).toNat default))]),(10044,[Hint.els (List.map wdv (w.heap.words.set (t.next (↑w.heap.words.length : Int)).toNat ([0,1,5,21,4096,4097,4112,16386,1099511627776,61].getD ((((t.step (↑w.heap.words.length : Int)).step (↑w.heap.pages.length : Int)).step 12).next 10).toNat default)))])] [] Tryz.func46 [] (an (rf (List.map wdv [])) (an (by (simp only [List.length_map,List.length_cons,List.length_nil]; omega) : (List.map wdv []).length + (List.map wdv w.heap.words).length≤2 ^ 30) (an (rf (List.map wdv w.heap.words)) (an (rf (List.map Page.dv [])) (an (by (simp only [List.length_map,List.length_cons,List.length_nil]; omega) : (List.map Page.dv []).length + (List.map Page.dv w.heap.pages).length≤2 ^ 30) (an (rf (List.map Page.dv w.heap.pages)) (an (lm ((↑(List.map wdv w.heap.words).length : Int) = (↑w.heap.words.length : Int))) (an (@tapeNext t ((↑w.heap.words.length : Int)) ‹_› (by omega) (by omega)) (an (lm ((↑(List.map Page.dv w.heap.pages).length : Int) = (↑w.heap.pages.length : Int))) (an (@tapeNext (t.step (↑w.heap.words.length : Int)) ((↑w.heap.pages.length : Int)) ‹_› (by omega) (by omega)) (an (@sp_next12 ((t.step (↑w.heap.words.length : Int)).step (↑w.heap.pages.length : Int)) (0) ‹_› ‹_›) (an (rf (List.map wdv [0,1,5,21,4096,4097,4112,16386,1099511627776,61])) (an (@tapeNext (((t.step (↑w.heap.words.length : Int)).step (↑w.heap.pages.length : Int)).step 12) (10) ‹_› (by omega) (by omega)) (an (by (simp only [List.length_map,List.length_cons,List.length_nil]; omega) : 0≤(((t.step (↑w.heap.words.length : Int)).step (↑w.heap.pages.length : Int)).step 12).next 10∧((((t.step (↑w.heap.words.length : Int)).step (↑w.heap.pages.length : Int)).step 12).next 10).toNat < (List.map wdv [0,1,5,21,4096,4097,4112,16386,1099511627776,61]).length) (an (by exact el_of (by simp only [List.length_cons,List.length_nil]; omega) : (List.map wdv [0,1,5,21,4096,4097,4112,16386,1099511627776,61])[((((t.step (↑w.heap.words.length : Int)).step (↑w.heap.pages.length : Int)).step 12).next 10).toNat]? = some (wdv ([0,1,5,21,4096,4097,4112,16386,1099511627776,61].getD ((((t.step (↑w.heap.words.length : Int)).step (↑w.heap.pages.length : Int)).step 12).next 10).toNat default))) (an (by (simp only [List.length_map,List.length_cons,List.length_nil]; omega) : 0≤t.next (↑w.heap.words.length : Int)∧(t.next (↑w.heap.words.length : Int)).toNat < (List.map wdv w.heap.words).length) (an (by (simp only [List.length_map,List.length_cons,List.length_nil]; omega) : (t.next (↑w.heap.words.length : Int)).toNat < (List.map wdv w.heap.words).length) (by simp [spV,spQ,spPg,spI,spP,spT3,spT2,spList,List.map_take,List.map_drop,List.map_set,List.map_append,wdv,idv] : (List.map wdv w.heap.words).set (t.next (↑w.heap.words.length : Int)).toNat [du64 ([0,1,5,21,4096,4097,4112,16386,1099511627776,61].getD ((((t.step (↑w.heap.words.length : Int)).step (↑w.heap.pages.length : Int)).step 12).next 10).toNat default)] = List.map wdv (w.heap.words.set (t.next (↑w.heap.words.length : Int)).toNat ([0,1,5,21,4096,4097,4112,16386,1099511627776,61].getD ((((t.step (↑w.heap.words.length : Int)).step (↑w.heap.pages.length : Int)).step 12).next 10).toNat default))))))))))))))))))))
theorem spoil1 (hd : (spT2 w t).next 12 = 1) : LentSpec Tryz.prog 46 [w.av,.pt 0 0 0] [t.b] (w.spoil t).av [(w.spoilT t).b] := by
 have e7 : w.spoil t = ⟨⟨w.heap.conf,w.heap.words.set (spI w t) (spV w t 1),w.heap.pages,w.heap.space,w.heap.bump⟩,w.strong,w.weak⟩ := by simp [WorldM.spoil,spH,hd]
 have e8 : w.spoilT t = (spT3 w t).step 10 := by simp [WorldM.spoilT,spN,hd]
 have s1 := step_at (t := t) (w.heap.words.length : Int)
 have s2 : (t.step (w.heap.words.length : Int)).at' ≤ (spT2 w t).at' ∧ (spT2 w t).at' ≤ (t.step (w.heap.words.length : Int)).at' + 1 ∧ (spT2 w t).l = (t.step (w.heap.words.length : Int)).l := step_at _
 have s3 : (spT2 w t).at' ≤ (spT3 w t).at' ∧ (spT3 w t).at' ≤ (spT2 w t).at' + 1 ∧ (spT3 w t).l = (spT2 w t).l := step_at _
 have k1 := tok_of ht s1.2.2 (by omega) (by omega)
 have k2 : TOk (spT2 w t) := tok_of k1 s2.2.2 (by omega) (by omega)
 have k3 : TOk (spT3 w t) := tok_of k2 s3.2.2 (by omega) (by omega)
 have a1 := area hm.hv
 have a2 := validB_iff.1 hm.hv
 have a3 := hm.L
 have a4 := hm.pl
 have hw := hm.words
 have n1 := next_range t (n := (w.heap.words.length : Int)) (by omega)
 have n2 := next_range (t.step (w.heap.words.length : Int)) (n := (w.heap.pages.length : Int)) (by omega)
 have n3 := next_range (spT3 w t) (n := 10) (by omega)
 rw [e7,e8]
 unfold spT3 spT2 at *
 exact lE [(11,[Hint.els (List.map wdv [])]),(14,[Hint.els (List.map wdv w.heap.words)]),(15,[Hint.els (List.map Page.dv [])]),(18,[Hint.els (List.map Page.dv w.heap.pages)]),(24,[Hint.int ↑w.heap.words.length]),(25,[Hint.lent (int (t.next (↑w.heap.words.length : Int))) [(t.step (↑w.heap.words.length : Int)).b]]),(29,[Hint.int ↑w.heap.pages.length]),(30,[Hint.lent (int ((t.step (↑w.heap.words.length : Int)).next (↑w.heap.pages.length : Int))) [((t.step (↑w.heap.words.length : Int)).step (↑w.heap.pages.length : Int)).b]]),(32,[Hint.lent (int 1) [(((t.step (↑w.heap.words.length : Int)).step (↑w.heap.pages.length : Int)).step 12).b]]),(39,[Hint.els (List.map wdv [0,1,5,21,4096,4097,4112,16386,1099511627776,61])]),(41,[Hint.lent (int ((((t.step (↑w.heap.words.length : Int)).step (↑w.heap.pages.length : Int)).step 12).next 10)) [((((t.step (↑w.heap.words.length : Int)).step (↑w.heap.pages.length : Int)).step 12).step 10).b]]),(43,[Hint.el (wdv ([0,1,5,21,4096,4097,4112,16386,1099511627776,61].getD ((((t.step (↑w.heap.words.length : Int)).step (↑w.heap.pages.length : Int)).step 12).next 10).toNat default))]),(10044,[Hint.els (List.map wdv (w.heap.words.set (t.next (↑w.heap.words.length : Int)).toNat ([0,1,5,21,4096,4097,4112,16386,1099511627776,61].getD ((((t.step (↑w.heap.words.length : Int)).step (↑w.heap.pages.length : Int)).step 12).next 10).toNat default)))])] [] Tryz.func46 [] (an (rf (List.map wdv [])) (an (by (simp only [List.length_map,List.length_cons,List.length_nil]; omega) : (List.map wdv []).length + (List.map wdv w.heap.words).length≤2 ^ 30) (an (rf (List.map wdv w.heap.words)) (an (rf (List.map Page.dv [])) (an (by (simp only [List.length_map,List.length_cons,List.length_nil]; omega) : (List.map Page.dv []).length + (List.map Page.dv w.heap.pages).length≤2 ^ 30) (an (rf (List.map Page.dv w.heap.pages)) (an (lm ((↑(List.map wdv w.heap.words).length : Int) = (↑w.heap.words.length : Int))) (an (@tapeNext t ((↑w.heap.words.length : Int)) ‹_› (by omega) (by omega)) (an (lm ((↑(List.map Page.dv w.heap.pages).length : Int) = (↑w.heap.pages.length : Int))) (an (@tapeNext (t.step (↑w.heap.words.length : Int)) ((↑w.heap.pages.length : Int)) ‹_› (by omega) (by omega)) (an (@sp_next12 ((t.step (↑w.heap.words.length : Int)).step (↑w.heap.pages.length : Int)) (1) ‹_› ‹_›) (an (rf (List.map wdv [0,1,5,21,4096,4097,4112,16386,1099511627776,61])) (an (@tapeNext (((t.step (↑w.heap.words.length : Int)).step (↑w.heap.pages.length : Int)).step 12) (10) ‹_› (by omega) (by omega)) (an (by (simp only [List.length_map,List.length_cons,List.length_nil]; omega) : 0≤(((t.step (↑w.heap.words.length : Int)).step (↑w.heap.pages.length : Int)).step 12).next 10∧((((t.step (↑w.heap.words.length : Int)).step (↑w.heap.pages.length : Int)).step 12).next 10).toNat < (List.map wdv [0,1,5,21,4096,4097,4112,16386,1099511627776,61]).length) (an (by exact el_of (by simp only [List.length_cons,List.length_nil]; omega) : (List.map wdv [0,1,5,21,4096,4097,4112,16386,1099511627776,61])[((((t.step (↑w.heap.words.length : Int)).step (↑w.heap.pages.length : Int)).step 12).next 10).toNat]? = some (wdv ([0,1,5,21,4096,4097,4112,16386,1099511627776,61].getD ((((t.step (↑w.heap.words.length : Int)).step (↑w.heap.pages.length : Int)).step 12).next 10).toNat default))) (an (by (simp only [List.length_map,List.length_cons,List.length_nil]; omega) : 0≤t.next (↑w.heap.words.length : Int)∧(t.next (↑w.heap.words.length : Int)).toNat < (List.map wdv w.heap.words).length) (an (by (simp only [List.length_map,List.length_cons,List.length_nil]; omega) : (t.next (↑w.heap.words.length : Int)).toNat < (List.map wdv w.heap.words).length) (by simp [spV,spQ,spPg,spI,spP,spT3,spT2,spList,List.map_take,List.map_drop,List.map_set,List.map_append,wdv,idv] : (List.map wdv w.heap.words).set (t.next (↑w.heap.words.length : Int)).toNat [du64 ([0,1,5,21,4096,4097,4112,16386,1099511627776,61].getD ((((t.step (↑w.heap.words.length : Int)).step (↑w.heap.pages.length : Int)).step 12).next 10).toNat default)] = List.map wdv (w.heap.words.set (t.next (↑w.heap.words.length : Int)).toNat ([0,1,5,21,4096,4097,4112,16386,1099511627776,61].getD ((((t.step (↑w.heap.words.length : Int)).step (↑w.heap.pages.length : Int)).step 12).next 10).toNat default))))))))))))))))))))
theorem spoil2 (hd : (spT2 w t).next 12 = 2) : LentSpec Tryz.prog 46 [w.av,.pt 0 0 0] [t.b] (w.spoil t).av [(w.spoilT t).b] := by
 have e7 : w.spoil t = ⟨⟨w.heap.conf,w.heap.words.set (spI w t) (spV w t 2),w.heap.pages,w.heap.space,w.heap.bump⟩,w.strong,w.weak⟩ := by simp [WorldM.spoil,spH,hd]
 have e8 : w.spoilT t = (spT3 w t).step 64 := by simp [WorldM.spoilT,spN,hd]
 have s1 := step_at (t := t) (w.heap.words.length : Int)
 have s2 : (t.step (w.heap.words.length : Int)).at' ≤ (spT2 w t).at' ∧ (spT2 w t).at' ≤ (t.step (w.heap.words.length : Int)).at' + 1 ∧ (spT2 w t).l = (t.step (w.heap.words.length : Int)).l := step_at _
 have s3 : (spT2 w t).at' ≤ (spT3 w t).at' ∧ (spT3 w t).at' ≤ (spT2 w t).at' + 1 ∧ (spT3 w t).l = (spT2 w t).l := step_at _
 have k1 := tok_of ht s1.2.2 (by omega) (by omega)
 have k2 : TOk (spT2 w t) := tok_of k1 s2.2.2 (by omega) (by omega)
 have k3 : TOk (spT3 w t) := tok_of k2 s3.2.2 (by omega) (by omega)
 have a1 := area hm.hv
 have a2 := validB_iff.1 hm.hv
 have a3 := hm.L
 have a4 := hm.pl
 have hw := hm.words
 have n1 := next_range t (n := (w.heap.words.length : Int)) (by omega)
 have n2 := next_range (t.step (w.heap.words.length : Int)) (n := (w.heap.pages.length : Int)) (by omega)
 have n3 := next_range (spT3 w t) (n := 64) (by omega)
 rw [e7,e8]
 unfold spT3 spT2 at *
 exact lE [(11,[Hint.els (List.map wdv [])]),(14,[Hint.els (List.map wdv w.heap.words)]),(15,[Hint.els (List.map Page.dv [])]),(18,[Hint.els (List.map Page.dv w.heap.pages)]),(24,[Hint.int ↑w.heap.words.length]),(25,[Hint.lent (int (t.next (↑w.heap.words.length : Int))) [(t.step (↑w.heap.words.length : Int)).b]]),(29,[Hint.int ↑w.heap.pages.length]),(30,[Hint.lent (int ((t.step (↑w.heap.words.length : Int)).next (↑w.heap.pages.length : Int))) [((t.step (↑w.heap.words.length : Int)).step (↑w.heap.pages.length : Int)).b]]),(32,[Hint.lent (int 2) [(((t.step (↑w.heap.words.length : Int)).step (↑w.heap.pages.length : Int)).step 12).b]]),(51,[Hint.el (wdv (w.heap.words.getD (t.next (↑w.heap.words.length : Int)).toNat default))]),(53,[Hint.lent (int ((((t.step (↑w.heap.words.length : Int)).step (↑w.heap.pages.length : Int)).step 12).next 64)) [((((t.step (↑w.heap.words.length : Int)).step (↑w.heap.pages.length : Int)).step 12).step 64).b]]),(54,[Hint.int ((((t.step (↑w.heap.words.length : Int)).step (↑w.heap.pages.length : Int)).step 12).next 64)]),(10057,[Hint.els (List.map wdv (w.heap.words.set (t.next (↑w.heap.words.length : Int)).toNat (bits BinOp.xor IntKind.u64 (w.heap.words.getD (t.next (↑w.heap.words.length : Int)).toNat default) (IntKind.u64.wrap ((1 :Int) * 2 ^ min ((((t.step (↑w.heap.words.length : Int)).step (↑w.heap.pages.length : Int)).step 12).next 64).toNat 64)))))])] [] Tryz.func46 [] (an (rf (List.map wdv [])) (an (by (simp [spV,spQ,spPg,spI,spP,spT3,spT2,spList, *]; omega) : (List.map wdv []).length + (List.map wdv w.heap.words).length≤2 ^ 30) (an (rf (List.map wdv w.heap.words)) (an (rf (List.map Page.dv [])) (an (by (simp [spV,spQ,spPg,spI,spP,spT3,spT2,spList, *]; omega) : (List.map Page.dv []).length + (List.map Page.dv w.heap.pages).length≤2 ^ 30) (an (rf (List.map Page.dv w.heap.pages)) (an (lm ((↑(List.map wdv w.heap.words).length : Int) = (↑w.heap.words.length : Int))) (an (@tapeNext t ((↑w.heap.words.length : Int)) ‹_› (by omega) (by omega)) (an (lm ((↑(List.map Page.dv w.heap.pages).length : Int) = (↑w.heap.pages.length : Int))) (an (@tapeNext (t.step (↑w.heap.words.length : Int)) ((↑w.heap.pages.length : Int)) ‹_› (by omega) (by omega)) (an (@sp_next12 ((t.step (↑w.heap.words.length : Int)).step (↑w.heap.pages.length : Int)) (2) ‹_› ‹_›) (an (by (simp only [List.length_map]; omega) : 0≤t.next (↑w.heap.words.length : Int)∧(t.next (↑w.heap.words.length : Int)).toNat < (List.map wdv w.heap.words).length) (an (by exact el_of (by omega) : (List.map wdv w.heap.words)[(t.next (↑w.heap.words.length : Int)).toNat]? = some (wdv (w.heap.words.getD (t.next (↑w.heap.words.length : Int)).toNat default))) (an (@tapeNext (((t.step (↑w.heap.words.length : Int)).step (↑w.heap.pages.length : Int)).step 12) (64) ‹_› (by omega) (by omega)) (an (wU (IntKind.u64.wrap ((((t.step (↑w.heap.words.length : Int)).step (↑w.heap.pages.length : Int)).step 12).next 64) = (((t.step (↑w.heap.words.length : Int)).step (↑w.heap.pages.length : Int)).step 12).next 64)) (an (om (0≤(((t.step (↑w.heap.words.length : Int)).step (↑w.heap.pages.length : Int)).step 12).next 64)) (an (by (simp only [List.length_map]; omega) : 0≤t.next (↑w.heap.words.length : Int)∧(t.next (↑w.heap.words.length : Int)).toNat < (List.map wdv w.heap.words).length) (an (by (simp only [List.length_map]; omega) : (t.next (↑w.heap.words.length : Int)).toNat < (List.map wdv w.heap.words).length) (by rw [List.map_set]; rfl : (List.map wdv w.heap.words).set (t.next (↑w.heap.words.length : Int)).toNat [du64 (bits BinOp.xor IntKind.u64 (w.heap.words.getD (t.next (↑w.heap.words.length : Int)).toNat default) (IntKind.u64.wrap ((1 :Int) * 2 ^ min ((((t.step (↑w.heap.words.length : Int)).step (↑w.heap.pages.length : Int)).step 12).next 64).toNat IntKind.u64.bits)))] = List.map wdv (w.heap.words.set (t.next (↑w.heap.words.length : Int)).toNat (bits BinOp.xor IntKind.u64 (w.heap.words.getD (t.next (↑w.heap.words.length : Int)).toNat default) (IntKind.u64.wrap ((1 :Int) * 2 ^ min ((((t.step (↑w.heap.words.length : Int)).step (↑w.heap.pages.length : Int)).step 12).next 64).toNat 64)))))))))))))))))))))))
theorem spoil3 (hd : (spT2 w t).next 12 = 3) : LentSpec Tryz.prog 46 [w.av,.pt 0 0 0] [t.b] (w.spoil t).av [(w.spoilT t).b] := by
 have e7 : w.spoil t = ⟨⟨w.heap.conf,w.heap.words,w.heap.pages.set (spP w t) (spQ w t 3),w.heap.space,w.heap.bump⟩,w.strong,w.weak⟩ := by simp [WorldM.spoil,spH,hd]
 have e8 : w.spoilT t = (spT3 w t).step 5 := by simp [WorldM.spoilT,spN,hd]
 have s1 := step_at (t := t) (w.heap.words.length : Int)
 have s2 : (t.step (w.heap.words.length : Int)).at' ≤ (spT2 w t).at' ∧ (spT2 w t).at' ≤ (t.step (w.heap.words.length : Int)).at' + 1 ∧ (spT2 w t).l = (t.step (w.heap.words.length : Int)).l := step_at _
 have s3 : (spT2 w t).at' ≤ (spT3 w t).at' ∧ (spT3 w t).at' ≤ (spT2 w t).at' + 1 ∧ (spT3 w t).l = (spT2 w t).l := step_at _
 have k1 := tok_of ht s1.2.2 (by omega) (by omega)
 have k2 : TOk (spT2 w t) := tok_of k1 s2.2.2 (by omega) (by omega)
 have k3 : TOk (spT3 w t) := tok_of k2 s3.2.2 (by omega) (by omega)
 have a1 := area hm.hv
 have a2 := validB_iff.1 hm.hv
 have a3 := hm.L
 have a4 := hm.pl
 have hw := hm.words
 have n1 := next_range t (n := (w.heap.words.length : Int)) (by omega)
 have n2 := next_range (t.step (w.heap.words.length : Int)) (n := (w.heap.pages.length : Int)) (by omega)
 have n3 := next_range (spT3 w t) (n := 5) (by omega)
 rw [e7,e8]
 unfold spT3 spT2 at *
 exact lE [(11,[Hint.els (List.map wdv [])]),(14,[Hint.els (List.map wdv w.heap.words)]),(15,[Hint.els (List.map Page.dv [])]),(18,[Hint.els (List.map Page.dv w.heap.pages)]),(24,[Hint.int ↑w.heap.words.length]),(25,[Hint.lent (int (t.next (↑w.heap.words.length : Int))) [(t.step (↑w.heap.words.length : Int)).b]]),(29,[Hint.int ↑w.heap.pages.length]),(30,[Hint.lent (int ((t.step (↑w.heap.words.length : Int)).next (↑w.heap.pages.length : Int))) [((t.step (↑w.heap.words.length : Int)).step (↑w.heap.pages.length : Int)).b]]),(32,[Hint.lent (int 3) [(((t.step (↑w.heap.words.length : Int)).step (↑w.heap.pages.length : Int)).step 12).b]]),(64,[Hint.lent (int ((((t.step (↑w.heap.words.length : Int)).step (↑w.heap.pages.length : Int)).step 12).next 5)) [((((t.step (↑w.heap.words.length : Int)).step (↑w.heap.pages.length : Int)).step 12).step 5).b]]),(10066,[Hint.el (w.heap.pages.getD ((t.step (↑w.heap.words.length : Int)).next (↑w.heap.pages.length : Int)).toNat default).dv,Hint.els (List.map Page.dv (w.heap.pages.set ((t.step (↑w.heap.words.length : Int)).next (↑w.heap.pages.length : Int)).toNat (Page.mk ((((t.step (↑w.heap.words.length : Int)).step (↑w.heap.pages.length : Int)).step 12).next 5) (w.heap.pages.getD ((t.step (↑w.heap.words.length : Int)).next (↑w.heap.pages.length : Int)).toNat default).space (w.heap.pages.getD ((t.step (↑w.heap.words.length : Int)).next (↑w.heap.pages.length : Int)).toNat default).used (w.heap.pages.getD ((t.step (↑w.heap.words.length : Int)).next (↑w.heap.pages.length : Int)).toNat default).pins)))])] [] Tryz.func46 [] (an (rf (List.map wdv [])) (an (by (simp [spV,spQ,spPg,spI,spP,spT3,spT2,spList, *]; omega) : (List.map wdv []).length + (List.map wdv w.heap.words).length≤2 ^ 30) (an (rf (List.map wdv w.heap.words)) (an (rf (List.map Page.dv [])) (an (by (simp [spV,spQ,spPg,spI,spP,spT3,spT2,spList, *]; omega) : (List.map Page.dv []).length + (List.map Page.dv w.heap.pages).length≤2 ^ 30) (an (rf (List.map Page.dv w.heap.pages)) (an (lm ((↑(List.map wdv w.heap.words).length : Int) = (↑w.heap.words.length : Int))) (an (@tapeNext t ((↑w.heap.words.length : Int)) ‹_› (by omega) (by omega)) (an (lm ((↑(List.map Page.dv w.heap.pages).length : Int) = (↑w.heap.pages.length : Int))) (an (@tapeNext (t.step (↑w.heap.words.length : Int)) ((↑w.heap.pages.length : Int)) ‹_› (by omega) (by omega)) (an (@sp_next12 ((t.step (↑w.heap.words.length : Int)).step (↑w.heap.pages.length : Int)) (3) ‹_› ‹_›) (an (@tapeNext (((t.step (↑w.heap.words.length : Int)).step (↑w.heap.pages.length : Int)).step 12) (5) ‹_› (by omega) (by omega)) (an (by (simp only [List.length_map]; omega) : 0≤(t.step (↑w.heap.words.length : Int)).next (↑w.heap.pages.length : Int)∧((t.step (↑w.heap.words.length : Int)).next (↑w.heap.pages.length : Int)).toNat < (List.map Page.dv w.heap.pages).length) (an (by exact el_of (by omega) : (List.map Page.dv w.heap.pages)[((t.step (↑w.heap.words.length : Int)).next (↑w.heap.pages.length : Int)).toNat]? = some (w.heap.pages.getD ((t.step (↑w.heap.words.length : Int)).next (↑w.heap.pages.length : Int)).toNat default).dv) (by rw [List.map_set]; rfl : (List.map Page.dv w.heap.pages).set ((t.step (↑w.heap.words.length : Int)).next (↑w.heap.pages.length : Int)).toNat (spliceD (w.heap.pages.getD ((t.step (↑w.heap.words.length : Int)).next (↑w.heap.pages.length : Int)).toNat default).dv (0 + #[Field.mk "Kind" 3 0 false "" "" 0,Field.mk "Space" 3 1 false "" "" 8,Field.mk "Used" 3 2 false "" "" 16,Field.mk "Pins" 3 3 false "" "" 24][0].offset) [dint ((((t.step (↑w.heap.words.length : Int)).step (↑w.heap.pages.length : Int)).step 12).next 5)]) = List.map Page.dv (w.heap.pages.set ((t.step (↑w.heap.words.length : Int)).next (↑w.heap.pages.length : Int)).toNat (Page.mk ((((t.step (↑w.heap.words.length : Int)).step (↑w.heap.pages.length : Int)).step 12).next 5) (w.heap.pages.getD ((t.step (↑w.heap.words.length : Int)).next (↑w.heap.pages.length : Int)).toNat default).space (w.heap.pages.getD ((t.step (↑w.heap.words.length : Int)).next (↑w.heap.pages.length : Int)).toNat default).used (w.heap.pages.getD ((t.step (↑w.heap.words.length : Int)).next (↑w.heap.pages.length : Int)).toNat default).pins)))))))))))))))))
theorem spoil4 (hd : (spT2 w t).next 12 = 4) : LentSpec Tryz.prog 46 [w.av,.pt 0 0 0] [t.b] (w.spoil t).av [(w.spoilT t).b] := by
 have e7 : w.spoil t = ⟨⟨w.heap.conf,w.heap.words,w.heap.pages.set (spP w t) (spQ w t 4),w.heap.space,w.heap.bump⟩,w.strong,w.weak⟩ := by simp [WorldM.spoil,spH,hd]
 have e8 : w.spoilT t = (spT3 w t).step 3 := by simp [WorldM.spoilT,spN,hd]
 have s1 := step_at (t := t) (w.heap.words.length : Int)
 have s2 : (t.step (w.heap.words.length : Int)).at' ≤ (spT2 w t).at' ∧ (spT2 w t).at' ≤ (t.step (w.heap.words.length : Int)).at' + 1 ∧ (spT2 w t).l = (t.step (w.heap.words.length : Int)).l := step_at _
 have s3 : (spT2 w t).at' ≤ (spT3 w t).at' ∧ (spT3 w t).at' ≤ (spT2 w t).at' + 1 ∧ (spT3 w t).l = (spT2 w t).l := step_at _
 have k1 := tok_of ht s1.2.2 (by omega) (by omega)
 have k2 : TOk (spT2 w t) := tok_of k1 s2.2.2 (by omega) (by omega)
 have k3 : TOk (spT3 w t) := tok_of k2 s3.2.2 (by omega) (by omega)
 have a1 := area hm.hv
 have a2 := validB_iff.1 hm.hv
 have a3 := hm.L
 have a4 := hm.pl
 have hw := hm.words
 have n1 := next_range t (n := (w.heap.words.length : Int)) (by omega)
 have n2 := next_range (t.step (w.heap.words.length : Int)) (n := (w.heap.pages.length : Int)) (by omega)
 have n3 := next_range (spT3 w t) (n := 3) (by omega)
 rw [e7,e8]
 unfold spT3 spT2 at *
 exact lE [(11,[Hint.els (List.map wdv [])]),(14,[Hint.els (List.map wdv w.heap.words)]),(15,[Hint.els (List.map Page.dv [])]),(18,[Hint.els (List.map Page.dv w.heap.pages)]),(24,[Hint.int ↑w.heap.words.length]),(25,[Hint.lent (int (t.next (↑w.heap.words.length : Int))) [(t.step (↑w.heap.words.length : Int)).b]]),(29,[Hint.int ↑w.heap.pages.length]),(30,[Hint.lent (int ((t.step (↑w.heap.words.length : Int)).next (↑w.heap.pages.length : Int))) [((t.step (↑w.heap.words.length : Int)).step (↑w.heap.pages.length : Int)).b]]),(32,[Hint.lent (int 4) [(((t.step (↑w.heap.words.length : Int)).step (↑w.heap.pages.length : Int)).step 12).b]]),(73,[Hint.lent (int ((((t.step (↑w.heap.words.length : Int)).step (↑w.heap.pages.length : Int)).step 12).next 3)) [((((t.step (↑w.heap.words.length : Int)).step (↑w.heap.pages.length : Int)).step 12).step 3).b]]),(10075,[Hint.el (w.heap.pages.getD ((t.step (↑w.heap.words.length : Int)).next (↑w.heap.pages.length : Int)).toNat default).dv,Hint.els (List.map Page.dv (w.heap.pages.set ((t.step (↑w.heap.words.length : Int)).next (↑w.heap.pages.length : Int)).toNat (Page.mk (w.heap.pages.getD ((t.step (↑w.heap.words.length : Int)).next (↑w.heap.pages.length : Int)).toNat default).kind ((((t.step (↑w.heap.words.length : Int)).step (↑w.heap.pages.length : Int)).step 12).next 3) (w.heap.pages.getD ((t.step (↑w.heap.words.length : Int)).next (↑w.heap.pages.length : Int)).toNat default).used (w.heap.pages.getD ((t.step (↑w.heap.words.length : Int)).next (↑w.heap.pages.length : Int)).toNat default).pins)))])] [] Tryz.func46 [] (an (rf (List.map wdv [])) (an (by (simp [spV,spQ,spPg,spI,spP,spT3,spT2,spList, *]; omega) : (List.map wdv []).length + (List.map wdv w.heap.words).length≤2 ^ 30) (an (rf (List.map wdv w.heap.words)) (an (rf (List.map Page.dv [])) (an (by (simp [spV,spQ,spPg,spI,spP,spT3,spT2,spList, *]; omega) : (List.map Page.dv []).length + (List.map Page.dv w.heap.pages).length≤2 ^ 30) (an (rf (List.map Page.dv w.heap.pages)) (an (lm ((↑(List.map wdv w.heap.words).length : Int) = (↑w.heap.words.length : Int))) (an (@tapeNext t ((↑w.heap.words.length : Int)) ‹_› (by omega) (by omega)) (an (lm ((↑(List.map Page.dv w.heap.pages).length : Int) = (↑w.heap.pages.length : Int))) (an (@tapeNext (t.step (↑w.heap.words.length : Int)) ((↑w.heap.pages.length : Int)) ‹_› (by omega) (by omega)) (an (@sp_next12 ((t.step (↑w.heap.words.length : Int)).step (↑w.heap.pages.length : Int)) (4) ‹_› ‹_›) (an (@tapeNext (((t.step (↑w.heap.words.length : Int)).step (↑w.heap.pages.length : Int)).step 12) (3) ‹_› (by omega) (by omega)) (an (by (simp only [List.length_map]; omega) : 0≤(t.step (↑w.heap.words.length : Int)).next (↑w.heap.pages.length : Int)∧((t.step (↑w.heap.words.length : Int)).next (↑w.heap.pages.length : Int)).toNat < (List.map Page.dv w.heap.pages).length) (an (by exact el_of (by omega) : (List.map Page.dv w.heap.pages)[((t.step (↑w.heap.words.length : Int)).next (↑w.heap.pages.length : Int)).toNat]? = some (w.heap.pages.getD ((t.step (↑w.heap.words.length : Int)).next (↑w.heap.pages.length : Int)).toNat default).dv) (by rw [List.map_set]; rfl : (List.map Page.dv w.heap.pages).set ((t.step (↑w.heap.words.length : Int)).next (↑w.heap.pages.length : Int)).toNat (spliceD (w.heap.pages.getD ((t.step (↑w.heap.words.length : Int)).next (↑w.heap.pages.length : Int)).toNat default).dv (0 + #[Field.mk "Kind" 3 0 false "" "" 0,Field.mk "Space" 3 1 false "" "" 8,Field.mk "Used" 3 2 false "" "" 16,Field.mk "Pins" 3 3 false "" "" 24][1].offset) [dint ((((t.step (↑w.heap.words.length : Int)).step (↑w.heap.pages.length : Int)).step 12).next 3)]) = List.map Page.dv (w.heap.pages.set ((t.step (↑w.heap.words.length : Int)).next (↑w.heap.pages.length : Int)).toNat (Page.mk (w.heap.pages.getD ((t.step (↑w.heap.words.length : Int)).next (↑w.heap.pages.length : Int)).toNat default).kind ((((t.step (↑w.heap.words.length : Int)).step (↑w.heap.pages.length : Int)).step 12).next 3) (w.heap.pages.getD ((t.step (↑w.heap.words.length : Int)).next (↑w.heap.pages.length : Int)).toNat default).used (w.heap.pages.getD ((t.step (↑w.heap.words.length : Int)).next (↑w.heap.pages.length : Int)).toNat default).pins)))))))))))))))))
theorem spoil5 (hd : (spT2 w t).next 12 = 5) : LentSpec Tryz.prog 46 [w.av,.pt 0 0 0] [t.b] (w.spoil t).av [(w.spoilT t).b] := by
 have e7 : w.spoil t = ⟨⟨w.heap.conf,w.heap.words,w.heap.pages.set (spP w t) (spQ w t 5),w.heap.space,w.heap.bump⟩,w.strong,w.weak⟩ := by simp [WorldM.spoil,spH,hd]
 have e8 : w.spoilT t = (spT3 w t).step 9 := by simp [WorldM.spoilT,spN,hd]
 have s1 := step_at (t := t) (w.heap.words.length : Int)
 have s2 : (t.step (w.heap.words.length : Int)).at' ≤ (spT2 w t).at' ∧ (spT2 w t).at' ≤ (t.step (w.heap.words.length : Int)).at' + 1 ∧ (spT2 w t).l = (t.step (w.heap.words.length : Int)).l := step_at _
 have s3 : (spT2 w t).at' ≤ (spT3 w t).at' ∧ (spT3 w t).at' ≤ (spT2 w t).at' + 1 ∧ (spT3 w t).l = (spT2 w t).l := step_at _
 have k1 := tok_of ht s1.2.2 (by omega) (by omega)
 have k2 : TOk (spT2 w t) := tok_of k1 s2.2.2 (by omega) (by omega)
 have k3 : TOk (spT3 w t) := tok_of k2 s3.2.2 (by omega) (by omega)
 have a1 := area hm.hv
 have a2 := validB_iff.1 hm.hv
 have a3 := hm.L
 have a4 := hm.pl
 have hw := hm.words
 have n1 := next_range t (n := (w.heap.words.length : Int)) (by omega)
 have n2 := next_range (t.step (w.heap.words.length : Int)) (n := (w.heap.pages.length : Int)) (by omega)
 have n3 := next_range (spT3 w t) (n := 9) (by omega)
 have pu := hus (spP w t)
 unfold spP at pu
 rw [e7,e8]
 unfold spT3 spT2 at *
 exact lE [(11,[Hint.els (List.map wdv [])]),(14,[Hint.els (List.map wdv w.heap.words)]),(15,[Hint.els (List.map Page.dv [])]),(18,[Hint.els (List.map Page.dv w.heap.pages)]),(24,[Hint.int ↑w.heap.words.length]),(25,[Hint.lent (int (t.next (↑w.heap.words.length : Int))) [(t.step (↑w.heap.words.length : Int)).b]]),(29,[Hint.int ↑w.heap.pages.length]),(30,[Hint.lent (int ((t.step (↑w.heap.words.length : Int)).next (↑w.heap.pages.length : Int))) [((t.step (↑w.heap.words.length : Int)).step (↑w.heap.pages.length : Int)).b]]),(32,[Hint.lent (int 5) [(((t.step (↑w.heap.words.length : Int)).step (↑w.heap.pages.length : Int)).step 12).b]]),(86,[Hint.el (w.heap.pages.getD ((t.step (↑w.heap.words.length : Int)).next (↑w.heap.pages.length : Int)).toNat default).dv]),(88,[Hint.lent (int ((((t.step (↑w.heap.words.length : Int)).step (↑w.heap.pages.length : Int)).step 12).next 9)) [((((t.step (↑w.heap.words.length : Int)).step (↑w.heap.pages.length : Int)).step 12).step 9).b]]),(89,[Hint.int ((w.heap.pages.getD ((t.step (↑w.heap.words.length : Int)).next (↑w.heap.pages.length : Int)).toNat default).used + (((t.step (↑w.heap.words.length : Int)).step (↑w.heap.pages.length : Int)).step 12).next 9)]),(90,[Hint.int ((w.heap.pages.getD ((t.step (↑w.heap.words.length : Int)).next (↑w.heap.pages.length : Int)).toNat default).used + (((t.step (↑w.heap.words.length : Int)).step (↑w.heap.pages.length : Int)).step 12).next (9 :Int) - 4)]),(10092,[Hint.el (w.heap.pages.getD ((t.step (↑w.heap.words.length : Int)).next (↑w.heap.pages.length : Int)).toNat default).dv,Hint.els (List.map Page.dv (w.heap.pages.set ((t.step (↑w.heap.words.length : Int)).next (↑w.heap.pages.length : Int)).toNat (Page.mk (w.heap.pages.getD ((t.step (↑w.heap.words.length : Int)).next (↑w.heap.pages.length : Int)).toNat default).kind (w.heap.pages.getD ((t.step (↑w.heap.words.length : Int)).next (↑w.heap.pages.length : Int)).toNat default).space ((w.heap.pages.getD ((t.step (↑w.heap.words.length : Int)).next (↑w.heap.pages.length : Int)).toNat default).used + (((t.step (↑w.heap.words.length : Int)).step (↑w.heap.pages.length : Int)).step 12).next (9 :Int) - 4) (w.heap.pages.getD ((t.step (↑w.heap.words.length : Int)).next (↑w.heap.pages.length : Int)).toNat default).pins)))])] [] Tryz.func46 [] (an (rf (List.map wdv [])) (an (by (simp [spV,spQ,spPg,spI,spP,spT3,spT2,spList, *]; omega) : (List.map wdv []).length + (List.map wdv w.heap.words).length≤2 ^ 30) (an (rf (List.map wdv w.heap.words)) (an (rf (List.map Page.dv [])) (an (by (simp [spV,spQ,spPg,spI,spP,spT3,spT2,spList, *]; omega) : (List.map Page.dv []).length + (List.map Page.dv w.heap.pages).length≤2 ^ 30) (an (rf (List.map Page.dv w.heap.pages)) (an (lm ((↑(List.map wdv w.heap.words).length : Int) = (↑w.heap.words.length : Int))) (an (@tapeNext t ((↑w.heap.words.length : Int)) ‹_› (by omega) (by omega)) (an (lm ((↑(List.map Page.dv w.heap.pages).length : Int) = (↑w.heap.pages.length : Int))) (an (@tapeNext (t.step (↑w.heap.words.length : Int)) ((↑w.heap.pages.length : Int)) ‹_› (by omega) (by omega)) (an (@sp_next12 ((t.step (↑w.heap.words.length : Int)).step (↑w.heap.pages.length : Int)) (5) ‹_› ‹_›) (an (by (simp only [List.length_map]; omega) : 0≤(t.step (↑w.heap.words.length : Int)).next (↑w.heap.pages.length : Int)∧((t.step (↑w.heap.words.length : Int)).next (↑w.heap.pages.length : Int)).toNat < (List.map Page.dv w.heap.pages).length) (an (by exact el_of (by omega) : (List.map Page.dv w.heap.pages)[((t.step (↑w.heap.words.length : Int)).next (↑w.heap.pages.length : Int)).toNat]? = some (w.heap.pages.getD ((t.step (↑w.heap.words.length : Int)).next (↑w.heap.pages.length : Int)).toNat default).dv) (an (@tapeNext (((t.step (↑w.heap.words.length : Int)).step (↑w.heap.pages.length : Int)).step 12) (9) ‹_› (by omega) (by omega)) (an (wI (IntKind.i64.wrap ((w.heap.pages.getD ((t.step (↑w.heap.words.length : Int)).next (↑w.heap.pages.length : Int)).toNat default).used + (((t.step (↑w.heap.words.length : Int)).step (↑w.heap.pages.length : Int)).step 12).next 9) = (w.heap.pages.getD ((t.step (↑w.heap.words.length : Int)).next (↑w.heap.pages.length : Int)).toNat default).used + (((t.step (↑w.heap.words.length : Int)).step (↑w.heap.pages.length : Int)).step 12).next 9)) (an (wI (IntKind.i64.wrap ((w.heap.pages.getD ((t.step (↑w.heap.words.length : Int)).next (↑w.heap.pages.length : Int)).toNat default).used + (((t.step (↑w.heap.words.length : Int)).step (↑w.heap.pages.length : Int)).step 12).next (9 :Int) - 4) = (w.heap.pages.getD ((t.step (↑w.heap.words.length : Int)).next (↑w.heap.pages.length : Int)).toNat default).used + (((t.step (↑w.heap.words.length : Int)).step (↑w.heap.pages.length : Int)).step 12).next (9 :Int) - 4)) (an (by (simp only [List.length_map]; omega) : 0≤(t.step (↑w.heap.words.length : Int)).next (↑w.heap.pages.length : Int)∧((t.step (↑w.heap.words.length : Int)).next (↑w.heap.pages.length : Int)).toNat < (List.map Page.dv w.heap.pages).length) (an (by exact el_of (by omega) : (List.map Page.dv w.heap.pages)[((t.step (↑w.heap.words.length : Int)).next (↑w.heap.pages.length : Int)).toNat]? = some (w.heap.pages.getD ((t.step (↑w.heap.words.length : Int)).next (↑w.heap.pages.length : Int)).toNat default).dv) (by rw [List.map_set]; rfl : (List.map Page.dv w.heap.pages).set ((t.step (↑w.heap.words.length : Int)).next (↑w.heap.pages.length : Int)).toNat (spliceD (w.heap.pages.getD ((t.step (↑w.heap.words.length : Int)).next (↑w.heap.pages.length : Int)).toNat default).dv (0 + #[Field.mk "Kind" 3 0 false "" "" 0,Field.mk "Space" 3 1 false "" "" 8,Field.mk "Used" 3 2 false "" "" 16,Field.mk "Pins" 3 3 false "" "" 24][2].offset) [dint ((w.heap.pages.getD ((t.step (↑w.heap.words.length : Int)).next (↑w.heap.pages.length : Int)).toNat default).used + (((t.step (↑w.heap.words.length : Int)).step (↑w.heap.pages.length : Int)).step 12).next (9 :Int) - 4)]) = List.map Page.dv (w.heap.pages.set ((t.step (↑w.heap.words.length : Int)).next (↑w.heap.pages.length : Int)).toNat (Page.mk (w.heap.pages.getD ((t.step (↑w.heap.words.length : Int)).next (↑w.heap.pages.length : Int)).toNat default).kind (w.heap.pages.getD ((t.step (↑w.heap.words.length : Int)).next (↑w.heap.pages.length : Int)).toNat default).space ((w.heap.pages.getD ((t.step (↑w.heap.words.length : Int)).next (↑w.heap.pages.length : Int)).toNat default).used + (((t.step (↑w.heap.words.length : Int)).step (↑w.heap.pages.length : Int)).step 12).next (9 :Int) - 4) (w.heap.pages.getD ((t.step (↑w.heap.words.length : Int)).next (↑w.heap.pages.length : Int)).toNat default).pins)))))))))))))))))))))
theorem spoil6 (hd : (spT2 w t).next 12 = 6) : LentSpec Tryz.prog 46 [w.av,.pt 0 0 0] [t.b] (w.spoil t).av [(w.spoilT t).b] := by
 have e7 : w.spoil t = ⟨⟨w.heap.conf,w.heap.words,w.heap.pages.set (spP w t) (spQ w t 6),w.heap.space,w.heap.bump⟩,w.strong,w.weak⟩ := by simp [WorldM.spoil,spH,hd]
 have e8 : w.spoilT t = (spT3 w t).step 3 := by simp [WorldM.spoilT,spN,hd]
 have s1 := step_at (t := t) (w.heap.words.length : Int)
 have s2 : (t.step (w.heap.words.length : Int)).at' ≤ (spT2 w t).at' ∧ (spT2 w t).at' ≤ (t.step (w.heap.words.length : Int)).at' + 1 ∧ (spT2 w t).l = (t.step (w.heap.words.length : Int)).l := step_at _
 have s3 : (spT2 w t).at' ≤ (spT3 w t).at' ∧ (spT3 w t).at' ≤ (spT2 w t).at' + 1 ∧ (spT3 w t).l = (spT2 w t).l := step_at _
 have k1 := tok_of ht s1.2.2 (by omega) (by omega)
 have k2 : TOk (spT2 w t) := tok_of k1 s2.2.2 (by omega) (by omega)
 have k3 : TOk (spT3 w t) := tok_of k2 s3.2.2 (by omega) (by omega)
 have a1 := area hm.hv
 have a2 := validB_iff.1 hm.hv
 have a3 := hm.L
 have a4 := hm.pl
 have hw := hm.words
 have n1 := next_range t (n := (w.heap.words.length : Int)) (by omega)
 have n2 := next_range (t.step (w.heap.words.length : Int)) (n := (w.heap.pages.length : Int)) (by omega)
 have n3 := next_range (spT3 w t) (n := 3) (by omega)
 rw [e7,e8]
 unfold spT3 spT2 at *
 exact lE [(11,[Hint.els (List.map wdv [])]),(14,[Hint.els (List.map wdv w.heap.words)]),(15,[Hint.els (List.map Page.dv [])]),(18,[Hint.els (List.map Page.dv w.heap.pages)]),(24,[Hint.int ↑w.heap.words.length]),(25,[Hint.lent (int (t.next (↑w.heap.words.length : Int))) [(t.step (↑w.heap.words.length : Int)).b]]),(29,[Hint.int ↑w.heap.pages.length]),(30,[Hint.lent (int ((t.step (↑w.heap.words.length : Int)).next (↑w.heap.pages.length : Int))) [((t.step (↑w.heap.words.length : Int)).step (↑w.heap.pages.length : Int)).b]]),(32,[Hint.lent (int 6) [(((t.step (↑w.heap.words.length : Int)).step (↑w.heap.pages.length : Int)).step 12).b]]),(99,[Hint.lent (int ((((t.step (↑w.heap.words.length : Int)).step (↑w.heap.pages.length : Int)).step 12).next 3)) [((((t.step (↑w.heap.words.length : Int)).step (↑w.heap.pages.length : Int)).step 12).step 3).b]]),(100,[Hint.int ((((t.step (↑w.heap.words.length : Int)).step (↑w.heap.pages.length : Int)).step 12).next (3 :Int) - 1)]),(10102,[Hint.el (w.heap.pages.getD ((t.step (↑w.heap.words.length : Int)).next (↑w.heap.pages.length : Int)).toNat default).dv,Hint.els (List.map Page.dv (w.heap.pages.set ((t.step (↑w.heap.words.length : Int)).next (↑w.heap.pages.length : Int)).toNat (Page.mk (w.heap.pages.getD ((t.step (↑w.heap.words.length : Int)).next (↑w.heap.pages.length : Int)).toNat default).kind (w.heap.pages.getD ((t.step (↑w.heap.words.length : Int)).next (↑w.heap.pages.length : Int)).toNat default).space (w.heap.pages.getD ((t.step (↑w.heap.words.length : Int)).next (↑w.heap.pages.length : Int)).toNat default).used ((((t.step (↑w.heap.words.length : Int)).step (↑w.heap.pages.length : Int)).step 12).next (3 :Int) - 1))))])] [] Tryz.func46 [] (an (rf (List.map wdv [])) (an (by (simp [spV,spQ,spPg,spI,spP,spT3,spT2,spList, *]; omega) : (List.map wdv []).length + (List.map wdv w.heap.words).length≤2 ^ 30) (an (rf (List.map wdv w.heap.words)) (an (rf (List.map Page.dv [])) (an (by (simp [spV,spQ,spPg,spI,spP,spT3,spT2,spList, *]; omega) : (List.map Page.dv []).length + (List.map Page.dv w.heap.pages).length≤2 ^ 30) (an (rf (List.map Page.dv w.heap.pages)) (an (lm ((↑(List.map wdv w.heap.words).length : Int) = (↑w.heap.words.length : Int))) (an (@tapeNext t ((↑w.heap.words.length : Int)) ‹_› (by omega) (by omega)) (an (lm ((↑(List.map Page.dv w.heap.pages).length : Int) = (↑w.heap.pages.length : Int))) (an (@tapeNext (t.step (↑w.heap.words.length : Int)) ((↑w.heap.pages.length : Int)) ‹_› (by omega) (by omega)) (an (@sp_next12 ((t.step (↑w.heap.words.length : Int)).step (↑w.heap.pages.length : Int)) (6) ‹_› ‹_›) (an (@tapeNext (((t.step (↑w.heap.words.length : Int)).step (↑w.heap.pages.length : Int)).step 12) (3) ‹_› (by omega) (by omega)) (an (wI (IntKind.i64.wrap ((((t.step (↑w.heap.words.length : Int)).step (↑w.heap.pages.length : Int)).step 12).next (3 :Int) - 1) = (((t.step (↑w.heap.words.length : Int)).step (↑w.heap.pages.length : Int)).step 12).next (3 :Int) - 1)) (an (by (simp only [List.length_map]; omega) : 0≤(t.step (↑w.heap.words.length : Int)).next (↑w.heap.pages.length : Int)∧((t.step (↑w.heap.words.length : Int)).next (↑w.heap.pages.length : Int)).toNat < (List.map Page.dv w.heap.pages).length) (an (by exact el_of (by omega) : (List.map Page.dv w.heap.pages)[((t.step (↑w.heap.words.length : Int)).next (↑w.heap.pages.length : Int)).toNat]? = some (w.heap.pages.getD ((t.step (↑w.heap.words.length : Int)).next (↑w.heap.pages.length : Int)).toNat default).dv) (by rw [List.map_set]; rfl : (List.map Page.dv w.heap.pages).set ((t.step (↑w.heap.words.length : Int)).next (↑w.heap.pages.length : Int)).toNat (spliceD (w.heap.pages.getD ((t.step (↑w.heap.words.length : Int)).next (↑w.heap.pages.length : Int)).toNat default).dv (0 + #[Field.mk "Kind" 3 0 false "" "" 0,Field.mk "Space" 3 1 false "" "" 8,Field.mk "Used" 3 2 false "" "" 16,Field.mk "Pins" 3 3 false "" "" 24][3].offset) [dint ((((t.step (↑w.heap.words.length : Int)).step (↑w.heap.pages.length : Int)).step 12).next (3 :Int) - 1)]) = List.map Page.dv (w.heap.pages.set ((t.step (↑w.heap.words.length : Int)).next (↑w.heap.pages.length : Int)).toNat (Page.mk (w.heap.pages.getD ((t.step (↑w.heap.words.length : Int)).next (↑w.heap.pages.length : Int)).toNat default).kind (w.heap.pages.getD ((t.step (↑w.heap.words.length : Int)).next (↑w.heap.pages.length : Int)).toNat default).space (w.heap.pages.getD ((t.step (↑w.heap.words.length : Int)).next (↑w.heap.pages.length : Int)).toNat default).used ((((t.step (↑w.heap.words.length : Int)).step (↑w.heap.pages.length : Int)).step 12).next (3 :Int) - 1)))))))))))))))))))
end
def pinL (w : WorldM) (tp : Tape) (i : Nat) : Tg := ⟨tm 156 [(2,.pt 8002 0 0),(4,.pt 8004 0 0),(5,.pt 16005 0 0),(8,int i)],[(0,tp.b),(16005,.box 27 [int w.heap.conf.pw,int w.heap.conf.pg,.ow 24014,.ow 24018,int w.heap.space,int w.heap.bump]),(24018,.arr 73 4 ((preM pinQ w.heap.pages i).map Page.dv)),(24014,.arr 29 1 (w.heap.words.map wdv)),(8004,.box 54 [int 0,int 0,.d (.sl 0 []),.d (.sl 0 []),int 0,int 0,.d (.sl 0 []),.d (.sl 0 [])]),(8002,.box 54 w.cells)],60⟩
theorem pinRound (w : WorldM) (tp : Tape) (i : Nat) (hl : w.heap.pages.length ≤ 64) (hi : i < w.heap.pages.length) : CSpec Tryz.prog (rndF Tryz.f46 1) (pinL w tp i).st .nrm (pinL w tp (i + 1)).st := by
 have ha := preM_get pinQ w.heap.pages (Nat.le_refl i) default
 have hn := preM_len pinQ w.heap.pages i
 by_cases hc : (w.heap.pages.getD i default).kind = 1
 ·have hq := preM_succ pinQ w.heap.pages hi default
  rw [show pinQ (w.heap.pages.getD i default) = ⟨(w.heap.pages.getD i default).kind,(w.heap.pages.getD i default).space,(w.heap.pages.getD i default).used,1⟩ by rw [pinQ,if_pos hc],← ha] at hq
  rw [← ha] at hc
  rcases bb (((preM pinQ w.heap.pages i).getD (↑i : Int).toNat default).kind == 1) with hc0 | hc0<;>have hc0p:=hc0<;>simp only [bs] at hc0p
  ·exact sF [] [false,false,false,false,false,false,true] (Fh 146 [.el ((preM pinQ w.heap.pages i).getD (↑i : Int).toNat default).dv] (Fh 10152 [.el ((preM pinQ w.heap.pages i).getD (↑i : Int).toNat default).dv,.els (List.map Page.dv ((preM pinQ w.heap.pages i).set (↑i : Int).toNat (Page.mk ((preM pinQ w.heap.pages i).getD (↑i : Int).toNat default).kind ((preM pinQ w.heap.pages i).getD (↑i : Int).toNat default).space ((preM pinQ w.heap.pages i).getD (↑i : Int).toNat default).used 1)))] (Fl 137 Page.dv (preM pinQ w.heap.pages i) (Ftb 138 (decide ((↑i : Int) < (↑(preM pinQ w.heap.pages i).length : Int))) (Fa (by (simp only [List.length_map]; omega) : 0≤(↑i : Int)∧(↑i : Int).toNat < (List.map Page.dv (preM pinQ w.heap.pages i)).length) (Fa (by exact el_of (by omega) : (List.map Page.dv (preM pinQ w.heap.pages i))[(↑i : Int).toNat]? = some ((preM pinQ w.heap.pages i).getD (↑i : Int).toNat default).dv) (Ft 147 hc0 (Fa (by (simp only [List.length_map]; omega) : 0≤(↑i : Int)∧(↑i : Int).toNat < (List.map Page.dv (preM pinQ w.heap.pages i)).length) (Fa (by exact el_of (by omega) : (List.map Page.dv (preM pinQ w.heap.pages i))[(↑i : Int).toNat]? = some ((preM pinQ w.heap.pages i).getD (↑i : Int).toNat default).dv) (Fa (by rw [List.map_set]; rfl : (List.map Page.dv (preM pinQ w.heap.pages i)).set (↑i : Int).toNat (spliceD ((preM pinQ w.heap.pages i).getD (↑i : Int).toNat default).dv (0 + #[Field.mk "Kind" 3 0 false "" "" 0,Field.mk "Space" 3 1 false "" "" 8,Field.mk "Used" 3 2 false "" "" 16,Field.mk "Pins" 3 3 false "" "" 24][3].offset) [dint 1]) =List.map Page.dv ((preM pinQ w.heap.pages i).set (↑i : Int).toNat (Page.mk ((preM pinQ w.heap.pages i).getD (↑i : Int).toNat default).kind ((preM pinQ w.heap.pages i).getD (↑i : Int).toNat default).space ((preM pinQ w.heap.pages i).getD (↑i : Int).toNat default).used 1))) (Fg 140 (by exact wrapI2 rfl (by omega) (by omega) : IntKind.i64.wrap ((↑i : Int) + 1) =(↑(i + 1) : Int)) (Fr (73 : Int) (Fa (by refine congrArg _ ?_; exact hq : List.map Page.dv ((preM pinQ w.heap.pages i).set (↑i : Int).toNat (Page.mk ((preM pinQ w.heap.pages i).getD (↑i : Int).toNat default).kind ((preM pinQ w.heap.pages i).getD (↑i : Int).toNat default).space ((preM pinQ w.heap.pages i).getD (↑i : Int).toNat default).used 1)) =List.map Page.dv (preM pinQ w.heap.pages (i + 1))) Fz)))))))))))))
  ·contradiction
 ·have hq := preM_same pinQ w.heap.pages hi default (by rw [pinQ,if_neg hc])
  rw [← ha] at hc
  rcases bb (((preM pinQ w.heap.pages i).getD (↑i : Int).toNat default).kind == 1) with hc0 | hc0<;>have hc0p:=hc0<;>simp only [bs] at hc0p
  ·contradiction
  ·exact sF [] [false,false,false,false,false,false,true] (Fh 146 [.el ((preM pinQ w.heap.pages i).getD (↑i : Int).toNat default).dv] (Fl 137 Page.dv (preM pinQ w.heap.pages i) (Ftb 138 (decide ((↑i : Int) < (↑(preM pinQ w.heap.pages i).length : Int))) (Fa (by (simp only [List.length_map]; omega) : 0≤(↑i : Int)∧(↑i : Int).toNat < (List.map Page.dv (preM pinQ w.heap.pages i)).length) (Fa (by exact el_of (by omega) : (List.map Page.dv (preM pinQ w.heap.pages i))[(↑i : Int).toNat]? = some ((preM pinQ w.heap.pages i).getD (↑i : Int).toNat default).dv) (Ff 147 hc0 (Fg 140 (by exact wrapI2 rfl (by omega) (by omega) : IntKind.i64.wrap ((↑i : Int) + 1) =(↑(i + 1) : Int)) (Fr (73 : Int) (Fa (by refine congrArg _ ?_; exact hq : List.map Page.dv (preM pinQ w.heap.pages i) =List.map Page.dv (preM pinQ w.heap.pages (i + 1))) Fz)))))))))
theorem pinEnd (w : WorldM) (tp : Tape) : CSpec Tryz.prog (rndF Tryz.f46 1) (pinL w tp w.heap.pages.length).st (.ext 1) (Tg.st ⟨tm 156 [(2,.pt 8002 0 0),(4,.pt 8004 0 0),(5,.pt 16005 0 0)],[(0,tp.b),(16005,.box 27 [int w.heap.conf.pw,int w.heap.conf.pg,.ow 24014,.ow 24018,int w.heap.space,int w.heap.bump]),(24018,.arr 73 4 ((w.heap.pages.map pinQ).map Page.dv)),(24014,.arr 29 1 (w.heap.words.map wdv)),(8004,.box 54 [int 0,int 0,.d (.sl 0 []),.d (.sl 0 []),int 0,int 0,.d (.sl 0 []),.d (.sl 0 [])]),(8002,.box 54 w.cells)],60⟩) := by
 have hq := preM_all pinQ w.heap.pages
 have hn := preM_len pinQ w.heap.pages w.heap.pages.length
 exact sF [] [false,false,false,false,false,true] (Fl 137 Page.dv (preM pinQ w.heap.pages w.heap.pages.length) (Ffb 138 (decide ((↑w.heap.pages.length : Int) < (↑(preM pinQ w.heap.pages w.heap.pages.length).length : Int))) (Fr (73 : Int) (Fa (by refine congrArg _ ?_; assumption : List.map Page.dv (preM pinQ w.heap.pages w.heap.pages.length) =List.map Page.dv (List.map pinQ w.heap.pages)) Fz))))
theorem pinLoop (w : WorldM) (tp : Tape) (hl : w.heap.pages.length ≤ 64) : CSpec Tryz.prog (blkF Tryz.f46 1) (Tg.st ⟨tm 156 [(2,.pt 8002 0 0),(4,.pt 8004 0 0),(5,.pt 16005 0 0),(8,int 0)],[(0,tp.b),(16005,.box 27 [int w.heap.conf.pw,int w.heap.conf.pg,.ow 24014,.ow 24018,int w.heap.space,int w.heap.bump]),(24018,.arr 73 4 (w.heap.pages.map Page.dv)),(24014,.arr 29 1 (w.heap.words.map wdv)),(8004,.box 54 [int 0,int 0,.d (.sl 0 []),.d (.sl 0 []),int 0,int 0,.d (.sl 0 []),.d (.sl 0 [])]),(8002,.box 54 w.cells)],60⟩) .nrm (Tg.st ⟨tm 156 [(2,.pt 8002 0 0),(4,.pt 8004 0 0),(5,.pt 16005 0 0)],[(0,tp.b),(16005,.box 27 [int w.heap.conf.pw,int w.heap.conf.pg,.ow 24014,.ow 24018,int w.heap.space,int w.heap.bump]),(24018,.arr 73 4 ((w.heap.pages.map pinQ).map Page.dv)),(24014,.arr 29 1 (w.heap.words.map wdv)),(8004,.box 54 [int 0,int 0,.d (.sl 0 []),.d (.sl 0 []),int 0,int 0,.d (.sl 0 []),.d (.sl 0 [])]),(8002,.box 54 w.cells)],60⟩) := by
 have := loop_ext_of (S := fun k => (pinL w tp k).st) w.heap.pages.length (by kernel_rfl) (fun k hk => pinRound w tp k hl hk) (pinEnd w tp)
 simp only [pinL,preM_zero] at this
 exact this
section
variable (w : WorldM) (t : Tape) (hm : MOk w 1000) (ht : TOk t) (ha : t.at' ≤ 900000) (hus : ∀ j,j < w.heap.pages.length → -1099511627776 ≤ (w.heap.pages.getD j default).used ∧ (w.heap.pages.getD j default).used ≤ 1099511627776)
include hm ht ha hus
theorem spoil7 (hd : (spT2 w t).next 12 = 7) : LentSpec Tryz.prog 46 [w.av,.pt 0 0 0] [t.b] (w.spoil t).av [(w.spoilT t).b] := by
 have e7 : w.spoil t = ⟨⟨w.heap.conf,w.heap.words,w.heap.pages,(spT3 w t).next 3,w.heap.bump⟩,w.strong,w.weak⟩ := by simp [WorldM.spoil,spH,hd]
 have e8 : w.spoilT t = (spT3 w t).step 3 := by simp [WorldM.spoilT,spN,hd]
 have s1 := step_at (t := t) (w.heap.words.length : Int)
 have s2 : (t.step (w.heap.words.length : Int)).at' ≤ (spT2 w t).at' ∧ (spT2 w t).at' ≤ (t.step (w.heap.words.length : Int)).at' + 1 ∧ (spT2 w t).l = (t.step (w.heap.words.length : Int)).l := step_at _
 have s3 : (spT2 w t).at' ≤ (spT3 w t).at' ∧ (spT3 w t).at' ≤ (spT2 w t).at' + 1 ∧ (spT3 w t).l = (spT2 w t).l := step_at _
 have k1 := tok_of ht s1.2.2 (by omega) (by omega)
 have k2 : TOk (spT2 w t) := tok_of k1 s2.2.2 (by omega) (by omega)
 have k3 : TOk (spT3 w t) := tok_of k2 s3.2.2 (by omega) (by omega)
 have a1 := area hm.hv
 have a2 := validB_iff.1 hm.hv
 have a3 := hm.L
 have a4 := hm.pl
 have hw := hm.words
 have n1 := next_range t (n := (w.heap.words.length : Int)) (by omega)
 have n2 := next_range (t.step (w.heap.words.length : Int)) (n := (w.heap.pages.length : Int)) (by omega)
 have n3 := next_range (spT3 w t) (n := 3) (by omega)
 rw [e7,e8]
 unfold spT3 spT2 at *
 exact lE [(11,[Hint.els (List.map wdv [])]),(14,[Hint.els (List.map wdv w.heap.words)]),(15,[Hint.els (List.map Page.dv [])]),(18,[Hint.els (List.map Page.dv w.heap.pages)]),(24,[Hint.int ↑w.heap.words.length]),(25,[Hint.lent (int (t.next (↑w.heap.words.length : Int))) [(t.step (↑w.heap.words.length : Int)).b]]),(29,[Hint.int ↑w.heap.pages.length]),(30,[Hint.lent (int ((t.step (↑w.heap.words.length : Int)).next (↑w.heap.pages.length : Int))) [((t.step (↑w.heap.words.length : Int)).step (↑w.heap.pages.length : Int)).b]]),(32,[Hint.lent (int 7) [(((t.step (↑w.heap.words.length : Int)).step (↑w.heap.pages.length : Int)).step 12).b]]),(106,[Hint.lent (int ((((t.step (↑w.heap.words.length : Int)).step (↑w.heap.pages.length : Int)).step 12).next 3)) [((((t.step (↑w.heap.words.length : Int)).step (↑w.heap.pages.length : Int)).step 12).step 3).b]])] [] Tryz.func46 [] (an (rf (List.map wdv [])) (an (by (simp [spV,spQ,spPg,spI,spP,spT3,spT2,spList, *]; omega) : (List.map wdv []).length + (List.map wdv w.heap.words).length≤2 ^ 30) (an (rf (List.map wdv w.heap.words)) (an (rf (List.map Page.dv [])) (an (by (simp [spV,spQ,spPg,spI,spP,spT3,spT2,spList, *]; omega) : (List.map Page.dv []).length + (List.map Page.dv w.heap.pages).length≤2 ^ 30) (an (rf (List.map Page.dv w.heap.pages)) (an (lm ((↑(List.map wdv w.heap.words).length : Int) = (↑w.heap.words.length : Int))) (an (@tapeNext t ((↑w.heap.words.length : Int)) ‹_› (by omega) (by omega)) (an (lm ((↑(List.map Page.dv w.heap.pages).length : Int) = (↑w.heap.pages.length : Int))) (an (@tapeNext (t.step (↑w.heap.words.length : Int)) ((↑w.heap.pages.length : Int)) ‹_› (by omega) (by omega)) (an (@sp_next12 ((t.step (↑w.heap.words.length : Int)).step (↑w.heap.pages.length : Int)) (7) ‹_› ‹_›) (@tapeNext (((t.step (↑w.heap.words.length : Int)).step (↑w.heap.pages.length : Int)).step 12) (3) ‹_› (by omega) (by omega)))))))))))))
theorem spoil8 (hd : (spT2 w t).next 12 = 8) : LentSpec Tryz.prog 46 [w.av,.pt 0 0 0] [t.b] (w.spoil t).av [(w.spoilT t).b] := by
 have e7 : w.spoil t = ⟨⟨w.heap.conf,w.heap.words,w.heap.pages,w.heap.space,(spT3 w t).next ((w.heap.pages.length + 2 : Nat) : Int) - 1⟩,w.strong,w.weak⟩ := by simp [WorldM.spoil,spH,hd]
 have e8 : w.spoilT t = (spT3 w t).step ((w.heap.pages.length + 2 : Nat) : Int) := by simp [WorldM.spoilT,spN,hd]
 have s1 := step_at (t := t) (w.heap.words.length : Int)
 have s2 : (t.step (w.heap.words.length : Int)).at' ≤ (spT2 w t).at' ∧ (spT2 w t).at' ≤ (t.step (w.heap.words.length : Int)).at' + 1 ∧ (spT2 w t).l = (t.step (w.heap.words.length : Int)).l := step_at _
 have s3 : (spT2 w t).at' ≤ (spT3 w t).at' ∧ (spT3 w t).at' ≤ (spT2 w t).at' + 1 ∧ (spT3 w t).l = (spT2 w t).l := step_at _
 have k1 := tok_of ht s1.2.2 (by omega) (by omega)
 have k2 : TOk (spT2 w t) := tok_of k1 s2.2.2 (by omega) (by omega)
 have k3 : TOk (spT3 w t) := tok_of k2 s3.2.2 (by omega) (by omega)
 have a1 := area hm.hv
 have a2 := validB_iff.1 hm.hv
 have a3 := hm.L
 have a4 := hm.pl
 have hw := hm.words
 have n1 := next_range t (n := (w.heap.words.length : Int)) (by omega)
 have n2 := next_range (t.step (w.heap.words.length : Int)) (n := (w.heap.pages.length : Int)) (by omega)
 have n3 := next_range (spT3 w t) (n := ((w.heap.pages.length + 2 : Nat) : Int)) (by omega)
 rw [e7,e8]
 unfold spT3 spT2 at *
 exact lE [(11,[Hint.els (List.map wdv [])]),(14,[Hint.els (List.map wdv w.heap.words)]),(15,[Hint.els (List.map Page.dv [])]),(18,[Hint.els (List.map Page.dv w.heap.pages)]),(24,[Hint.int ↑w.heap.words.length]),(25,[Hint.lent (int (t.next (↑w.heap.words.length : Int))) [(t.step (↑w.heap.words.length : Int)).b]]),(29,[Hint.int ↑w.heap.pages.length]),(30,[Hint.lent (int ((t.step (↑w.heap.words.length : Int)).next (↑w.heap.pages.length : Int))) [((t.step (↑w.heap.words.length : Int)).step (↑w.heap.pages.length : Int)).b]]),(32,[Hint.lent (int 8) [(((t.step (↑w.heap.words.length : Int)).step (↑w.heap.pages.length : Int)).step 12).b]]),(113,[Hint.int ↑w.heap.pages.length]),(114,[Hint.int (↑(w.heap.pages.length + 2) : Int)]),(115,[Hint.lent (int ((((t.step (↑w.heap.words.length : Int)).step (↑w.heap.pages.length : Int)).step 12).next (↑(w.heap.pages.length + 2) : Int))) [((((t.step (↑w.heap.words.length : Int)).step (↑w.heap.pages.length : Int)).step 12).step (↑(w.heap.pages.length + 2) : Int)).b]]),(116,[Hint.int ((((t.step (↑w.heap.words.length : Int)).step (↑w.heap.pages.length : Int)).step 12).next (↑(w.heap.pages.length + 2) : Int) - 1)])] [] Tryz.func46 [] (an (rf (List.map wdv [])) (an (by (simp [spV,spQ,spPg,spI,spP,spT3,spT2,spList, *]; omega) : (List.map wdv []).length + (List.map wdv w.heap.words).length≤2 ^ 30) (an (rf (List.map wdv w.heap.words)) (an (rf (List.map Page.dv [])) (an (by (simp [spV,spQ,spPg,spI,spP,spT3,spT2,spList, *]; omega) : (List.map Page.dv []).length + (List.map Page.dv w.heap.pages).length≤2 ^ 30) (an (rf (List.map Page.dv w.heap.pages)) (an (lm ((↑(List.map wdv w.heap.words).length : Int) = (↑w.heap.words.length : Int))) (an (@tapeNext t ((↑w.heap.words.length : Int)) ‹_› (by omega) (by omega)) (an (lm ((↑(List.map Page.dv w.heap.pages).length : Int) = (↑w.heap.pages.length : Int))) (an (@tapeNext (t.step (↑w.heap.words.length : Int)) ((↑w.heap.pages.length : Int)) ‹_› (by omega) (by omega)) (an (@sp_next12 ((t.step (↑w.heap.words.length : Int)).step (↑w.heap.pages.length : Int)) (8) ‹_› ‹_›) (an (lm ((↑(List.map Page.dv w.heap.pages).length : Int) = (↑w.heap.pages.length : Int))) (an (wI (IntKind.i64.wrap ((↑w.heap.pages.length : Int) + 2) = (↑(w.heap.pages.length + 2) : Int))) (an (@tapeNext (((t.step (↑w.heap.words.length : Int)).step (↑w.heap.pages.length : Int)).step 12) ((↑(w.heap.pages.length + 2) : Int)) ‹_› (by omega) (by omega)) (wI (IntKind.i64.wrap ((((t.step (↑w.heap.words.length : Int)).step (↑w.heap.pages.length : Int)).step 12).next (↑(w.heap.pages.length + 2) : Int) - 1) = (((t.step (↑w.heap.words.length : Int)).step (↑w.heap.pages.length : Int)).step 12).next (↑(w.heap.pages.length + 2) : Int) - 1))))))))))))))))
theorem spoil9 (hd : (spT2 w t).next 12 = 9) : LentSpec Tryz.prog 46 [w.av,.pt 0 0 0] [t.b] (w.spoil t).av [(w.spoilT t).b] := by
 have e7 : w.spoil t = ⟨⟨⟨w.heap.conf.pw + 4,w.heap.conf.pg⟩,w.heap.words,w.heap.pages,w.heap.space,w.heap.bump⟩,w.strong,w.weak⟩ := by simp [WorldM.spoil,spH,hd]
 have e8 : w.spoilT t = spT3 w t := by simp [WorldM.spoilT,spN,hd]
 have s1 := step_at (t := t) (w.heap.words.length : Int)
 have s2 : (t.step (w.heap.words.length : Int)).at' ≤ (spT2 w t).at' ∧ (spT2 w t).at' ≤ (t.step (w.heap.words.length : Int)).at' + 1 ∧ (spT2 w t).l = (t.step (w.heap.words.length : Int)).l := step_at _
 have s3 : (spT2 w t).at' ≤ (spT3 w t).at' ∧ (spT3 w t).at' ≤ (spT2 w t).at' + 1 ∧ (spT3 w t).l = (spT2 w t).l := step_at _
 have k1 := tok_of ht s1.2.2 (by omega) (by omega)
 have k2 : TOk (spT2 w t) := tok_of k1 s2.2.2 (by omega) (by omega)
 have k3 : TOk (spT3 w t) := tok_of k2 s3.2.2 (by omega) (by omega)
 have a1 := area hm.hv
 have a2 := validB_iff.1 hm.hv
 have a3 := hm.L
 have a4 := hm.pl
 have hw := hm.words
 have n1 := next_range t (n := (w.heap.words.length : Int)) (by omega)
 have n2 := next_range (t.step (w.heap.words.length : Int)) (n := (w.heap.pages.length : Int)) (by omega)
 rw [e7,e8]
 unfold spT3 spT2 at *
 exact lE [(11,[Hint.els (List.map wdv [])]),(14,[Hint.els (List.map wdv w.heap.words)]),(15,[Hint.els (List.map Page.dv [])]),(18,[Hint.els (List.map Page.dv w.heap.pages)]),(24,[Hint.int ↑w.heap.words.length]),(25,[Hint.lent (int (t.next (↑w.heap.words.length : Int))) [(t.step (↑w.heap.words.length : Int)).b]]),(29,[Hint.int ↑w.heap.pages.length]),(30,[Hint.lent (int ((t.step (↑w.heap.words.length : Int)).next (↑w.heap.pages.length : Int))) [((t.step (↑w.heap.words.length : Int)).step (↑w.heap.pages.length : Int)).b]]),(32,[Hint.lent (int 9) [(((t.step (↑w.heap.words.length : Int)).step (↑w.heap.pages.length : Int)).step 12).b]]),(123,[Hint.int (w.heap.conf.pw + 4)])] [] Tryz.func46 [] (an (rf (List.map wdv [])) (an (by (simp [spV,spQ,spPg,spI,spP,spT3,spT2,spList, *]; omega) : (List.map wdv []).length + (List.map wdv w.heap.words).length≤2 ^ 30) (an (rf (List.map wdv w.heap.words)) (an (rf (List.map Page.dv [])) (an (by (simp [spV,spQ,spPg,spI,spP,spT3,spT2,spList, *]; omega) : (List.map Page.dv []).length + (List.map Page.dv w.heap.pages).length≤2 ^ 30) (an (rf (List.map Page.dv w.heap.pages)) (an (lm ((↑(List.map wdv w.heap.words).length : Int) = (↑w.heap.words.length : Int))) (an (@tapeNext t ((↑w.heap.words.length : Int)) ‹_› (by omega) (by omega)) (an (lm ((↑(List.map Page.dv w.heap.pages).length : Int) = (↑w.heap.pages.length : Int))) (an (@tapeNext (t.step (↑w.heap.words.length : Int)) ((↑w.heap.pages.length : Int)) ‹_› (by omega) (by omega)) (an (@sp_next12 ((t.step (↑w.heap.words.length : Int)).step (↑w.heap.pages.length : Int)) (9) ‹_› ‹_›) (wI (IntKind.i64.wrap (w.heap.conf.pw + 4) = w.heap.conf.pw + 4)))))))))))))
theorem spoil10 (hd : (spT2 w t).next 12 = 10) : LentSpec Tryz.prog 46 [w.av,.pt 0 0 0] [t.b] (w.spoil t).av [(w.spoilT t).b] := by
 have e7 : w.spoil t = ⟨⟨w.heap.conf,w.heap.words,w.heap.pages.drop 1,w.heap.space,w.heap.bump⟩,w.strong,w.weak⟩ := by simp [WorldM.spoil,spH,hd]
 have e8 : w.spoilT t = spT3 w t := by simp [WorldM.spoilT,spN,hd]
 have s1 := step_at (t := t) (w.heap.words.length : Int)
 have s2 : (t.step (w.heap.words.length : Int)).at' ≤ (spT2 w t).at' ∧ (spT2 w t).at' ≤ (t.step (w.heap.words.length : Int)).at' + 1 ∧ (spT2 w t).l = (t.step (w.heap.words.length : Int)).l := step_at _
 have s3 : (spT2 w t).at' ≤ (spT3 w t).at' ∧ (spT3 w t).at' ≤ (spT2 w t).at' + 1 ∧ (spT3 w t).l = (spT2 w t).l := step_at _
 have k1 := tok_of ht s1.2.2 (by omega) (by omega)
 have k2 : TOk (spT2 w t) := tok_of k1 s2.2.2 (by omega) (by omega)
 have k3 : TOk (spT3 w t) := tok_of k2 s3.2.2 (by omega) (by omega)
 have a1 := area hm.hv
 have a2 := validB_iff.1 hm.hv
 have a3 := hm.L
 have a4 := hm.pl
 have hw := hm.words
 have n1 := next_range t (n := (w.heap.words.length : Int)) (by omega)
 have n2 := next_range (t.step (w.heap.words.length : Int)) (n := (w.heap.pages.length : Int)) (by omega)
 have hq : List.take ((↑(List.map Page.dv w.heap.pages).length : Int).toNat - Int.toNat 1) (List.drop (Int.toNat 1) (List.map Page.dv w.heap.pages)) = List.map Page.dv (w.heap.pages.drop 1) := by
  show List.take _ (List.drop 1 (List.map Page.dv w.heap.pages)) = _
  rw [← List.map_drop]
  exact List.take_of_length_le (by simp)
 rw [e7,e8]
 unfold spT3 spT2 at *
 exact lE [(11,[Hint.els (List.map wdv [])]),(14,[Hint.els (List.map wdv w.heap.words)]),(15,[Hint.els (List.map Page.dv [])]),(18,[Hint.els (List.map Page.dv w.heap.pages)]),(24,[Hint.int ↑w.heap.words.length]),(25,[Hint.lent (int (t.next (↑w.heap.words.length : Int))) [(t.step (↑w.heap.words.length : Int)).b]]),(29,[Hint.int ↑w.heap.pages.length]),(30,[Hint.lent (int ((t.step (↑w.heap.words.length : Int)).next (↑w.heap.pages.length : Int))) [((t.step (↑w.heap.words.length : Int)).step (↑w.heap.pages.length : Int)).b]]),(32,[Hint.lent (int 10) [(((t.step (↑w.heap.words.length : Int)).step (↑w.heap.pages.length : Int)).step 12).b]])] [] Tryz.func46 [true] (an (rf (List.map wdv [])) (an (by (simp [spV,spQ,spPg,spI,spP,spT3,spT2,spList, *]; omega) : (List.map wdv []).length + (List.map wdv w.heap.words).length≤2 ^ 30) (an (rf (List.map wdv w.heap.words)) (an (rf (List.map Page.dv [])) (an (by (simp [spV,spQ,spPg,spI,spP,spT3,spT2,spList, *]; omega) : (List.map Page.dv []).length + (List.map Page.dv w.heap.pages).length≤2 ^ 30) (an (rf (List.map Page.dv w.heap.pages)) (an (lm ((↑(List.map wdv w.heap.words).length : Int) = (↑w.heap.words.length : Int))) (an (@tapeNext t ((↑w.heap.words.length : Int)) ‹_› (by omega) (by omega)) (an (lm ((↑(List.map Page.dv w.heap.pages).length : Int) = (↑w.heap.pages.length : Int))) (an (@tapeNext (t.step (↑w.heap.words.length : Int)) ((↑w.heap.pages.length : Int)) ‹_› (by omega) (by omega)) (an (@sp_next12 ((t.step (↑w.heap.words.length : Int)).step (↑w.heap.pages.length : Int)) (10) ‹_› ‹_›) (an (by (simp only [List.length_map]; omega) : (0 :Int)≤(1 :Int)∧1≤(↑(List.map Page.dv w.heap.pages).length : Int)) (an (rf w.heap.conf.pw) (an (rf w.heap.conf.pg) (an (rf (List.map wdv w.heap.words)) (an (by exact hq : List.take ((↑(List.map Page.dv w.heap.pages).length : Int).toNat - Int.toNat 1) (List.drop (Int.toNat 1) (List.map Page.dv w.heap.pages)) = List.map Page.dv (WorldM.mk (Heap.mk w.heap.conf w.heap.words (List.drop 1 w.heap.pages) w.heap.space w.heap.bump) w.strong w.weak).heap.pages) (an (rf w.heap.space) (an (rf w.heap.bump) (an (rf (List.map wdv w.strong)) (rf (List.map wdv w.weak)))))))))))))))))))))
theorem spoil11 (hd : (spT2 w t).next 12 = 11) : LentSpec Tryz.prog 46 [w.av,.pt 0 0 0] [t.b] (w.spoil t).av [(w.spoilT t).b] := by
 have e7 : w.spoil t = ⟨⟨w.heap.conf,w.heap.words,w.heap.pages.map pinQ,w.heap.space,w.heap.bump⟩,w.strong,w.weak⟩ := by simp [WorldM.spoil,spH,hd]
 have e8 : w.spoilT t = spT3 w t := by simp [WorldM.spoilT,spN,hd]
 have s1 := step_at (t := t) (w.heap.words.length : Int)
 have s2 : (t.step (w.heap.words.length : Int)).at' ≤ (spT2 w t).at' ∧ (spT2 w t).at' ≤ (t.step (w.heap.words.length : Int)).at' + 1 ∧ (spT2 w t).l = (t.step (w.heap.words.length : Int)).l := step_at _
 have s3 : (spT2 w t).at' ≤ (spT3 w t).at' ∧ (spT3 w t).at' ≤ (spT2 w t).at' + 1 ∧ (spT3 w t).l = (spT2 w t).l := step_at _
 have k1 := tok_of ht s1.2.2 (by omega) (by omega)
 have k2 : TOk (spT2 w t) := tok_of k1 s2.2.2 (by omega) (by omega)
 have k3 : TOk (spT3 w t) := tok_of k2 s3.2.2 (by omega) (by omega)
 have a1 := area hm.hv
 have a2 := validB_iff.1 hm.hv
 have a3 := hm.L
 have a4 := hm.pl
 have hw := hm.words
 have n1 := next_range t (n := (w.heap.words.length : Int)) (by omega)
 have n2 := next_range (t.step (w.heap.words.length : Int)) (n := (w.heap.pages.length : Int)) (by omega)
 rw [e7,e8]
 unfold spT3 spT2 at *
 exact lE [(11,[Hint.els (List.map wdv [])]),(14,[Hint.els (List.map wdv w.heap.words)]),(15,[Hint.els (List.map Page.dv [])]),(18,[Hint.els (List.map Page.dv w.heap.pages)]),(24,[Hint.int ↑w.heap.words.length]),(25,[Hint.lent (int (t.next (↑w.heap.words.length : Int))) [(t.step (↑w.heap.words.length : Int)).b]]),(29,[Hint.int ↑w.heap.pages.length]),(30,[Hint.lent (int ((t.step (↑w.heap.words.length : Int)).next (↑w.heap.pages.length : Int))) [((t.step (↑w.heap.words.length : Int)).step (↑w.heap.pages.length : Int)).b]]),(32,[Hint.lent (int 11) [(((t.step (↑w.heap.words.length : Int)).step (↑w.heap.pages.length : Int)).step 12).b]])] [cutOf (@pinLoop w (((t.step (↑w.heap.words.length : Int)).step (↑w.heap.pages.length : Int)).step 12) (by omega))] Tryz.func46 [] (an (rf (List.map wdv [])) (an (by (simp [spV,spQ,spPg,spI,spP,spT3,spT2,spList, *]; omega) : (List.map wdv []).length + (List.map wdv w.heap.words).length≤2 ^ 30) (an (rf (List.map wdv w.heap.words)) (an (rf (List.map Page.dv [])) (an (by (simp [spV,spQ,spPg,spI,spP,spT3,spT2,spList, *]; omega) : (List.map Page.dv []).length + (List.map Page.dv w.heap.pages).length≤2 ^ 30) (an (rf (List.map Page.dv w.heap.pages)) (an (lm ((↑(List.map wdv w.heap.words).length : Int) = (↑w.heap.words.length : Int))) (an (@tapeNext t ((↑w.heap.words.length : Int)) ‹_› (by omega) (by omega)) (an (lm ((↑(List.map Page.dv w.heap.pages).length : Int) = (↑w.heap.pages.length : Int))) (an (@tapeNext (t.step (↑w.heap.words.length : Int)) ((↑w.heap.pages.length : Int)) ‹_› (by omega) (by omega)) (an (@sp_next12 ((t.step (↑w.heap.words.length : Int)).step (↑w.heap.pages.length : Int)) (11) ‹_› ‹_›) (@pinLoop w (((t.step (↑w.heap.words.length : Int)).step (↑w.heap.pages.length : Int)).step 12) (by omega)))))))))))))
theorem madeSpoil : LentSpec Tryz.prog 46 [w.av,.pt 0 0 0] [t.b] (w.spoil t).av [(w.spoilT t).b] := by
 have n := next_range (spT2 w t) (n := 12) (by decide)
 have hd : (spT2 w t).next 12 = 0 ∨ (spT2 w t).next 12 = 1 ∨ (spT2 w t).next 12 = 2 ∨ (spT2 w t).next 12 = 3 ∨ (spT2 w t).next 12 = 4 ∨ (spT2 w t).next 12 = 5 ∨ (spT2 w t).next 12 = 6 ∨ (spT2 w t).next 12 = 7 ∨ (spT2 w t).next 12 = 8 ∨ (spT2 w t).next 12 = 9 ∨ (spT2 w t).next 12 = 10 ∨ (spT2 w t).next 12 = 11 := by omega
 rcases hd with hd | hd | hd | hd | hd | hd | hd | hd | hd | hd | hd | hd
 ·exact spoil0 w t hm ht ha hus hd
 ·exact spoil1 w t hm ht ha hus hd
 ·exact spoil2 w t hm ht ha hus hd
 ·exact spoil3 w t hm ht ha hus hd
 ·exact spoil4 w t hm ht ha hus hd
 ·exact spoil5 w t hm ht ha hus hd
 ·exact spoil6 w t hm ht ha hus hd
 ·exact spoil7 w t hm ht ha hus hd
 ·exact spoil8 w t hm ht ha hus hd
 ·exact spoil9 w t hm ht ha hus hd
 ·exact spoil10 w t hm ht ha hus hd
 ·exact spoil11 w t hm ht ha hus hd
end
theorem headerValid (h : Header) (hm : 0 ≤ h.map ∧ h.map ≤ 4294967295) : GSpec Tryz.prog 90 [h.av] true (bool (validH h)) [] := by
 have hs := fun q => pow32 (n := h.length) q
 have ho : 0 ≤ h.length → h.length ≤ 32 → ones h.length = 2 ^ h.length.toNat - 1 := fun h0 h1 => by rw [ones,Nat.min_eq_left (by omega)]
 rcases bb (decide (h.kind < 0) || decide (3 < h.kind) || decide (h.length < 0) || decide (255 < h.length)) with hc0 | hc0<;>have hc0p:=hc0<;>simp only [bs] at hc0p
 ·exact gF [] Tryz.func90 [false,false,false,false,false,false,false,false,false,true] (Ft 20 hc0 (Fa (by (simp [validH, *]; omega) : false =validH h) Fz))
 ·obtain ⟨⟨⟨hc0paaa,hc0paab⟩,hc0pab⟩,hc0pb⟩ := hc0p
  rcases bb (h.kind == 1) with hc1 | hc1<;>have hc1p:=hc1<;>simp only [bs] at hc1p
  ·exact gF [] Tryz.func90 [false,false,false,false,false,false,false,false,false,false,false,false,false,false,false,false,true] (Fh 30 [.int h.map] (Fh 33 [.call true (u64 (ones h.length)) []] (Ff 20 hc0 (Ft 23 hc1 (Fa (by intro hg; (try simp only [bs] at hg); exact wrapU2 rfl (by omega) (by omega) : decide (h.length≤32) =true→IntKind.u64.wrap h.map =h.map) (Fa ((fun hg => by (try simp only [bs] at hg); exact @bitsOnes h.length) : decide (h.length≤32) =true→GSpec Tryz.prog 124 [int h.length] true (u64 (ones h.length)) []) (Fa (by grind [validH] : (decide (h.length≤32)&&decide (h.map≤ones h.length)) =validH h) Fz)))))))
  ·exact gF [] Tryz.func90 [false,false,false,false,false,false,false,false,false,true] (Ff 20 hc0 (Ff 23 hc1 (Fa (by grind [validH] : (h.kind == h.kind&&(h.length == h.length&&h.map == 0)) =validH h) Fz)))
theorem headerSize (h : Header) (hm : 0 ≤ h.map ∧ h.map ≤ 4294967295) : GSpec Tryz.prog 54 [h.av] true (int (sizeH h)) [] := by
 rcases bb (!validH h) with hc0 | hc0<;>have hc0p:=hc0<;>simp only [bs] at hc0p
 ·exact gF [] Tryz.func54 [true] (Fc 4 (@headerValid h ‹_›) (Ft 5 hc0 (Fa (by simp [sizeH, *] : 0 =sizeH h) Fz)))
 ·have hf3 := validH_iff.1 hc0p
  obtain ⟨hf3a,⟨hf3ba,⟨hf3bba,⟨hf3bbba,hf3bbbb⟩⟩⟩⟩ := hf3
  exact gF [] Tryz.func54 [true] (Fc 4 (@headerValid h ‹_›) (Ff 5 hc0 (Fi 8 (h.length + 1) (Fa (by simp [sizeH, *] : h.length + 1 =sizeH h) Fz))))
theorem arenaPlace (ws : List Int) (a n : Int) (hw : ws.length ≤ 1048576) (h0 : 0 ≤ a ∧ a ≤ 18446744073709551615) : GSpec Tryz.prog 94 [wordsV ws,u64 a,int n] true (.tu [int (placeA ws a n).1,bool (placeA ws a n).2]) [] := by
 have Q0 {h c p} (r : Fq h c p) := Fa (by intro hg; (try simp only [bs] at hg); exact wrapU2 rfl (by omega) (by omega) : (!decide (a < 4096)) =true→IntKind.u64.wrap (a - 4096) =a - 4096) (Fa (by intro hg; (try simp only [bs] at hg); simp only [List.length_map] : (!decide (a < 4096)) =true→(↑(List.map wdv ws).length : Int) =(↑ws.length : Int)) (Fa (by intro hg; (try simp only [bs] at hg); exact wrapU2 rfl (by omega) (by omega) : (!decide (a < 4096)) =true→IntKind.u64.wrap (↑ws.length : Int) =(↑ws.length : Int)) r))
 rcases bb (decide (a < 4096) || decide ((↑ws.length : Int) < a - 4096)) with hc0 | hc0<;>have hc0p:=hc0<;>simp only [bs] at hc0p
 ·exact gF [] Tryz.func94 [false,false,false,false,false,false,true] (Fh 13 [.int (a - 4096)] (Fh 15 [.int ↑ws.length] (Fh 16 [.int ↑ws.length] (Q0 (Ft 18 hc0 (Fa (by (simp only [placeA]; (repeat' split) <;> first | rfl | omega | (exfalso; omega) | simp_all) : 0 =(placeA ws a n).fst) (Fa (by (simp only [placeA]; (repeat' split) <;> first | rfl | omega | (exfalso; omega) | simp_all) : false =(placeA ws a n).snd) Fz)))))))
 ·obtain ⟨hc0pa,hc0pb⟩ := hc0p
  exact gF [] Tryz.func94 [false,false,false,false,false,false,true] (Fh 16 [.int ↑ws.length] (Fh 21 [.int (a - 4096)] (Fh 25 [.int ↑ws.length] (Q0 (Ff 18 hc0 (Fv 13 (a - 4096) (Fi 20 (a - 4096) (Fl 15 wdv ws (Fi 27 ((↑ws.length : Int) - (a - 4096)) (Fa (by (simp only [placeA]; (repeat' split) <;> first | rfl | omega | (exfalso; omega) | simp_all) : a - 4096 =(placeA ws a n).fst) (Fa (by (simp only [placeA]; (repeat' split) <;> first | rfl | omega | (exfalso; omega) | simp_all) : decide (n≤(↑ws.length : Int) - (a - 4096)) =(placeA ws a n).snd) Fz)))))))))))
theorem arenaIndex (ws : List Int) (a : Int) (hw : ws.length ≤ 1048576) (h0 : 0 ≤ a ∧ a ≤ 18446744073709551615) : GSpec Tryz.prog 88 [wordsV ws,u64 a] true (.tu [int (indexA ws a).1,int (indexA ws a).2]) [] := by
 have Q0 {h c p} (r : Fq h c p) := Fc 11 (@arenaPlace ws a (1) ‹_› ‹_›) r
 rcases bb (!(placeA ws a 1).snd) with hc0 | hc0<;>have hc0p:=hc0<;>simp only [bs] at hc0p
 ·exact gF [] Tryz.func88 [true] (Q0 (Ft 15 hc0 (Fa (by grind [placeA,indexA] : 0 =(indexA ws a).fst) (Fa (by grind [placeA,indexA] : 2 =(indexA ws a).snd) Fz))))
 ·exact gF [] Tryz.func88 [true] (Q0 (Ff 15 hc0 (Fa (by grind [placeA,indexA] : (placeA ws a 1).fst =(indexA ws a).fst) (Fa (by grind [placeA,indexA] : 0 =(indexA ws a).snd) Fz))))
theorem arenaLoad (ws : List Int) (a : Int) (hw : ws.length ≤ 1048576) (h0 : 0 ≤ a ∧ a ≤ 18446744073709551615) : GSpec Tryz.prog 52 [wordsV ws,u64 a] true (.tu [u64 (loadA ws a).1,int (loadA ws a).2]) [] := by
 have Q0 {h c p} (r : Fq h c p) := Fc 11 (@arenaIndex ws a ‹_› ‹_›) r
 rcases bb ((indexA ws a).snd != 0) with hc0 | hc0<;>have hc0p:=hc0<;>simp only [bs] at hc0p
 ·have hf3 := indexA_no hc0p
  obtain ⟨hf3a,hf3b⟩ := hf3
  exact gF [] Tryz.func52 [true] (Q0 (Ft 15 hc0 (Fa (by simp [loadA, *] : 0 =(loadA ws a).fst) (Fa (by simp [loadA, *] : (indexA ws a).snd =(loadA ws a).snd) Fz))))
 ·have hf5 := indexA_ok hc0p
  obtain ⟨hf5a,⟨hf5ba,hf5bb⟩⟩ := hf5
  exact gF [] Tryz.func52 [true] (Q0 (Ff 15 hc0 (Fe 19 wdv ws ((indexA ws a).fst) (Fa (by simp [loadA, *] : ws.getD (indexA ws a).fst.toNat default =(loadA ws a).fst) (Fa (by simp [loadA, *] : 0 =(loadA ws a).snd) Fz)))))
def upS (w : Int) : Nat → Int
 | 0 => w
 | 1 => w / 4
 | 2 => w / 16
 | 3 => w / 65536
 | _ => w / 281474976710656
def upO (w : Int) : List Int := [w % 4,w / 4 % 4,w / 16 % 4096,w / 65536 % 4294967296]
def upL1 (w : Int) (i : Nat) : Tg := ⟨tm 49 [(0,u64 w),(1,intsV [2,2,12,32]),(4,.d (.sl 0 [])),(5,int 0),(6,int ([64,62,60,48,16].getD i 0)),(12,intsV [2,2,12,32]),(13,int 4),(14,int i)],[],20⟩
theorem up1Round (w : Int) (i : Nat) (hi : i < 4) : CSpec Tryz.prog (rndF Tryz.f89 0) (upL1 w i).st .nrm (upL1 w (i + 1)).st := by
 have h : i = 0 ∨ i = 1 ∨ i = 2 ∨ i = 3 := by omega
 rcases h with rfl | rfl | rfl | rfl
 ·refine stretchE [((16 : Nat),[Hint.el (idv (2 : Int))])] [] [] [] (φ := (0 : Int) ≤ (↑(0 : Nat) : Int) ∧ (List.map idv [(2 : Int),(2 : Int),(12 : Int),(32 : Int)])[(↑(0 : Nat) : Int).toNat]? = some (idv (2 : Int))) ?_ (by kernel_rfl) (by kernel_rfl) (by kernel_rfl)
  exact (by simp [*])
 ·refine stretchE [((16 : Nat),[Hint.el (idv (2 : Int))])] [] [] [] (φ := (0 : Int) ≤ (↑(1 : Nat) : Int) ∧ (List.map idv [(2 : Int),(2 : Int),(12 : Int),(32 : Int)])[(↑(1 : Nat) : Int).toNat]? = some (idv (2 : Int))) ?_ (by kernel_rfl) (by kernel_rfl) (by kernel_rfl)
  exact (by simp [*])
 ·refine stretchE [((16 : Nat),[Hint.el (idv (12 : Int))])] [] [] [] (φ := (0 : Int) ≤ (↑(2 : Nat) : Int) ∧ (List.map idv [(2 : Int),(2 : Int),(12 : Int),(32 : Int)])[(↑(2 : Nat) : Int).toNat]? = some (idv (12 : Int))) ?_ (by kernel_rfl) (by kernel_rfl) (by kernel_rfl)
  exact (by simp [*])
 ·refine stretchE [((16 : Nat),[Hint.el (idv (32 : Int))])] [] [] [] (φ := (0 : Int) ≤ (↑(3 : Nat) : Int) ∧ (List.map idv [(2 : Int),(2 : Int),(12 : Int),(32 : Int)])[(↑(3 : Nat) : Int).toNat]? = some (idv (32 : Int))) ?_ (by kernel_rfl) (by kernel_rfl) (by kernel_rfl)
  exact (by simp [*])
theorem up1End (w : Int) : CSpec Tryz.prog (rndF Tryz.f89 0) (upL1 w 4).st (.ext 0) (Tg.st ⟨tm 49 [(0,u64 w),(1,intsV [2,2,12,32]),(4,.d (.sl 0 [])),(5,int 0)],[],60⟩) := by
 exact sE [] [] [] [] (trivial)
theorem up1Loop (w : Int) : CSpec Tryz.prog (blkF Tryz.f89 0) (Tg.st ⟨tm 49 [(0,u64 w),(1,intsV [2,2,12,32]),(4,.d (.sl 0 [])),(5,int 0),(6,int 64),(12,intsV [2,2,12,32]),(13,int 4),(14,int 0)],[],20⟩) .nrm (Tg.st ⟨tm 49 [(0,u64 w),(1,intsV [2,2,12,32]),(4,.d (.sl 0 [])),(5,int 0)],[],60⟩) :=
 loop_ext_of (S := fun i => (upL1 w i).st) 4 (by kernel_rfl) (fun i hi => up1Round w i hi) (up1End w)
def upL2 (w : Int) (i : Nat) : Tg := ⟨tm 49 [(0,u64 (upS w i)),(4,.d (.sl 0 [])),(5,int 0),(9,.ow 480009),(29,intsV [2,2,12,32]),(30,int 4),(31,int i)],[(480009,.arr 29 1 (((upO w).take i).map wdv))],60⟩
theorem up2Round (w : Int) (i : Nat) (h0 : 0 ≤ w) (h1 : w ≤ 18446744073709551615) (hi : i < 4) : CSpec Tryz.prog (rndF Tryz.f89 2) (upL2 w i).st .nrm (upL2 w (i + 1)).st := by
 have o1 : ones 2 = 3 := by decide
 have o2 : ones 12 = 4095 := by decide
 have o3 : ones 32 = 4294967295 := by decide
 have a0 : bits .and .u64 w (ones 2) = w % 4 := by rw [o1]; exact and_mask 2 (by decide) (by decide) (by omega) (by omega)
 have a1 : bits .and .u64 (w / 4) (ones 2) = w / 4 % 4 := by rw [o1]; exact and_mask 2 (by decide) (by decide) (by omega) (by omega)
 have a2 : bits .and .u64 (w / 16) (ones 12) = w / 16 % 4096 := by rw [o2]; exact and_mask 12 (by decide) (by decide) (by omega) (by omega)
 have a3 : bits .and .u64 (w / 65536) (ones 32) = w / 65536 % 4294967296 := by rw [o3]; exact and_mask 32 (by decide) (by decide) (by omega) (by omega)
 have f1 : (w / 4).fdiv 4 = w / 16 := by rw [Int.fdiv_eq_ediv_of_nonneg _ (by decide)]; omega
 have f2 : (w / 16).fdiv 4096 = w / 65536 := by rw [Int.fdiv_eq_ediv_of_nonneg _ (by decide)]; omega
 have f3 : (w / 65536).fdiv 4294967296 = w / 281474976710656 := by rw [Int.fdiv_eq_ediv_of_nonneg _ (by decide)]; omega
 have h : i = 0 ∨ i = 1 ∨ i = 2 ∨ i = 3 := by omega
 rcases h with rfl | rfl | rfl | rfl
 ·exact sF [(496041,480009)] [] (Fh 33 [.el (idv 2)] (Fh 40 [.els (List.map wdv [upS w 0 % 4])] (Fh 41 [.els (List.map wdv [upS w 0 % 4])] (Fa (by simp [upS,upO, *] : 0≤(↑0 : Int)∧(List.map idv [2,2,12,32])[(↑0 : Int).toNat]? = some (idv 2)) (Fc 38 (@bitsOnes (2)) (Fg 39 (by assumption : bits BinOp.and IntKind.u64 (upS w 0) (ones (2 :Int)) =upS w 0 % 4) (Fr (List.map wdv [upS w 0 % 4]) (Fa (by simp [upS,upO, *] : (List.map wdv (List.take 0 (upO w))).length + (List.map wdv [upS w 0 % 4]).length≤2 ^ 30) (Fr (List.map wdv [upS w 0 % 4]) (Fg 44 (by exact fdiv2 rfl (by decide) : (upS w 0).fdiv (2 ^ min (Int.toNat 2) 64) =upS w 0 / 4) (Fo ((0 :Int)≤2) Fz)))))))))))
 ·exact sF [(496041,480009)] [true] (Fh 33 [.el (idv 2)] (Fh 40 [.els (List.map wdv [upS w 1 % 4])] (Fh 41 [.els (List.map wdv [w % 4,upS w 1 % 4])] (Fa (by simp [upS,upO, *] : 0≤(↑1 : Int)∧(List.map idv [2,2,12,32])[(↑1 : Int).toNat]? = some (idv 2)) (Fc 38 (@bitsOnes (2)) (Fg 39 (by assumption : bits BinOp.and IntKind.u64 (upS w 1) (ones (2 :Int)) =upS w 1 % 4) (Fr (List.map wdv [upS w 1 % 4]) (Fa (by simp [upS,upO, *] : (List.map wdv (List.take 1 (upO w))).length + (List.map wdv [upS w 1 % 4]).length≤2 ^ 30) (Fr (List.map wdv [w % 4,upS w 1 % 4]) (Fg 44 (by exact fdiv2 rfl (by decide) : (upS w 1).fdiv (2 ^ min (Int.toNat 2) 64) =upS w 1 / 4) (Fo ((0 :Int)≤2) (Fa (by (simp [upS,upO, *]; omega) : upS w 1 / 4 =upS w (1 + 1)) Fz))))))))))))
 ·exact sF [(496041,480009)] [true] (Fh 33 [.el (idv 12)] (Fh 40 [.els (List.map wdv [upS w 2 % 4096])] (Fh 41 [.els (List.map wdv [w % 4,w / 4 % 4,upS w 2 % 4096])] (Fa (by simp [upS,upO, *] : 0≤(↑2 : Int)∧(List.map idv [2,2,12,32])[(↑2 : Int).toNat]? = some (idv 12)) (Fc 38 (@bitsOnes (12)) (Fg 39 (by assumption : bits BinOp.and IntKind.u64 (upS w 2) (ones (12 :Int)) =upS w 2 % 4096) (Fr (List.map wdv [upS w 2 % 4096]) (Fa (by simp [upS,upO, *] : (List.map wdv (List.take 2 (upO w))).length + (List.map wdv [upS w 2 % 4096]).length≤2 ^ 30) (Fr (List.map wdv [w % 4,w / 4 % 4,upS w 2 % 4096]) (Fg 44 (by exact fdiv2 rfl (by decide) : (upS w 2).fdiv (2 ^ min (Int.toNat 12) 64) =upS w 2 / 4096) (Fo ((0 :Int)≤12) (Fa (by (simp [upS,upO, *]; omega) : upS w 2 / 4096 =upS w (2 + 1)) Fz))))))))))))
 ·exact sF [(496041,480009)] [true] (Fh 33 [.el (idv 32)] (Fh 40 [.els (List.map wdv [upS w 3 % 4294967296])] (Fh 41 [.els (List.map wdv [w % 4,w / 4 % 4,w / 16 % 4096,upS w 3 % 4294967296])] (Fa (by simp [upS,upO, *] : 0≤(↑3 : Int)∧(List.map idv [2,2,12,32])[(↑3 : Int).toNat]? = some (idv 32)) (Fc 38 (@bitsOnes (32)) (Fg 39 (by assumption : bits BinOp.and IntKind.u64 (upS w 3) (ones (32 :Int)) =upS w 3 % 4294967296) (Fr (List.map wdv [upS w 3 % 4294967296]) (Fa (by simp [upS,upO, *] : (List.map wdv (List.take 3 (upO w))).length + (List.map wdv [upS w 3 % 4294967296]).length≤2 ^ 30) (Fr (List.map wdv (List.take 3 (upO w)) ++ List.map wdv [upS w 3 % 4294967296]) (Fg 44 (by exact fdiv2 rfl (by decide) : (upS w 3).fdiv (2 ^ min (Int.toNat 32) 64) =upS w 3 / 4294967296) (Fo ((0 :Int)≤32) (Fa (by (simp [upS,upO, *]; omega) : upS w 3 / 4294967296 =upS w (3 + 1)) Fz))))))))))))
theorem up2End (w : Int) : CSpec Tryz.prog (rndF Tryz.f89 2) (upL2 w 4).st (.ext 2) (Tg.st ⟨tm 49 [(0,u64 (w / 281474976710656)),(4,.d (.sl 0 [])),(5,int 0),(9,.ow 480009)],[(480009,.arr 29 1 ((upO w).map wdv))],60⟩) := by
 exact sE [] [] [] [] (trivial)
theorem up2Loop (w : Int) (h0 : 0 ≤ w) (h1 : w ≤ 18446744073709551615) : CSpec Tryz.prog (blkF Tryz.f89 2) (Tg.st ⟨tm 49 [(0,u64 w),(4,.d (.sl 0 [])),(5,int 0),(9,.ow 480009),(29,intsV [2,2,12,32]),(30,int 4),(31,int 0)],[(480009,.arr 29 1 [])],60⟩) .nrm (Tg.st ⟨tm 49 [(0,u64 (w / 281474976710656)),(4,.d (.sl 0 [])),(5,int 0),(9,.ow 480009)],[(480009,.arr 29 1 ((upO w).map wdv))],60⟩) :=
 loop_ext_of (S := fun i => (upL2 w i).st) 4 (by kernel_rfl) (fun i hi => up2Round w i h0 h1 hi) (up2End w)
theorem unpack4 (w : Int) (h0 : 0 ≤ w) (h1 : w ≤ 18446744073709551615) (h : w < 281474976710656) : GSpec Tryz.prog 89 [u64 w,intsV [2,2,12,32]] true (.tu [wordsV (upO w),int 0]) [] := by
 exact gF [] Tryz.func89 [] (Fh 9 [.own] (Fu (@up1Loop w) (Fu (@up2Loop w ‹_› ‹_›) (Ffb 47 (w / (281474976710656 :Int) != 0) (Fa (by exact flat_wdv _ : FlatEls (List.map wdv (upO w))) Fz)))))
theorem unpack4n (w : Int) (h0 : 0 ≤ w) (h1 : w ≤ 18446744073709551615) (h : ¬ w < 281474976710656) : GSpec Tryz.prog 89 [u64 w,intsV [2,2,12,32]] true (.tu [wordsV [],int 2]) [] := by
 exact gF [] Tryz.func89 [] (Fh 9 [.own] (Fu (@up1Loop w) (Fu (@up2Loop w ‹_› ‹_›) (Ftb 47 (w / (281474976710656 :Int) != 0) (Fnl Fz)))))
theorem decode_cases (w : Int) (h0 : 0 ≤ w) : decodeH w = if w < 281474976710656 ∧ w % 4 = 1 ∧ validH (hdrOf w) = true then (hdrOf w,true) else (noHdr,false) := by
 have k1 : (hdrOf w).kind = w / 4 % 4 := rfl
 have k2 : (hdrOf w).length = w / 16 % 4096 := rfl
 have k3 : (hdrOf w).map = w / 65536 % 4294967296 := rfl
 by_cases hv : validH (hdrOf w) = true
 ·have e : encodeH (hdrOf w) = (1 + 4 * (hdrOf w).kind + 16 * (hdrOf w).length + 65536 * (hdrOf w).map,0) := by rw [encodeH,if_pos hv]
  by_cases hc : w < 281474976710656 ∧ w % 4 = 1
  ·rw [decodeH,e,if_pos ⟨rfl,by simp only; omega⟩,if_pos ⟨hc.1,hc.2,hv⟩]
  ·rw [decodeH,e,if_neg (by simp only; omega),if_neg (fun q => hc ⟨q.1,q.2.1⟩)]
 ·have e : encodeH (hdrOf w) = (0,1) := by rw [encodeH,if_neg hv]
  rw [decodeH,e,if_neg (by simp),if_neg (fun q => hv q.2.2)]
theorem headerDecode (w : Int) (h0 : 0 ≤ w) (h1 : w ≤ 18446744073709551615) : GSpec Tryz.prog 53 [u64 w] true (.tu [(decodeH w).1.av,bool (decodeH w).2]) [] := by
 have hm := hdrOf_map w h0
 rw [decode_cases w h0]
 have u0 : (upO w).getD 0 default = w % 4 := rfl
 have u1 : (upO w).getD 1 default = w / 4 % 4 := rfl
 have u2 : (upO w).getD 2 default = w / 16 % 4096 := rfl
 have u3 : (upO w).getD 3 default = w / 65536 % 4294967296 := rfl
 have uL : (upO w).length = 4 := rfl
 have k1 : (hdrOf w).kind = w / 4 % 4 := rfl
 have k2 : (hdrOf w).length = w / 16 % 4096 := rfl
 have k3 : (hdrOf w).map = w / 65536 % 4294967296 := rfl
 by_cases ha : w < 281474976710656
 ·by_cases hb : w % 4 = 1
  ·by_cases hv : validH (hdrOf w) = true
   ·rw [if_pos ⟨ha,hb,hv⟩]
    have hv2 : validH ⟨w / 4 % 4,w / 16 % 4096,w / 65536 % 4294967296⟩ = true := hv
    exact gF [] Tryz.func53 [] (Fh 9 [.els (List.map idv [2,2,12,32])] (Fh 17 [.el (wdv ((upO w).getD 0 default))] (Fh 23 [.el (wdv ((upO w).getD 1 default))] (Fh 27 [.el (wdv ((upO w).getD 2 default))] (Fh 31 [.el (wdv ((upO w).getD 3 default))] (Fr (List.map idv [2,2,12,32]) (Fc 10 (@unpack4 w ‹_› ‹_› ‹_›) (Fa (by intro hg; (try simp only [bs] at hg); exact elI (by omega) (by omega) (by omega) : (!(0 :Int) != 0) =true→(0 :Int)≤0∧(List.map wdv (upO w))[Int.toNat 0]? = some (wdv ((upO w).getD 0 default))) (Ffb 20 ((upO w).getD 0 default != 1) (Fa (by exact elI (by omega) (by omega) (by omega) : (0 :Int)≤1∧(List.map wdv (upO w))[Int.toNat 1]? = some (wdv ((upO w).getD 1 default))) (Fi 25 ((upO w).getD 1 default) (Fa (by exact elI (by omega) (by omega) (by omega) : (0 :Int)≤2∧(List.map wdv (upO w))[Int.toNat 2]? = some (wdv ((upO w).getD 2 default))) (Fi 29 ((upO w).getD 2 default) (Fa (by exact elI (by omega) (by omega) (by omega) : (0 :Int)≤3∧(List.map wdv (upO w))[Int.toNat 3]? = some (wdv ((upO w).getD 3 default))) (Fg 33 (by exact wrap32' (by omega) (by omega) : IntKind.u32.wrap ((upO w).getD 3 default) =(upO w).getD 3 default) (Fc 36 (@headerValid (Header.mk ((upO w).getD 1 default) ((upO w).getD 2 default) ((upO w).getD 3 default)) ‹_›) (Ff 37 (by simp only [bs, *,true_or,or_true,true_and,and_true,not_true_eq_false,not_false_eq_true,Bool.true_eq_false,Bool.false_eq_true] : (!validH (Header.mk ((upO w).getD 1 default) ((upO w).getD 2 default) ((upO w).getD 3 default)))=false) Fz)))))))))))))))))
   ·rw [if_neg (by simp [hv])]
    have hv' : validH ⟨w / 4 % 4,w / 16 % 4096,w / 65536 % 4294967296⟩ = false := eq_false_of_ne_true hv
    exact gF [] Tryz.func53 [] (Fh 9 [.els (List.map idv [2,2,12,32])] (Fh 17 [.el (wdv ((upO w).getD 0 default))] (Fh 23 [.el (wdv ((upO w).getD 1 default))] (Fh 27 [.el (wdv ((upO w).getD 2 default))] (Fh 31 [.el (wdv ((upO w).getD 3 default))] (Fr (List.map idv [2,2,12,32]) (Fc 10 (@unpack4 w ‹_› ‹_› ‹_›) (Fa (by intro hg; (try simp only [bs] at hg); exact elI (by omega) (by omega) (by omega) : (!(0 :Int) != 0) =true→(0 :Int)≤0∧(List.map wdv (upO w))[Int.toNat 0]? = some (wdv ((upO w).getD 0 default))) (Ffb 20 ((upO w).getD 0 default != 1) (Fa (by exact elI (by omega) (by omega) (by omega) : (0 :Int)≤1∧(List.map wdv (upO w))[Int.toNat 1]? = some (wdv ((upO w).getD 1 default))) (Fi 25 ((upO w).getD 1 default) (Fa (by exact elI (by omega) (by omega) (by omega) : (0 :Int)≤2∧(List.map wdv (upO w))[Int.toNat 2]? = some (wdv ((upO w).getD 2 default))) (Fi 29 ((upO w).getD 2 default) (Fa (by exact elI (by omega) (by omega) (by omega) : (0 :Int)≤3∧(List.map wdv (upO w))[Int.toNat 3]? = some (wdv ((upO w).getD 3 default))) (Fg 33 (by exact wrap32' (by omega) (by omega) : IntKind.u32.wrap ((upO w).getD 3 default) =(upO w).getD 3 default) (Fc 36 (@headerValid (Header.mk ((upO w).getD 1 default) ((upO w).getD 2 default) ((upO w).getD 3 default)) ‹_›) (Ft 37 (by simp only [bs, *,true_or,or_true,true_and,and_true,not_true_eq_false,not_false_eq_true,Bool.true_eq_false,Bool.false_eq_true] : (!validH (Header.mk ((upO w).getD 1 default) ((upO w).getD 2 default) ((upO w).getD 3 default)))=true) Fz)))))))))))))))))
  ·rw [if_neg (by simp [hb])]
   exact gF [] Tryz.func53 [] (Fh 9 [.els (List.map idv [2,2,12,32])] (Fh 17 [.el (wdv ((upO w).getD 0 default))] (Fr (List.map idv [2,2,12,32]) (Fc 10 (@unpack4 w ‹_› ‹_› ‹_›) (Fa (by intro hg; (try simp only [bs] at hg); exact elI (by omega) (by omega) (by omega) : (!(0 :Int) != 0) =true→(0 :Int)≤0∧(List.map wdv (upO w))[Int.toNat 0]? = some (wdv ((upO w).getD 0 default))) (Ftb 20 ((upO w).getD 0 default != 1) Fz))))))
 ·rw [if_neg (by simp [ha])]
  exact gF [] Tryz.func53 [] (Fh 9 [.els (List.map idv [2,2,12,32])] (Fh 17 [.el (wdv ([].getD 0 default))] (Fr (List.map idv [2,2,12,32]) (Fc 10 (@unpack4n w ‹_› ‹_› ‹_›) (Fa (by intro hg; (try simp only [bs] at hg); exact elI (by omega) (by omega) (by omega) : (!(2 :Int) != 0) =true→(0 :Int)≤0∧(List.map wdv [])[Int.toNat 0]? = some (wdv ([].getD 0 default))) Fz)))))
end Go.Proofs.YtpklpkmnhgedbaaGreat
namespace Go.Sx
theorem lent_ro2 {P : Program} {f : Nat} {e0 e1 : List DV} {t0 t1 : Nat} {x : Value} (hx : x.oneCell' = true) (h : GSpec P f [.rp e0 0,.rp e1 0] true (.d (.sc x)) []) :
  LentSpec P f [.pt 0 0 0,.pt 1 0 0] [.box t0 (e0.map .d),.box t1 (e1.map .d)] (.d (.sc x)) [.box t0 (e0.map .d),.box t1 (e1.map .d)] := by
 intro w Im ρ vs hIm hsz hρ hinj hbnd hpre hargs
 have box : ∀ (k : Nat) (e : List DV) (t : Nat) (v : Value) (Im2 : Nat → Prop),(∀ g,Im g → Im2 g) → (∀ β g,ρ k = some β → β.g = some g → Im2 g) → (∃ β,ρ k = some β ∧ RelB ρ w Im β (.box t (e.map .d))) → Rel ρ w Im (.pt k 0 0) v → Rel (fun _ => none) w Im2 (.rp e 0) v := by
  intro k e t v Im2 hi hg hb hv
  obtain ⟨β,hβ,r⟩ := hb
  obtain ⟨g,s,n,k1,rfl⟩ := rel_ptr hv
  rw [hβ] at k1
  cases k1
  obtain ⟨r1,r2,g2,cs,r3,r4,r5,r6,r7⟩ := r
  cases r3
  have := @Rel.rp (fun _ => none) w Im2 e 0 ⟨g,0,none⟩ rfl (hg _ _ hβ rfl) (fun j y hy => by
   have hj : j < e.length := (List.getElem?_eq_some_iff.1 hy).1
   have hc : j < cs.size := by rw [r5]; simpa using hj
   have h1 : cs[j]? = some cs[j] := Array.getElem?_eq_getElem hc
   have h2 := r7 j (.d y) cs[j] (by simp [hy]) h1
   refine ⟨cs[j], ?_, ?_⟩
   ·simp only [World.cell?,r4]
    simpa using h1
   ·cases h2 with
    | d h2 => exact h2.mono (Ext.refl _ _) hi)
  simpa using this
 refine (h w (fun g => Im g ∨ ∃ k β,ρ k = some β ∧ β.g = some g) vs ?_ hsz ?_).mono ?_
 ·rintro g (hg | ⟨k,β,h1,h2⟩)
  ·exact hIm g hg
  ·exact (hbnd k β g h1 h2).1
 ·intro i y v hy hv
  cases i with
  | zero =>
   simp at hy; subst hy
   exact box 0 e0 t0 v _ (fun g hg => .inl hg) (fun β g h1 h2 => .inr ⟨0,β,h1,h2⟩) (hpre 0 _ rfl) (hargs 0 _ v rfl hv)
  | succ i => cases i with
   | zero =>
    simp at hy; subst hy
    exact box 1 e1 t1 v _ (fun g hg => .inl hg) (fun β g h1 h2 => .inr ⟨1,β,h1,h2⟩) (hpre 1 _ rfl) (hargs 1 _ v rfl hv)
   | succ i => simp at hy
 ·rintro e w' ⟨v,rfl,hk,ρ',Im',_,_,_,_,_,_,hr⟩
  have hv := rel_sc hr
  subst hv
  have ext : Ext Im w w' := ⟨hk.size,fun g hg => hk.block g (hIm g hg) (fun q => q),hk.rows⟩
  refine ⟨_,rfl,⟨hk.os,hk.tape,hk.output,hk.size,fun k h1 _ => hk.block k h1 (fun q => q),hk.rows⟩,Im,fun g hg => .inl hg,fun g hg => Nat.lt_of_lt_of_le (hIm g hg) hk.size, ?_,.d (.sc _ hx)⟩
  intro k B hB
  obtain ⟨β,b1,b2⟩ := hpre k B hB
  exact ⟨β,b1,b2.mono ext (fun _ h => h) (fun _ _ h => h) (fun b β g h1 h2 => (hbnd b β g h1 h2).1) (fun g hg => hk.block g (hbnd k β g b1 hg).1 (fun q => q))⟩
theorem gspec_empty {P : Program} {f s : Nat} {fr : Bool} {res : AV} {news : List Blk} (h : ∀ (p : Option Addr) (c : Nat),GSpec P f [.d (.sc (.slice p 0 c))] fr res news) : GSpec P f [.d (.sl s [])] fr res news := by
 intro w Im vs hI hn hr
 have h0 : vs.size = 1 := hn
 obtain ⟨v,hv⟩ : ∃ v,vs[0]? = some v := ⟨vs[0]'(by omega),by simp⟩
 have key : ∀ (p : Option Addr) (c : Nat),v = .slice p 0 c → Calls P f vs w fun e w' => ∃ v,e = .returned v ∧ RetOk w Im fr res news v w' := fun p c e => by
  refine h p c w Im vs hI hn fun i x u hx hu => ?_
  match i with
  | 0 =>
   simp only [List.getElem?_cons_zero,Option.some.injEq] at hx
   rw [hv] at hu
   cases hu; subst hx; subst e
   exact .d (.sc _ rfl)
  | i + 1 => simp at hx
 have h1 := hr 0 _ v rfl hv
 cases h1 with
 | d h1 =>
  generalize he : ([] : List (List DV)) = l at h1
  cases h1 with
  | slNil s p c => exact key p c rfl
  | sl s els p n c fn hn => subst he; simp at hn; subst hn; exact key _ c rfl
end Go.Sx
namespace Go.Proofs.YtpklpkmnhgedbaaGreat
open Go.Sx
def Heap.dvs (h : Heap) : List DV := [.sc (.int .i64 h.conf.pw),.sc (.int .i64 h.conf.pg),.sl 1 (h.words.map wdv),.sl 4 (h.pages.map Page.dv),.sc (.int .i64 h.space),.sc (.int .i64 h.bump)]
theorem objectAt1R (h : Heap) (a : Int) (hl : h.words.length ≤ 1048576) (h0 : 0 ≤ a ∧ a ≤ 18446744073709551615) : GSpec Tryz.prog 51 [.rp [.sc (.int .i64 h.conf.pw),.sc (.int .i64 h.conf.pg),.sl 1 (h.words.map wdv),.sl 4 (h.pages.map Page.dv),.sc (.int .i64 h.space),.sc (.int .i64 h.bump)] 0,.rp [.sc (.int .u64 a)] 0] true (u64 (loadA h.words a).1) [] := by
 exact gF [] Tryz.func51 [] (Fc 9 (@arenaLoad h.words a ‹_› ‹_›) Fz)
theorem objectAt1 (h : Heap) (a : Int) (hl : h.words.length ≤ 1048576) (h0 : 0 ≤ a ∧ a ≤ 18446744073709551615) : LentSpec Tryz.prog 51 [.pt 0 0 0,.pt 1 0 0] [.box 27 h.cells,.box 29 [u64 a]] (u64 (loadA h.words a).1) [.box 27 h.cells,.box 29 [u64 a]] :=
 lent_ro2 (e0 := h.dvs) (e1 := [.sc (.int .u64 a)]) rfl (objectAt1R h a hl h0)
theorem objectAt (h : Heap) (a : Int) (hw : WOk h.words) (h0 : 0 ≤ a ∧ a ≤ 18446744073709551615) : GSpec Tryz.prog 13 [h.av,u64 a] true (.tu [(atH h a).1.av,int (atH h a).2]) [] := by
 have hv := loadA_range hw a
 have hm := decodeH_map (loadA h.words a).1 hv.1
 by_cases hp : properB h = true
 ·have po := proper_ok hp
  by_cases ho : (ofA h.conf a).2.2 = 0
  ·have oo := ofA_ok po.1 ho
   have hz : (decodeH (loadA h.words a).1).2 = true → sizeH (decodeH (loadA h.words a).1).1 = (decodeH (loadA h.words a).1).1.length + 1 ∧ 0 ≤ (decodeH (loadA h.words a).1).1.length ∧ (decodeH (loadA h.words a).1).1.length ≤ 255 := fun e => by
    have hv := decodeH_ok e
    have := validH_iff.1 hv
    rw [sizeH,if_pos hv]
    omega
   have pp := proper_page hp (j := (ofA h.conf a).1.toNat) (by omega)
   by_cases c3 : ((h.pages.getD (ofA h.conf a).1.toNat default).kind = 1 ∨ (h.pages.getD (ofA h.conf a).1.toNat default).kind = 2) ∧ (ofA h.conf a).2.1 < (h.pages.getD (ofA h.conf a).1.toNat default).used ∧ (decodeH (loadA h.words a).1).2 = true
   ·have hz' := hz c3.2.2
    by_cases c4 : ((h.pages.getD (ofA h.conf a).1.toNat default).kind = 1 ∧ (h.pages.getD (ofA h.conf a).1.toNat default).used < (ofA h.conf a).2.1 + sizeH (decodeH (loadA h.words a).1).1) ∨ ((h.pages.getD (ofA h.conf a).1.toNat default).kind = 2 ∧ ((ofA h.conf a).2.1 ≠ 0 ∨ sizeH (decodeH (loadA h.words a).1).1 ≠ (h.pages.getD (ofA h.conf a).1.toNat default).used))
    ·have e7 : atH h a = (noHdr,19) := by rw [atH,if_pos hp,if_pos ho,if_pos c3,if_pos c4]
     rw [e7]
     rcases Bool.eq_false_or_eq_true (!(decodeH (loadA h.words a).fst).snd || decide ((h.pages.getD (ofA h.conf a).fst.toNat default).used ≤ (ofA h.conf a).snd.fst)) with hc0 | hc0
     ·have hc0p := hc0
      simp only [bs] at hc0p
      exact gE [(15,[Hint.call true (Sx.bool (properB h)) []]),bF 16,(22,[Hint.call true (ofV h.conf a) []]),bF 27,(34,[Hint.el (h.pages.getD (ofA h.conf a).fst.toNat default).dv]),(38,[Hint.lent (u64 (loadA h.words a).fst) [Blk.box 27 h.cells,Blk.box 29 [u64 a]]]),(39,[Hint.call true (AV.tu [(decodeH (loadA h.words a).fst).fst.av,Sx.bool (decodeH (loadA h.words a).fst).snd]) []]),(43,[Hint.call true (int (sizeH (decodeH (loadA h.words a).fst).fst)) []]),bT 44] [] [] Tryz.func13 [] (an (@pageProper h) (an (bo ((!properB h) = false)) (an (rf false) (an (@pageOf h.conf a (by omega) (by omega)) (an (bo (((ofA h.conf a).snd.snd != 0) = false)) (an (rf false) (an (eI (0≤(ofA h.conf a).fst∧(List.map Page.dv h.pages)[(ofA h.conf a).fst.toNat]? = some (h.pages.getD (ofA h.conf a).fst.toNat default).dv)) (an (@objectAt1 h a (by omega) ‹_›) (an (@headerDecode ((loadA h.words a).fst) (by omega) (by omega)) (an (@headerSize ((decodeH (loadA h.words a).fst).fst) ‹_›) ‹(!(decodeH (loadA h.words a).fst).snd||decide ((h.pages.getD (ofA h.conf a).fst.toNat default).used≤(ofA h.conf a).snd.fst)) = true›))))))))))
     ·have hc0p := hc0
      simp only [bs] at hc0p
      obtain ⟨hc0pa,hc0pb⟩ := hc0p
      rcases Bool.eq_false_or_eq_true ((h.pages.getD (ofA h.conf a).fst.toNat default).kind == (1 : Int)) with hc1 | hc1
      ·have hc1p := hc1
       simp only [bs] at hc1p
       exact gE [(15,[Hint.call true (Sx.bool (properB h)) []]),bF 16,(22,[Hint.call true (ofV h.conf a) []]),bF 27,(34,[Hint.el (h.pages.getD (ofA h.conf a).fst.toNat default).dv]),(38,[Hint.lent (u64 (loadA h.words a).fst) [Blk.box 27 h.cells,Blk.box 29 [u64 a]]]),(39,[Hint.call true (AV.tu [(decodeH (loadA h.words a).fst).fst.av,Sx.bool (decodeH (loadA h.words a).fst).snd]) []]),(43,[Hint.call true (int (sizeH (decodeH (loadA h.words a).fst).fst)) []]),bF 44,bT 53,(61,[Hint.int ((h.pages.getD (ofA h.conf a).fst.toNat default).used - (ofA h.conf a).snd.fst)]),bT 76] [] [] Tryz.func13 [] (an (@pageProper h) (an (bo ((!properB h) = false)) (an (rf false) (an (@pageOf h.conf a (by omega) (by omega)) (an (bo (((ofA h.conf a).snd.snd != 0) = false)) (an (rf false) (an (eI (0≤(ofA h.conf a).fst∧(List.map Page.dv h.pages)[(ofA h.conf a).fst.toNat]? = some (h.pages.getD (ofA h.conf a).fst.toNat default).dv)) (an (@objectAt1 h a (by omega) ‹_›) (an (@headerDecode ((loadA h.words a).fst) (by omega) (by omega)) (an (@headerSize ((decodeH (loadA h.words a).fst).fst) ‹_›) (an ‹(!(decodeH (loadA h.words a).fst).snd||decide ((h.pages.getD (ofA h.conf a).fst.toNat default).used≤(ofA h.conf a).snd.fst)) = false› (an ‹((h.pages.getD (ofA h.conf a).fst.toNat default).kind == 1) = true› (an (wI (IntKind.i64.wrap ((h.pages.getD (ofA h.conf a).fst.toNat default).used - (ofA h.conf a).snd.fst) = (h.pages.getD (ofA h.conf a).fst.toNat default).used - (ofA h.conf a).snd.fst)) (an (bo ((!decide (sizeH (decodeH (loadA h.words a).fst).fst≤(h.pages.getD (ofA h.conf a).fst.toNat default).used - (ofA h.conf a).snd.fst))=true)) tt))))))))))))))
      ·have hc1p := hc1
       simp only [bs] at hc1p
       exact gE [(15,[Hint.call true (Sx.bool (properB h)) []]),bF 16,(22,[Hint.call true (ofV h.conf a) []]),bF 27,(34,[Hint.el (h.pages.getD (ofA h.conf a).fst.toNat default).dv]),(38,[Hint.lent (u64 (loadA h.words a).fst) [Blk.box 27 h.cells,Blk.box 29 [u64 a]]]),(39,[Hint.call true (AV.tu [(decodeH (loadA h.words a).fst).fst.av,Sx.bool (decodeH (loadA h.words a).fst).snd]) []]),(43,[Hint.call true (int (sizeH (decodeH (loadA h.words a).fst).fst)) []]),bF 44,bF 53,bT 63,bT 76] [] [] Tryz.func13 [] (an (@pageProper h) (an (bo ((!properB h) = false)) (an (rf false) (an (@pageOf h.conf a (by omega) (by omega)) (an (bo (((ofA h.conf a).snd.snd != 0) = false)) (an (rf false) (an (eI (0≤(ofA h.conf a).fst∧(List.map Page.dv h.pages)[(ofA h.conf a).fst.toNat]? = some (h.pages.getD (ofA h.conf a).fst.toNat default).dv)) (an (@objectAt1 h a (by omega) ‹_›) (an (@headerDecode ((loadA h.words a).fst) (by omega) (by omega)) (an (@headerSize ((decodeH (loadA h.words a).fst).fst) ‹_›) (an ‹(!(decodeH (loadA h.words a).fst).snd||decide ((h.pages.getD (ofA h.conf a).fst.toNat default).used≤(ofA h.conf a).snd.fst)) = false› (an ‹((h.pages.getD (ofA h.conf a).fst.toNat default).kind == 1) = false› (an (bo (((h.pages.getD (ofA h.conf a).fst.toNat default).kind == 2)=true)) (an (bo ((!((ofA h.conf a).snd.fst == 0&&sizeH (decodeH (loadA h.words a).fst).fst == (h.pages.getD (ofA h.conf a).fst.toNat default).used))=true)) tt))))))))))))))
    ·have e7 : atH h a = ((decodeH (loadA h.words a).1).1,0) := by rw [atH,if_pos hp,if_pos ho,if_pos c3,if_neg c4]
     rw [e7]
     rcases Bool.eq_false_or_eq_true (!(decodeH (loadA h.words a).fst).snd || decide ((h.pages.getD (ofA h.conf a).fst.toNat default).used ≤ (ofA h.conf a).snd.fst)) with hc0 | hc0
     ·have hc0p := hc0
      simp only [bs] at hc0p
      exact gE [(15,[Hint.call true (Sx.bool (properB h)) []]),bF 16,(22,[Hint.call true (ofV h.conf a) []]),bF 27,(34,[Hint.el (h.pages.getD (ofA h.conf a).fst.toNat default).dv]),(38,[Hint.lent (u64 (loadA h.words a).fst) [Blk.box 27 h.cells,Blk.box 29 [u64 a]]]),(39,[Hint.call true (AV.tu [(decodeH (loadA h.words a).fst).fst.av,Sx.bool (decodeH (loadA h.words a).fst).snd]) []]),(43,[Hint.call true (int (sizeH (decodeH (loadA h.words a).fst).fst)) []]),bT 44] [] [] Tryz.func13 [false,false,false,false,true] (an (@pageProper h) (an (bo ((!properB h) = false)) (an (rf false) (an (@pageOf h.conf a (by omega) (by omega)) (an (bo (((ofA h.conf a).snd.snd != 0) = false)) (an (rf false) (an (eI (0≤(ofA h.conf a).fst∧(List.map Page.dv h.pages)[(ofA h.conf a).fst.toNat]? = some (h.pages.getD (ofA h.conf a).fst.toNat default).dv)) (an (@objectAt1 h a (by omega) ‹_›) (an (@headerDecode ((loadA h.words a).fst) (by omega) (by omega)) (an (@headerSize ((decodeH (loadA h.words a).fst).fst) ‹_›) (an ‹(!(decodeH (loadA h.words a).fst).snd||decide ((h.pages.getD (ofA h.conf a).fst.toNat default).used≤(ofA h.conf a).snd.fst)) = true› (an (by grind [noHdr] : 0 = (decodeH (loadA h.words a).fst).fst.kind) (an (by grind [noHdr] : 0 = (decodeH (loadA h.words a).fst).fst.length) (an (by grind [noHdr] : 0 = (decodeH (loadA h.words a).fst).fst.map) (by grind [noHdr] : (19 :Int) = 0)))))))))))))))
     ·have hc0p := hc0
      simp only [bs] at hc0p
      obtain ⟨hc0pa,hc0pb⟩ := hc0p
      rcases Bool.eq_false_or_eq_true ((h.pages.getD (ofA h.conf a).fst.toNat default).kind == (1 : Int)) with hc1 | hc1
      ·have hc1p := hc1
       simp only [bs] at hc1p
       exact gE [(15,[Hint.call true (Sx.bool (properB h)) []]),bF 16,(22,[Hint.call true (ofV h.conf a) []]),bF 27,(34,[Hint.el (h.pages.getD (ofA h.conf a).fst.toNat default).dv]),(38,[Hint.lent (u64 (loadA h.words a).fst) [Blk.box 27 h.cells,Blk.box 29 [u64 a]]]),(39,[Hint.call true (AV.tu [(decodeH (loadA h.words a).fst).fst.av,Sx.bool (decodeH (loadA h.words a).fst).snd]) []]),(43,[Hint.call true (int (sizeH (decodeH (loadA h.words a).fst).fst)) []]),bF 44,bT 53,(61,[Hint.int ((h.pages.getD (ofA h.conf a).fst.toNat default).used - (ofA h.conf a).snd.fst)]),bF 76] [] [] Tryz.func13 [] (an (@pageProper h) (an (bo ((!properB h) = false)) (an (rf false) (an (@pageOf h.conf a (by omega) (by omega)) (an (bo (((ofA h.conf a).snd.snd != 0) = false)) (an (rf false) (an (eI (0≤(ofA h.conf a).fst∧(List.map Page.dv h.pages)[(ofA h.conf a).fst.toNat]? = some (h.pages.getD (ofA h.conf a).fst.toNat default).dv)) (an (@objectAt1 h a (by omega) ‹_›) (an (@headerDecode ((loadA h.words a).fst) (by omega) (by omega)) (an (@headerSize ((decodeH (loadA h.words a).fst).fst) ‹_›) (an ‹(!(decodeH (loadA h.words a).fst).snd||decide ((h.pages.getD (ofA h.conf a).fst.toNat default).used≤(ofA h.conf a).snd.fst)) = false› (an ‹((h.pages.getD (ofA h.conf a).fst.toNat default).kind == 1) = true› (an (wI (IntKind.i64.wrap ((h.pages.getD (ofA h.conf a).fst.toNat default).used - (ofA h.conf a).snd.fst) = (h.pages.getD (ofA h.conf a).fst.toNat default).used - (ofA h.conf a).snd.fst)) (an (bo ((!decide (sizeH (decodeH (loadA h.words a).fst).fst≤(h.pages.getD (ofA h.conf a).fst.toNat default).used - (ofA h.conf a).snd.fst)) = false)) (rf false)))))))))))))))
      ·have hc1p := hc1
       simp only [bs] at hc1p
       exact gE [(15,[Hint.call true (Sx.bool (properB h)) []]),bF 16,(22,[Hint.call true (ofV h.conf a) []]),bF 27,(34,[Hint.el (h.pages.getD (ofA h.conf a).fst.toNat default).dv]),(38,[Hint.lent (u64 (loadA h.words a).fst) [Blk.box 27 h.cells,Blk.box 29 [u64 a]]]),(39,[Hint.call true (AV.tu [(decodeH (loadA h.words a).fst).fst.av,Sx.bool (decodeH (loadA h.words a).fst).snd]) []]),(43,[Hint.call true (int (sizeH (decodeH (loadA h.words a).fst).fst)) []]),bF 44,bF 53,bT 63,bF 76] [] [] Tryz.func13 [] (an (@pageProper h) (an (bo ((!properB h) = false)) (an (rf false) (an (@pageOf h.conf a (by omega) (by omega)) (an (bo (((ofA h.conf a).snd.snd != 0) = false)) (an (rf false) (an (eI (0≤(ofA h.conf a).fst∧(List.map Page.dv h.pages)[(ofA h.conf a).fst.toNat]? = some (h.pages.getD (ofA h.conf a).fst.toNat default).dv)) (an (@objectAt1 h a (by omega) ‹_›) (an (@headerDecode ((loadA h.words a).fst) (by omega) (by omega)) (an (@headerSize ((decodeH (loadA h.words a).fst).fst) ‹_›) (an ‹(!(decodeH (loadA h.words a).fst).snd||decide ((h.pages.getD (ofA h.conf a).fst.toNat default).used≤(ofA h.conf a).snd.fst)) = false› (an ‹((h.pages.getD (ofA h.conf a).fst.toNat default).kind == 1) = false› (an (bo (((h.pages.getD (ofA h.conf a).fst.toNat default).kind == 2)=true)) (an (bo ((!((ofA h.conf a).snd.fst == 0&&sizeH (decodeH (loadA h.words a).fst).fst == (h.pages.getD (ofA h.conf a).fst.toNat default).used)) = false)) (rf false)))))))))))))))
   ·have e7 : atH h a = (noHdr,19) := by rw [atH,if_pos hp,if_pos ho,if_neg c3]
    rw [e7]
    rcases Bool.eq_false_or_eq_true (!(decodeH (loadA h.words a).fst).snd || decide ((h.pages.getD (ofA h.conf a).fst.toNat default).used ≤ (ofA h.conf a).snd.fst)) with hc0 | hc0
    ·have hc0p := hc0
     simp only [bs] at hc0p
     exact gE [(15,[Hint.call true (Sx.bool (properB h)) []]),bF 16,(22,[Hint.call true (ofV h.conf a) []]),bF 27,(34,[Hint.el (h.pages.getD (ofA h.conf a).fst.toNat default).dv]),(38,[Hint.lent (u64 (loadA h.words a).fst) [Blk.box 27 h.cells,Blk.box 29 [u64 a]]]),(39,[Hint.call true (AV.tu [(decodeH (loadA h.words a).fst).fst.av,Sx.bool (decodeH (loadA h.words a).fst).snd]) []]),(43,[Hint.call true (int (sizeH (decodeH (loadA h.words a).fst).fst)) []]),bT 44] [] [] Tryz.func13 [] (an (@pageProper h) (an (bo ((!properB h) = false)) (an (rf false) (an (@pageOf h.conf a (by omega) (by omega)) (an (bo (((ofA h.conf a).snd.snd != 0) = false)) (an (rf false) (an (eI (0≤(ofA h.conf a).fst∧(List.map Page.dv h.pages)[(ofA h.conf a).fst.toNat]? = some (h.pages.getD (ofA h.conf a).fst.toNat default).dv)) (an (@objectAt1 h a (by omega) ‹_›) (an (@headerDecode ((loadA h.words a).fst) (by omega) (by omega)) (an (@headerSize ((decodeH (loadA h.words a).fst).fst) ‹_›) ‹(!(decodeH (loadA h.words a).fst).snd||decide ((h.pages.getD (ofA h.conf a).fst.toNat default).used≤(ofA h.conf a).snd.fst)) = true›))))))))))
    ·have hc0p := hc0
     simp only [bs] at hc0p
     obtain ⟨hc0pa,hc0pb⟩ := hc0p
     rcases Bool.eq_false_or_eq_true ((h.pages.getD (ofA h.conf a).fst.toNat default).kind == (1 : Int)) with hc1 | hc1
     ·have hc1p := hc1
      simp only [bs] at hc1p
      rcases Bool.eq_false_or_eq_true (!decide (sizeH (decodeH (loadA h.words a).fst).fst ≤ (h.pages.getD (ofA h.conf a).fst.toNat default).used - (ofA h.conf a).snd.fst)) with hc2 | hc2
      ·have hc2p := hc2
       simp only [bs] at hc2p
       exact gE [(15,[Hint.call true (Sx.bool (properB h)) []]),bF 16,(22,[Hint.call true (ofV h.conf a) []]),bF 27,(34,[Hint.el (h.pages.getD (ofA h.conf a).fst.toNat default).dv]),(38,[Hint.lent (u64 (loadA h.words a).fst) [Blk.box 27 h.cells,Blk.box 29 [u64 a]]]),(39,[Hint.call true (AV.tu [(decodeH (loadA h.words a).fst).fst.av,Sx.bool (decodeH (loadA h.words a).fst).snd]) []]),(43,[Hint.call true (int (sizeH (decodeH (loadA h.words a).fst).fst)) []]),bF 44,bT 53,(61,[Hint.int ((h.pages.getD (ofA h.conf a).fst.toNat default).used - (ofA h.conf a).snd.fst)]),bT 76] [] [] Tryz.func13 [] (an (@pageProper h) (an (bo ((!properB h) = false)) (an (rf false) (an (@pageOf h.conf a (by omega) (by omega)) (an (bo (((ofA h.conf a).snd.snd != 0) = false)) (an (rf false) (an (eI (0≤(ofA h.conf a).fst∧(List.map Page.dv h.pages)[(ofA h.conf a).fst.toNat]? = some (h.pages.getD (ofA h.conf a).fst.toNat default).dv)) (an (@objectAt1 h a (by omega) ‹_›) (an (@headerDecode ((loadA h.words a).fst) (by omega) (by omega)) (an (@headerSize ((decodeH (loadA h.words a).fst).fst) ‹_›) (an ‹(!(decodeH (loadA h.words a).fst).snd||decide ((h.pages.getD (ofA h.conf a).fst.toNat default).used≤(ofA h.conf a).snd.fst)) = false› (an ‹((h.pages.getD (ofA h.conf a).fst.toNat default).kind == 1) = true› (an (wI (IntKind.i64.wrap ((h.pages.getD (ofA h.conf a).fst.toNat default).used - (ofA h.conf a).snd.fst) = (h.pages.getD (ofA h.conf a).fst.toNat default).used - (ofA h.conf a).snd.fst)) (an ‹(!decide (sizeH (decodeH (loadA h.words a).fst).fst≤(h.pages.getD (ofA h.conf a).fst.toNat default).used - (ofA h.conf a).snd.fst)) = true› tt))))))))))))))
      ·have hc2p := hc2
       simp only [bs] at hc2p
       exact gE [(15,[Hint.call true (Sx.bool (properB h)) []]),bF 16,(22,[Hint.call true (ofV h.conf a) []]),bF 27,(34,[Hint.el (h.pages.getD (ofA h.conf a).fst.toNat default).dv]),(38,[Hint.lent (u64 (loadA h.words a).fst) [Blk.box 27 h.cells,Blk.box 29 [u64 a]]]),(39,[Hint.call true (AV.tu [(decodeH (loadA h.words a).fst).fst.av,Sx.bool (decodeH (loadA h.words a).fst).snd]) []]),(43,[Hint.call true (int (sizeH (decodeH (loadA h.words a).fst).fst)) []]),bF 44,bT 53,(61,[Hint.int ((h.pages.getD (ofA h.conf a).fst.toNat default).used - (ofA h.conf a).snd.fst)]),bF 76] [] [] Tryz.func13 [false,false,false,false,true] (an (@pageProper h) (an (bo ((!properB h) = false)) (an (rf false) (an (@pageOf h.conf a (by omega) (by omega)) (an (bo (((ofA h.conf a).snd.snd != 0) = false)) (an (rf false) (an (eI (0≤(ofA h.conf a).fst∧(List.map Page.dv h.pages)[(ofA h.conf a).fst.toNat]? = some (h.pages.getD (ofA h.conf a).fst.toNat default).dv)) (an (@objectAt1 h a (by omega) ‹_›) (an (@headerDecode ((loadA h.words a).fst) (by omega) (by omega)) (an (@headerSize ((decodeH (loadA h.words a).fst).fst) ‹_›) (an ‹(!(decodeH (loadA h.words a).fst).snd||decide ((h.pages.getD (ofA h.conf a).fst.toNat default).used≤(ofA h.conf a).snd.fst)) = false› (an ‹((h.pages.getD (ofA h.conf a).fst.toNat default).kind == 1) = true› (an (wI (IntKind.i64.wrap ((h.pages.getD (ofA h.conf a).fst.toNat default).used - (ofA h.conf a).snd.fst) = (h.pages.getD (ofA h.conf a).fst.toNat default).used - (ofA h.conf a).snd.fst)) (an ‹(!decide (sizeH (decodeH (loadA h.words a).fst).fst≤(h.pages.getD (ofA h.conf a).fst.toNat default).used - (ofA h.conf a).snd.fst)) = false› (an (rf false) (an (by grind [noHdr] : (decodeH (loadA h.words a).fst).fst.kind = 0) (an (by grind [noHdr] : (decodeH (loadA h.words a).fst).fst.length = 0) (an (by grind [noHdr] : (decodeH (loadA h.words a).fst).fst.map = 0) (by grind [noHdr] : (0 :Int) = 19)))))))))))))))))))
     ·have hc1p := hc1
      simp only [bs] at hc1p
      rcases Bool.eq_false_or_eq_true ((h.pages.getD (ofA h.conf a).fst.toNat default).kind == (2 : Int)) with hc3 | hc3
      ·have hc3p := hc3
       simp only [bs] at hc3p
       rcases Bool.eq_false_or_eq_true (!((ofA h.conf a).snd.fst == (0 : Int) && sizeH (decodeH (loadA h.words a).fst).fst == (h.pages.getD (ofA h.conf a).fst.toNat default).used)) with hc4 | hc4
       ·have hc4p := hc4
        simp only [bs] at hc4p
        exact gE [(15,[Hint.call true (Sx.bool (properB h)) []]),bF 16,(22,[Hint.call true (ofV h.conf a) []]),bF 27,(34,[Hint.el (h.pages.getD (ofA h.conf a).fst.toNat default).dv]),(38,[Hint.lent (u64 (loadA h.words a).fst) [Blk.box 27 h.cells,Blk.box 29 [u64 a]]]),(39,[Hint.call true (AV.tu [(decodeH (loadA h.words a).fst).fst.av,Sx.bool (decodeH (loadA h.words a).fst).snd]) []]),(43,[Hint.call true (int (sizeH (decodeH (loadA h.words a).fst).fst)) []]),bF 44,bF 53,bT 63,bT 76] [] [] Tryz.func13 [] (an (@pageProper h) (an (bo ((!properB h) = false)) (an (rf false) (an (@pageOf h.conf a (by omega) (by omega)) (an (bo (((ofA h.conf a).snd.snd != 0) = false)) (an (rf false) (an (eI (0≤(ofA h.conf a).fst∧(List.map Page.dv h.pages)[(ofA h.conf a).fst.toNat]? = some (h.pages.getD (ofA h.conf a).fst.toNat default).dv)) (an (@objectAt1 h a (by omega) ‹_›) (an (@headerDecode ((loadA h.words a).fst) (by omega) (by omega)) (an (@headerSize ((decodeH (loadA h.words a).fst).fst) ‹_›) (an ‹(!(decodeH (loadA h.words a).fst).snd||decide ((h.pages.getD (ofA h.conf a).fst.toNat default).used≤(ofA h.conf a).snd.fst)) = false› (an ‹((h.pages.getD (ofA h.conf a).fst.toNat default).kind == 1) = false› (an ‹((h.pages.getD (ofA h.conf a).fst.toNat default).kind == 2) = true› (an ‹(!((ofA h.conf a).snd.fst == 0&&sizeH (decodeH (loadA h.words a).fst).fst == (h.pages.getD (ofA h.conf a).fst.toNat default).used)) = true› tt))))))))))))))
       ·have hc4p := hc4
        simp only [bs] at hc4p
        obtain ⟨hc4pa,hc4pb⟩ := hc4p
        exact gE [(15,[Hint.call true (Sx.bool (properB h)) []]),bF 16,(22,[Hint.call true (ofV h.conf a) []]),bF 27,(34,[Hint.el (h.pages.getD (ofA h.conf a).fst.toNat default).dv]),(38,[Hint.lent (u64 (loadA h.words a).fst) [Blk.box 27 h.cells,Blk.box 29 [u64 a]]]),(39,[Hint.call true (AV.tu [(decodeH (loadA h.words a).fst).fst.av,Sx.bool (decodeH (loadA h.words a).fst).snd]) []]),(43,[Hint.call true (int (sizeH (decodeH (loadA h.words a).fst).fst)) []]),bF 44,bF 53,bT 63,bF 76] [] [] Tryz.func13 [false,false,false,false,false,false,false,false,true] (an (@pageProper h) (an (bo ((!properB h) = false)) (an (rf false) (an (@pageOf h.conf a (by omega) (by omega)) (an (bo (((ofA h.conf a).snd.snd != 0) = false)) (an (rf false) (an (eI (0≤(ofA h.conf a).fst∧(List.map Page.dv h.pages)[(ofA h.conf a).fst.toNat]? = some (h.pages.getD (ofA h.conf a).fst.toNat default).dv)) (an (@objectAt1 h a (by omega) ‹_›) (an (@headerDecode ((loadA h.words a).fst) (by omega) (by omega)) (an (@headerSize ((decodeH (loadA h.words a).fst).fst) ‹_›) (an ‹(!(decodeH (loadA h.words a).fst).snd||decide ((h.pages.getD (ofA h.conf a).fst.toNat default).used≤(ofA h.conf a).snd.fst)) = false› (an ‹((h.pages.getD (ofA h.conf a).fst.toNat default).kind == 1) = false› (an ‹((h.pages.getD (ofA h.conf a).fst.toNat default).kind == 2) = true› (an ‹(!((ofA h.conf a).snd.fst == 0&&sizeH (decodeH (loadA h.words a).fst).fst == (h.pages.getD (ofA h.conf a).fst.toNat default).used)) = false› (an (rf false) (an (by grind [noHdr] : (decodeH (loadA h.words a).fst).fst.kind = 0) (an (by grind [noHdr] : (decodeH (loadA h.words a).fst).fst.length = 0) (an (by grind [noHdr] : (decodeH (loadA h.words a).fst).fst.map = 0) (by grind [noHdr] : (0 :Int) = 19)))))))))))))))))))
      ·have hc3p := hc3
       simp only [bs] at hc3p
       exact gE [(15,[Hint.call true (Sx.bool (properB h)) []]),bF 16,(22,[Hint.call true (ofV h.conf a) []]),bF 27,(34,[Hint.el (h.pages.getD (ofA h.conf a).fst.toNat default).dv]),(38,[Hint.lent (u64 (loadA h.words a).fst) [Blk.box 27 h.cells,Blk.box 29 [u64 a]]]),(39,[Hint.call true (AV.tu [(decodeH (loadA h.words a).fst).fst.av,Sx.bool (decodeH (loadA h.words a).fst).snd]) []]),(43,[Hint.call true (int (sizeH (decodeH (loadA h.words a).fst).fst)) []]),bF 44,bF 53,bF 63] [] [] Tryz.func13 [] (an (@pageProper h) (an (bo ((!properB h) = false)) (an (rf false) (an (@pageOf h.conf a (by omega) (by omega)) (an (bo (((ofA h.conf a).snd.snd != 0) = false)) (an (rf false) (an (eI (0≤(ofA h.conf a).fst∧(List.map Page.dv h.pages)[(ofA h.conf a).fst.toNat]? = some (h.pages.getD (ofA h.conf a).fst.toNat default).dv)) (an (@objectAt1 h a (by omega) ‹_›) (an (@headerDecode ((loadA h.words a).fst) (by omega) (by omega)) (an (@headerSize ((decodeH (loadA h.words a).fst).fst) ‹_›) (an ‹(!(decodeH (loadA h.words a).fst).snd||decide ((h.pages.getD (ofA h.conf a).fst.toNat default).used≤(ofA h.conf a).snd.fst)) = false› (an ‹((h.pages.getD (ofA h.conf a).fst.toNat default).kind == 1) = false› ‹((h.pages.getD (ofA h.conf a).fst.toNat default).kind == 2) = false›))))))))))))
  ·have e7 : atH h a = (noHdr,2) := by rw [atH,if_pos hp,if_neg ho]
   have e2 : (ofA h.conf a).2.2 = 2 := by
    unfold ofA at ho ⊢
    rw [if_pos po.1] at ho ⊢
    split at ho
    ·simp at ho
    ·rename_i q; rw [if_neg q]
   rw [e7]
   exact gE [(15,[Hint.call true (Sx.bool (properB h)) []]),bF 16,(22,[Hint.call true (ofV h.conf a) []]),bT 27] [] [] Tryz.func13 [true] (an (@pageProper h) (an (bo ((!properB h) = false)) (an (rf false) (an (@pageOf h.conf a (by omega) (by omega)) (an (bo (((ofA h.conf a).snd.snd != 0)=true)) (an tt (an (rf (0 : Int)) (an (rf (0 : Int)) (an (rf (0 : Int)) ‹(ofA h.conf a).snd.snd = 2›)))))))))
 ·have e7 : atH h a = (noHdr,1) := by rw [atH,if_neg hp]
  have hp' : properB h = false := by simpa using hp
  rw [e7]
  exact gE [(15,[Hint.call true (Sx.bool (properB h)) []]),bT 16] [] [] Tryz.func13 [] (an (@pageProper h) (an (bo ((!properB h)=true)) tt))
theorem atH_err {h : Heap} {a : Int} (e : ¬ (atH h a).2 = 0) : (atH h a).1.kind = 0 ∧ (atH h a).1.length = 0 ∧ (atH h a).1.map = 0 := by
 unfold atH at e ⊢
 split at e
 ·rename_i h1
  rw [if_pos h1]
  split at e
  ·rename_i h2
   rw [if_pos h2]
   split at e
   ·rename_i h3
    rw [if_pos h3]
    split at e
    ·rename_i h4
     rw [if_pos h4]
     exact ⟨rfl,rfl,rfl⟩
    ·exact absurd rfl e
   ·rename_i h3
    rw [if_neg h3]
    exact ⟨rfl,rfl,rfl⟩
  ·rename_i h2
   rw [if_neg h2]
   exact ⟨rfl,rfl,rfl⟩
 ·rename_i h1
  rw [if_neg h1]
  exact ⟨rfl,rfl,rfl⟩
theorem objectGet (h : Heap) (a : Int) (hw : WOk h.words) (h0 : 0 ≤ a ∧ a ≤ 18446744073709551615) : GSpec Tryz.prog 15 [h.av,u64 a] true (.tu [(getH h a).1.av,int (getH h a).2]) [] := by
 rcases bb (!properB h) with hc0 | hc0<;>have hc0p:=hc0<;>simp only [bs] at hc0p
 ·exact gF [] Tryz.func15 [true] (Fc 9 (@pageProper h) (Ft 10 hc0 (Fa (by simp [getH,noHdr, *] : 0 =(getH h a).fst.kind) (Fa (by simp [getH,noHdr, *] : 0 =(getH h a).fst.length) (Fa (by simp [getH,noHdr, *] : 0 =(getH h a).fst.map) (Fa (by simp [getH,noHdr, *] : 1 =(getH h a).snd) Fz))))))
 ·rcases bb (a == 0) with hc5 | hc5<;>have hc5p:=hc5<;>simp only [bs] at hc5p
  ·exact gF [] Tryz.func15 [true] (Fc 9 (@pageProper h) (Ff 10 hc0 (Ft 13 hc5 (Fa (by simp [getH,noHdr, *] : 0 =(getH h a).fst.kind) (Fa (by simp [getH,noHdr, *] : 0 =(getH h a).fst.length) (Fa (by simp [getH,noHdr, *] : 0 =(getH h a).fst.map) (Fa (by simp [getH,noHdr, *] : 5 =(getH h a).snd) Fz)))))))
  ·rcases bb ((atH h a).snd != 0) with hc10 | hc10<;>have hc10p:=hc10<;>simp only [bs] at hc10p
   ·have hf11 := atH_err hc10p
    obtain ⟨hf11a,⟨hf11ba,hf11bb⟩⟩ := hf11
    exact gF [] Tryz.func15 [true] (Fh 21 [.br true] (Fc 9 (@pageProper h) (Ff 10 hc0 (Ff 13 hc5 (Fc 18 (@objectAt h a ‹_› ‹_›) (Fa hc10 (Fa (by simp [getH,noHdr, *] : 0 =(getH h a).fst.kind) (Fa (by simp [getH,noHdr, *] : 0 =(getH h a).fst.length) (Fa (by simp [getH,noHdr, *] : 0 =(getH h a).fst.map) (Fa (by simp [getH,noHdr, *] : (atH h a).snd =(getH h a).snd) Fz))))))))))
   ·rcases bb ((atH h a).fst.kind == 0) with hc15 | hc15<;>have hc15p:=hc15<;>simp only [bs] at hc15p
    ·exact gF [] Tryz.func15 [true] (Fh 21 [.br false] (Fh 26 [.br true] (Fc 9 (@pageProper h) (Ff 10 hc0 (Ff 13 hc5 (Fc 18 (@objectAt h a ‹_› ‹_›) (Fa hc10 (Fa hc15 (Fa (by simp [getH,noHdr, *] : 0 =(getH h a).fst.kind) (Fa (by simp [getH,noHdr, *] : 0 =(getH h a).fst.length) (Fa (by simp [getH,noHdr, *] : 0 =(getH h a).fst.map) (Fa (by simp [getH,noHdr, *] : 4 =(getH h a).snd) Fz))))))))))))
    ·exact gF [] Tryz.func15 [true] (Fh 21 [.br false] (Fh 26 [.br false] (Fc 9 (@pageProper h) (Ff 10 hc0 (Ff 13 hc5 (Fc 18 (@objectAt h a ‹_› ‹_›) (Fa hc10 (Fa hc15 (Fa (by simp [getH,noHdr, *] : (atH h a).fst.kind =(getH h a).fst.kind) (Fa (by simp [getH,noHdr, *] : (atH h a).fst.length =(getH h a).fst.length) (Fa (by simp [getH,noHdr, *] : (atH h a).fst.map =(getH h a).fst.map) (Fa (by simp [getH,noHdr, *] : 0 =(getH h a).snd) Fz))))))))))))
def lightB (h : Heap) : Bool := decide (h.words.length ≤ 5000 ∧ h.pages.length ≤ 100)
def heapsF (raw : Heap) (tape odd : List Int) : List Heap := [(makeF tape).heap,((makeF tape).spoil ⟨odd,0⟩).heap] ++ (if lightB raw = true then [raw] else [])
def nearF (h : Heap) (a : Int) : List Int := [a,0,4096 + a % 5000] ++ (if 0 < (startsW h).1.length then [(startsW h).1.getD (a % (startsW h).1.length).toNat default,(startsW h).1.getD (a % (startsW h).1.length).toNat default + 1] else [])
theorem law5near (h : Heap) (a : Int) (hw : WOk h.words) (h0 : 0 ≤ a ∧ a ≤ 18446744073709551615) : GSpec Tryz.prog 12 [h.av,u64 a] true (wordsV (nearF h a)) [] := by
 have hl := startsW_len h
 by_cases hc : 0 < (startsW h).1.length
 ·have hm1 := Int.emod_nonneg a (b := ((startsW h).1.length : Int)) (by omega)
  have hm2 := Int.emod_lt_of_pos a (b := ((startsW h).1.length : Int)) (by omega)
  have hr := startsW_range h _ (getD_mem_iff.2 ⟨(a % ((startsW h).1.length : Int)).toNat,by omega,rfl⟩)
  have hx : IntKind.u64.wrap ((startsW h).1.getD (a % ((startsW h).1.length : Int)).toNat default + 1) = (startsW h).1.getD (a % ((startsW h).1.length : Int)).toNat default + 1 := wrapU' (by omega) (by omega)
  have e7 : nearF h a = [a,0,4096 + a % 5000,(startsW h).1.getD (a % (startsW h).1.length).toNat default,(startsW h).1.getD (a % (startsW h).1.length).toNat default + 1] := by rw [nearF,if_pos hc]; rfl
  rw [e7]
  refine gspec_ofE [((11 : Nat),[Hint.call false (AV.tu [wordsV (startsW h).fst,int (startsW h).snd]) []]),((16 : Nat),[Hint.int (a % (5000 : Int))]),((17 : Nat),[Hint.int ((4096 : Int) + a % (5000 : Int))]),((18 : Nat),[Hint.els (List.map wdv [a,(0 : Int),(4096 : Int) + a % (5000 : Int)])]),((20 : Nat),[Hint.int (↑(startsW h).fst.length : Int)]),((21 : Nat),[Hint.br true]),((25 : Nat),[Hint.int (↑(startsW h).fst.length : Int)]),((26 : Nat),[Hint.int (↑(startsW h).fst.length : Int)]),((27 : Nat),[Hint.int (a % (↑(startsW h).fst.length : Int))]),((28 : Nat),[Hint.el (wdv ((startsW h).fst.getD (a % (↑(startsW h).fst.length : Int)).toNat default))]),((33 : Nat),[Hint.int ((startsW h).fst.getD (a % (↑(startsW h).fst.length : Int)).toNat default + (1 : Int))]),((34 : Nat),[Hint.els (List.map wdv [(startsW h).fst.getD (a % (↑(startsW h).fst.length : Int)).toNat default,(startsW h).fst.getD (a % (↑(startsW h).fst.length : Int)).toNat default + (1 : Int)])]),((35 : Nat),[Hint.els (List.map wdv [a,(0 : Int),(4096 : Int) + a % (5000 : Int),(startsW h).fst.getD (a % (↑(startsW h).fst.length : Int)).toNat default,(startsW h).fst.getD (a % (↑(startsW h).fst.length : Int)).toNat default + (1 : Int)])])] [] [] (by decide) Tryz.func12 [] (φ := GSpec Tryz.prog 48 [h.av] false (AV.tu [wordsV (startsW h).fst,int (startsW h).snd]) [] ∧ a.tmod (5000 : Int) = a % (5000 : Int) ∧ (5000 : Int) ≠ (0 : Int) ∧ IntKind.u64.wrap ((4096 : Int) + a % (5000 : Int)) = (4096 : Int) + a % (5000 : Int) ∧ (((List.replicate (3 : Nat) [du64 (0 : Int)]).set ((0 : Nat),Operand.tmp (14 : Nat)).fst [du64 a]).set ((1 : Nat),Operand.const (Value.int IntKind.u64 (0 : Int))).fst [du64 (0 : Int)]).set ((2 : Nat),Operand.tmp (17 : Nat)).fst [du64 ((4096 : Int) + a % (5000 : Int))] = List.map wdv [a,(0 : Int),(4096 : Int) + a % (5000 : Int)] ∧ (↑(List.map wdv (startsW h).fst).length : Int) = (↑(startsW h).fst.length : Int) ∧ decide ((0 : Int) < (↑(startsW h).fst.length : Int)) = true ∧ true = true ∧ (↑(List.map wdv (startsW h).fst).length : Int) = (↑(startsW h).fst.length : Int) ∧ IntKind.u64.wrap (↑(startsW h).fst.length : Int) = (↑(startsW h).fst.length : Int) ∧ a.tmod (↑(startsW h).fst.length : Int) = a % (↑(startsW h).fst.length : Int) ∧ (↑(startsW h).fst.length : Int) ≠ (0 : Int) ∧ ((0 : Int) ≤ a % (↑(startsW h).fst.length : Int) ∧ (List.map wdv (startsW h).fst)[(a % (↑(startsW h).fst.length : Int)).toNat]? = some (wdv ((startsW h).fst.getD (a % (↑(startsW h).fst.length : Int)).toNat default))) ∧ IntKind.u64.wrap ((startsW h).fst.getD (a % (↑(startsW h).fst.length : Int)).toNat default + (1 : Int)) = (startsW h).fst.getD (a % (↑(startsW h).fst.length : Int)).toNat default + (1 : Int) ∧ ((List.replicate (2 : Nat) [du64 (0 : Int)]).set ((0 : Nat),Operand.tmp (31 : Nat)).fst [du64 ((startsW h).fst.getD (a % (↑(startsW h).fst.length : Int)).toNat default)]).set ((1 : Nat),Operand.tmp (33 : Nat)).fst [du64 ((startsW h).fst.getD (a % (↑(startsW h).fst.length : Int)).toNat default + (1 : Int))] = List.map wdv [(startsW h).fst.getD (a % (↑(startsW h).fst.length : Int)).toNat default,(startsW h).fst.getD (a % (↑(startsW h).fst.length : Int)).toNat default + (1 : Int)] ∧ (List.map wdv [a,(0 : Int),(4096 : Int) + a % (5000 : Int)]).length + (List.map wdv [(startsW h).fst.getD (a % (↑(startsW h).fst.length : Int)).toNat default,(startsW h).fst.getD (a % (↑(startsW h).fst.length : Int)).toNat default + (1 : Int)]).length ≤ (2 : Nat) ^ (30 : Nat) ∧ List.map wdv [a,(0 : Int),(4096 : Int) + a % (5000 : Int)] ++ List.map wdv [(startsW h).fst.getD (a % (↑(startsW h).fst.length : Int)).toNat default,(startsW h).fst.getD (a % (↑(startsW h).fst.length : Int)).toNat default + (1 : Int)] = List.map wdv [a,(0 : Int),(4096 : Int) + a % (5000 : Int),(startsW h).fst.getD (a % (↑(startsW h).fst.length : Int)).toNat default,(startsW h).fst.getD (a % (↑(startsW h).fst.length : Int)).toNat default + (1 : Int)] ∧ FlatEls (List.map wdv [a,(0 : Int),(4096 : Int) + a % (5000 : Int),(startsW h).fst.getD (a % (↑(startsW h).fst.length : Int)).toNat default,(startsW h).fst.getD (a % (↑(startsW h).fst.length : Int)).toNat default + (1 : Int)])) ?_ (by kernel_rfl) (by kernel_rfl)
  exact ⟨(@ref6Starts (h) ‹_›),(by exact Int.tmod_eq_emod_of_nonneg (by omega)),(by decide),(by exact wrapU2 rfl (by omega) (by omega)),rfl,(by simp only [List.length_map]),(by (simp only [bs]; omega)),rfl,(by simp only [List.length_map]),(by exact wrapU2 rfl (by omega) (by omega)),(by exact Int.tmod_eq_emod_of_nonneg (by omega)),(by omega),(by exact elI (by omega) (by omega) (by omega)),(by rw [hx]),rfl,(by simp [*]),rfl,(by exact flat_wdv _)⟩
 ·have e7 : nearF h a = [a,0,4096 + a % 5000] := by rw [nearF,if_neg hc]; rfl
  rw [e7]
  refine gspec_ofE [((11 : Nat),[Hint.call false (AV.tu [wordsV (startsW h).fst,int (startsW h).snd]) []]),((16 : Nat),[Hint.int (a % (5000 : Int))]),((17 : Nat),[Hint.int ((4096 : Int) + a % (5000 : Int))]),((18 : Nat),[Hint.els (List.map wdv [a,(0 : Int),(4096 : Int) + a % (5000 : Int)])]),((20 : Nat),[Hint.int (↑(startsW h).fst.length : Int)]),((21 : Nat),[Hint.br false])] [] [] (by decide) Tryz.func12 [] (φ := GSpec Tryz.prog 48 [h.av] false (AV.tu [wordsV (startsW h).fst,int (startsW h).snd]) [] ∧ a.tmod (5000 : Int) = a % (5000 : Int) ∧ (5000 : Int) ≠ (0 : Int) ∧ IntKind.u64.wrap ((4096 : Int) + a % (5000 : Int)) = (4096 : Int) + a % (5000 : Int) ∧ (((List.replicate (3 : Nat) [du64 (0 : Int)]).set ((0 : Nat),Operand.tmp (14 : Nat)).fst [du64 a]).set ((1 : Nat),Operand.const (Value.int IntKind.u64 (0 : Int))).fst [du64 (0 : Int)]).set ((2 : Nat),Operand.tmp (17 : Nat)).fst [du64 ((4096 : Int) + a % (5000 : Int))] = List.map wdv [a,(0 : Int),(4096 : Int) + a % (5000 : Int)] ∧ (↑(List.map wdv (startsW h).fst).length : Int) = (↑(startsW h).fst.length : Int) ∧ decide ((0 : Int) < (↑(startsW h).fst.length : Int)) = false ∧ false = false ∧ FlatEls (List.map wdv [a,(0 : Int),(4096 : Int) + a % (5000 : Int)])) ?_ (by kernel_rfl) (by kernel_rfl)
  exact ⟨(@ref6Starts (h) ‹_›),(by exact Int.tmod_eq_emod_of_nonneg (by omega)),(by decide),(by exact wrapU2 rfl (by omega) (by omega)),rfl,(by simp only [List.length_map]),(by (simp only [bs]; omega)),rfl,(by exact flat_wdv _)⟩
theorem law5heaps (raw : Heap) (tape odd : List Int) (h1 : tape.length ≤ 140737488355328) (h2 : odd.length ≤ 140737488355328) : GSpec Tryz.prog 11 [raw.av,intsV tape,intsV odd] false (.d (.sl 6 ((heapsF raw tape odd).map Heap.dvs))) [] := by
 have hm := makeF_ok tape
 have ht : TOk ⟨odd,0⟩ := by simp [TOk]; omega
 have hus : ∀ j,j < (makeF tape).heap.pages.length → -1099511627776 ≤ ((makeF tape).heap.pages.getD j default).used ∧ ((makeF tape).heap.pages.getD j default).used ≤ 1099511627776 := fun j hj => by
  have := hm.us j hj; omega
 by_cases hl : raw.words.length ≤ 5000 ∧ raw.pages.length ≤ 100
 ·have e7 : heapsF raw tape odd = [(makeF tape).heap,((makeF tape).spoil ⟨odd,0⟩).heap,raw] := by rw [heapsF,if_pos (by simp only [lightB,decide_eq_true_eq]; exact hl)]; rfl
  rw [e7]
  exact gE [(10,[Hint.call false (makeF tape).av []]),(17,[Hint.lent ((makeF tape).spoil (Tape.mk odd 0)).av [((makeF tape).spoilT (Tape.mk odd 0)).b]]),(21,[Hint.call true (Sx.bool (decide (raw.words.length≤5000∧raw.pages.length≤100))) [],.br true])] [] [] Tryz.func11 [] (an (@madeMake tape ‹_›) (an (@madeSpoil (makeF tape) (Tape.mk odd 0) ‹_› ‹_› (by (simp only [bs]; omega)) ‹_›) (an (@madeLight raw) (an (bo (decide (raw.words.length≤5000∧raw.pages.length≤100)=true)) (by simp [*] : (((List.replicate 2 [dint 0,dint 0,DV.sl 0 [],DV.sl 0 [],dint 0,dint 0]).set 0 [dint (makeF tape).heap.conf.pw,dint (makeF tape).heap.conf.pg,DV.sl 1 (List.map wdv (makeF tape).heap.words),DV.sl 4 (List.map Page.dv (makeF tape).heap.pages),dint (makeF tape).heap.space,dint (makeF tape).heap.bump]).set 1 [dint ((makeF tape).spoil (Tape.mk odd 0)).heap.conf.pw,dint ((makeF tape).spoil (Tape.mk odd 0)).heap.conf.pg,DV.sl 1 (List.map wdv ((makeF tape).spoil (Tape.mk odd 0)).heap.words),DV.sl 4 (List.map Page.dv ((makeF tape).spoil (Tape.mk odd 0)).heap.pages),dint ((makeF tape).spoil (Tape.mk odd 0)).heap.space,dint ((makeF tape).spoil (Tape.mk odd 0)).heap.bump]).length + ((List.replicate 1 [dint 0,dint 0,DV.sl 0 [],DV.sl 0 [],dint 0,dint 0]).set 0 [dint raw.conf.pw,dint raw.conf.pg,DV.sl 1 (List.map wdv raw.words),DV.sl 4 (List.map Page.dv raw.pages),dint raw.space,dint raw.bump]).length≤2 ^ 30)))))
 ·have e7 : heapsF raw tape odd = [(makeF tape).heap,((makeF tape).spoil ⟨odd,0⟩).heap] := by rw [heapsF,if_neg (by simp only [lightB,decide_eq_true_eq]; exact hl)]; rfl
  rw [e7]
  exact gE [(10,[Hint.call false (makeF tape).av []]),(17,[Hint.lent ((makeF tape).spoil (Tape.mk odd 0)).av [((makeF tape).spoilT (Tape.mk odd 0)).b]]),(21,[Hint.call true (Sx.bool (decide (raw.words.length≤5000∧raw.pages.length≤100))) [],.br false])] [] [] Tryz.func11 [] (an (@madeMake tape ‹_›) (an (@madeSpoil (makeF tape) (Tape.mk odd 0) ‹_› ‹_› (by (simp only [bs]; omega)) ‹_›) (an (@madeLight raw) (bo (decide (raw.words.length≤5000∧raw.pages.length≤100) = false)))))
end Go.Proofs.YtpklpkmnhgedbaaGreat
