/-
 The statement AllocSizes: part 11.
 Conditions: none.
-/
import Derived.Test.YtpklpkmnhgedbaaGreatM10
set_option maxRecDepth 100000
set_option linter.all false
namespace Go.Proofs.YtpklpkmnhgedbaaGreat
open Go.Sx
theorem madeLight (h : Heap) : GSpec Tryz.prog 47 [h.av] true (bool (decide (h.words.length ≤ 5000 ∧ h.pages.length ≤ 100))) [] := by
 exact gF [] Tryz.func47 [false,false,false,false,true] (Fh 10 [.int ↑h.pages.length] (Fl 5 wdv h.words (Fa (by intro hg; (try simp only [bs] at hg); simp only [List.length_map] : decide ((↑h.words.length : Int)≤5000) =true→(↑(List.map Page.dv h.pages).length : Int) =(↑h.pages.length : Int)) (Fa (by grind [] : (decide ((↑h.words.length : Int)≤5000)&&decide ((↑h.pages.length : Int)≤100)) =decide (h.words.length≤5000∧h.pages.length≤100)) Fz))))
theorem sp_worldStep (w : WorldM) (t : Tape) (n : Nat) (hm : MOk w n) (hn : n ≤ 1000000) (ht : TOk t) (ha : t.at' ≤ 900000) : LentSpec Tryz.prog 68 [w.av,.pt 0 0 0] [t.b] (w.step t).av [(w.stepT t).b] :=
 worldStep w t n hm hn ht ha
structure TUp (n : Int) (t u : Tape) : Prop where
 l : u.l = t.l
 lo : t.at' ≤ u.at'
 hi : u.at' ≤ t.at' + n
theorem TUp.step (t : Tape) (n : Int) : TUp 1 t (t.step n) := by
 have := step_at (t := t) n
 exact ⟨this.2.2,this.1,this.2.1⟩
theorem TUp.trans {m n : Int} {t u v : Tape} (h1 : TUp m t u) (h2 : TUp n u v) : TUp (m + n) t v :=
 ⟨h2.l.trans h1.l,by have := h1.lo; have := h2.lo; omega,by have := h1.hi; have := h2.hi; omega⟩
theorem TUp.mono {m n : Int} {t u : Tape} (h : TUp m t u) (hmn : m ≤ n) : TUp n t u := ⟨h.l,h.lo,by have := h.hi; omega⟩
theorem headerT_up (t : Tape) (c : Conf) : TUp 10 t (t.headerT c) := by
 have h1 : TUp 4 t (hdr1T t c) := by
  unfold hdr1T
  split
  ·exact (((TUp.step t _).trans (TUp.step _ 12)).trans (TUp.step _ _)).mono (by decide)
  ·exact ((TUp.step t _).trans (TUp.step _ 12)).mono (by decide)
 unfold Tape.headerT
 repeat' split
 ·exact (h1.trans (TUp.step _ 4)).mono (by decide)
 ·exact (h1.trans (TUp.step _ 4)).mono (by decide)
 ·exact ((h1.trans (TUp.step _ 4)).trans (TUp.step _ _)).mono (by decide)
theorem linkT_up (w : WorldM) (t : Tape) : TUp 10 t (w.linkT t) := by
 have h1 : TUp 1 t (w.pickT t) := TUp.step _ _
 have h2 : TUp 1 (w.pickT t) (w.pickT (w.pickT t)) := TUp.step _ _
 unfold WorldM.linkT
 split
 ·exact ((((h1.trans h2).trans (TUp.step _ 8))).trans (TUp.step _ _)).mono (by decide)
 ·exact ((h1.trans h2).trans (TUp.step _ 8)).mono (by decide)
theorem stepT_up (w : WorldM) (t : Tape) : (w.stepT t).l = t.l ∧ t.at' + 1 ≤ (w.stepT t).at' ∧ (w.stepT t).at' ≤ t.at' + 20 := by
 have h0 : (t.step 12).at' = t.at' + 1 ∧ (t.step 12).l = t.l := by simp [Tape.step]
 have key : TUp 10 (t.step 12) (w.stepT t) := by
  unfold WorldM.stepT
  repeat' split
  ·exact headerT_up _ _
  ·exact linkT_up _ _
  ·unfold WorldM.pinT
   split
   ·exact ((TUp.step _ _).trans (TUp.step _ 2)).mono (by decide)
   ·exact (TUp.step _ _).mono (by decide)
  ·unfold WorldM.dropT
   split
   ·exact ((TUp.step _ _).trans (TUp.step _ 3)).mono (by decide)
   ·exact ⟨rfl,by omega,by omega⟩
  ·exact ⟨rfl,by omega,by omega⟩
  ·exact (TUp.step _ _).mono (by decide)
 have a := key.l
 have b := key.lo
 have c := key.hi
 exact ⟨a.trans h0.2,by omega,by omega⟩
def mkS (w : WorldM) (t : Tape) : Nat → WorldM × Tape
 | 0 => (w,t)
 | k + 1 => ((mkS w t k).1.step (mkS w t k).2,(mkS w t k).1.stepT (mkS w t k).2)
def mkB (w : WorldM) (t : Tape) (k : Nat) : Bool := decide (((mkS w t k).2.l.length : Int) ≤ (mkS w t k).2.at')
def mkN (w : WorldM) (t : Tape) : Nat := ((List.range (2 + t.l.length)).find? (mkB w t)).getD 0
def makeW (w : WorldM) (t : Tape) : WorldM := (mkS w t (mkN w t)).1
theorem mkS_up (w : WorldM) (t : Tape) : ∀ k : Nat,(mkS w t k).2.l = t.l ∧ t.at' + k ≤ (mkS w t k).2.at' ∧ (mkS w t k).2.at' ≤ t.at' + 20 * k
 | 0 => by simp [mkS]
 | k + 1 => by
  have ih := mkS_up w t k
  have := stepT_up (mkS w t k).1 (mkS w t k).2
  refine ⟨this.1.trans ih.1, ?_, ?_⟩
  ·simp only [mkS]; omega
  ·simp only [mkS]; omega
theorem mkS_ok {w : WorldM} {n : Nat} (h : MOk w n) (t : Tape) : ∀ k,n + k ≤ 1000000 → MOk (mkS w t k).1 (n + k)
 | 0,_ => h
 | k + 1,hk => (mkS_ok h t k (by omega)).step (by omega) _
theorem mkN_is (w : WorldM) (t : Tape) (ht : 0 ≤ t.at') : mkB w t (mkN w t) = true ∧ (∀ j,j < mkN w t → mkB w t j = false) ∧ mkN w t ≤ t.l.length + 1 := by
 cases hb : (List.range (2 + t.l.length)).find? (mkB w t) with
 | none =>
  exfalso
  have := List.find?_eq_none.1 hb t.l.length (List.mem_range.2 (by omega))
  have u := mkS_up w t t.l.length
  simp only [mkB,decide_eq_true_eq,u.1] at this
  omega
 | some k =>
  obtain ⟨h1,h2,h3⟩ := List.find?_range_eq_some.1 hb
  have h2 := List.mem_range.1 h2
  have e : mkN w t = k := by rw [mkN,hb]; rfl
  rw [e]
  exact ⟨h1,fun j hj => by simpa using h3 j hj,by omega⟩
def mkLA (w : WorldM) (t : Tape) : Tg := ⟨tm 22 [(2,.pt 8002 0 0),(3,.pt 32012 0 0),(4,.pt 40004 0 0)],[(40004,.box 54 w.cells),(32012,t.b),(8002,.box 54 [int 0,int 0,.d (.sl 0 []),.d (.sl 0 []),int 0,int 0,.d (.sl 0 []),.d (.sl 0 [])])],60⟩
theorem mkRoundA (w : WorldM) (t : Tape) (n : Nat) (hm : MOk w n) (hn : n ≤ 1000000) (ht : TOk t) (ha : t.at' ≤ 900000) (hd : t.at' < t.l.length) : CSpec Tryz.prog (rndF Tryz.f28 0) (mkLA w t).st .nrm (mkLA (w.step t) (w.stepT t)).st := by
 exact sE [(16,[Hint.lent (Sx.bool (decide ((↑t.l.length : Int)≤t.at'))) [t.b]]),bT 17,(20,[Hint.lent (w.step t).av [(w.stepT t).b]])] [] [] [] (an (@tapeDone t ‹_›) (an (bo ((!decide ((↑t.l.length : Int)≤t.at'))=true)) (an tt (@sp_worldStep w t n ‹_› ‹_› ‹_› ‹_›))))
theorem mkEndA (w : WorldM) (t : Tape) (ht : TOk t) (hd : ¬ t.at' < t.l.length) : CSpec Tryz.prog (rndF Tryz.f28 0) (mkLA w t).st (.ext 0) (Tg.st ⟨tm 22 [(2,.pt 8002 0 0),(4,.pt 40004 0 0)],[(40004,.box 54 w.cells),(8002,.box 54 [int 0,int 0,.d (.sl 0 []),.d (.sl 0 []),int 0,int 0,.d (.sl 0 []),.d (.sl 0 [])])],60⟩) := by
 exact sE [(16,[Hint.lent (Sx.bool (decide ((↑t.l.length : Int)≤t.at'))) [t.b]]),bF 17] [] [] [] (an (@tapeDone t ‹_›) (an (bo ((!decide ((↑t.l.length : Int)≤t.at')) = false)) (rf false)))
theorem mkLoopA (w : WorldM) (t : Tape) (hm : MOk w 0) (hl : t.l.length ≤ 300) (h0 : 0 ≤ t.at') (h1 : t.at' ≤ 1000) : CSpec Tryz.prog (blkF Tryz.f28 0) (Tg.st ⟨tm 22 [(2,.pt 8002 0 0),(3,.pt 32012 0 0),(4,.pt 40004 0 0)],[(40004,.box 54 w.cells),(32012,t.b),(8002,.box 54 [int 0,int 0,.d (.sl 0 []),.d (.sl 0 []),int 0,int 0,.d (.sl 0 []),.d (.sl 0 [])])],60⟩) .nrm (Tg.st ⟨tm 22 [(2,.pt 8002 0 0),(4,.pt 40004 0 0)],[(40004,.box 54 (makeW w t).cells),(8002,.box 54 [int 0,int 0,.d (.sl 0 []),.d (.sl 0 []),int 0,int 0,.d (.sl 0 []),.d (.sl 0 [])])],60⟩) := by
 have hk := mkN_is w t h0
 have tok : ∀ k,k ≤ mkN w t → TOk (mkS w t k).2 ∧ (mkS w t k).2.at' ≤ 900000 := fun k hk' => by
  have u := mkS_up w t k
  refine ⟨?_,by omega⟩
  unfold TOk
  rw [u.1]
  omega
 refine loop_ext_of (S := fun k => (mkLA (mkS w t k).1 (mkS w t k).2).st) (mkN w t) (by kernel_rfl) (fun k hk' => ?_) ?_
 ·have hs := hk.2.1 k hk'
  simp only [mkB,decide_eq_false_iff_not] at hs
  have m := mkS_ok hm t k (by omega)
  exact mkRoundA _ _ (0 + k) m (by omega) (tok k (by omega)).1 (tok k (by omega)).2 (by omega)
 ·have hs := hk.1
  simp only [mkB,decide_eq_true_eq] at hs
  exact mkEndA _ _ (tok _ (Nat.le_refl _)).1 (by omega)
def mkLB (w : WorldM) (t : Tape) : Tg := ⟨tm 22 [(2,.pt 8002 0 0),(3,.pt 24012 0 0),(4,.pt 32004 0 0)],[(32004,.box 54 w.cells),(24012,t.b),(8002,.box 54 [int 0,int 0,.d (.sl 0 []),.d (.sl 0 []),int 0,int 0,.d (.sl 0 []),.d (.sl 0 [])])],60⟩
theorem mkRoundB (w : WorldM) (t : Tape) (n : Nat) (hm : MOk w n) (hn : n ≤ 1000000) (ht : TOk t) (ha : t.at' ≤ 900000) (hd : t.at' < t.l.length) : CSpec Tryz.prog (rndF Tryz.f28 0) (mkLB w t).st .nrm (mkLB (w.step t) (w.stepT t)).st := by
 exact sE [(16,[Hint.lent (Sx.bool (decide ((↑t.l.length : Int)≤t.at'))) [t.b]]),bT 17,(20,[Hint.lent (w.step t).av [(w.stepT t).b]])] [] [] [] (an (@tapeDone t ‹_›) (an (bo ((!decide ((↑t.l.length : Int)≤t.at'))=true)) (an tt (@sp_worldStep w t n ‹_› ‹_› ‹_› ‹_›))))
theorem mkEndB (w : WorldM) (t : Tape) (ht : TOk t) (hd : ¬ t.at' < t.l.length) : CSpec Tryz.prog (rndF Tryz.f28 0) (mkLB w t).st (.ext 0) (Tg.st ⟨tm 22 [(2,.pt 8002 0 0),(4,.pt 32004 0 0)],[(32004,.box 54 w.cells),(8002,.box 54 [int 0,int 0,.d (.sl 0 []),.d (.sl 0 []),int 0,int 0,.d (.sl 0 []),.d (.sl 0 [])])],60⟩) := by
 exact sE [(16,[Hint.lent (Sx.bool (decide ((↑t.l.length : Int)≤t.at'))) [t.b]]),bF 17] [] [] [] (an (@tapeDone t ‹_›) (an (bo ((!decide ((↑t.l.length : Int)≤t.at')) = false)) (rf false)))
theorem mkLoopB (w : WorldM) (t : Tape) (hm : MOk w 0) (hl : t.l.length ≤ 300) (h0 : 0 ≤ t.at') (h1 : t.at' ≤ 1000) : CSpec Tryz.prog (blkF Tryz.f28 0) (Tg.st ⟨tm 22 [(2,.pt 8002 0 0),(3,.pt 24012 0 0),(4,.pt 32004 0 0)],[(32004,.box 54 w.cells),(24012,t.b),(8002,.box 54 [int 0,int 0,.d (.sl 0 []),.d (.sl 0 []),int 0,int 0,.d (.sl 0 []),.d (.sl 0 [])])],60⟩) .nrm (Tg.st ⟨tm 22 [(2,.pt 8002 0 0),(4,.pt 32004 0 0)],[(32004,.box 54 (makeW w t).cells),(8002,.box 54 [int 0,int 0,.d (.sl 0 []),.d (.sl 0 []),int 0,int 0,.d (.sl 0 []),.d (.sl 0 [])])],60⟩) := by
 have hk := mkN_is w t h0
 have tok : ∀ k,k ≤ mkN w t → TOk (mkS w t k).2 ∧ (mkS w t k).2.at' ≤ 900000 := fun k hk' => by
  have u := mkS_up w t k
  refine ⟨?_,by omega⟩
  unfold TOk
  rw [u.1]
  omega
 refine loop_ext_of (S := fun k => (mkLB (mkS w t k).1 (mkS w t k).2).st) (mkN w t) (by kernel_rfl) (fun k hk' => ?_) ?_
 ·have hs := hk.2.1 k hk'
  simp only [mkB,decide_eq_false_iff_not] at hs
  have m := mkS_ok hm t k (by omega)
  exact mkRoundB _ _ (0 + k) m (by omega) (tok k (by omega)).1 (tok k (by omega)).2 (by omega)
 ·have hs := hk.1
  simp only [mkB,decide_eq_true_eq] at hs
  exact mkEndB _ _ (tok _ (Nat.le_refl _)).1 (by omega)
def makeT (l : List Int) : Tape := ⟨l.take 300,0⟩
def makeF (l : List Int) : WorldM := makeW (makeT l).empty (((makeT l).step 4).step 5)
theorem empty_ok (t : Tape) : MOk t.empty 0 := by
 have hv := tape_conf_valid t
 have hb := validB_iff.1 hv
 refine ⟨?_,hv, ?_, ?_, ?_, ?_, ?_, ?_,by simp [Tape.empty],by simp [Tape.empty]⟩
 ·intro x hx
  simp only [Tape.empty,newHeap,List.mem_replicate] at hx
  omega
 ·simp only [Tape.empty,newHeap,List.length_replicate]; omega
 ·have := area hv
  simp only [Tape.empty,newHeap,List.length_replicate]; omega
 ·intro j hj
  simp only [Tape.empty,newHeap,List.length_replicate] at hj ⊢
  have : (List.replicate t.conf.pg.toNat (⟨0,0,0,0⟩ : Page)).getD j default = ⟨0,0,0,0⟩ := by simp [List.getD_eq_getElem?_getD,hj]
  rw [this]; simp
 ·intro j hj
  simp only [Tape.empty,newHeap,List.length_replicate] at hj ⊢
  have : (List.replicate t.conf.pg.toNat (⟨0,0,0,0⟩ : Page)).getD j default = ⟨0,0,0,0⟩ := by simp [List.getD_eq_getElem?_getD,hj]
  rw [this]; simp
 ·intro x hx; simp [Tape.empty] at hx
 ·intro x hx; simp [Tape.empty] at hx
theorem make_steps (l : List Int) : (((makeT l).step 4).step 5).l = l.take 300 ∧ (((makeT l).step 4).step 5).at' = 2 := by simp [makeT,Tape.step]
theorem makeF_ok (l : List Int) : MOk (makeF l) 1000 := by
 have e := make_steps l
 have hl : (((makeT l).step 4).step 5).l.length ≤ 300 := by rw [e.1]; simp; omega
 have hk := mkN_is (makeT l).empty (((makeT l).step 4).step 5) (by omega)
 have m := mkS_ok (empty_ok (makeT l)) (((makeT l).step 4).step 5) (mkN (makeT l).empty (((makeT l).step 4).step 5)) (by omega)
 have h2 : ∀ (w : WorldM) (a b : Nat),MOk w a → a ≤ b → MOk w b := fun w a b h hab =>
  ⟨h.words,h.hv,h.pl,h.L,fun j hj => by have := h.pins j hj; omega,h.us,h.strong,h.weak,by have := h.sl; omega,by have := h.wl; omega⟩
 exact h2 _ _ _ m (by omega)
theorem madeMake (l : List Int) (hl : l.length ≤ 140737488355328) : GSpec Tryz.prog 28 [intsV l] false (makeF l).av [] := by
 have e := make_steps l
 have he := empty_ok (makeT l)
 have h1 : (((makeT l).step 4).step 5).l.length ≤ 300 := by rw [e.1]; simp; omega
 have h2 := e.2
 by_cases h : 300 < l.length
 ·have ht : TOk ⟨List.take (Int.toNat 300) l,0⟩ := by simp [TOk]; omega
  have e9 : makeT l = ⟨List.take (Int.toNat 300) l,0⟩ := rfl
  unfold makeF
  rw [e9] at he h1 h2 ⊢
  exact gE [(6,[Hint.int ↑l.length]),bT 7,(9,[Hint.els (List.map idv (List.take (Int.toNat 300) l))]),(14,[Hint.lent (Tape.mk (List.take (Int.toNat 300) l) 0).empty.av [(((Tape.mk (List.take (Int.toNat 300) l) 0).step 4).step 5).b]])] [cutOf (@mkLoopA ((Tape.mk (List.take (Int.toNat 300) l) 0).empty) (((Tape.mk (List.take (Int.toNat 300) l) 0).step 4).step 5) ‹_› ‹_› (by omega) (by omega))] [] Tryz.func28 [] (an (lm ((↑(List.map idv l).length : Int) = (↑l.length : Int))) (an (bo (decide (300 < (↑l.length : Int))=true)) (an tt (an (by (simp only [List.length_map]; omega) : (0 :Int)≤(300 :Int)∧300≤(↑(List.map idv l).length : Int)) (an (by simp [List.map_take,List.map_drop,List.map_set,List.map_append,wdv,idv] : List.take (Int.toNat 300) (List.map idv l) = List.map idv (List.take (Int.toNat 300) l)) (an (@tapeEmpty (Tape.mk (List.take (Int.toNat 300) l) 0) ‹_› (by (simp only [bs]; omega))) (@mkLoopA ((Tape.mk (List.take (Int.toNat 300) l) 0).empty) (((Tape.mk (List.take (Int.toNat 300) l) 0).step 4).step 5) ‹_› ‹_› (by omega) (by omega))))))))
 ·have ht : TOk ⟨l,0⟩ := by simp [TOk]; omega
  have e9 : makeT l = ⟨l,0⟩ := by rw [makeT,List.take_of_length_le (by omega)]
  unfold makeF
  rw [e9] at he h1 h2 ⊢
  exact gE [(6,[Hint.int ↑l.length]),bF 7,(14,[Hint.lent (Tape.mk l 0).empty.av [(((Tape.mk l 0).step 4).step 5).b]])] [cutOf (@mkLoopB ((Tape.mk l 0).empty) (((Tape.mk l 0).step 4).step 5) ‹_› ‹_› (by omega) (by omega))] [] Tryz.func28 [] (an (lm ((↑(List.map idv l).length : Int) = (↑l.length : Int))) (an (bo (decide (300 < (↑l.length : Int)) = false)) (an (rf false) (an (@tapeEmpty (Tape.mk l 0) ‹_› (by (simp only [bs]; omega))) (@mkLoopB ((Tape.mk l 0).empty) (((Tape.mk l 0).step 4).step 5) ‹_› ‹_› (by omega) (by omega))))))
theorem headerValid (h : Header) (hm : 0 ≤ h.map ∧ h.map ≤ 4294967295) : GSpec Tryz.prog 90 [h.av] true (bool (validH h)) [] := by
 have hs := fun q => pow32 (n := h.length) q
 have ho : 0 ≤ h.length → h.length ≤ 32 → ones h.length = 2 ^ h.length.toNat - 1 := fun h0 h1 => by rw [ones,Nat.min_eq_left (by omega)]
 rcases bb (decide (h.kind < 0) || decide (3 < h.kind) || decide (h.length < 0) || decide (255 < h.length)) with hc0 | hc0<;>have hc0p:=hc0<;>simp only [bs] at hc0p
 ·exact gF [] Tryz.func90 [false,false,false,false,false,false,false,false,false,true] (Ft 20 hc0 (Fa (by (simp [validH, *]; omega) : false =validH h) Fz))
 ·obtain ⟨⟨⟨hc0paaa,hc0paab⟩,hc0pab⟩,hc0pb⟩ := hc0p
  rcases bb (h.kind == 1) with hc1 | hc1<;>have hc1p:=hc1<;>simp only [bs] at hc1p
  ·exact gF [] Tryz.func90 [false,false,false,false,false,false,false,false,false,false,false,false,false,false,false,false,true] (Fh 30 [.int h.map] (Fh 33 [.call true (u64 (ones h.length)) []] (Ff 20 hc0 (Ft 23 hc1 (Fa (by intro hg; (try simp only [bs] at hg); exact wrapU2 rfl (by omega) (by omega) : decide (h.length≤32) =true→IntKind.u64.wrap h.map =h.map) (Fa ((fun hg => by (try simp only [bs] at hg); exact @bitsOnes h.length) : decide (h.length≤32) =true→GSpec Tryz.prog 124 [int h.length] true (u64 (ones h.length)) []) (Fa (by grind [validH] : (decide (h.length≤32)&&decide (h.map≤ones h.length)) =validH h) Fz)))))))
  ·exact gF [] Tryz.func90 [false,false,false,false,false,false,false,false,false,true] (Ff 20 hc0 (Ff 23 hc1 (Fa (by grind [validH] : (h.kind == h.kind&&(h.length == h.length&&h.map == 0)) =validH h) Fz)))
theorem headerSize (h : Header) (hm : 0 ≤ h.map ∧ h.map ≤ 4294967295) : GSpec Tryz.prog 54 [h.av] true (int (sizeH h)) [] := by
 rcases bb (!validH h) with hc0 | hc0<;>have hc0p:=hc0<;>simp only [bs] at hc0p
 ·exact gF [] Tryz.func54 [true] (Fc 4 (@headerValid h ‹_›) (Ft 5 hc0 (Fa (by simp [sizeH, *] : 0 =sizeH h) Fz)))
 ·have hf3 := validH_iff.1 hc0p
  obtain ⟨hf3a,⟨hf3ba,⟨hf3bba,⟨hf3bbba,hf3bbbb⟩⟩⟩⟩ := hf3
  exact gF [] Tryz.func54 [true] (Fc 4 (@headerValid h ‹_›) (Ff 5 hc0 (Fi 8 (h.length + 1) (Fa (by simp [sizeH, *] : h.length + 1 =sizeH h) Fz))))
theorem arenaPlace (ws : List Int) (a n : Int) (hw : ws.length ≤ 1048576) (h0 : 0 ≤ a ∧ a ≤ 18446744073709551615) : GSpec Tryz.prog 94 [wordsV ws,u64 a,int n] true (.tu [int (placeA ws a n).1,bool (placeA ws a n).2]) [] := by
 have Q0 {h_ c_ p_} (r_ : Fq h_ c_ p_) := Fa (by intro hg; (try simp only [bs] at hg); exact wrapU2 rfl (by omega) (by omega) : (!decide (a < 4096)) =true→IntKind.u64.wrap (a - 4096) =a - 4096) (Fa (by intro hg; (try simp only [bs] at hg); simp only [List.length_map] : (!decide (a < 4096)) =true→(↑(List.map wdv ws).length : Int) =(↑ws.length : Int)) (Fa (by intro hg; (try simp only [bs] at hg); exact wrapU2 rfl (by omega) (by omega) : (!decide (a < 4096)) =true→IntKind.u64.wrap (↑ws.length : Int) =(↑ws.length : Int)) r_))
 rcases bb (decide (a < 4096) || decide ((↑ws.length : Int) < a - 4096)) with hc0 | hc0<;>have hc0p:=hc0<;>simp only [bs] at hc0p
 ·exact gF [] Tryz.func94 [false,false,false,false,false,false,true] (Fh 13 [.int (a - 4096)] (Fh 15 [.int ↑ws.length] (Fh 16 [.int ↑ws.length] (Q0 (Ft 18 hc0 (Fa (by (simp only [placeA]; (repeat' split) <;> first | rfl | omega | (exfalso; omega) | simp_all) : 0 =(placeA ws a n).fst) (Fa (by (simp only [placeA]; (repeat' split) <;> first | rfl | omega | (exfalso; omega) | simp_all) : false =(placeA ws a n).snd) Fz)))))))
 ·obtain ⟨hc0pa,hc0pb⟩ := hc0p
  exact gF [] Tryz.func94 [false,false,false,false,false,false,true] (Fh 16 [.int ↑ws.length] (Fh 21 [.int (a - 4096)] (Fh 25 [.int ↑ws.length] (Q0 (Ff 18 hc0 (Fv 13 (a - 4096) (Fi 20 (a - 4096) (Fl 15 wdv ws (Fi 27 ((↑ws.length : Int) - (a - 4096)) (Fa (by (simp only [placeA]; (repeat' split) <;> first | rfl | omega | (exfalso; omega) | simp_all) : a - 4096 =(placeA ws a n).fst) (Fa (by (simp only [placeA]; (repeat' split) <;> first | rfl | omega | (exfalso; omega) | simp_all) : decide (n≤(↑ws.length : Int) - (a - 4096)) =(placeA ws a n).snd) Fz)))))))))))
end Go.Proofs.YtpklpkmnhgedbaaGreat
namespace Go.Sx
theorem gspec_empty {P : Program} {f s : Nat} {fr : Bool} {res : AV} {news : List Blk} (h : ∀ (p : Option Addr) (c : Nat),GSpec P f [.d (.sc (.slice p 0 c))] fr res news) : GSpec P f [.d (.sl s [])] fr res news := by
 intro w Im vs hI hn hr
 have h0 : vs.size = 1 := hn
 obtain ⟨v,hv⟩ : ∃ v,vs[0]? = some v := ⟨vs[0]'(by omega),by simp⟩
 have key : ∀ (p : Option Addr) (c : Nat),v = .slice p 0 c → Calls P f vs w fun e w' => ∃ v,e = .returned v ∧ RetOk w Im fr res news v w' := fun p c e => by
  refine h p c w Im vs hI hn fun i x u hx hu => ?_
  match i with
  | 0 =>
   simp only [List.getElem?_cons_zero,Option.some.injEq] at hx
   rw [hv] at hu
   cases hu; subst hx; subst e
   exact .d (.sc _ rfl)
  | i + 1 => simp at hx
 have h1 := hr 0 _ v rfl hv
 cases h1 with
 | d h1 =>
  generalize he : ([] : List (List DV)) = l at h1
  cases h1 with
  | slNil s p c => exact key p c rfl
  | sl s els p n c fn hn => subst he; simp at hn; subst hn; exact key _ c rfl
end Go.Sx
namespace Go.Proofs.YtpklpkmnhgedbaaGreat
open Go.Sx
theorem ref4NewA : GSpec Tryz.prog 58 [.ag [int 16,int 8]] true (.tu [.ag [int 16,int 8,.ow 0,.ow 1,int 0,int (-1)],int 0]) [.arr 29 1 ((List.replicate 128 0).map wdv),.arr 73 4 ((List.replicate 8 (⟨0,0,0,0⟩ : Page)).map Page.dv)] := by
 have h : validB ⟨16,8⟩ = true := by decide
 have ei : (8 : Int) * 16 = 128 := rfl
 exact gF [24014,24017] Tryz.func58 [] (Fh 14 [.els (List.map wdv (List.replicate (Int.toNat 128) 0))] (Fh 17 [.els (List.map Page.dv [Page.mk 0 0 0 0,Page.mk 0 0 0 0,Page.mk 0 0 0 0,Page.mk 0 0 0 0,Page.mk 0 0 0 0,Page.mk 0 0 0 0,Page.mk 0 0 0 0,Page.mk 0 0 0 0])] (Fc 5 (@refValidConf (Conf.mk 16 8)) (Fa (by decide +kernel : 0≤IntKind.i64.wrap ((8 :Int) * 16)∧IntKind.i64.wrap ((8 :Int) * 16)≤IntKind.i64.wrap ((8 :Int) * 16)∧IntKind.i64.wrap ((8 :Int) * 16) * ((↑(nat_lit 7) : Int) + 1)≤2 ^ 48) (Fr (List.map wdv (List.replicate (Int.toNat 128) 0)) (Fa (by decide +kernel : (0 :Int)≤(8 :Int)∧(8 :Int)≤(8 :Int)∧8 * ((↑(nat_lit 31) : Int) + 1)≤2 ^ 48) (Fr (List.replicate (Int.toNat 8) [dint 0,dint 0,dint 0,dint 0]) (Fa (by exact flat_wdv _ : FlatEls (List.map wdv (List.replicate (Int.toNat 128) 0))) (Fa (by exact flat_pages _ : FlatEls (List.map Page.dv [Page.mk 0 0 0 0,Page.mk 0 0 0 0,Page.mk 0 0 0 0,Page.mk 0 0 0 0,Page.mk 0 0 0 0,Page.mk 0 0 0 0,Page.mk 0 0 0 0,Page.mk 0 0 0 0])) Fz)))))))))
theorem map_ne {α β : Type} {f : α → β} {l : List α} (h : l ≠ []) : l.map f ≠ [] := by simpa using h
theorem cloneWordsN (ws : List Int) (hw : ws.length ≤ 1048576) (hne : ws ≠ []) : GSpec Tryz.prog 95 [wordsV ws] true (.ow 0) [.arr 29 1 (ws.map wdv)] := by
 exact gF [24007] Tryz.func95 [] (Fh 5 [.els (List.map wdv [])] (Fh 7 [.els (List.map wdv ws)] (Fa (by exact map_ne hne : List.map wdv ws ≠ []) (Fr (List.map wdv []) (Fa (by (simp [*]; omega) : (List.map wdv []).length + (List.map wdv ws).length≤2 ^ 30) (Fr (List.map wdv ws) (Fa (by exact flat_wdv _ : FlatEls (List.map wdv ws)) Fz)))))))
theorem clonePages (l : List Page) (hl : l.length ≤ 1048576) (hne : l ≠ []) : GSpec Tryz.prog 97 [pagesV l] true (pagesV l) [] := by
 exact gF [] Tryz.func97 [] (Fh 5 [.els (List.map Page.dv [])] (Fh 7 [.els (List.map Page.dv l)] (Fa (by exact map_ne hne : List.map Page.dv l ≠ []) (Fr (List.map Page.dv []) (Fa (by (simp [*]; omega) : (List.map Page.dv []).length + (List.map Page.dv l).length≤2 ^ 30) (Fr (List.map Page.dv l) (Fa (by exact flat_pages _ : FlatEls (List.map Page.dv l)) Fz)))))))
theorem ne_of_len {α : Type} {l : List α} (h : 0 < l.length) : l ≠ [] := by
 rintro rfl
 simp at h
theorem arenaWrite (ws l : List Int) (a : Int) (hw : ws.length ≤ 1048576) (hl : l.length ≤ 1048576) (h0 : 0 ≤ a ∧ a ≤ 18446744073709551615) (hn : 0 < l.length) : GSpec Tryz.prog 70 [wordsV ws,u64 a,wordsV l] true (.tu [wordsV (writeA ws a l).1,int (writeA ws a l).2]) [] := by
 by_cases h : 4096 ≤ a ∧ a - 4096 + l.length ≤ ws.length
 ·have e7 : writeA ws a l = (spl ws (a - 4096).toNat l,0) := by rw [writeA,if_pos h]
  have e1 : placeA ws a (l.length : Int) = (a - 4096,true) := by
   rw [placeA,if_pos (by omega)]
   simp; omega
  have e2 := congrArg (fun x => x.1) e1
  have e3 := congrArg (fun x => x.2) e1
  simp only at e2 e3
  have hne : ws ≠ [] := ne_of_len (by omega)
  have hs : spliceE (List.map wdv ws) (placeA ws a l.length).1.toNat (List.map wdv l) = List.map wdv (List.take (placeA ws a l.length).1.toNat ws ++ l ++ List.drop ((placeA ws a l.length).1.toNat + l.length) ws) := by simp [spliceE]
  rw [e7]
  exact gF [] Tryz.func70 [true] (Fh 27 [.els (List.map wdv (List.take (placeA ws a (↑l.length : Int)).fst.toNat ws ++ l ++ List.drop ((placeA ws a (↑l.length : Int)).fst.toNat + l.length) ws))] (Fl 15 wdv l (Fc 16 (@arenaPlace ws a ((↑l.length : Int)) ‹_› ‹_›) (Ffb 20 (!(placeA ws a (↑l.length : Int)).snd) (Fc 22 (@cloneWordsN ws ‹_› ‹_›) (Fa (by (simp only [List.length_map]; omega) : 0≤(placeA ws a (↑l.length : Int)).fst∧(placeA ws a (↑l.length : Int)).fst≤(↑(List.map wdv ws).length : Int)) (Fa (by (simp only [List.length_map]; omega) : (List.map wdv l).length≤(↑(List.map wdv ws).length : Int).toNat - (placeA ws a (↑l.length : Int)).fst.toNat) (Fa (by exact hs : spliceE (List.map wdv ws) (placeA ws a (↑l.length : Int)).fst.toNat (List.map wdv l) =List.map wdv (List.take (placeA ws a (↑l.length : Int)).fst.toNat ws ++ l ++ List.drop ((placeA ws a (↑l.length : Int)).fst.toNat + l.length) ws)) (Fa (by exact flat_wdv _ : FlatEls (List.map wdv (List.take (placeA ws a (↑l.length : Int)).fst.toNat ws ++ l ++ List.drop ((placeA ws a (↑l.length : Int)).fst.toNat + l.length) ws))) (Fa (by refine congrArg _ ?_; simp [spl, *] : List.map wdv (List.take (placeA ws a (↑l.length : Int)).fst.toNat ws ++ l ++ List.drop ((placeA ws a (↑l.length : Int)).fst.toNat + l.length) ws) =List.map wdv (spl ws (a - 4096).toNat l,0).fst) (Fr (0 : Int) Fz)))))))))))
 ·have e7 : writeA ws a l = ([],2) := by rw [writeA,if_neg h]
  have e3 : (placeA ws a (l.length : Int)).2 = false := by
   unfold placeA
   split
   ·simp; omega
   ·rfl
  rw [e7]
  exact gF [] Tryz.func70 [] (Fl 15 wdv l (Fc 16 (@arenaPlace ws a ((↑l.length : Int)) ‹_› ‹_›) (Ftb 20 (!(placeA ws a (↑l.length : Int)).snd) (Fnl Fz))))
theorem objectChanged0 (h : Heap) (ws : List Int) (e : Int) (hp : h.pages.length ≤ 1048576) (he : e = 0) (hne : h.pages ≠ []) : GSpec Tryz.prog 63 [h.av,wordsV ws,int e] false (.tu [Heap.av ⟨h.conf,ws,h.pages,h.space,h.bump⟩,int 0]) [] := by
 exact gF [] Tryz.func63 [] (Ffb 9 (e != 0) (Fc 15 (@clonePages h.pages ‹_› ‹_›) Fz))
theorem objectChangedE (h : Heap) (ws : List Int) (e : Int) (he : ¬ e = 0) : GSpec Tryz.prog 63 [h.av,wordsV ws,int e] false (.tu [noHeap.av,int e]) [] := by
 exact gF [] Tryz.func63 [] (Ftb 9 (e != 0) (Fnl (Fnl Fz)))
theorem spl_took {l : List Page} {i k : Nat} {p q : Page} (hk : 1 ≤ k) (h : i + k ≤ l.length) : spl l i (p :: List.replicate (k - 1) q) = tookP l i k p q := by
 obtain ⟨m,rfl⟩ : ∃ m,k = m + 1 := ⟨k - 1,by omega⟩
 have hl : (List.take i l).length = i := by simp; omega
 rw [tookP,wr,spl,List.take_of_length_le (l := List.replicate (m + 1) q) (by simp),List.append_assoc,List.append_assoc,List.set_append,if_neg (by omega),hl,Nat.sub_self]
 simp [List.replicate_succ]
theorem inUseN_zero {l : List Page} : ∀ {i : Nat},(∀ j,j < i → (l.getD j default).kind = 0) → inUseN l i = 0
 | 0,_ => rfl
 | i + 1,h => by
  have hp : pageAt l i = l.getD i default := by rw [pageAt_getD]; simp
  rw [inUseN,inUseN_zero (fun j hj => h j (by omega)),hp,if_pos (h i (by omega))]
theorem inUse_free {l : List Page} {i k : Nat} (h : i + k ≤ l.length) (hf : freeK l i k = true) : inUse ((l.drop i).take k) = 0 := by
 refine inUseN_zero fun j hj => ?_
 simp only [List.length_take,List.length_drop] at hj
 have := freeK_iff.1 hf j (by omega)
 rw [List.getD_eq_getElem?_getD] at this ⊢
 rwa [List.getElem?_take,if_pos (by omega),List.getElem?_drop]
theorem clonePagesN (l : List Page) (hl : l.length ≤ 1048576) (hne : l ≠ []) : GSpec Tryz.prog 97 [pagesV l] true (.ow 0) [.arr 73 4 (l.map Page.dv)] := by
 exact gF [24007] Tryz.func97 [] (Fh 5 [.els (List.map Page.dv [])] (Fh 7 [.els (List.map Page.dv l)] (Fa (by exact map_ne hne : List.map Page.dv l ≠ []) (Fr (List.map Page.dv []) (Fa (by (simp [*]; omega) : (List.map Page.dv []).length + (List.map Page.dv l).length≤2 ^ 30) (Fr (List.map Page.dv l) (Fa (by exact flat_pages _ : FlatEls (List.map Page.dv l)) Fz)))))))
theorem pageMade (ps l : List Page) (i : Int) (hl : ps.length ≤ 1048576) (hll : l.length ≤ 1048576) (hi : 0 ≤ i) (h1 : i + l.length ≤ ps.length) (hf : freeK ps i.toNat l.length = true) (hn : 0 < ps.length) : GSpec Tryz.prog 131 [pagesV ps,int i,pagesV l] true (.tu [.ow 0,int 0]) [.arr 73 4 ((spl ps i.toNat l).map Page.dv)] := by
 have hne : ps ≠ [] := ne_of_len hn
 have e1 : inUse (List.take ((i + l.length).toNat - i.toNat) (List.drop i.toNat ps)) = 0 := by
  rw [show (i + l.length).toNat - i.toNat = l.length from by omega]
  exact inUse_free (by omega) hf
 have hs : spliceE (List.map Page.dv ps) i.toNat (List.map Page.dv l) = List.map Page.dv (spl ps i.toNat l) := by simp [spliceE,spl]
 exact gF [33030] Tryz.func131 [] (Fh 14 [.int ↑ps.length] (Fh 17 [.int ((↑ps.length : Int) - (↑l.length : Int))] (Fh 24 [.int ↑l.length] (Fh 26 [.els (List.map Page.dv (List.take ((i + (↑l.length : Int)).toNat - i.toNat) (List.drop i.toNat ps)))] (Fh 35 [.els (List.map Page.dv (List.take i.toNat ps ++ l ++ List.drop (i.toNat + l.length) ps))] (Fa (by intro hg; (try simp only [bs] at hg); simp only [List.length_map] : (!decide (i < 0)) =true→(↑(List.map Page.dv ps).length : Int) =(↑ps.length : Int)) (Fa (by intro hg; (try simp only [bs] at hg); simp only [List.length_map] : (!decide (i < 0)) =true→(↑(List.map Page.dv l).length : Int) =(↑l.length : Int)) (Fa (by intro hg; (try simp only [bs] at hg); exact wrapI2 rfl (by omega) (by omega) : (!decide (i < 0)) =true→IntKind.i64.wrap ((↑ps.length : Int) - (↑l.length : Int)) =(↑ps.length : Int) - (↑l.length : Int)) (Ffb 19 (decide (i < 0)||decide ((↑ps.length : Int) - (↑l.length : Int) < i)) (Fl 16 Page.dv l (Fi 25 (i + (↑l.length : Int)) (Fa (by (simp only [List.length_map]; omega) : 0≤i∧i≤i + (↑l.length : Int)∧i + (↑l.length : Int)≤(↑(List.map Page.dv ps).length : Int)) (Fa (by simp [e1,spl,List.map_take,List.map_drop,List.map_set,List.map_append,wdv,idv] : List.take ((i + (↑l.length : Int)).toNat - i.toNat) (List.drop i.toNat (List.map Page.dv ps)) =List.map Page.dv (List.take ((i + (↑l.length : Int)).toNat - i.toNat) (List.drop i.toNat ps))) (Fc 27 (@pageInUse (List.take ((i + (↑l.length : Int)).toNat - i.toNat) (List.drop i.toNat ps)) (by (simp [e1,spl, *]; omega))) (Ffb 28 (decide (0 < (↑(inUse (List.take ((i + (↑l.length : Int)).toNat - i.toNat) (List.drop i.toNat ps))) : Int))) (Fc 30 (@clonePagesN ps ‹_› ‹_›) (Fa (by (simp only [List.length_map]; omega) : 0≤i∧i≤(↑(List.map Page.dv ps).length : Int)) (Fa (by (simp only [List.length_map]; omega) : (List.map Page.dv l).length≤(↑(List.map Page.dv ps).length : Int).toNat - i.toNat) (Fa (by exact hs : spliceE (List.map Page.dv ps) i.toNat (List.map Page.dv l) =List.map Page.dv (List.take i.toNat ps ++ l ++ List.drop (i.toNat + l.length) ps)) (Fa (by exact flat_pages _ : FlatEls (List.map Page.dv (List.take i.toNat ps ++ l ++ List.drop (i.toNat + l.length) ps))) Fz))))))))))))))))))))
theorem took1 {l : List Page} {i : Nat} {p q : Page} (h : i + 1 ≤ l.length) : spl l i [p] = tookP l i 1 p q := by
 have := spl_took (l := l) (i := i) (k := 1) (p := p) (q := q) (Nat.le_refl _) h
 simpa using this
theorem pageSmallN (l : List Page) (i sp : Int) (hl : l.length ≤ 1048576) (hs : 0 ≤ sp ∧ sp ≤ 1) (hi : 0 ≤ i ∧ i + 1 ≤ l.length) (hf : freeK l i.toNat 1 = true) : GSpec Tryz.prog 107 [pagesV l,int i,int sp] true (.tu [.ow 0,int 0]) [.arr 73 4 ((tookP l i.toNat 1 ⟨1,sp,0,0⟩ ⟨0,0,0,0⟩).map Page.dv)] := by
 have e := took1 (l := l) (i := i.toNat) (p := ⟨1,sp,0,0⟩) (q := ⟨0,0,0,0⟩) (by omega)
 rw [← e]
 have e2 : freeK l i.toNat ([⟨1,sp,0,0⟩] : List Page).length = true := hf
 have e3 : spacedB ⟨1,sp,0,0⟩ = true := by simp [spacedB]; omega
 exact gF [33018] Tryz.func107 [] (Fh 17 [.els (List.map Page.dv [Page.mk 1 sp 0 0])] (Fc 12 (@entrySpaced (Page.mk 1 sp 0 0)) (Ffb 13 (!spacedB (Page.mk 1 sp 0 0)) (Fr (List.map Page.dv [Page.mk 1 sp 0 0]) (Fc 18 (@pageMade l ([Page.mk 1 sp 0 0]) i ‹_› (by simp [*]) (by omega) (by simp [*]) ‹_› (by omega)) (Fa (by exact flat_pages _ : FlatEls (List.map Page.dv (spl l i.toNat [Page.mk 1 sp 0 0]))) Fz))))))
def lrgL (l : List Page) (i sp n k : Int) (j : Nat) : Tg := ⟨tm 45 [(1,pagesV l),(2,int i),(3,int sp),(10,.d (.sl 0 [])),(11,int 0),(13,int k),(14,.ow 40029)],[(40029,.arr 73 4 (((⟨2,sp,n,0⟩ : Page) :: List.replicate j ⟨3,sp,0,0⟩).map Page.dv))],60⟩
theorem lrgRound (l : List Page) (i sp n k : Int) (j : Nat) (hj : (j : Int) + 1 < k) (hk : k ≤ 1000) : CSpec Tryz.prog (rndF Tryz.f108 0) (lrgL l i sp n k j).st .nrm (lrgL l i sp n k (j + 1)).st := by
 have e : ((⟨2,sp,n,0⟩ : Page) :: List.replicate (j + 1) ⟨3,sp,0,0⟩) = (⟨2,sp,n,0⟩ :: List.replicate j ⟨3,sp,0,0⟩) ++ [⟨3,sp,0,0⟩] := by rw [List.replicate_succ',List.cons_append]
 exact sF [(488038,40029)] [false,false,false,false,false,false,false,true] (Fh 37 [.els (List.map Page.dv [Page.mk 3 sp 0 0])] (Fh 38 [.els (List.map Page.dv (Page.mk 2 sp n 0 :: List.replicate j (Page.mk 3 sp 0 0) ++ [Page.mk 3 sp 0 0]))] (Fg 31 (by simp only [List.length_map,List.length_append,List.length_take,List.length_drop,List.length_set,List.length_replicate,List.length_nil,List.length_cons] : (↑(List.map Page.dv (Page.mk 2 sp n 0 :: List.replicate j (Page.mk 3 sp 0 0))).length : Int) =(↑(j + 1) : Int)) (Ftb 33 (decide ((↑(j + 1) : Int) < k)) (Fr (List.map Page.dv [Page.mk 3 sp 0 0]) (Fa (by (simp [*]; omega) : (List.map Page.dv (Page.mk 2 sp n 0 :: List.replicate j (Page.mk 3 sp 0 0))).length + (List.map Page.dv [Page.mk 3 sp 0 0]).length≤2 ^ 30) (Fa (by simp [List.map_take,List.map_drop,List.map_set,List.map_append,wdv,idv] : List.map Page.dv (Page.mk 2 sp n 0 :: List.replicate j (Page.mk 3 sp 0 0)) ++ List.map Page.dv [Page.mk 3 sp 0 0] =List.map Page.dv (Page.mk 2 sp n 0 :: List.replicate j (Page.mk 3 sp 0 0) ++ [Page.mk 3 sp 0 0])) (Fr (73 : Int) (Fa (by refine congrArg _ ?_; rw [e] : List.map Page.dv (Page.mk 2 sp n 0 :: List.replicate j (Page.mk 3 sp 0 0) ++ [Page.mk 3 sp 0 0]) =List.map Page.dv (Page.mk 2 sp n 0 :: List.replicate (j + 1) (Page.mk 3 sp 0 0))) Fz)))))))))
theorem lrgEnd (l : List Page) (i sp n k : Int) (h1 : 1 ≤ k) : CSpec Tryz.prog (rndF Tryz.f108 0) (lrgL l i sp n k (k.toNat - 1)).st (.ext 0) (Tg.st ⟨tm 45 [(1,pagesV l),(2,int i),(10,.d (.sl 0 [])),(11,int 0),(14,.ow 40029)],[(40029,.arr 73 4 (((⟨2,sp,n,0⟩ : Page) :: List.replicate (k.toNat - 1) ⟨3,sp,0,0⟩).map Page.dv))],60⟩) := by
 exact sF [] [] (Fg 31 (by simp only [List.length_map,List.length_append,List.length_take,List.length_drop,List.length_set,List.length_replicate,List.length_nil,List.length_cons] : (↑(List.map Page.dv (Page.mk 2 sp n 0 :: List.replicate (k.toNat - 1) (Page.mk 3 sp 0 0))).length : Int) =(↑(k.toNat - 1 + 1) : Int)) (Ffb 33 (decide ((↑(k.toNat - 1 + 1) : Int) < k)) Fz))
theorem lrgLoop (l : List Page) (i sp n k : Int) (h1 : 1 ≤ k) (hk : k ≤ 1000) : CSpec Tryz.prog (blkF Tryz.f108 0) (Tg.st ⟨tm 45 [(1,pagesV l),(2,int i),(3,int sp),(10,.d (.sl 0 [])),(11,int 0),(13,int k),(14,.ow 40029)],[(40029,.arr 73 4 ([(⟨2,sp,n,0⟩ : Page)].map Page.dv))],60⟩) .nrm (Tg.st ⟨tm 45 [(1,pagesV l),(2,int i),(10,.d (.sl 0 [])),(11,int 0),(14,.ow 40029)],[(40029,.arr 73 4 (((⟨2,sp,n,0⟩ : Page) :: List.replicate (k.toNat - 1) ⟨3,sp,0,0⟩).map Page.dv))],60⟩) :=
 loop_ext_of (S := fun j => (lrgL l i sp n k j).st) (k.toNat - 1) (by kernel_rfl) (fun j hj => lrgRound l i sp n k j (by omega) hk) (lrgEnd l i sp n k h1)
theorem pageLargeN (c : Conf) (l : List Page) (i sp n : Int) (hl : l.length ≤ 1048576) (hs : 0 ≤ sp ∧ sp ≤ 1) (hn : 1 ≤ need c n) (hi : 0 ≤ i ∧ i + need c n ≤ l.length) (hf : freeK l i.toNat (need c n).toNat = true) : GSpec Tryz.prog 108 [c.av,pagesV l,int i,int sp,int n] true (.tu [.ow 0,int 0]) [.arr 73 4 ((tookP l i.toNat (need c n).toNat ⟨2,sp,n,0⟩ ⟨3,sp,0,0⟩).map Page.dv)] := by
 have e := spl_took (l := l) (i := i.toNat) (k := (need c n).toNat) (p := ⟨2,sp,n,0⟩) (q := ⟨3,sp,0,0⟩) (by omega) (by omega)
 rw [← e]
 have hr := need_range c n
 have e3 : spacedB ⟨2,sp,n,0⟩ = true := by simp [spacedB]; omega
 exact gF [481042] Tryz.func108 [] (Fh 25 [.call true (Sx.bool (spacedB (Page.mk 2 sp n 0))) []] (Fh 29 [.els (List.map Page.dv [Page.mk 2 sp n 0])] (Fc 20 (@pageNeed c n) (Fa ((fun hg => by (try simp only [bs] at hg); exact @entrySpaced (Page.mk 2 sp n 0)) : (!decide (need c n < 1)) =true→GSpec Tryz.prog 130 [(Page.mk 2 sp n 0).av] true (Sx.bool (spacedB (Page.mk 2 sp n 0))) []) (Ff 27 (by simp [*] : (decide (need c n < 1)||!spacedB (Page.mk 2 sp n 0))=false) (Fr (List.map Page.dv [Page.mk 2 sp n 0]) (Fu (@lrgLoop l i sp n (need c n) ‹_› (by omega)) (Fc 42 (@pageMade l (Page.mk 2 sp n 0 :: List.replicate ((need c n).toNat - 1) (Page.mk 3 sp 0 0)) i ‹_› (by (simp [*]; omega)) (by omega) (by (simp [*]; omega)) (by grind []) (by omega)) (Fa (by exact flat_pages _ : FlatEls (List.map Page.dv (spl l i.toNat (Page.mk 2 sp n 0 :: List.replicate ((need c n).toNat - 1) (Page.mk 3 sp 0 0))))) Fz)))))))))
theorem asks_eq (c : Conf) (hd : Header) : (validH hd && hd.kind != 0 && decide (0 ≤ need c (sizeH hd))) = asksH c hd := by
 have hr := need_range c (sizeH hd)
 have e : decide (0 ≤ need c (sizeH hd)) = decide (need c (sizeH hd) ≠ -1) := decide_eq_decide.2 (by omega)
 have e3 : (hd.kind != 0) = decide (hd.kind ≠ 0) := by rw [Bool.eq_iff_iff]; simp
 rw [asksH,e,e3]
theorem allocAsks (c : Conf) (hd : Header) (hm : 0 ≤ hd.map ∧ hd.map ≤ 4294967295) : GSpec Tryz.prog 74 [c.av,hd.av] true (bool (asksH c hd)) [] := by
 exact gF [] Tryz.func74 [false,false,false,false,false,false,false,false,true] (Fh 15 [.call true (int (sizeH hd)) []] (Fh 16 [.call true (int (need c (sizeH hd))) []] (Fc 6 (@headerValid hd ‹_›) (Fa ((fun hg => by (try simp only [bs] at hg); exact @headerSize hd (by (try simp only [bs] at hg); assumption)) : (validH hd&&hd.kind != 0) =true→GSpec Tryz.prog 54 [hd.av] true (int (sizeH hd)) []) (Fa ((fun hg => by (try simp only [bs] at hg); exact @pageNeed c (sizeH hd)) : (validH hd&&hd.kind != 0) =true→GSpec Tryz.prog 106 [c.av,int (sizeH hd)] true (int (need c (sizeH hd))) []) (Fa (by exact asks_eq _ _ : (validH hd&&hd.kind != 0&&decide (0≤need c (sizeH hd))) =asksH c hd) Fz))))))
theorem allocPlaceFit (h : Heap) (n : Int) (hp : properB h = true) (hn : 1 ≤ n ∧ n ≤ 256) (hk : ¬ 0 < need h.conf n) (hf : fitsB h n) : GSpec Tryz.prog 84 [h.av,int n] false (.ic 98 (.ag [int h.bump,int (h.pages.getD h.bump.toNat default).used])) [] := by
 obtain ⟨o1,o2,o3,o4,o5,o6,o7,o8,o9⟩ := proper_ok hp
 have hb := (properB_iff.1 hp).2.2.2.2.1
 have hpg := fun hj => proper_page hp (j := h.bump.toNat) hj
 have hli := limit_le o1
 unfold fitsB at hf
 exact gF [] Tryz.func84 [] (Fh 65 [.int (h.conf.pw - (h.pages.getD h.bump.toNat default).used)] (Fc 13 (@pageInUse h.pages (by omega)) (Fc 16 (@pageLimit h.conf) (Fc 20 (@pageNeed h.conf n) (Ffb 22 (decide (0 < need h.conf n)) (Ftb 46 (decide (0≤h.bump)&&decide ((↑(inUse h.pages) : Int)≤limit h.conf)) (Fe 51 Page.dv h.pages h.bump (Fa (by intro hg; (try simp only [bs] at hg); exact wrapI2 rfl (by omega) (by omega) : ((h.pages.getD h.bump.toNat default).space == h.space) =true→IntKind.i64.wrap (h.conf.pw - (h.pages.getD h.bump.toNat default).used) =h.conf.pw - (h.pages.getD h.bump.toNat default).used) (Ftb 67 ((h.pages.getD h.bump.toNat default).space == h.space&&decide (n≤h.conf.pw - (h.pages.getD h.bump.toNat default).used)) Fz)))))))))
theorem allocPlaceFresh (h : Heap) (n : Int) (hp : properB h = true) (hn : 1 ≤ n ∧ n ≤ 256) (hk : ¬ 0 < need h.conf n) (hf : ¬ fitsB h n) (hg : 0 ≤ first h.pages 1 ∧ (inUse h.pages : Int) < limit h.conf) : GSpec Tryz.prog 84 [h.av,int n] false (.ic 132 (.ag [int (first h.pages 1)])) [] := by
 obtain ⟨o1,o2,o3,o4,o5,o6,o7,o8,o9⟩ := proper_ok hp
 have hb := (properB_iff.1 hp).2.2.2.2.1
 have hpg := fun hj => proper_page hp (j := h.bump.toNat) hj
 have hli := limit_le o1
 unfold fitsB at hf
 have Q0 {h_ c_ p_} (r_ : Fq h_ c_ p_) := Fc 13 (@pageInUse h.pages (by omega)) (Fc 16 (@pageLimit h.conf) (Fc 20 (@pageNeed h.conf n) (Ffb 22 (decide (0 < need h.conf n)) r_)))
 rcases bb (decide (0 ≤ h.bump) && decide ((↑(inUse h.pages) : Int) ≤ limit h.conf)) with hc0 | hc0<;>have hc0p:=hc0<;>simp only [bs] at hc0p
 ·obtain ⟨hc0pa,hc0pb⟩ := hc0p
  exact gF [] Tryz.func84 [] (Fh 65 [.int (h.conf.pw - (h.pages.getD h.bump.toNat default).used)] (Q0 (Ft 46 hc0 (Fe 51 Page.dv h.pages h.bump (Fa (by intro hg; (try simp only [bs] at hg); exact wrapI2 rfl (by omega) (by omega) : ((h.pages.getD h.bump.toNat default).space == h.space) =true→IntKind.i64.wrap (h.conf.pw - (h.pages.getD h.bump.toNat default).used) =h.conf.pw - (h.pages.getD h.bump.toNat default).used) (Ffb 67 ((h.pages.getD h.bump.toNat default).space == h.space&&decide (n≤h.conf.pw - (h.pages.getD h.bump.toNat default).used)) (Fc 76 (@pageFirst h.pages (1) (by omega)) (Ftb 83 (decide (0≤first h.pages 1)&&decide ((↑(inUse h.pages) : Int) < limit h.conf)) Fz))))))))
 ·exact gF [] Tryz.func84 [] (Q0 (Ff 46 hc0 (Fc 76 (@pageFirst h.pages (1) (by omega)) (Ftb 83 (decide (0≤first h.pages 1)&&decide ((↑(inUse h.pages) : Int) < limit h.conf)) Fz))))
theorem allocPlaceFull (h : Heap) (n : Int) (hp : properB h = true) (hn : 1 ≤ n ∧ n ≤ 256) (hk : ¬ 0 < need h.conf n) (hf : ¬ fitsB h n) (hg : ¬ (0 ≤ first h.pages 1 ∧ (inUse h.pages : Int) < limit h.conf)) : GSpec Tryz.prog 84 [h.av,int n] false (.d (.sc .nilIface)) [] := by
 obtain ⟨o1,o2,o3,o4,o5,o6,o7,o8,o9⟩ := proper_ok hp
 have hb := (properB_iff.1 hp).2.2.2.2.1
 have hpg := fun hj => proper_page hp (j := h.bump.toNat) hj
 have hli := limit_le o1
 unfold fitsB at hf
 have Q0 {h_ c_ p_} (r_ : Fq h_ c_ p_) := Fc 13 (@pageInUse h.pages (by omega)) (Fc 16 (@pageLimit h.conf) (Fc 20 (@pageNeed h.conf n) (Ffb 22 (decide (0 < need h.conf n)) r_)))
 rcases bb (decide (0 ≤ h.bump) && decide ((↑(inUse h.pages) : Int) ≤ limit h.conf)) with hc0 | hc0<;>have hc0p:=hc0<;>simp only [bs] at hc0p
 ·obtain ⟨hc0pa,hc0pb⟩ := hc0p
  exact gF [] Tryz.func84 [] (Fh 65 [.int (h.conf.pw - (h.pages.getD h.bump.toNat default).used)] (Q0 (Ft 46 hc0 (Fe 51 Page.dv h.pages h.bump (Fa (by intro hg; (try simp only [bs] at hg); exact wrapI2 rfl (by omega) (by omega) : ((h.pages.getD h.bump.toNat default).space == h.space) =true→IntKind.i64.wrap (h.conf.pw - (h.pages.getD h.bump.toNat default).used) =h.conf.pw - (h.pages.getD h.bump.toNat default).used) (Ffb 67 ((h.pages.getD h.bump.toNat default).space == h.space&&decide (n≤h.conf.pw - (h.pages.getD h.bump.toNat default).used)) (Fc 76 (@pageFirst h.pages (1) (by omega)) (Ffb 83 (decide (0≤first h.pages 1)&&decide ((↑(inUse h.pages) : Int) < limit h.conf)) Fz))))))))
 ·exact gF [] Tryz.func84 [] (Q0 (Ff 46 hc0 (Fc 76 (@pageFirst h.pages (1) (by omega)) (Ffb 83 (decide (0≤first h.pages 1)&&decide ((↑(inUse h.pages) : Int) < limit h.conf)) Fz))))
theorem allocPlaceOwn (h : Heap) (n : Int) (hp : properB h = true) (hk : 0 < need h.conf n) (hg : 0 ≤ first h.pages (need h.conf n) ∧ inUse h.pages + need h.conf n ≤ limit h.conf) : GSpec Tryz.prog 84 [h.av,int n] false (.ic 136 (.ag [int (first h.pages (need h.conf n))])) [] := by
 obtain ⟨o1,o2,o3,o4,o5,o6,o7,o8,o9⟩ := proper_ok hp
 have hnr := need_range h.conf n
 have hli := limit_le o1
 exact gF [] Tryz.func84 [] (Fh 33 [.int (limit h.conf - need h.conf n)] (Fc 13 (@pageInUse h.pages (by omega)) (Fc 16 (@pageLimit h.conf) (Fc 20 (@pageNeed h.conf n) (Ftb 22 (decide (0 < need h.conf n)) (Fc 26 (@pageFirst h.pages (need h.conf n) (by omega)) (Fa (by intro hg; (try simp only [bs] at hg); exact wrapI2 rfl (by omega) (by omega) : decide (0≤first h.pages (need h.conf n)) =true→IntKind.i64.wrap (limit h.conf - need h.conf n) =limit h.conf - need h.conf n) (Ftb 35 (decide (0≤first h.pages (need h.conf n))&&decide ((↑(inUse h.pages) : Int)≤limit h.conf - need h.conf n)) Fz))))))))
theorem allocPlaceNo (h : Heap) (n : Int) (hp : properB h = true) (hk : 0 < need h.conf n) (hg : ¬ (0 ≤ first h.pages (need h.conf n) ∧ inUse h.pages + need h.conf n ≤ limit h.conf)) : GSpec Tryz.prog 84 [h.av,int n] false (.d (.sc .nilIface)) [] := by
 obtain ⟨o1,o2,o3,o4,o5,o6,o7,o8,o9⟩ := proper_ok hp
 have hnr := need_range h.conf n
 have hli := limit_le o1
 exact gF [] Tryz.func84 [] (Fh 33 [.int (limit h.conf - need h.conf n)] (Fc 13 (@pageInUse h.pages (by omega)) (Fc 16 (@pageLimit h.conf) (Fc 20 (@pageNeed h.conf n) (Ftb 22 (decide (0 < need h.conf n)) (Fc 26 (@pageFirst h.pages (need h.conf n) (by omega)) (Fa (by intro hg; (try simp only [bs] at hg); exact wrapI2 rfl (by omega) (by omega) : decide (0≤first h.pages (need h.conf n)) =true→IntKind.i64.wrap (limit h.conf - need h.conf n) =limit h.conf - need h.conf n) (Ffb 35 (decide (0≤first h.pages (need h.conf n))&&decide ((↑(inUse h.pages) : Int)≤limit h.conf - need h.conf n)) Fz))))))))
def putN (h : Heap) (n : Int) : Heap × Int × Bool := if 0 < need h.conf n then large7 h n (need h.conf n) else small7 h n
def prepI (h : Heap) (n : Int) : Int := if 0 < need h.conf n then first h.pages (need h.conf n) else if fitsB h n then h.bump else first h.pages 1
def prepO (h : Heap) (n : Int) : Int := if 0 < need h.conf n then 0 else if fitsB h n then (h.pages.getD h.bump.toNat default).used else 0
theorem allocPrepFit (h : Heap) (n : Int) (hp : properB h = true) (hn : 1 ≤ n ∧ n ≤ 256) (hk : ¬ 0 < need h.conf n) (hf : fitsB h n) : GSpec Tryz.prog 75 [h.av,int n] false (.tu [Heap.av ⟨h.conf,h.words,growP h.pages h.bump.toNat n,h.space,h.bump⟩,.ag [int h.bump,int (h.pages.getD h.bump.toNat default).used],int 0]) [] := by
 have po := proper_ok hp
 have hb := (properB_iff.1 hp).2.2.2.2.1
 have hf' := hf
 unfold fitsB at hf'
 have hne : h.pages ≠ [] := ne_of_len (by omega)
 have hpg := proper_page hp (j := h.bump.toNat) (by omega)
 exact gF [] Tryz.func75 [] (Fh 34 [.el (h.pages.getD h.bump.toNat default).dv] (Fh 10038 [.el (h.pages.getD h.bump.toNat default).dv,.els (List.map Page.dv (h.pages.set h.bump.toNat (Page.mk (h.pages.getD h.bump.toNat default).kind (h.pages.getD h.bump.toNat default).space ((h.pages.getD h.bump.toNat default).used + n) (h.pages.getD h.bump.toNat default).pins)))] (Fc 17 (@allocPlaceFit h n ‹_› ‹_› ‹_› ‹_›) (Fc 26 (@clonePagesN h.pages (by omega) ‹_›) (Fa (by (simp only [List.length_map]; omega) : 0≤h.bump∧h.bump.toNat < (List.map Page.dv h.pages).length) (Fa (by exact el_of (by omega) : (List.map Page.dv h.pages)[h.bump.toNat]? = some (h.pages.getD h.bump.toNat default).dv) (Fi 36 ((h.pages.getD h.bump.toNat default).used + n) (Fa (by (simp only [List.length_map]; omega) : 0≤h.bump∧h.bump.toNat < (List.map Page.dv h.pages).length) (Fa (by exact el_of (by omega) : (List.map Page.dv h.pages)[h.bump.toNat]? = some (h.pages.getD h.bump.toNat default).dv) (Fa (by rw [List.map_set]; rfl : (List.map Page.dv h.pages).set h.bump.toNat (spliceD (h.pages.getD h.bump.toNat default).dv (0 + #[Field.mk "Kind" 3 0 false "" "" 0,Field.mk "Space" 3 1 false "" "" 8,Field.mk "Used" 3 2 false "" "" 16,Field.mk "Pins" 3 3 false "" "" 24][2].offset) [dint ((h.pages.getD h.bump.toNat default).used + n)]) =List.map Page.dv (h.pages.set h.bump.toNat (Page.mk (h.pages.getD h.bump.toNat default).kind (h.pages.getD h.bump.toNat default).space ((h.pages.getD h.bump.toNat default).used + n) (h.pages.getD h.bump.toNat default).pins))) Fz))))))))))
theorem allocPrepFresh (h : Heap) (n : Int) (hp : properB h = true) (hn : 1 ≤ n ∧ n ≤ 256) (hk : ¬ 0 < need h.conf n) (hf : ¬ fitsB h n) (hg : 0 ≤ first h.pages 1 ∧ (inUse h.pages : Int) < limit h.conf) : GSpec Tryz.prog 75 [h.av,int n] false (.tu [Heap.av ⟨h.conf,h.words,growP (freshP h) (first h.pages 1).toNat n,h.space,first h.pages 1⟩,.ag [int (first h.pages 1),int 0],int 0]) [] := by
 have po := proper_ok hp
 obtain ⟨q1,q2,q3,q4⟩ := freshP_ok (h := h) po.2.2.2.2.2.2.2.2 hg.1
 obtain ⟨r1,r2,r3⟩ := first_free hg.1
 have r4 : freeK h.pages (first h.pages 1).toNat 1 = true := r3
 rw [q1] at q2 q4 ⊢
 have q6 := congrArg Page.used q4
 simp only at q6
 exact gF [] Tryz.func75 [true] (Fh 10072 [.el ((tookP h.pages (first h.pages 1).toNat 1 (Page.mk 1 h.space 0 0) (Page.mk 0 0 0 0)).getD (first h.pages 1).toNat default).dv,.els (List.map Page.dv ((tookP h.pages (first h.pages 1).toNat 1 (Page.mk 1 h.space 0 0) (Page.mk 0 0 0 0)).set (first h.pages 1).toNat (Page.mk ((tookP h.pages (first h.pages 1).toNat 1 (Page.mk 1 h.space 0 0) (Page.mk 0 0 0 0)).getD (first h.pages 1).toNat default).kind ((tookP h.pages (first h.pages 1).toNat 1 (Page.mk 1 h.space 0 0) (Page.mk 0 0 0 0)).getD (first h.pages 1).toNat default).space n ((tookP h.pages (first h.pages 1).toNat 1 (Page.mk 1 h.space 0 0) (Page.mk 0 0 0 0)).getD (first h.pages 1).toNat default).pins)))] (Fc 17 (@allocPlaceFresh h n ‹_› ‹_› ‹_› ‹_› ‹_›) (Fc 54 (@pageSmallN h.pages (first h.pages 1) h.space (by omega) (by omega) (by omega) ‹_›) (Fa (by (simp only [List.length_map]; omega) : 0≤first h.pages 1∧(first h.pages 1).toNat < (List.map Page.dv (tookP h.pages (first h.pages 1).toNat 1 (Page.mk 1 h.space 0 0) (Page.mk 0 0 0 0))).length) (Fa (by exact el_of (by omega) : (List.map Page.dv (tookP h.pages (first h.pages 1).toNat 1 (Page.mk 1 h.space 0 0) (Page.mk 0 0 0 0)))[(first h.pages 1).toNat]? = some ((tookP h.pages (first h.pages 1).toNat 1 (Page.mk 1 h.space 0 0) (Page.mk 0 0 0 0)).getD (first h.pages 1).toNat default).dv) (Fa (by rw [List.map_set]; rfl : (List.map Page.dv (tookP h.pages (first h.pages 1).toNat 1 (Page.mk 1 h.space 0 0) (Page.mk 0 0 0 0))).set (first h.pages 1).toNat (spliceD ((tookP h.pages (first h.pages 1).toNat 1 (Page.mk 1 h.space 0 0) (Page.mk 0 0 0 0)).getD (first h.pages 1).toNat default).dv (0 + #[Field.mk "Kind" 3 0 false "" "" 0,Field.mk "Space" 3 1 false "" "" 8,Field.mk "Used" 3 2 false "" "" 16,Field.mk "Pins" 3 3 false "" "" 24][2].offset) [dint n]) =List.map Page.dv ((tookP h.pages (first h.pages 1).toNat 1 (Page.mk 1 h.space 0 0) (Page.mk 0 0 0 0)).set (first h.pages 1).toNat (Page.mk ((tookP h.pages (first h.pages 1).toNat 1 (Page.mk 1 h.space 0 0) (Page.mk 0 0 0 0)).getD (first h.pages 1).toNat default).kind ((tookP h.pages (first h.pages 1).toNat 1 (Page.mk 1 h.space 0 0) (Page.mk 0 0 0 0)).getD (first h.pages 1).toNat default).space n ((tookP h.pages (first h.pages 1).toNat 1 (Page.mk 1 h.space 0 0) (Page.mk 0 0 0 0)).getD (first h.pages 1).toNat default).pins))) (Fr h.conf.pw (Fr h.conf.pg (Fr (List.map wdv h.words) (Fa (by refine congrArg _ ?_; (simp only [growP,q4]; (repeat' split) <;> first | rfl | omega | (exfalso; omega) | simp_all) : List.map Page.dv ((tookP h.pages (first h.pages 1).toNat 1 (Page.mk 1 h.space 0 0) (Page.mk 0 0 0 0)).set (first h.pages 1).toNat (Page.mk ((tookP h.pages (first h.pages 1).toNat 1 (Page.mk 1 h.space 0 0) (Page.mk 0 0 0 0)).getD (first h.pages 1).toNat default).kind ((tookP h.pages (first h.pages 1).toNat 1 (Page.mk 1 h.space 0 0) (Page.mk 0 0 0 0)).getD (first h.pages 1).toNat default).space n ((tookP h.pages (first h.pages 1).toNat 1 (Page.mk 1 h.space 0 0) (Page.mk 0 0 0 0)).getD (first h.pages 1).toNat default).pins)) =List.map Page.dv (Heap.mk h.conf h.words (growP (tookP h.pages (first h.pages 1).toNat 1 (Page.mk 1 h.space 0 0) (Page.mk 0 0 0 0)) (first h.pages 1).toNat n) h.space (first h.pages 1)).pages) (Fr h.space (Fr (first h.pages 1) (Fr (first h.pages 1) (Fr (0 : Int) (Fr (0 : Int) Fz)))))))))))))))
theorem allocPrepFull (h : Heap) (n : Int) (hp : properB h = true) (hn : 1 ≤ n ∧ n ≤ 256) (hk : ¬ 0 < need h.conf n) (hf : ¬ fitsB h n) (hg : ¬ (0 ≤ first h.pages 1 ∧ (inUse h.pages : Int) < limit h.conf)) : GSpec Tryz.prog 75 [h.av,int n] false (.tu [noHeap.av,.ag [int 0,int 0],int 3]) [] := by
 exact gF [] Tryz.func75 [] (Fc 17 (@allocPlaceFull h n ‹_› ‹_› ‹_› ‹_› (by omega)) (Fnl (Fnl Fz)))
theorem allocPrepOwn (h : Heap) (n : Int) (hp : properB h = true) (hk : 0 < need h.conf n) (hg : 0 ≤ first h.pages (need h.conf n) ∧ inUse h.pages + need h.conf n ≤ limit h.conf) : GSpec Tryz.prog 75 [h.av,int n] false (.tu [Heap.av ⟨h.conf,h.words,(largeP h.conf h.pages (first h.pages (need h.conf n)) h.space n).1,h.space,h.bump⟩,.ag [int (first h.pages (need h.conf n)),int 0],int 0]) [] := by
 have po := proper_ok hp
 obtain ⟨r1,r2,r3⟩ := first_free hg.1
 have hnr := need_range h.conf n
 have e : (largeP h.conf h.pages (first h.pages (need h.conf n)) h.space n).1 = tookP h.pages (first h.pages (need h.conf n)).toNat (need h.conf n).toNat ⟨2,h.space,n,0⟩ ⟨3,h.space,0,0⟩ := by
  rw [largeP,if_pos (by omega),takeP,if_pos (by omega),if_pos r3]
 rw [e]
 exact gF [] Tryz.func75 [] (Fc 17 (@allocPlaceOwn h n ‹_› ‹_› ‹_›) (Fc 96 (@pageLargeN h.conf h.pages (first h.pages (need h.conf n)) h.space n (by omega) (by omega) ‹_› (by omega) ‹_›) Fz))
theorem allocPrepNo (h : Heap) (n : Int) (hp : properB h = true) (hk : 0 < need h.conf n) (hg : ¬ (0 ≤ first h.pages (need h.conf n) ∧ inUse h.pages + need h.conf n ≤ limit h.conf)) : GSpec Tryz.prog 75 [h.av,int n] false (.tu [noHeap.av,.ag [int 0,int 0],int 3]) [] := by
 exact gF [] Tryz.func75 [] (Fc 17 (@allocPlaceNo h n ‹_› ‹_› (by omega)) (Fnl (Fnl Fz)))
theorem or_add {a v k : Nat} (ha : a < 2 ^ k) (hv : a + v * 2 ^ k < 18446744073709551616) : bits .or .u64 (a : Int) ((v * 2 ^ k : Nat) : Int) = ((a + v * 2 ^ k : Nat) : Int) := by
 rw [bits_or_u64_nat a (v * 2 ^ k) (by omega) (by omega),Nat.mul_comm v,Nat.or_comm,← Nat.two_pow_add_eq_or_of_lt ha,Nat.add_comm]
theorem andNot_zero {v n : Nat} (hn : n ≤ 64) (hv : v < 2 ^ n) : bits .andNot .u64 (v : Int) (2 ^ n - 1) = 0 := by
 have h64 : (2 : Nat) ^ n ≤ 2 ^ 64 := Nat.pow_le_pow_right (by decide) hn
 have hp : 0 < (2 : Nat) ^ n := Nat.two_pow_pos n
 have e : ((2 : Int) ^ n - 1) = ((2 ^ n - 1 : Nat) : Int) := by
  have : ((2 ^ n : Nat) : Int) = 2 ^ n := by simp
  omega
 rw [e]
 have h1 : (BitVec.ofInt 64 (v : Int)).toNat = v := by
  rw [BitVec.ofInt_natCast,BitVec.toNat_ofNat]; exact Nat.mod_eq_of_lt (by omega)
 have h2 : (BitVec.ofInt 64 ((2 ^ n - 1 : Nat) : Int)).toNat = 2 ^ n - 1 := by
  rw [BitVec.ofInt_natCast,BitVec.toNat_ofNat]; exact Nat.mod_eq_of_lt (by omega)
 show IntKind.u64.wrap ((BitVec.ofInt 64 (v : Int) &&& ~~~ BitVec.ofInt 64 ((2 ^ n - 1 : Nat) : Int)).toNat : Int) = _
 rw [BitVec.toNat_and,BitVec.toNat_not,h1,h2]
 have e2 : 2 ^ 64 - 1 - (2 ^ n - 1) = 2 ^ n * (2 ^ (64 - n) - 1) := by
  have : (2 : Nat) ^ 64 = 2 ^ n * 2 ^ (64 - n) := by rw [← Nat.pow_add]; congr 1; omega
  rw [Nat.mul_sub,Nat.mul_one,← this]; omega
 have e3 : v &&& (2 ^ 64 - 1 - (2 ^ n - 1)) = 0 := by
  rw [e2]
  apply Nat.eq_of_testBit_eq
  intro i
  rw [Nat.testBit_and,Nat.zero_testBit,Nat.testBit_two_pow_mul]
  by_cases hi : n ≤ i
  ·rw [Nat.testBit_lt_two_pow (Nat.lt_of_lt_of_le hv (Nat.pow_le_pow_right (by decide) hi)),Bool.false_and]
  ·simp [hi]
 rw [e3]
 decide
theorem bitsFits (v n : Int) (h0 : 0 ≤ v) (hn : 0 ≤ n ∧ n ≤ 64) (hv : v < 2 ^ n.toNat) : GSpec Tryz.prog 128 [u64 v,int n] true (bool true) [] := by
 have e : bits .andNot .u64 v (ones n) = 0 := by
  obtain ⟨a,rfl⟩ := Int.eq_ofNat_of_zero_le h0
  rw [ones,Nat.min_eq_left (by omega)]
  exact andNot_zero (by omega) (by exact_mod_cast hv)
 exact gF [] Tryz.func128 [true] (Fc 7 (@bitsOnes n) (Fb ((bits BinOp.andNot IntKind.u64 v (ones n) == 0)=true) Fz))
structure BField where
 width : Int
 value : Int
 deriving DecidableEq,Inhabited
def BField.dv (f : BField) : List DV := [.sc (.int .i64 f.width),.sc (.int .u64 f.value)]
def packL (k l m : Int) : List BField := [⟨2,1⟩,⟨2,k⟩,⟨12,l⟩,⟨32,m⟩]
def pk1 (k l m : Int) (i : Nat) : Tg := ⟨tm 55 [(0,.d (.sl 2 ((packL k l m).map BField.dv))),(2,u64 0),(3,int 0),(4,int ([64,62,60,48,16].getD i 0)),(11,.d (.sl 2 ((packL k l m).map BField.dv))),(12,int (packL k l m).length),(13,int i)],[],4⟩
theorem pk1Round (k l m : Int) (i : Nat) (hi : i < 4) : CSpec Tryz.prog (rndF Tryz.f105 0) (pk1 k l m i).st .nrm (pk1 k l m (i + 1)).st := by
 have eL : (packL k l m).length = 4 := rfl
 have e0 : (packL k l m).getD 0 default = ⟨2,1⟩ := rfl
 have e1 : (packL k l m).getD 1 default = ⟨2,k⟩ := rfl
 have e2 : (packL k l m).getD 2 default = ⟨12,l⟩ := rfl
 have e3 : (packL k l m).getD 3 default = ⟨32,m⟩ := rfl
 have h : i = 0 ∨ i = 1 ∨ i = 2 ∨ i = 3 := by omega
 rcases h with rfl | rfl | rfl | rfl
 ·exact sF [] [] (Fek 15 BField.dv (packL k l m) (↑0 : Int) 0 (Fg 29 (rfl : IntKind.i64.wrap ([64,62,60,48,16].getD 0 0 - ((packL k l m).getD 0 default).width) =64 - ((packL k l m).getD 0 default).width) Fz))
 ·exact sF [] [] (Fek 15 BField.dv (packL k l m) (↑1 : Int) 1 (Fg 29 (rfl : IntKind.i64.wrap ([64,62,60,48,16].getD 1 0 - ((packL k l m).getD 1 default).width) =62 - ((packL k l m).getD 1 default).width) Fz))
 ·exact sF [] [] (Fek 15 BField.dv (packL k l m) (↑2 : Int) 2 (Fg 29 (rfl : IntKind.i64.wrap ([64,62,60,48,16].getD 2 0 - ((packL k l m).getD 2 default).width) =60 - ((packL k l m).getD 2 default).width) Fz))
 ·exact sF [] [] (Fek 15 BField.dv (packL k l m) (↑3 : Int) 3 (Fg 29 (rfl : IntKind.i64.wrap ([64,62,60,48,16].getD 3 0 - ((packL k l m).getD 3 default).width) =48 - ((packL k l m).getD 3 default).width) Fz))
theorem pk1End (k l m : Int) : CSpec Tryz.prog (rndF Tryz.f105 0) (pk1 k l m 4).st (.ext 0) (Tg.st ⟨tm 55 [(0,.d (.sl 2 ((packL k l m).map BField.dv))),(2,u64 0),(3,int 0)],[],4⟩) := by
 have eL : (packL k l m).length = 4 := rfl
 exact sF [] [] Fz
theorem pk1Loop (k l m : Int) : CSpec Tryz.prog (blkF Tryz.f105 0) (Tg.st ⟨tm 55 [(0,.d (.sl 2 ((packL k l m).map BField.dv))),(2,u64 0),(3,int 0),(4,int 64),(11,.d (.sl 2 ((packL k l m).map BField.dv))),(12,int (packL k l m).length),(13,int 0)],[],4⟩) .nrm (Tg.st ⟨tm 55 [(0,.d (.sl 2 ((packL k l m).map BField.dv))),(2,u64 0),(3,int 0)],[],4⟩) :=
 loop_ext_of (S := fun i => (pk1 k l m i).st) 4 (by kernel_rfl) (fun i hi => pk1Round k l m i hi) (pk1End k l m)
def pkW (k l m : Int) (i : Nat) : Int := [0,1,1 + 4 * k,1 + 4 * k + 16 * l,1 + 4 * k + 16 * l + 65536 * m].getD i 0
def pk2 (k l m : Int) (i : Nat) : Tg := ⟨tm 55 [(2,u64 0),(3,int 0),(7,u64 (pkW k l m i)),(8,int ([0,2,4,16,48].getD i 0)),(31,.d (.sl 2 ((packL k l m).map BField.dv))),(32,int (packL k l m).length),(33,int i)],[],6⟩
theorem orI (n : Nat) {p a v : Int} (hp : p = ((2 ^ n : Nat) : Int)) (ha : 0 ≤ a) (hv : 0 ≤ v) (h1 : a < p) (h2 : a + v * p < 18446744073709551616) : bits .or .u64 a (IntKind.u64.wrap (v * p)) = a + v * p := by
 obtain ⟨x,rfl⟩ := Int.eq_ofNat_of_zero_le ha
 obtain ⟨y,rfl⟩ := Int.eq_ofNat_of_zero_le hv
 have hm : (y : Int) * p = ((y * 2 ^ n : Nat) : Int) := by rw [hp,Int.natCast_mul]
 rw [hm] at h2 ⊢
 rw [wrapU' (by omega) (by omega)]
 exact or_add (by omega) (by omega)
theorem pk2Round (k l m : Int) (i : Nat) (h1 : 0 ≤ k ∧ k ≤ 3) (h2 : 0 ≤ l ∧ l ≤ 255) (h3 : 0 ≤ m ∧ m ≤ 4294967295) (hi : i < 4) : CSpec Tryz.prog (rndF Tryz.f105 2) (pk2 k l m i).st .nrm (pk2 k l m (i + 1)).st := by
 have eL : (packL k l m).length = 4 := rfl
 have e0 : (packL k l m).getD 0 default = ⟨2,1⟩ := rfl
 have e1 : (packL k l m).getD 1 default = ⟨2,k⟩ := rfl
 have e2 : (packL k l m).getD 2 default = ⟨12,l⟩ := rfl
 have e3 : (packL k l m).getD 3 default = ⟨32,m⟩ := rfl
 have h : i = 0 ∨ i = 1 ∨ i = 2 ∨ i = 3 := by omega
 have f1 : bits .or .u64 (pkW k l m 1) (IntKind.u64.wrap (((packL k l m).getD 1 default).value * 4)) = pkW k l m (1 + 1) := (orI 2 (a := 1) (v := k) (by decide) (by omega) (by omega) (by omega) (by omega)).trans (by show _ = 1 + 4 * k; omega)
 have f2 : bits .or .u64 (pkW k l m 2) (IntKind.u64.wrap (((packL k l m).getD 2 default).value * 16)) = pkW k l m (2 + 1) := (orI 4 (a := 1 + 4 * k) (v := l) (by decide) (by omega) (by omega) (by omega) (by omega)).trans (by show _ = 1 + 4 * k + 16 * l; omega)
 have f3 : bits .or .u64 (pkW k l m 3) (IntKind.u64.wrap (((packL k l m).getD 3 default).value * 65536)) = pkW k l m (3 + 1) := (orI 16 (a := 1 + 4 * k + 16 * l) (v := m) (by decide) (by omega) (by omega) (by omega) (by omega)).trans (by show _ = 1 + 4 * k + 16 * l + 65536 * m; omega)
 rcases h with rfl | rfl | rfl | rfl
 ·refine stretchE [((35 : Nat),[Hint.el ((packL k l m).getD (0 : Nat) default).dv]),((41 : Nat),[Hint.call true (Sx.bool true) []]),((47 : Nat),[Hint.int (((packL k l m).getD (0 : Nat) default).value * (1 : Int))]),((52 : Nat),[Hint.int ((0 : Int) + ((packL k l m).getD (0 : Nat) default).width)])] [] [] [] (φ := ((0 : Int) ≤ (↑(0 : Nat) : Int) ∧ (List.map BField.dv (packL k l m))[(↑(0 : Nat) : Int).toNat]? = some ((packL k l m).getD (0 : Nat) default).dv) ∧ GSpec Tryz.prog 128 [u64 ((packL k l m).getD (0 : Nat) default).value,int ((packL k l m).getD (0 : Nat) default).width] true (Sx.bool true) [] ∧ IntKind.u64.wrap (((packL k l m).getD (0 : Nat) default).value * (2 : Int) ^ min ([(0 : Int),(2 : Int),(4 : Int),(16 : Int),(48 : Int)].getD (0 : Nat) (0 : Int)).toNat (64 : Nat)) = ((packL k l m).getD (0 : Nat) default).value * (1 : Int) ∧ (0 : Int) ≤ [(0 : Int),(2 : Int),(4 : Int),(16 : Int),(48 : Int)].getD (0 : Nat) (0 : Int) ∧ IntKind.i64.wrap ([(0 : Int),(2 : Int),(4 : Int),(16 : Int),(48 : Int)].getD (0 : Nat) (0 : Int) + ((packL k l m).getD (0 : Nat) default).width) = (0 : Int) + ((packL k l m).getD (0 : Nat) default).width) ?_ (by kernel_rfl) (by kernel_rfl) (by kernel_rfl)
  exact ⟨(by exact elI (by omega) (by omega) (by omega)),(@bitsFits (((packL k l m).getD (0 : Nat) default).value) (((packL k l m).getD (0 : Nat) default).width) (by grind [pkW]) (by grind [pkW]) (by grind [pkW])),rfl,(by simp [pkW, *]),rfl⟩
 ·refine stretchE [((35 : Nat),[Hint.el ((packL k l m).getD (1 : Nat) default).dv]),((41 : Nat),[Hint.call true (Sx.bool true) []]),((48 : Nat),[Hint.int (bits BinOp.or IntKind.u64 (pkW k l m (1 : Nat)) (IntKind.u64.wrap (((packL k l m).getD (1 : Nat) default).value * (4 : Int))))]),((52 : Nat),[Hint.int ((2 : Int) + ((packL k l m).getD (1 : Nat) default).width)])] [] [] [false,false,true] (φ := ((0 : Int) ≤ (↑(1 : Nat) : Int) ∧ (List.map BField.dv (packL k l m))[(↑(1 : Nat) : Int).toNat]? = some ((packL k l m).getD (1 : Nat) default).dv) ∧ GSpec Tryz.prog 128 [u64 ((packL k l m).getD (1 : Nat) default).value,int ((packL k l m).getD (1 : Nat) default).width] true (Sx.bool true) [] ∧ (0 : Int) ≤ [(0 : Int),(2 : Int),(4 : Int),(16 : Int),(48 : Int)].getD (1 : Nat) (0 : Int) ∧ bits BinOp.or IntKind.u64 (pkW k l m (1 : Nat)) (IntKind.u64.wrap (((packL k l m).getD (1 : Nat) default).value * (2 : Int) ^ min ([(0 : Int),(2 : Int),(4 : Int),(16 : Int),(48 : Int)].getD (1 : Nat) (0 : Int)).toNat (64 : Nat))) = bits BinOp.or IntKind.u64 (pkW k l m (1 : Nat)) (IntKind.u64.wrap (((packL k l m).getD (1 : Nat) default).value * (4 : Int))) ∧ IntKind.i64.wrap ([(0 : Int),(2 : Int),(4 : Int),(16 : Int),(48 : Int)].getD (1 : Nat) (0 : Int) + ((packL k l m).getD (1 : Nat) default).width) = (2 : Int) + ((packL k l m).getD (1 : Nat) default).width ∧ bits BinOp.or IntKind.u64 (pkW k l m (1 : Nat)) (IntKind.u64.wrap (((packL k l m).getD (1 : Nat) default).value * (4 : Int))) = pkW k l m ((1 : Nat) + (1 : Nat))) ?_ (by kernel_rfl) (by kernel_rfl) (by kernel_rfl)
  exact ⟨(by exact elI (by omega) (by omega) (by omega)),(@bitsFits (((packL k l m).getD (1 : Nat) default).value) (((packL k l m).getD (1 : Nat) default).width) (by simp only [bs, *,true_or,or_true,true_and,and_true,not_true_eq_false,not_false_eq_true,Bool.true_eq_false,Bool.false_eq_true]) (by grind [pkW]) (by grind [pkW])),(by simp [pkW, *]),rfl,rfl,‹_›⟩
 ·refine stretchE [((35 : Nat),[Hint.el ((packL k l m).getD (2 : Nat) default).dv]),((41 : Nat),[Hint.call true (Sx.bool true) []]),((48 : Nat),[Hint.int (bits BinOp.or IntKind.u64 (pkW k l m (2 : Nat)) (IntKind.u64.wrap (((packL k l m).getD (2 : Nat) default).value * (16 : Int))))]),((52 : Nat),[Hint.int ((4 : Int) + ((packL k l m).getD (2 : Nat) default).width)])] [] [] [false,false,true] (φ := ((0 : Int) ≤ (↑(2 : Nat) : Int) ∧ (List.map BField.dv (packL k l m))[(↑(2 : Nat) : Int).toNat]? = some ((packL k l m).getD (2 : Nat) default).dv) ∧ GSpec Tryz.prog 128 [u64 ((packL k l m).getD (2 : Nat) default).value,int ((packL k l m).getD (2 : Nat) default).width] true (Sx.bool true) [] ∧ (0 : Int) ≤ [(0 : Int),(2 : Int),(4 : Int),(16 : Int),(48 : Int)].getD (2 : Nat) (0 : Int) ∧ bits BinOp.or IntKind.u64 (pkW k l m (2 : Nat)) (IntKind.u64.wrap (((packL k l m).getD (2 : Nat) default).value * (2 : Int) ^ min ([(0 : Int),(2 : Int),(4 : Int),(16 : Int),(48 : Int)].getD (2 : Nat) (0 : Int)).toNat (64 : Nat))) = bits BinOp.or IntKind.u64 (pkW k l m (2 : Nat)) (IntKind.u64.wrap (((packL k l m).getD (2 : Nat) default).value * (16 : Int))) ∧ IntKind.i64.wrap ([(0 : Int),(2 : Int),(4 : Int),(16 : Int),(48 : Int)].getD (2 : Nat) (0 : Int) + ((packL k l m).getD (2 : Nat) default).width) = (4 : Int) + ((packL k l m).getD (2 : Nat) default).width ∧ bits BinOp.or IntKind.u64 (pkW k l m (2 : Nat)) (IntKind.u64.wrap (((packL k l m).getD (2 : Nat) default).value * (16 : Int))) = pkW k l m ((2 : Nat) + (1 : Nat))) ?_ (by kernel_rfl) (by kernel_rfl) (by kernel_rfl)
  exact ⟨(by exact elI (by omega) (by omega) (by omega)),(@bitsFits (((packL k l m).getD (2 : Nat) default).value) (((packL k l m).getD (2 : Nat) default).width) (by simp only [bs, *,true_or,or_true,true_and,and_true,not_true_eq_false,not_false_eq_true,Bool.true_eq_false,Bool.false_eq_true]) (by grind [pkW]) (by grind [pkW])),(by simp [pkW, *]),rfl,rfl,‹_›⟩
 ·refine stretchE [((35 : Nat),[Hint.el ((packL k l m).getD (3 : Nat) default).dv]),((41 : Nat),[Hint.call true (Sx.bool true) []]),((48 : Nat),[Hint.int (bits BinOp.or IntKind.u64 (pkW k l m (3 : Nat)) (IntKind.u64.wrap (((packL k l m).getD (3 : Nat) default).value * (65536 : Int))))]),((52 : Nat),[Hint.int ((16 : Int) + ((packL k l m).getD (3 : Nat) default).width)])] [] [] [false,false,true] (φ := ((0 : Int) ≤ (↑(3 : Nat) : Int) ∧ (List.map BField.dv (packL k l m))[(↑(3 : Nat) : Int).toNat]? = some ((packL k l m).getD (3 : Nat) default).dv) ∧ GSpec Tryz.prog 128 [u64 ((packL k l m).getD (3 : Nat) default).value,int ((packL k l m).getD (3 : Nat) default).width] true (Sx.bool true) [] ∧ (0 : Int) ≤ [(0 : Int),(2 : Int),(4 : Int),(16 : Int),(48 : Int)].getD (3 : Nat) (0 : Int) ∧ bits BinOp.or IntKind.u64 (pkW k l m (3 : Nat)) (IntKind.u64.wrap (((packL k l m).getD (3 : Nat) default).value * (2 : Int) ^ min ([(0 : Int),(2 : Int),(4 : Int),(16 : Int),(48 : Int)].getD (3 : Nat) (0 : Int)).toNat (64 : Nat))) = bits BinOp.or IntKind.u64 (pkW k l m (3 : Nat)) (IntKind.u64.wrap (((packL k l m).getD (3 : Nat) default).value * (65536 : Int))) ∧ IntKind.i64.wrap ([(0 : Int),(2 : Int),(4 : Int),(16 : Int),(48 : Int)].getD (3 : Nat) (0 : Int) + ((packL k l m).getD (3 : Nat) default).width) = (16 : Int) + ((packL k l m).getD (3 : Nat) default).width ∧ bits BinOp.or IntKind.u64 (pkW k l m (3 : Nat)) (IntKind.u64.wrap (((packL k l m).getD (3 : Nat) default).value * (65536 : Int))) = pkW k l m ((3 : Nat) + (1 : Nat))) ?_ (by kernel_rfl) (by kernel_rfl) (by kernel_rfl)
  exact ⟨(by exact elI (by omega) (by omega) (by omega)),(@bitsFits (((packL k l m).getD (3 : Nat) default).value) (((packL k l m).getD (3 : Nat) default).width) (by simp only [bs, *,true_or,or_true,true_and,and_true,not_true_eq_false,not_false_eq_true,Bool.true_eq_false,Bool.false_eq_true]) (by grind [pkW]) (by grind [pkW])),(by simp [pkW, *]),rfl,rfl,‹_›⟩
theorem pk2End (k l m : Int) : CSpec Tryz.prog (rndF Tryz.f105 2) (pk2 k l m 4).st (.ext 2) (Tg.st ⟨tm 55 [(2,u64 0),(3,int 0),(7,u64 (1 + 4 * k + 16 * l + 65536 * m))],[],6⟩) := by
 have eL : (packL k l m).length = 4 := rfl
 have ew : pkW k l m 4 = 1 + 4 * k + 16 * l + 65536 * m := rfl
 exact sF [] [] Fz
theorem pk2Loop (k l m : Int) (h1 : 0 ≤ k ∧ k ≤ 3) (h2 : 0 ≤ l ∧ l ≤ 255) (h3 : 0 ≤ m ∧ m ≤ 4294967295) : CSpec Tryz.prog (blkF Tryz.f105 2) (Tg.st ⟨tm 55 [(2,u64 0),(3,int 0),(7,u64 0),(8,int 0),(31,.d (.sl 2 ((packL k l m).map BField.dv))),(32,int (packL k l m).length),(33,int 0)],[],6⟩) .nrm (Tg.st ⟨tm 55 [(2,u64 0),(3,int 0),(7,u64 (1 + 4 * k + 16 * l + 65536 * m))],[],6⟩) :=
 loop_ext_of (S := fun i => (pk2 k l m i).st) 4 (by kernel_rfl) (fun i hi => pk2Round k l m i h1 h2 h3 hi) (pk2End k l m)
theorem bitsPack (k l m : Int) (h1 : 0 ≤ k ∧ k ≤ 3) (h2 : 0 ≤ l ∧ l ≤ 255) (h3 : 0 ≤ m ∧ m ≤ 4294967295) : GSpec Tryz.prog 105 [.d (.sl 2 ((packL k l m).map BField.dv))] true (.tu [u64 (1 + 4 * k + 16 * l + 65536 * m),int 0]) [] := by
 exact gF [] Tryz.func105 [] (Fg 12 (rfl : (↑(List.map BField.dv (packL k l m)).length : Int) =(↑(packL k l m).length : Int)) (Fu (@pk1Loop k l m) (Fg 32 (rfl : (↑(List.map BField.dv (packL k l m)).length : Int) =(↑(packL k l m).length : Int)) (Fu (@pk2Loop k l m ‹_› ‹_› ‹_›) Fz))))
theorem headerEncode (h : Header) (hm : 0 ≤ h.map ∧ h.map ≤ 4294967295) : GSpec Tryz.prog 69 [h.av] true (.tu [u64 (encodeH h).1,int (encodeH h).2]) [] := by
 rcases bb (!validH h) with hc0 | hc0<;>have hc0p:=hc0<;>simp only [bs] at hc0p
 ·exact gF [] Tryz.func69 [true] (Fc 5 (@headerValid h ‹_›) (Ft 6 hc0 (Fa (by simp [encodeH, *] : 0 =(encodeH h).fst) (Fa (by simp [encodeH, *] : 1 =(encodeH h).snd) Fz))))
 ·have hf3 := validH_iff.1 hc0p
  obtain ⟨hf3a,⟨hf3ba,⟨hf3bba,⟨hf3bbba,hf3bbbb⟩⟩⟩⟩ := hf3
  exact gF [] Tryz.func69 [true] (Fh 20 [.els (List.map BField.dv [BField.mk 2 1,BField.mk 2 h.kind,BField.mk 12 h.length,BField.mk 32 h.map])] (Fc 5 (@headerValid h ‹_›) (Ff 6 hc0 (Fv 10 h.kind (Fv 14 h.length (Fv 18 h.map (Fr (List.map BField.dv [BField.mk 2 1,BField.mk 2 h.kind,BField.mk 12 h.length,BField.mk 32 h.map]) (Fc 21 (@bitsPack h.kind h.length h.map (by omega) (by omega) ‹_›) (Fa (by simp [encodeH, *] : (1 :Int) + 4 * h.kind + 16 * h.length + 65536 * h.map =(encodeH h).fst) (Fa (by simp [encodeH, *] : 0 =(encodeH h).snd) Fz))))))))))
theorem cloneNil (c : Nat) : GSpec Tryz.prog 95 [.d (.sc (.slice none 0 c))] true (wordsV []) [] := by
 exact gF [] Tryz.func95 [] (Fnl Fz)
theorem cloneSome (p : Addr) (c : Nat) : GSpec Tryz.prog 95 [.d (.sc (.slice (some p) 0 c))] true (wordsV []) [] := by
 exact gF [] Tryz.func95 [] (Fh 5 [.els (List.map wdv [])] (Fh 7 [.els (List.map wdv [])] (Fr (List.map wdv []) (Fa (by simp [*] : (List.map wdv []).length + ([] : List (List DV)).length≤2 ^ 30) (Fr (List.map wdv []) (Fa (by exact flat_wdv _ : FlatEls (List.map wdv [])) Fz))))))
theorem cloneWordsS (ws : List Int) (hw : ws.length ≤ 1048576) (hne : ws ≠ []) : GSpec Tryz.prog 95 [wordsV ws] true (wordsV ws) [] := by
 exact gF [] Tryz.func95 [] (Fh 5 [.els (List.map wdv [])] (Fh 7 [.els (List.map wdv ws)] (Fa (by exact map_ne hne : List.map wdv ws ≠ []) (Fr (List.map wdv []) (Fa (by (simp [*]; omega) : (List.map wdv []).length + (List.map wdv ws).length≤2 ^ 30) (Fr (List.map wdv ws) (Fa (by exact flat_wdv _ : FlatEls (List.map wdv ws)) Fz)))))))
theorem cloneWords (ws : List Int) (hw : ws.length ≤ 1048576) : GSpec Tryz.prog 95 [wordsV ws] true (wordsV ws) [] := by
 by_cases hne : ws = []
 ·subst hne
  exact gspec_empty fun p c => match p with | none => cloneNil c | some p => cloneSome p c
 ·exact cloneWordsS ws hw hne
theorem arenaRead (ws : List Int) (a n : Int) (hw : ws.length ≤ 1048576) (h0 : 0 ≤ a ∧ a ≤ 18446744073709551615) : GSpec Tryz.prog 60 [wordsV ws,u64 a,int n] false (.tu [wordsV (readA ws a n).1,int (readA ws a n).2]) [] := by
 rcases bb (decide (n < 0)) with hc0 | hc0<;>have hc0p:=hc0<;>simp only [bs] at hc0p
 ·exact gF [] Tryz.func60 [true] (Ft 11 hc0 (Fnl (Fa (by simp [readA, *] : [] =List.map wdv (readA ws a n).fst) (Fa (by simp [readA, *] : 1 =(readA ws a n).snd) Fz))))
 ·have Q0 {h_ c_ p_} (r_ : Fq h_ c_ p_) := Ff 11 hc0 (Fc 16 (@arenaPlace ws a n ‹_› ‹_›) r_)
  rcases bb (!(placeA ws a n).snd) with hc9 | hc9<;>have hc9p:=hc9<;>simp only [bs] at hc9p
  ·have hf12 := placeA_no hc9p
   exact gF [] Tryz.func60 [true] (Q0 (Ft 20 hc9 (Fnl (Fa (by (simp only [readA]; (repeat' split) <;> first | rfl | omega | (exfalso; omega) | simp_all) : [] =List.map wdv (readA ws a n).fst) (Fa (by (simp only [readA]; (repeat' split) <;> first | rfl | omega | (exfalso; omega) | simp_all) : 2 =(readA ws a n).snd) Fz)))))
  ·have hf14 := placeA_ok hc9p
   obtain ⟨hf14a,⟨hf14ba,⟨hf14bba,hf14bbb⟩⟩⟩ := hf14
   exact gF [] Tryz.func60 [true] (Fh 26 [.els (List.map wdv (List.take (((placeA ws a n).fst + n).toNat - (placeA ws a n).fst.toNat) (List.drop (placeA ws a n).fst.toNat ws)))] (Q0 (Ff 20 hc9 (Fi 25 ((placeA ws a n).fst + n) (Fa (by (simp only [List.length_map]; omega) : 0≤(placeA ws a n).fst∧(placeA ws a n).fst≤(placeA ws a n).fst + n∧(placeA ws a n).fst + n≤(↑(List.map wdv ws).length : Int)) (Fa (by simp [readA,List.map_take,List.map_drop,List.map_set,List.map_append,wdv,idv] : List.take (((placeA ws a n).fst + n).toNat - (placeA ws a n).fst.toNat) (List.drop (placeA ws a n).fst.toNat (List.map wdv ws)) =List.map wdv (List.take (((placeA ws a n).fst + n).toNat - (placeA ws a n).fst.toNat) (List.drop (placeA ws a n).fst.toNat ws))) (Fc 27 (@cloneWords (List.take (((placeA ws a n).fst + n).toNat - (placeA ws a n).fst.toNat) (List.drop (placeA ws a n).fst.toNat ws)) (by (simp [readA, *]; omega))) (Fa (by refine congrArg _ ?_; (simp [readA, *]; omega) : List.map wdv (List.take (((placeA ws a n).fst + n).toNat - (placeA ws a n).fst.toNat) (List.drop (placeA ws a n).fst.toNat ws)) =List.map wdv (readA ws a n).fst) (Fa (by simp [readA, *] : 0 =(readA ws a n).snd) Fz)))))))))
theorem objectInit (h : Heap) (a : Int) (hd : Header) (hw : WOk h.words) (h0 : 0 ≤ a ∧ a ≤ 18446744073709551615) (hm : 0 ≤ hd.map ∧ hd.map ≤ 4294967295) : GSpec Tryz.prog 29 [h.av,u64 a,hd.av] false (.tu [(initH h a hd).1.av,int (initH h a hd).2]) [] := by
 by_cases hp : properB h = true ∧ (encodeH hd).2 = 0
 ·have ok := encodeH_ok hp.2
  have hz : sizeH hd = hd.length + 1 := by rw [sizeH,if_pos ok.1]
  have po := proper_ok hp.1
  have hp1 := hp.1
  have hp2 := hp.2
  have es : (List.replicate (sizeH hd).toNat 0).set 0 (encodeH hd).1 = objW hd := by
   rw [hz,objW,show (hd.length + 1).toNat = hd.length.toNat + 1 from by omega,List.replicate_succ,List.set_cons_zero]
  have el : ((List.replicate (sizeH hd).toNat 0).set 0 (encodeH hd).1).length = hd.length.toNat + 1 := by rw [es]; simp [objW]
  have hne : h.pages ≠ [] := ne_of_len (by omega)
  by_cases e : (writeA h.words a ((List.replicate (sizeH hd).toNat 0).set 0 (encodeH hd).1)).2 = 0
  ·have e7 : initH h a hd = ({ h with words := (writeA h.words a ((List.replicate (sizeH hd).toNat 0).set 0 (encodeH hd).1)).1 },0) := by
    rw [es] at e ⊢
    rw [initH,if_pos ⟨hp.1,ok.1⟩,if_pos e]
   rw [e7]
   exact gF [] Tryz.func29 [] (Fh 21 [.call true (Sx.bool (properB h)) []] (Fh 27 [.els (List.map wdv (List.replicate (sizeH hd).toNat 0))] (Fh 10030 [.els (List.map wdv ((List.replicate (sizeH hd).toNat 0).set 0 (encodeH hd).fst))] (Fc 14 (@headerEncode hd ‹_›) (Fa ((fun hg => by (try simp only [bs] at hg); exact @pageProper h) : (!(encodeH hd).snd != 0) =true→GSpec Tryz.prog 49 [h.av] true (Sx.bool (properB h)) []) (Ff 23 (by simp only [bs, *,true_or,or_true,true_and,and_true,not_true_eq_false,not_false_eq_true,Bool.true_eq_false,Bool.false_eq_true] : ((encodeH hd).snd != 0||!properB h)=false) (Fc 26 (@headerSize hd ‹_›) (Fb (0≤sizeH hd∧sizeH hd≤sizeH hd∧sizeH hd * ((↑(nat_lit 7) : Int) + 1)≤2 ^ 48) (Fa (by simp [List.map_take,List.map_drop,List.map_set,List.map_append,wdv,idv] : List.replicate (sizeH hd).toNat [du64 0] =List.map wdv (List.replicate (sizeH hd).toNat 0)) (Fa (by (simp [*]; omega) : (0 :Int)≤0∧Int.toNat 0 < (List.map wdv (List.replicate (sizeH hd).toNat 0)).length) (Fa (by (simp [*]; omega) : Int.toNat 0 < (List.map wdv (List.replicate (sizeH hd).toNat 0)).length) (Fa (by simp [List.map_take,List.map_drop,List.map_set,List.map_append,wdv,idv] : (List.map wdv (List.replicate (sizeH hd).toNat 0)).set (Int.toNat 0) [du64 (encodeH hd).fst] =List.map wdv ((List.replicate (sizeH hd).toNat 0).set 0 (encodeH hd).fst)) (Fc 36 (@arenaWrite h.words ((List.replicate (sizeH hd).toNat 0).set 0 (encodeH hd).fst) a (by omega) (by omega) ‹_› (by omega)) (Fc 42 (@objectChanged0 h ((writeA h.words a ((List.replicate (sizeH hd).toNat 0).set 0 (encodeH hd).fst)).fst) ((writeA h.words a ((List.replicate (sizeH hd).toNat 0).set 0 (encodeH hd).fst)).snd) (by omega) ‹_› ‹_›) Fz))))))))))))))
  ·have e7 : initH h a hd = (noHeap,(writeA h.words a ((List.replicate (sizeH hd).toNat 0).set 0 (encodeH hd).1)).2) := by
    rw [es] at e ⊢
    rw [initH,if_pos ⟨hp.1,ok.1⟩,if_neg e]
   rw [e7]
   exact gF [] Tryz.func29 [] (Fh 21 [.call true (Sx.bool (properB h)) []] (Fh 27 [.els (List.map wdv (List.replicate (sizeH hd).toNat 0))] (Fh 10030 [.els (List.map wdv ((List.replicate (sizeH hd).toNat 0).set 0 (encodeH hd).fst))] (Fc 14 (@headerEncode hd ‹_›) (Fa ((fun hg => by (try simp only [bs] at hg); exact @pageProper h) : (!(encodeH hd).snd != 0) =true→GSpec Tryz.prog 49 [h.av] true (Sx.bool (properB h)) []) (Ff 23 (by simp only [bs, *,true_or,or_true,true_and,and_true,not_true_eq_false,not_false_eq_true,Bool.true_eq_false,Bool.false_eq_true] : ((encodeH hd).snd != 0||!properB h)=false) (Fc 26 (@headerSize hd ‹_›) (Fb (0≤sizeH hd∧sizeH hd≤sizeH hd∧sizeH hd * ((↑(nat_lit 7) : Int) + 1)≤2 ^ 48) (Fa (by simp [noHeap,List.map_take,List.map_drop,List.map_set,List.map_append,wdv,idv] : List.replicate (sizeH hd).toNat [du64 0] =List.map wdv (List.replicate (sizeH hd).toNat 0)) (Fa (by (simp [noHeap, *]; omega) : (0 :Int)≤0∧Int.toNat 0 < (List.map wdv (List.replicate (sizeH hd).toNat 0)).length) (Fa (by (simp [noHeap, *]; omega) : Int.toNat 0 < (List.map wdv (List.replicate (sizeH hd).toNat 0)).length) (Fa (by simp [noHeap,List.map_take,List.map_drop,List.map_set,List.map_append,wdv,idv] : (List.map wdv (List.replicate (sizeH hd).toNat 0)).set (Int.toNat 0) [du64 (encodeH hd).fst] =List.map wdv ((List.replicate (sizeH hd).toNat 0).set 0 (encodeH hd).fst)) (Fc 36 (@arenaWrite h.words ((List.replicate (sizeH hd).toNat 0).set 0 (encodeH hd).fst) a (by omega) (by omega) ‹_› (by omega)) (Fc 42 (@objectChangedE h ((writeA h.words a ((List.replicate (sizeH hd).toNat 0).set 0 (encodeH hd).fst)).fst) ((writeA h.words a ((List.replicate (sizeH hd).toNat 0).set 0 (encodeH hd).fst)).snd) ‹_›) Fz))))))))))))))
 ·have e7 : initH h a hd = (noHeap,1) := initH_bad (by
   by_cases q : properB h = true
   ·exact .inr fun q2 => hp ⟨q,q2⟩
   ·exact .inl (by simpa using q))
  rw [e7]
  have Q0 {h_ c_ p_} (r_ : Fq h_ c_ p_) := Fc 14 (@headerEncode hd ‹_›) (Fa ((fun hg => by (try simp only [bs] at hg); exact @pageProper h) : (!(encodeH hd).snd != 0) =true→GSpec Tryz.prog 49 [h.av] true (Sx.bool (properB h)) []) r_)
  rcases bb ((encodeH hd).snd != 0 || !properB h) with hc0 | hc0<;>have hc0p:=hc0<;>simp only [bs] at hc0p
  ·exact gF [] Tryz.func29 [] (Fh 21 [.call true (Sx.bool (properB h)) []] (Q0 (Ft 23 hc0 (Fnl (Fnl Fz)))))
  ·obtain ⟨hc0pa,hc0pb⟩ := hc0p
   exact gF [] Tryz.func29 [false,false,false,true] (Fh 21 [.call true (Sx.bool (properB h)) []] (Fh 27 [.els (List.map wdv (List.replicate (sizeH hd).toNat 0))] (Fh 10030 [.els (List.map wdv ((List.replicate (sizeH hd).toNat 0).set 0 (encodeH hd).fst))] (Q0 (Ff 23 hc0 (Fc 26 (@headerSize hd ‹_›) (Fa (by (simp only [noHeap]; (repeat' split) <;> first | rfl | omega | (exfalso; omega) | simp_all) : 0≤sizeH hd∧sizeH hd≤sizeH hd∧sizeH hd * ((↑(nat_lit 7) : Int) + 1)≤2 ^ 48) (Fa (by simp [noHeap,List.map_take,List.map_drop,List.map_set,List.map_append,wdv,idv] : List.replicate (sizeH hd).toNat [du64 0] =List.map wdv (List.replicate (sizeH hd).toNat 0)) (Fa (by grind [noHeap] : (0 :Int)≤0∧Int.toNat 0 < (List.map wdv (List.replicate (sizeH hd).toNat 0)).length) (Fa (by grind [noHeap] : Int.toNat 0 < (List.map wdv (List.replicate (sizeH hd).toNat 0)).length) (Fa (by simp [noHeap,List.map_take,List.map_drop,List.map_set,List.map_append,wdv,idv] : (List.map wdv (List.replicate (sizeH hd).toNat 0)).set (Int.toNat 0) [du64 (encodeH hd).fst] =List.map wdv ((List.replicate (sizeH hd).toNat 0).set 0 (encodeH hd).fst)) (Fc 36 (@arenaWrite h.words ((List.replicate (sizeH hd).toNat 0).set 0 (encodeH hd).fst) a (by grind [noHeap]) (by grind [noHeap]) ‹_› (by grind [noHeap])) (Fc 42 (@objectChanged0 h ((writeA h.words a ((List.replicate (sizeH hd).toNat 0).set 0 (encodeH hd).fst)).fst) ((writeA h.words a ((List.replicate (sizeH hd).toNat 0).set 0 (encodeH hd).fst)).snd) (by grind [noHeap]) (by grind [noHeap]) (by grind [noHeap])) (Fa (by (simp only [noHeap]; (repeat' split) <;> first | rfl | omega | (exfalso; omega) | simp_all) : (Heap.mk h.conf (writeA h.words a ((List.replicate (sizeH hd).toNat 0).set 0 (encodeH hd).fst)).fst h.pages h.space h.bump).conf.pw =0) (Fa (by (simp only [noHeap]; (repeat' split) <;> first | rfl | omega | (exfalso; omega) | simp_all) : (Heap.mk h.conf (writeA h.words a ((List.replicate (sizeH hd).toNat 0).set 0 (encodeH hd).fst)).fst h.pages h.space h.bump).conf.pg =0) (Fa (by refine congrArg _ ?_; (simp only [noHeap]; (repeat' split) <;> first | rfl | omega | (exfalso; omega) | simp_all) : List.map wdv (Heap.mk h.conf (writeA h.words a ((List.replicate (sizeH hd).toNat 0).set 0 (encodeH hd).fst)).fst h.pages h.space h.bump).words =List.map wdv (noHeap,1).fst.words) (Fa (by refine congrArg _ ?_; (simp only [noHeap]; (repeat' split) <;> first | rfl | omega | (exfalso; omega) | simp_all) : List.map Page.dv (Heap.mk h.conf (writeA h.words a ((List.replicate (sizeH hd).toNat 0).set 0 (encodeH hd).fst)).fst h.pages h.space h.bump).pages =List.map Page.dv (noHeap,1).fst.pages) (Fa (by (simp only [noHeap]; (repeat' split) <;> first | rfl | omega | (exfalso; omega) | simp_all) : (Heap.mk h.conf (writeA h.words a ((List.replicate (sizeH hd).toNat 0).set 0 (encodeH hd).fst)).fst h.pages h.space h.bump).space =0) (Fa (by (simp only [noHeap]; (repeat' split) <;> first | rfl | omega | (exfalso; omega) | simp_all) : (Heap.mk h.conf (writeA h.words a ((List.replicate (sizeH hd).toNat 0).set 0 (encodeH hd).fst)).fst h.pages h.space h.bump).bump =0) (Fa (by grind [noHeap] : (0 :Int) =1) Fz))))))))))))))))))))
theorem putN_eq (h : Heap) (hd : Header) : put7 h hd = putN h (sizeH hd) := rfl
theorem prep_put {h : Heap} {n : Int} (hp : properB h = true) (hn : 1 ≤ n ∧ n ≤ 256) (e : (putN h n).2.2 = true) : (putN h n).2.1 = 4096 + (prepI h n * h.conf.pw + prepO h n) ∧ inB h.conf (prepI h n) (prepO h n) = true := by
 obtain ⟨o1,o2,o3,o4,o5,o6,o7,o8,o9⟩ := proper_ok hp
 have hb := (properB_iff.1 hp).2.2.2.2.1
 rw [inB_iff]
 unfold putN prepI prepO at *
 split at e
 ·rename_i hk
  unfold large7 at e ⊢
  split at e
  ·rename_i hg
   have := (first_free hg.1).2.1
   simp only [if_pos hk,if_pos hg]
   exact ⟨by omega,by omega,by omega,by omega,by omega⟩
  ·simp at e
 ·rename_i hk
  unfold small7 at e ⊢
  split at e
  ·rename_i hf
   simp only [if_neg hk,if_pos hf]
   unfold fitsB at hf
   have hpg := proper_page hp (j := h.bump.toNat) (by omega)
   exact ⟨by omega,by omega,by omega,by omega,by omega⟩
  ·rename_i hf
   split at e
   ·rename_i hg
    have q := freshP_ok (h := h) o9 hg.1
    have q6 := congrArg Page.used q.2.2.2
    simp only at q6
    simp only [if_neg hk,if_neg hf,if_pos hg]
    exact ⟨by rw [q6]; omega,by omega,by omega,by omega,by omega⟩
   ·simp at e
theorem allocPrep (h : Heap) (n : Int) (hp : properB h = true) (hn : 1 ≤ n ∧ n ≤ 256) (e : (putN h n).2.2 = true) : GSpec Tryz.prog 75 [h.av,int n] false (.tu [(putN h n).1.av,.ag [int (prepI h n),int (prepO h n)],int 0]) [] := by
 unfold putN prepI prepO at *
 split at e
 ·rename_i hk
  unfold large7 at e ⊢
  split at e
  ·rename_i hg
   simp only [if_pos hk,if_pos hg]
   exact allocPrepOwn h n hp hk hg
  ·simp at e
 ·rename_i hk
  unfold small7 at e ⊢
  split at e
  ·rename_i hf
   simp only [if_neg hk,if_pos hf]
   exact allocPrepFit h n hp hn hk hf
  ·rename_i hf
   split at e
   ·rename_i hg
    simp only [if_neg hk,if_neg hf,if_pos hg]
    exact allocPrepFresh h n hp hn hk hf hg
   ·simp at e
theorem allocPrepBad (h : Heap) (n : Int) (hp : properB h = true) (hn : 1 ≤ n ∧ n ≤ 256) (e : (putN h n).2.2 = false) : GSpec Tryz.prog 75 [h.av,int n] false (.tu [noHeap.av,.ag [int 0,int 0],int 3]) [] := by
 unfold putN at e
 split at e
 ·rename_i hk
  unfold large7 at e
  split at e
  ·simp at e
  ·rename_i hg
   exact allocPrepNo h n hp hk hg
 ·rename_i hk
  unfold small7 at e
  split at e
  ·simp at e
  ·rename_i hf
   split at e
   ·simp at e
   ·rename_i hg
    exact allocPrepFull h n hp hn hk hf hg
theorem allocNew (h : Heap) (hd : Header) (hw : WOk h.words) (hm : 0 ≤ hd.map ∧ hd.map ≤ 4294967295) : GSpec Tryz.prog 32 [h.av,hd.av] false (.tu [(new7 h hd).1.av,u64 (new7 h hd).2.1,int (new7 h hd).2.2]) [] := by
 by_cases hc : properB h = true ∧ asksH h.conf hd = true
 ·obtain ⟨c1,c2⟩ := hc
  obtain ⟨a1,a2,a3,a4,a5⟩ := asksH_ok c2
  have po := proper_ok c1
  by_cases hf : (putN h (sizeH hd)).2.2 = true
  ·have e0 : (new7 h hd).2.2 = 0 := by rw [new7,if_pos ⟨c1,c2⟩,putN_eq,if_pos hf]
   obtain ⟨k1,k2,k3,k4,k5,k6,k7,k8⟩ := new7_ok hw hm e0
   rw [putN_eq] at k3
   obtain ⟨p1,p2⟩ := prep_put c1 ⟨a2,a3⟩ hf
   have hwp : WOk (putN h (sizeH hd)).1.words := by rw [k3.w]; exact hw
   have e8 : address h.conf (prepI h (sizeH hd)) (prepO h (sizeH hd)) = ((putN h (sizeH hd)).2.1,0) := by rw [address,if_pos po.1,if_pos p2,p1]
   have ei1 := congrArg (fun x => x.1) e8
   have e82 := congrArg (fun x => x.2) e8
   simp only at ei1 e82
   have hlo := k3.lo
   have hhi := k3.hi
   have ei2 : (initH (putN h (sizeH hd)).1 (putN h (sizeH hd)).2.1 hd).2 = 0 := by
    have ho := objW_ok a1 hm
    have ew : writeA (putN h (sizeH hd)).1.words (putN h (sizeH hd)).2.1 (objW hd) = (spl (putN h (sizeH hd)).1.words ((putN h (sizeH hd)).2.1 - 4096).toNat (objW hd),0) := by rw [writeA,if_pos ⟨hlo,by rw [k3.w]; omega⟩]
    rw [initH,if_pos ⟨k3.pr,a1⟩,ew]
    simp
   have ei3 : (initH (putN h (sizeH hd)).1 (address h.conf (prepI h (sizeH hd)) (prepO h (sizeH hd))).1 hd).2 = 0 := by rw [ei1]; exact ei2
   have e7 : new7 h hd = ((initH (putN h (sizeH hd)).1 (putN h (sizeH hd)).2.1 hd).1,(putN h (sizeH hd)).2.1,0) := by rw [new7,if_pos ⟨c1,c2⟩,putN_eq,if_pos hf]
   rw [e7]
   refine gspec_ofE [((12 : Nat),[Hint.call true (Sx.bool (properB h)) []]),((18 : Nat),[Hint.call true (Sx.bool (asksH h.conf hd)) []]),((20 : Nat),[Hint.br false]),((25 : Nat),[Hint.call true (int (sizeH hd)) []]),((26 : Nat),[Hint.call false (AV.tu [(putN h (sizeH hd)).fst.av,AV.ag [int (prepI h (sizeH hd)),int (prepO h (sizeH hd))],int (0 : Int)]) []]),((41 : Nat),[Hint.call true (addressV h.conf (prepI h (sizeH hd)) (prepO h (sizeH hd))) []]),((45 : Nat),[Hint.br false]),((52 : Nat),[Hint.call false (AV.tu [(initH (putN h (sizeH hd)).fst (address h.conf (prepI h (sizeH hd)) (prepO h (sizeH hd))).fst hd).fst.av,int (initH (putN h (sizeH hd)).fst (address h.conf (prepI h (sizeH hd)) (prepO h (sizeH hd))).fst hd).snd]) []]),((56 : Nat),[Hint.br false])] [] [] (by decide) Tryz.func32 [false,false,false,false,false,true] (φ := GSpec Tryz.prog 49 [h.av] true (Sx.bool (properB h)) [] ∧ ((!!properB h) = true → GSpec Tryz.prog 74 [h.conf.av,hd.av] true (Sx.bool (asksH h.conf hd)) []) ∧ (!properB h || !asksH h.conf hd) = false ∧ false = false ∧ GSpec Tryz.prog 54 [hd.av] true (int (sizeH hd)) [] ∧ GSpec Tryz.prog 75 [h.av,int (sizeH hd)] false (AV.tu [(putN h (sizeH hd)).fst.av,AV.ag [int (prepI h (sizeH hd)),int (prepO h (sizeH hd))],int (0 : Int)]) [] ∧ GSpec Tryz.prog 76 [h.conf.av,int (prepI h (sizeH hd)),int (prepO h (sizeH hd))] true (addressV h.conf (prepI h (sizeH hd)) (prepO h (sizeH hd))) [] ∧ ((address h.conf (prepI h (sizeH hd)) (prepO h (sizeH hd))).snd != (0 : Int)) = false ∧ false = false ∧ GSpec Tryz.prog 29 [(putN h (sizeH hd)).fst.av,u64 (address h.conf (prepI h (sizeH hd)) (prepO h (sizeH hd))).fst,hd.av] false (AV.tu [(initH (putN h (sizeH hd)).fst (address h.conf (prepI h (sizeH hd)) (prepO h (sizeH hd))).fst hd).fst.av,int (initH (putN h (sizeH hd)).fst (address h.conf (prepI h (sizeH hd)) (prepO h (sizeH hd))).fst hd).snd]) [] ∧ ((initH (putN h (sizeH hd)).fst (address h.conf (prepI h (sizeH hd)) (prepO h (sizeH hd))).fst hd).snd != (0 : Int)) = false ∧ false = false ∧ (initH (putN h (sizeH hd)).fst (address h.conf (prepI h (sizeH hd)) (prepO h (sizeH hd))).fst hd).fst.conf.pw = (initH (putN h (sizeH hd)).fst (putN h (sizeH hd)).snd.fst hd).fst.conf.pw ∧ (initH (putN h (sizeH hd)).fst (address h.conf (prepI h (sizeH hd)) (prepO h (sizeH hd))).fst hd).fst.conf.pg = (initH (putN h (sizeH hd)).fst (putN h (sizeH hd)).snd.fst hd).fst.conf.pg ∧ List.map wdv (initH (putN h (sizeH hd)).fst (address h.conf (prepI h (sizeH hd)) (prepO h (sizeH hd))).fst hd).fst.words = List.map wdv ((initH (putN h (sizeH hd)).fst (putN h (sizeH hd)).snd.fst hd).fst,(putN h (sizeH hd)).snd.fst,(0 : Int)).fst.words ∧ List.map Page.dv (initH (putN h (sizeH hd)).fst (address h.conf (prepI h (sizeH hd)) (prepO h (sizeH hd))).fst hd).fst.pages = List.map Page.dv ((initH (putN h (sizeH hd)).fst (putN h (sizeH hd)).snd.fst hd).fst,(putN h (sizeH hd)).snd.fst,(0 : Int)).fst.pages ∧ (initH (putN h (sizeH hd)).fst (address h.conf (prepI h (sizeH hd)) (prepO h (sizeH hd))).fst hd).fst.space = (initH (putN h (sizeH hd)).fst (putN h (sizeH hd)).snd.fst hd).fst.space ∧ (initH (putN h (sizeH hd)).fst (address h.conf (prepI h (sizeH hd)) (prepO h (sizeH hd))).fst hd).fst.bump = (initH (putN h (sizeH hd)).fst (putN h (sizeH hd)).snd.fst hd).fst.bump ∧ (address h.conf (prepI h (sizeH hd)) (prepO h (sizeH hd))).fst = (putN h (sizeH hd)).snd.fst ∧ (0 : Int) = (0 : Int)) ?_ (by kernel_rfl) (by kernel_rfl)
   exact ⟨(@pageProper (h)),(fun hg => by (try simp only [bs] at hg); exact @allocAsks (h.conf) (hd) (by (try simp only [bs] at hg); assumption)),(by simp only [bs, *,true_or,or_true,true_and,and_true,not_true_eq_false,not_false_eq_true,Bool.true_eq_false,Bool.false_eq_true]),rfl,(@headerSize (hd) ‹_›),(@allocPrep (h) (sizeH hd) ‹_› (by omega) ‹_›),(@pageAddress (h.conf) (prepI h (sizeH hd)) (prepO h (sizeH hd))),(by (simp only [bs]; omega)),rfl,(@objectInit ((putN h (sizeH hd)).fst) ((address h.conf (prepI h (sizeH hd)) (prepO h (sizeH hd))).fst) (hd) ‹_› (by omega) ‹_›),(by (simp only [bs]; omega)),rfl,(by simp only [bs, *,true_or,or_true,true_and,and_true,not_true_eq_false,not_false_eq_true,Bool.true_eq_false,Bool.false_eq_true]),(by simp only [bs, *,true_or,or_true,true_and,and_true,not_true_eq_false,not_false_eq_true,Bool.true_eq_false,Bool.false_eq_true]),(by refine congrArg _ ?_; simp [ei1,List.map_take,List.map_drop,List.map_set,List.map_append,wdv,idv]),(by refine congrArg _ ?_; simp [ei1,List.map_take,List.map_drop,List.map_set,List.map_append,wdv,idv]),(by simp only [bs, *,true_or,or_true,true_and,and_true,not_true_eq_false,not_false_eq_true,Bool.true_eq_false,Bool.false_eq_true]),(by simp only [bs, *,true_or,or_true,true_and,and_true,not_true_eq_false,not_false_eq_true,Bool.true_eq_false,Bool.false_eq_true]),‹_›,rfl⟩
  ·have hf' : (putN h (sizeH hd)).2.2 = false := by simpa using hf
   have e7 : new7 h hd = (noHeap,0,3) := by rw [new7,if_pos ⟨c1,c2⟩,putN_eq,if_neg hf]
   rw [e7]
   refine gspec_ofE [((12 : Nat),[Hint.call true (Sx.bool (properB h)) []]),((18 : Nat),[Hint.call true (Sx.bool (asksH h.conf hd)) []]),((20 : Nat),[Hint.br false]),((25 : Nat),[Hint.call true (int (sizeH hd)) []]),((26 : Nat),[Hint.call false (AV.tu [noHeap.av,AV.ag [int (0 : Int),int (0 : Int)],int (3 : Int)]) []])] [] [] (by decide) Tryz.func32 [] (φ := GSpec Tryz.prog 49 [h.av] true (Sx.bool (properB h)) [] ∧ ((!!properB h) = true → GSpec Tryz.prog 74 [h.conf.av,hd.av] true (Sx.bool (asksH h.conf hd)) []) ∧ (!properB h || !asksH h.conf hd) = false ∧ false = false ∧ GSpec Tryz.prog 54 [hd.av] true (int (sizeH hd)) [] ∧ GSpec Tryz.prog 75 [h.av,int (sizeH hd)] false (AV.tu [noHeap.av,AV.ag [int (0 : Int),int (0 : Int)],int (3 : Int)]) [] ∧ ([] : List (List DV)) = [] ∧ ([] : List (List DV)) = []) ?_ (by kernel_rfl) (by kernel_rfl)
   exact ⟨(@pageProper (h)),(fun hg => by (try simp only [bs] at hg); exact @allocAsks (h.conf) (hd) (by (try simp only [bs] at hg); assumption)),(by simp only [bs, *,true_or,or_true,true_and,and_true,not_true_eq_false,not_false_eq_true,Bool.true_eq_false,Bool.false_eq_true]),rfl,(@headerSize (hd) ‹_›),(@allocPrepBad (h) (sizeH hd) ‹_› (by omega) ‹_›),rfl,rfl⟩
 ·have e7 : new7 h hd = (noHeap,0,1) := by rw [new7,if_neg hc]
  rw [e7]
  rcases Bool.eq_false_or_eq_true (!properB h || !asksH h.conf hd) with hc0 | hc0
  ·have hc0p := hc0
   simp only [bs] at hc0p
   refine gspec_ofE [((12 : Nat),[Hint.call true (Sx.bool (properB h)) []]),((18 : Nat),[Hint.call true (Sx.bool (asksH h.conf hd)) []]),((20 : Nat),[Hint.br true])] [] [] (by decide) Tryz.func32 [] (φ := GSpec Tryz.prog 49 [h.av] true (Sx.bool (properB h)) [] ∧ ((!!properB h) = true → GSpec Tryz.prog 74 [h.conf.av,hd.av] true (Sx.bool (asksH h.conf hd)) []) ∧ (!properB h || !asksH h.conf hd) = true ∧ true = true ∧ ([] : List (List DV)) = [] ∧ ([] : List (List DV)) = []) ?_ (by kernel_rfl) (by kernel_rfl)
   exact ⟨(@pageProper (h)),(fun hg => by (try simp only [bs] at hg); exact @allocAsks (h.conf) (hd) (by (try simp only [bs] at hg); assumption)),‹_›,rfl,rfl,rfl⟩
  ·have hc0p := hc0
   simp only [bs] at hc0p
   obtain ⟨hc0pa,hc0pb⟩ := hc0p
   rcases Bool.eq_false_or_eq_true ((address h.conf (prepI h (sizeH hd)) (prepO h (sizeH hd))).snd != (0 : Int)) with hc1 | hc1
   ·have hc1p := hc1
    simp only [bs] at hc1p
    refine gspec_ofE [((12 : Nat),[Hint.call true (Sx.bool (properB h)) []]),((18 : Nat),[Hint.call true (Sx.bool (asksH h.conf hd)) []]),((20 : Nat),[Hint.br false]),((25 : Nat),[Hint.call true (int (sizeH hd)) []]),((26 : Nat),[Hint.call false (AV.tu [(putN h (sizeH hd)).fst.av,AV.ag [int (prepI h (sizeH hd)),int (prepO h (sizeH hd))],int (0 : Int)]) []]),((41 : Nat),[Hint.call true (addressV h.conf (prepI h (sizeH hd)) (prepO h (sizeH hd))) []]),((45 : Nat),[Hint.br true])] [] [] (by decide) Tryz.func32 [false,false,false,false,false,true] (φ := GSpec Tryz.prog 49 [h.av] true (Sx.bool (properB h)) [] ∧ ((!!properB h) = true → GSpec Tryz.prog 74 [h.conf.av,hd.av] true (Sx.bool (asksH h.conf hd)) []) ∧ (!properB h || !asksH h.conf hd) = false ∧ false = false ∧ GSpec Tryz.prog 54 [hd.av] true (int (sizeH hd)) [] ∧ GSpec Tryz.prog 75 [h.av,int (sizeH hd)] false (AV.tu [(putN h (sizeH hd)).fst.av,AV.ag [int (prepI h (sizeH hd)),int (prepO h (sizeH hd))],int (0 : Int)]) [] ∧ GSpec Tryz.prog 76 [h.conf.av,int (prepI h (sizeH hd)),int (prepO h (sizeH hd))] true (addressV h.conf (prepI h (sizeH hd)) (prepO h (sizeH hd))) [] ∧ ((address h.conf (prepI h (sizeH hd)) (prepO h (sizeH hd))).snd != (0 : Int)) = true ∧ true = true ∧ ([] : List (List DV)) = [] ∧ ([] : List (List DV)) = [] ∧ (0 : Int) = (0 : Int) ∧ (0 : Int) = (0 : Int) ∧ [] = List.map wdv (noHeap,(0 : Int),(1 : Int)).fst.words ∧ [] = List.map Page.dv (noHeap,(0 : Int),(1 : Int)).fst.pages ∧ (0 : Int) = (0 : Int) ∧ (0 : Int) = (0 : Int) ∧ (0 : Int) = (0 : Int) ∧ (address h.conf (prepI h (sizeH hd)) (prepO h (sizeH hd))).snd = (1 : Int)) ?_ (by kernel_rfl) (by kernel_rfl)
    exact ⟨(@pageProper (h)),(fun hg => by (try simp only [bs] at hg); exact @allocAsks (h.conf) (hd) (by (try simp only [bs] at hg); assumption)),‹_›,rfl,(@headerSize (hd) ‹_›),(@allocPrep (h) (sizeH hd) ‹_› (by grind [noHeap]) (by grind [noHeap])),(@pageAddress (h.conf) (prepI h (sizeH hd)) (prepO h (sizeH hd))),‹_›,rfl,rfl,rfl,rfl,rfl,rfl,rfl,rfl,rfl,rfl,(by grind [noHeap])⟩
   ·have hc1p := hc1
    simp only [bs] at hc1p
    rcases Bool.eq_false_or_eq_true ((initH (putN h (sizeH hd)).fst (address h.conf (prepI h (sizeH hd)) (prepO h (sizeH hd))).fst hd).snd != (0 : Int)) with hc2 | hc2
    ·have hc2p := hc2
     simp only [bs] at hc2p
     refine gspec_ofE [((12 : Nat),[Hint.call true (Sx.bool (properB h)) []]),((18 : Nat),[Hint.call true (Sx.bool (asksH h.conf hd)) []]),((20 : Nat),[Hint.br false]),((25 : Nat),[Hint.call true (int (sizeH hd)) []]),((26 : Nat),[Hint.call false (AV.tu [(putN h (sizeH hd)).fst.av,AV.ag [int (prepI h (sizeH hd)),int (prepO h (sizeH hd))],int (0 : Int)]) []]),((41 : Nat),[Hint.call true (addressV h.conf (prepI h (sizeH hd)) (prepO h (sizeH hd))) []]),((45 : Nat),[Hint.br false]),((52 : Nat),[Hint.call false (AV.tu [(initH (putN h (sizeH hd)).fst (address h.conf (prepI h (sizeH hd)) (prepO h (sizeH hd))).fst hd).fst.av,int (initH (putN h (sizeH hd)).fst (address h.conf (prepI h (sizeH hd)) (prepO h (sizeH hd))).fst hd).snd]) []]),((56 : Nat),[Hint.br true])] [] [] (by decide) Tryz.func32 [false,false,false,false,false,true] (φ := GSpec Tryz.prog 49 [h.av] true (Sx.bool (properB h)) [] ∧ ((!!properB h) = true → GSpec Tryz.prog 74 [h.conf.av,hd.av] true (Sx.bool (asksH h.conf hd)) []) ∧ (!properB h || !asksH h.conf hd) = false ∧ false = false ∧ GSpec Tryz.prog 54 [hd.av] true (int (sizeH hd)) [] ∧ GSpec Tryz.prog 75 [h.av,int (sizeH hd)] false (AV.tu [(putN h (sizeH hd)).fst.av,AV.ag [int (prepI h (sizeH hd)),int (prepO h (sizeH hd))],int (0 : Int)]) [] ∧ GSpec Tryz.prog 76 [h.conf.av,int (prepI h (sizeH hd)),int (prepO h (sizeH hd))] true (addressV h.conf (prepI h (sizeH hd)) (prepO h (sizeH hd))) [] ∧ ((address h.conf (prepI h (sizeH hd)) (prepO h (sizeH hd))).snd != (0 : Int)) = false ∧ false = false ∧ GSpec Tryz.prog 29 [(putN h (sizeH hd)).fst.av,u64 (address h.conf (prepI h (sizeH hd)) (prepO h (sizeH hd))).fst,hd.av] false (AV.tu [(initH (putN h (sizeH hd)).fst (address h.conf (prepI h (sizeH hd)) (prepO h (sizeH hd))).fst hd).fst.av,int (initH (putN h (sizeH hd)).fst (address h.conf (prepI h (sizeH hd)) (prepO h (sizeH hd))).fst hd).snd]) [] ∧ ((initH (putN h (sizeH hd)).fst (address h.conf (prepI h (sizeH hd)) (prepO h (sizeH hd))).fst hd).snd != (0 : Int)) = true ∧ true = true ∧ ([] : List (List DV)) = [] ∧ ([] : List (List DV)) = [] ∧ (0 : Int) = (0 : Int) ∧ (0 : Int) = (0 : Int) ∧ [] = List.map wdv (noHeap,(0 : Int),(1 : Int)).fst.words ∧ [] = List.map Page.dv (noHeap,(0 : Int),(1 : Int)).fst.pages ∧ (0 : Int) = (0 : Int) ∧ (0 : Int) = (0 : Int) ∧ (0 : Int) = (0 : Int) ∧ (initH (putN h (sizeH hd)).fst (address h.conf (prepI h (sizeH hd)) (prepO h (sizeH hd))).fst hd).snd = (1 : Int)) ?_ (by kernel_rfl) (by kernel_rfl)
     exact ⟨(@pageProper (h)),(fun hg => by (try simp only [bs] at hg); exact @allocAsks (h.conf) (hd) (by (try simp only [bs] at hg); assumption)),‹_›,rfl,(@headerSize (hd) ‹_›),(@allocPrep (h) (sizeH hd) ‹_› (by grind [noHeap]) (by grind [noHeap])),(@pageAddress (h.conf) (prepI h (sizeH hd)) (prepO h (sizeH hd))),‹_›,rfl,(@objectInit ((putN h (sizeH hd)).fst) ((address h.conf (prepI h (sizeH hd)) (prepO h (sizeH hd))).fst) (hd) (by grind [noHeap]) (by grind [noHeap]) ‹_›),‹_›,rfl,rfl,rfl,rfl,rfl,rfl,rfl,rfl,rfl,rfl,(by grind [noHeap])⟩
    ·have hc2p := hc2
     simp only [bs] at hc2p
     refine gspec_ofE [((12 : Nat),[Hint.call true (Sx.bool (properB h)) []]),((18 : Nat),[Hint.call true (Sx.bool (asksH h.conf hd)) []]),((20 : Nat),[Hint.br false]),((25 : Nat),[Hint.call true (int (sizeH hd)) []]),((26 : Nat),[Hint.call false (AV.tu [(putN h (sizeH hd)).fst.av,AV.ag [int (prepI h (sizeH hd)),int (prepO h (sizeH hd))],int (0 : Int)]) []]),((41 : Nat),[Hint.call true (addressV h.conf (prepI h (sizeH hd)) (prepO h (sizeH hd))) []]),((45 : Nat),[Hint.br false]),((52 : Nat),[Hint.call false (AV.tu [(initH (putN h (sizeH hd)).fst (address h.conf (prepI h (sizeH hd)) (prepO h (sizeH hd))).fst hd).fst.av,int (initH (putN h (sizeH hd)).fst (address h.conf (prepI h (sizeH hd)) (prepO h (sizeH hd))).fst hd).snd]) []]),((56 : Nat),[Hint.br false])] [] [] (by decide) Tryz.func32 [false,false,false,false,false,true] (φ := GSpec Tryz.prog 49 [h.av] true (Sx.bool (properB h)) [] ∧ ((!!properB h) = true → GSpec Tryz.prog 74 [h.conf.av,hd.av] true (Sx.bool (asksH h.conf hd)) []) ∧ (!properB h || !asksH h.conf hd) = false ∧ false = false ∧ GSpec Tryz.prog 54 [hd.av] true (int (sizeH hd)) [] ∧ GSpec Tryz.prog 75 [h.av,int (sizeH hd)] false (AV.tu [(putN h (sizeH hd)).fst.av,AV.ag [int (prepI h (sizeH hd)),int (prepO h (sizeH hd))],int (0 : Int)]) [] ∧ GSpec Tryz.prog 76 [h.conf.av,int (prepI h (sizeH hd)),int (prepO h (sizeH hd))] true (addressV h.conf (prepI h (sizeH hd)) (prepO h (sizeH hd))) [] ∧ ((address h.conf (prepI h (sizeH hd)) (prepO h (sizeH hd))).snd != (0 : Int)) = false ∧ false = false ∧ GSpec Tryz.prog 29 [(putN h (sizeH hd)).fst.av,u64 (address h.conf (prepI h (sizeH hd)) (prepO h (sizeH hd))).fst,hd.av] false (AV.tu [(initH (putN h (sizeH hd)).fst (address h.conf (prepI h (sizeH hd)) (prepO h (sizeH hd))).fst hd).fst.av,int (initH (putN h (sizeH hd)).fst (address h.conf (prepI h (sizeH hd)) (prepO h (sizeH hd))).fst hd).snd]) [] ∧ ((initH (putN h (sizeH hd)).fst (address h.conf (prepI h (sizeH hd)) (prepO h (sizeH hd))).fst hd).snd != (0 : Int)) = false ∧ false = false ∧ (initH (putN h (sizeH hd)).fst (address h.conf (prepI h (sizeH hd)) (prepO h (sizeH hd))).fst hd).fst.conf.pw = (0 : Int) ∧ (initH (putN h (sizeH hd)).fst (address h.conf (prepI h (sizeH hd)) (prepO h (sizeH hd))).fst hd).fst.conf.pg = (0 : Int) ∧ List.map wdv (initH (putN h (sizeH hd)).fst (address h.conf (prepI h (sizeH hd)) (prepO h (sizeH hd))).fst hd).fst.words = List.map wdv (noHeap,(0 : Int),(1 : Int)).fst.words ∧ List.map Page.dv (initH (putN h (sizeH hd)).fst (address h.conf (prepI h (sizeH hd)) (prepO h (sizeH hd))).fst hd).fst.pages = List.map Page.dv (noHeap,(0 : Int),(1 : Int)).fst.pages ∧ (initH (putN h (sizeH hd)).fst (address h.conf (prepI h (sizeH hd)) (prepO h (sizeH hd))).fst hd).fst.space = (0 : Int) ∧ (initH (putN h (sizeH hd)).fst (address h.conf (prepI h (sizeH hd)) (prepO h (sizeH hd))).fst hd).fst.bump = (0 : Int) ∧ (address h.conf (prepI h (sizeH hd)) (prepO h (sizeH hd))).fst = (0 : Int) ∧ (0 : Int) = (1 : Int)) ?_ (by kernel_rfl) (by kernel_rfl)
     exact ⟨(@pageProper (h)),(fun hg => by (try simp only [bs] at hg); exact @allocAsks (h.conf) (hd) (by (try simp only [bs] at hg); assumption)),‹_›,rfl,(@headerSize (hd) ‹_›),(@allocPrep (h) (sizeH hd) ‹_› (by grind [noHeap]) (by grind [noHeap])),(@pageAddress (h.conf) (prepI h (sizeH hd)) (prepO h (sizeH hd))),‹_›,rfl,(@objectInit ((putN h (sizeH hd)).fst) ((address h.conf (prepI h (sizeH hd)) (prepO h (sizeH hd))).fst) (hd) (by grind [noHeap]) (by grind [noHeap]) ‹_›),‹_›,rfl,(by grind [noHeap]),(by grind [noHeap]),(by refine congrArg _ ?_; (simp only [noHeap]; (repeat' split) <;> first | rfl | omega | (exfalso; omega) | simp_all)),(by refine congrArg _ ?_; (simp only [noHeap]; (repeat' split) <;> first | rfl | omega | (exfalso; omega) | simp_all)),(by grind [noHeap]),(by grind [noHeap]),(by grind [noHeap]),(by grind [noHeap])⟩
def room7 (h : Heap) : Int := if properB h = true ∧ 0 ≤ h.bump then h.conf.pw - (h.pages.getD h.bump.toNat default).used else 0
theorem allocRoom (h : Heap) : GSpec Tryz.prog 44 [h.av] true (int (room7 h)) [] := by
 by_cases q : properB h = true ∧ 0 ≤ h.bump
 ·obtain ⟨q1,q2⟩ := q
  have po := proper_ok q1
  have hb := (properB_iff.1 q1).2.2.2.2.1
  have hpg := proper_page q1 (j := h.bump.toNat) (by omega)
  have e7 : room7 h = h.conf.pw - (h.pages.getD h.bump.toNat default).used := by rw [room7,if_pos ⟨q1,q2⟩]
  rw [e7]
  exact gF [] Tryz.func44 [] (Fc 4 (@pageProper h) (Ff 10 (by simp [*] : (!properB h||decide (h.bump < 0))=false) (Fe 18 Page.dv h.pages h.bump (Fi 21 (h.conf.pw - (h.pages.getD h.bump.toNat default).used) Fz))))
 ·have e7 : room7 h = 0 := by rw [room7,if_neg q]
  rw [e7]
  by_cases q1 : properB h = true
  ·have hb := (properB_iff.1 q1).2.2.2.2.1
   have q2 : h.bump = -1 := by
    have : ¬ 0 ≤ h.bump := fun x => q ⟨q1,x⟩
    omega
   exact gF [] Tryz.func44 [] (Fc 4 (@pageProper h) (Ftb 10 (!properB h||decide (h.bump < 0)) Fz))
  ·have q1' : properB h = false := by simpa using q1
   exact gF [] Tryz.func44 [] (Fc 4 (@pageProper h) (Ft 10 (by simp only [bs, *,true_or,or_true,true_and,and_true,not_true_eq_false,not_false_eq_true,Bool.true_eq_false,Bool.false_eq_true] : (!properB h||decide (h.bump < 0))=true) Fz))
theorem law7words (n : Int) : GSpec Tryz.prog 37 [int n] true (Header.av ⟨3,n,0⟩) [] := by
 exact gF [] Tryz.func37 [] Fz
theorem law7awake : GSpec Tryz.prog 33 [] true (bool true) [] := by
 have e1 : (new7 (newHeap ⟨16,8⟩) ⟨3,3,0⟩).2.2 = 0 := by decide +kernel
 have e2 : (new7 (newHeap ⟨16,8⟩) ⟨3,3,0⟩).2.1 = 4096 := by decide +kernel
 have e3 : (new7 (newHeap ⟨16,8⟩) ⟨3,3,0⟩).1.bump = 0 := by decide +kernel
 have e4 : room7 (new7 (newHeap ⟨16,8⟩) ⟨3,3,0⟩).1 = 12 := by decide +kernel
 have hw : WOk (newHeap ⟨16,8⟩).words := fun x hx => by
  simp [newHeap] at hx; omega
 have hv : validB ⟨16,8⟩ = true := by decide
 exact gF [] Tryz.func33 [] (Fh 14 [.kill (AV.tu [(new7 (Heap.mk (Conf.mk 16 8) (List.replicate 128 0) (List.replicate 8 (Page.mk 0 0 0 0)) 0 (-1 : Int)) (Header.mk 3 3 0)).fst.av,u64 (new7 (Heap.mk (Conf.mk 16 8) (List.replicate 128 0) (List.replicate 8 (Page.mk 0 0 0 0)) 0 (-1 : Int)) (Header.mk 3 3 0)).snd.fst,int (new7 (Heap.mk (Conf.mk 16 8) (List.replicate 128 0) (List.replicate 8 (Page.mk 0 0 0 0)) 0 (-1 : Int)) (Header.mk 3 3 0)).snd.snd])] (Fh 31 [.call true (int (room7 (Heap.mk (Conf.mk 16 8) (new7 (Heap.mk (Conf.mk 16 8) (List.replicate 128 0) (List.replicate 8 (Page.mk 0 0 0 0)) 0 (-1 : Int)) (Header.mk 3 3 0)).fst.words (new7 (Heap.mk (Conf.mk 16 8) (List.replicate 128 0) (List.replicate 8 (Page.mk 0 0 0 0)) 0 (-1 : Int)) (Header.mk 3 3 0)).fst.pages 0 0))) []] (Fc 8 (@ref4NewA) (Fc 13 (@law7words (3)) (Fa (@allocNew (Heap.mk (Conf.mk 16 8) (List.replicate 128 0) (List.replicate 8 (Page.mk 0 0 0 0)) 0 (-1 : Int)) (Header.mk 3 3 0) ‹_› (by (simp only [bs]; omega))) (Fa ((fun hg => by (try simp only [bs] at hg); exact @allocRoom (Heap.mk (Conf.mk 16 8) (new7 (Heap.mk (Conf.mk 16 8) (List.replicate 128 0) (List.replicate 8 (Page.mk 0 0 0 0)) 0 (-1 : Int)) (Header.mk 3 3 0)).fst.words (new7 (Heap.mk (Conf.mk 16 8) (List.replicate 128 0) (List.replicate 8 (Page.mk 0 0 0 0)) 0 (-1 : Int)) (Header.mk 3 3 0)).fst.pages 0 0)) : ((new7 (Heap.mk (Conf.mk 16 8) (List.replicate 128 0) (List.replicate 8 (Page.mk 0 0 0 0)) 0 (-1 : Int)) (Header.mk 3 3 0)).snd.snd == 0&&(new7 (Heap.mk (Conf.mk 16 8) (List.replicate 128 0) (List.replicate 8 (Page.mk 0 0 0 0)) 0 (-1 : Int)) (Header.mk 3 3 0)).snd.fst == 4096&&(new7 (Heap.mk (Conf.mk 16 8) (List.replicate 128 0) (List.replicate 8 (Page.mk 0 0 0 0)) 0 (-1 : Int)) (Header.mk 3 3 0)).fst.bump == 0) =true→GSpec Tryz.prog 44 [(Heap.mk (Conf.mk 16 8) (new7 (Heap.mk (Conf.mk 16 8) (List.replicate 128 0) (List.replicate 8 (Page.mk 0 0 0 0)) 0 (-1 : Int)) (Header.mk 3 3 0)).fst.words (new7 (Heap.mk (Conf.mk 16 8) (List.replicate 128 0) (List.replicate 8 (Page.mk 0 0 0 0)) 0 (-1 : Int)) (Header.mk 3 3 0)).fst.pages 0 0).av] true (int (room7 (Heap.mk (Conf.mk 16 8) (new7 (Heap.mk (Conf.mk 16 8) (List.replicate 128 0) (List.replicate 8 (Page.mk 0 0 0 0)) 0 (-1 : Int)) (Header.mk 3 3 0)).fst.words (new7 (Heap.mk (Conf.mk 16 8) (List.replicate 128 0) (List.replicate 8 (Page.mk 0 0 0 0)) 0 (-1 : Int)) (Header.mk 3 3 0)).fst.pages 0 0))) []) Fz))))))
theorem of_address {c : Conf} {p o : Int} (h : validB c = true) (h1 : inB c p o = true) : ofA c (4096 + (p * c.pw + o)) = (p,o,0) := by
 have hv := validB_iff.1 h
 obtain ⟨p1,p2,o1,o2⟩ := inB_iff.1 h1
 have hi := inPage h p1 p2 o1 o2
 rw [ofA,if_pos h,if_pos (by omega)]
 have e1 : 4096 + (p * c.pw + o) - 4096 = o + p * c.pw := by omega
 rw [e1,Int.add_mul_ediv_right _ _ (by omega),Int.add_mul_emod_self_right,Int.ediv_eq_zero_of_lt o1 o2,Int.emod_eq_of_lt o1 o2]
 simp
theorem put_shape {h : Heap} {n : Int} (hp : properB h = true) (hn : 1 ≤ n ∧ n ≤ 256) (h0 : 0 ≤ need h.conf n) (e : (putN h n).2.2 = true) :
  (need h.conf n ≤ 0 → prepO h n + n ≤ h.conf.pw ∧ ((putN h n).1.pages.getD (prepI h n).toNat default).kind = 1) ∧
  (0 < need h.conf n → prepO h n = 0 ∧ ((putN h n).1.pages.getD (prepI h n).toNat default).kind = 2 ∧ ((putN h n).1.pages.getD (prepI h n).toNat default).used = n) ∧ 0 ≤ prepI h n ∧ prepI h n < (putN h n).1.pages.length := by
 obtain ⟨o1,o2,o3,o4,o5,o6,o7,o8,o9⟩ := proper_ok hp
 have hb := (properB_iff.1 hp).2.2.2.2.1
 have hvb := validB_iff.1 o1
 unfold putN prepI prepO at *
 split at e
 ·rename_i hk
  unfold large7 at e ⊢
  split at e
  ·rename_i hg
   have ff := first_free hg.1
   have hnr := need_range h.conf n
   have eL : (largeP h.conf h.pages (first h.pages (need h.conf n)) h.space n).1 = tookP h.pages (first h.pages (need h.conf n)).toNat (need h.conf n).toNat ⟨2,h.space,n,0⟩ ⟨3,h.space,0,0⟩ := by
    rw [largeP,if_pos (by omega),takeP,if_pos (by omega),if_pos ff.2.2]
   simp only [if_pos hk,if_pos hg,eL]
   have hl := tookP_len (l := h.pages) (i := (first h.pages (need h.conf n)).toNat) (k := (need h.conf n).toNat) (p := ⟨2,h.space,n,0⟩) (q := ⟨3,h.space,0,0⟩) (by omega)
   refine ⟨fun q => by omega,fun _ => ?_,by omega,by omega⟩
   rw [tookP_get (by omega) (by omega),if_pos rfl]
   simp
  ·simp at e
 ·rename_i hk
  unfold small7 at e ⊢
  split at e
  ·rename_i hf
   simp only [if_neg hk,if_pos hf]
   have hf' := hf
   unfold fitsB at hf'
   have hi : h.bump.toNat < h.pages.length := by omega
   refine ⟨fun _ => ⟨by omega, ?_⟩,fun q => absurd q hk,by omega,by rw [growP_eq,List.length_set]; omega⟩
   rw [growP_eq,getD_set hi,if_pos rfl]
   simp only
   omega
  ·rename_i hf
   split at e
   ·rename_i hg
    have fg := fresh_grow (h := h) o9 hg.1 n
    simp only [if_neg hk,if_neg hf,if_pos hg,fg.1]
    refine ⟨fun _ => ⟨?_, ?_⟩,fun q => absurd q hk,by omega,by rw [List.length_set]; omega⟩
    ·unfold need at hk h0
     split at hk
     ·split at hk
      ·omega
      ·rename_i hc
       have e := Int.mul_ediv_add_emod (n + h.conf.pw - 1) h.conf.pw
       have := Int.emod_lt_of_pos (n + h.conf.pw - 1) (b := h.conf.pw) (by omega)
       have hz : (n + h.conf.pw - 1) / h.conf.pw ≤ 0 := by omega
       have : h.conf.pw * ((n + h.conf.pw - 1) / h.conf.pw) ≤ h.conf.pw * 0 := Int.mul_le_mul_of_nonneg_left hz (by omega)
       omega
     ·rename_i hc; rw [if_neg hc] at h0; omega
    ·rw [getD_set fg.2.2,if_pos rfl]
   ·simp at e
theorem new7_at {h : Heap} {hd : Header} (hw : WOk h.words) (hm : 0 ≤ hd.map ∧ hd.map ≤ 4294967295) (e : (new7 h hd).2.2 = 0) :
  ofA h.conf (new7 h hd).2.1 = (prepI h (sizeH hd),prepO h (sizeH hd),0) ∧ (new7 h hd).1.pages = (putN h (sizeH hd)).1.pages ∧ properB h = true ∧ asksH h.conf hd = true ∧ (putN h (sizeH hd)).2.2 = true := by
 obtain ⟨k1,k2,k3,k4,k5,k6,k7,k8⟩ := new7_ok hw hm e
 obtain ⟨a1,a2,a3,a4,a5⟩ := asksH_ok k2
 obtain ⟨p1,p2⟩ := prep_put k1 ⟨a2,a3⟩ k4
 refine ⟨?_,by rw [k6]; rfl,k1,k2,k4⟩
 rw [k5,putN_eq,p1]
 exact of_address (proper_ok k1).1 p2
theorem lawSizesNo (tape : List Int) (n : Int) (h1 : tape.length ≤ 140737488355328) (e : ¬ (new7 (makeF tape).heap ⟨3,n % 100,0⟩).2.2 = 0) : GSpec Tryz.prog 9 [intsV tape,int n] true (bool true) [] := by
 have hm := makeF_ok tape
 have hw := hm.words
 have hr := tmod_range n (n := 100) (by decide)
 have ei1 : IntKind.i64.wrap (n.tmod 100 + 100) = n.tmod 100 + 100 := wrapI' (by omega) (by omega)
 have ei2 := tmod_tmod n (n := 100) (by decide)
 have ei0 : (n.tmod 100 + 100) % 100 = n % 100 := (tmodI (a := n.tmod 100 + 100) (by omega)).symm.trans ei2
 exact gF [] Tryz.func9 [] (Fc 14 (@madeMake tape ‹_›) (Fa (by decide : (100 :Int) ≠ 0) (Fi 18 (n.tmod (100 :Int) + 100) (Fgo 19 ((n.tmod (100 :Int) + 100).tmod 100) (n % 100) (Fa (by decide : (100 :Int) ≠ 0) (Fc 23 (@law7words (n % 100)) (Fc 24 (@allocNew ((makeF tape).heap) (Header.mk 3 (n % 100) 0) ‹_› (by (simp only [bs]; omega))) (Ftb 29 ((new7 (makeF tape).heap (Header.mk 3 (n % 100) 0)).snd.snd != 0) (Fc 30 (@law7awake) Fz)))))))))
theorem lawSizesOk (tape : List Int) (n : Int) (h1 : tape.length ≤ 140737488355328) (e : (new7 (makeF tape).heap ⟨3,n % 100,0⟩).2.2 = 0) : GSpec Tryz.prog 9 [intsV tape,int n] true (bool true) [] := by
 have hm := makeF_ok tape
 have hw := hm.words
 have hr := tmod_range n (n := 100) (by decide)
 have ei1 : IntKind.i64.wrap (n.tmod 100 + 100) = n.tmod 100 + 100 := wrapI' (by omega) (by omega)
 have ei2 := tmod_tmod n (n := 100) (by decide)
 have ei0 : (n.tmod 100 + 100) % 100 = n % 100 := (tmodI (a := n.tmod 100 + 100) (by omega)).symm.trans ei2
 obtain ⟨q1,q2,q3,q4,q5⟩ := new7_at hw (by simp) e
 obtain ⟨k1,k2,k3,k4,k5,k6,k7,k8⟩ := new7_ok hw (by simp) e
 obtain ⟨a1,a2,a3,a4,a5⟩ := asksH_ok q4
 have po := proper_ok q3
 have sz : sizeH ⟨3,n % 100,0⟩ = n % 100 + 1 := by rw [sizeH,if_pos a1]
 obtain ⟨s1,s2,s3,s4⟩ := put_shape q3 ⟨a2,a3⟩ a4 q5
 have hO := inB_iff.1 (prep_put q3 ⟨a2,a3⟩ q5).2
 rw [← q2] at s1 s2 s4
 have hlo := k3.lo
 have hhi := k3.hi
 rw [← k5] at hlo hhi
 rw [sz] at q1 s1 s2 s3 s4 a4 hhi hO
 have ei3 := congrArg (fun x => x.1) q1
 have ei4 := congrArg (fun x => x.2.1) q1
 have e5 := congrArg (fun x => x.2.2) q1
 simp only at ei3 ei4 e5
 have n1 : n % 100 + 1 ≤ (makeF tape).heap.conf.pw / 4 → need (makeF tape).heap.conf (n % 100 + 1) = 0 := fun q => by
  rw [need,if_pos ⟨po.1,by omega,by omega⟩,if_pos q]
 have n2 : ¬ n % 100 + 1 ≤ (makeF tape).heap.conf.pw / 4 → 0 < need (makeF tape).heap.conf (n % 100 + 1) := fun q => by
  have h0 := a4
  unfold need at h0 ⊢
  split at h0
  ·rename_i hc
   rw [if_pos hc,if_neg q]
   exact Int.lt_of_lt_of_le (by decide : (0 : Int) < 1) (Int.le_ediv_of_mul_le (by omega) (by omega))
  ·omega
 by_cases hs : n % 100 + 1 ≤ (makeF tape).heap.conf.pw / 4
 ·have t1 := s1 (by rw [n1 hs]; omega)
  have t2 := t1.1
  have t3 := t1.2
  exact gF [] Tryz.func9 [false,false,false,false,false,false,false,false,false,false,false,false,false,false,false,true] (Fh 52 [.int ((ofA (makeF tape).heap.conf (new7 (makeF tape).heap (Header.mk 3 (n % 100) 0)).snd.fst).snd.fst + n % 100)] (Fh 53 [.int ((ofA (makeF tape).heap.conf (new7 (makeF tape).heap (Header.mk 3 (n % 100) 0)).snd.fst).snd.fst + n % (100 :Int) + 1)] (Fh 63 [.el ((new7 (makeF tape).heap (Header.mk 3 (n % 100) 0)).fst.pages.getD (ofA (makeF tape).heap.conf (new7 (makeF tape).heap (Header.mk 3 (n % 100) 0)).snd.fst).fst.toNat default).dv] (Fc 14 (@madeMake tape ‹_›) (Fa (by decide : (100 :Int) ≠ 0) (Fi 18 (n.tmod (100 :Int) + 100) (Fgo 19 ((n.tmod (100 :Int) + 100).tmod 100) (n % 100) (Fa (by decide : (100 :Int) ≠ 0) (Fc 23 (@law7words (n % 100)) (Fc 24 (@allocNew ((makeF tape).heap) (Header.mk 3 (n % 100) 0) ‹_› (by (simp only [bs]; omega))) (Ffb 29 ((new7 (makeF tape).heap (Header.mk 3 (n % 100) 0)).snd.snd != 0) (Fc 35 (@refOf ((makeF tape).heap.conf) ((new7 (makeF tape).heap (Header.mk 3 (n % 100) 0)).snd.fst) (by omega) (by omega)) (Ffb 40 ((ofA (makeF tape).heap.conf (new7 (makeF tape).heap (Header.mk 3 (n % 100) 0)).snd.fst).snd.snd != 0) (Fi 42 (n % (100 :Int) + 1) (Fg 46 (by rw [Int.tdiv_eq_ediv_of_nonneg (by omega),wrapI' (by omega) (by omega)] : IntKind.i64.wrap ((makeF tape).heap.conf.pw.tdiv 4) =(makeF tape).heap.conf.pw / 4) (Fa (by decide : (4 :Int) ≠ 0) (Ftb 47 (decide (n % (100 :Int) + 1≤(makeF tape).heap.conf.pw / 4)) (Fc 48 (@law7awake) (Fa (by intro hg; (try simp only [bs] at hg); exact wrapI2 rfl (by omega) (by omega) : true =true→IntKind.i64.wrap ((ofA (makeF tape).heap.conf (new7 (makeF tape).heap (Header.mk 3 (n % 100) 0)).snd.fst).snd.fst + n % 100) =(ofA (makeF tape).heap.conf (new7 (makeF tape).heap (Header.mk 3 (n % 100) 0)).snd.fst).snd.fst + n % 100) (Fa (by intro hg; (try simp only [bs] at hg); exact wrapI2 rfl (by omega) (by omega) : true =true→IntKind.i64.wrap ((ofA (makeF tape).heap.conf (new7 (makeF tape).heap (Header.mk 3 (n % 100) 0)).snd.fst).snd.fst + n % (100 :Int) + 1) =(ofA (makeF tape).heap.conf (new7 (makeF tape).heap (Header.mk 3 (n % 100) 0)).snd.fst).snd.fst + n % (100 :Int) + 1) (Fa (by intro hg; (try simp only [bs] at hg); exact elI (by omega) (by omega) (by omega) : (true&&decide ((ofA (makeF tape).heap.conf (new7 (makeF tape).heap (Header.mk 3 (n % 100) 0)).snd.fst).snd.fst + n % (100 :Int) + 1≤(makeF tape).heap.conf.pw)) =true→0≤(ofA (makeF tape).heap.conf (new7 (makeF tape).heap (Header.mk 3 (n % 100) 0)).snd.fst).fst∧(List.map Page.dv (new7 (makeF tape).heap (Header.mk 3 (n % 100) 0)).fst.pages)[(ofA (makeF tape).heap.conf (new7 (makeF tape).heap (Header.mk 3 (n % 100) 0)).snd.fst).fst.toNat]? = some ((new7 (makeF tape).heap (Header.mk 3 (n % 100) 0)).fst.pages.getD (ofA (makeF tape).heap.conf (new7 (makeF tape).heap (Header.mk 3 (n % 100) 0)).snd.fst).fst.toNat default).dv) (Fa (by grind [] : (decide ((ofA (makeF tape).heap.conf (new7 (makeF tape).heap (Header.mk 3 (n % 100) 0)).snd.fst).snd.fst + n % (100 :Int) + 1≤(makeF tape).heap.conf.pw)&&((new7 (makeF tape).heap (Header.mk 3 (n % 100) 0)).fst.pages.getD (ofA (makeF tape).heap.conf (new7 (makeF tape).heap (Header.mk 3 (n % 100) 0)).snd.fst).fst.toNat default).kind == 1)=true) Fz))))))))))))))))))))))
 ·have t1 := s2 (n2 hs)
  have t2 := t1.1
  have t3 := t1.2.1
  have t4 := t1.2.2
  exact gF [] Tryz.func9 [false,false,false,false,false,false,false,false,false,false,false,false,false,false,false,false,false,false,false,true] (Fh 77 [.el ((new7 (makeF tape).heap (Header.mk 3 (n % 100) 0)).fst.pages.getD (ofA (makeF tape).heap.conf (new7 (makeF tape).heap (Header.mk 3 (n % 100) 0)).snd.fst).fst.toNat default).dv] (Fh 86 [.el ((new7 (makeF tape).heap (Header.mk 3 (n % 100) 0)).fst.pages.getD (ofA (makeF tape).heap.conf (new7 (makeF tape).heap (Header.mk 3 (n % 100) 0)).snd.fst).fst.toNat default).dv] (Fh 90 [.call true (Header.mk 3 (n % 100) 0).av []] (Fh 91 [.call true (int (sizeH (Header.mk 3 (n % 100) 0))) []] (Fc 14 (@madeMake tape ‹_›) (Fa (by decide : (100 :Int) ≠ 0) (Fi 18 (n.tmod (100 :Int) + 100) (Fgo 19 ((n.tmod (100 :Int) + 100).tmod 100) (n % 100) (Fa (by decide : (100 :Int) ≠ 0) (Fc 23 (@law7words (n % 100)) (Fc 24 (@allocNew ((makeF tape).heap) (Header.mk 3 (n % 100) 0) ‹_› (by (simp only [bs]; omega))) (Ffb 29 ((new7 (makeF tape).heap (Header.mk 3 (n % 100) 0)).snd.snd != 0) (Fc 35 (@refOf ((makeF tape).heap.conf) ((new7 (makeF tape).heap (Header.mk 3 (n % 100) 0)).snd.fst) (by omega) (by omega)) (Ffb 40 ((ofA (makeF tape).heap.conf (new7 (makeF tape).heap (Header.mk 3 (n % 100) 0)).snd.fst).snd.snd != 0) (Fi 42 (n % (100 :Int) + 1) (Fg 46 (by rw [Int.tdiv_eq_ediv_of_nonneg (by omega),wrapI' (by omega) (by omega)] : IntKind.i64.wrap ((makeF tape).heap.conf.pw.tdiv 4) =(makeF tape).heap.conf.pw / 4) (Fa (by decide : (4 :Int) ≠ 0) (Ffb 47 (decide (n % (100 :Int) + 1≤(makeF tape).heap.conf.pw / 4)) (Fc 68 (@law7awake) (Fa (by intro hg; (try simp only [bs] at hg); exact elI (by omega) (by omega) (by omega) : (true&&(ofA (makeF tape).heap.conf (new7 (makeF tape).heap (Header.mk 3 (n % 100) 0)).snd.fst).snd.fst == 0) =true→0≤(ofA (makeF tape).heap.conf (new7 (makeF tape).heap (Header.mk 3 (n % 100) 0)).snd.fst).fst∧(List.map Page.dv (new7 (makeF tape).heap (Header.mk 3 (n % 100) 0)).fst.pages)[(ofA (makeF tape).heap.conf (new7 (makeF tape).heap (Header.mk 3 (n % 100) 0)).snd.fst).fst.toNat]? = some ((new7 (makeF tape).heap (Header.mk 3 (n % 100) 0)).fst.pages.getD (ofA (makeF tape).heap.conf (new7 (makeF tape).heap (Header.mk 3 (n % 100) 0)).snd.fst).fst.toNat default).dv) (Fa (by intro hg; (try simp only [bs] at hg); exact elI (by omega) (by omega) (by omega) : (true&&(ofA (makeF tape).heap.conf (new7 (makeF tape).heap (Header.mk 3 (n % 100) 0)).snd.fst).snd.fst == 0&&((new7 (makeF tape).heap (Header.mk 3 (n % 100) 0)).fst.pages.getD (ofA (makeF tape).heap.conf (new7 (makeF tape).heap (Header.mk 3 (n % 100) 0)).snd.fst).fst.toNat default).kind == 2) =true→0≤(ofA (makeF tape).heap.conf (new7 (makeF tape).heap (Header.mk 3 (n % 100) 0)).snd.fst).fst∧(List.map Page.dv (new7 (makeF tape).heap (Header.mk 3 (n % 100) 0)).fst.pages)[(ofA (makeF tape).heap.conf (new7 (makeF tape).heap (Header.mk 3 (n % 100) 0)).snd.fst).fst.toNat]? = some ((new7 (makeF tape).heap (Header.mk 3 (n % 100) 0)).fst.pages.getD (ofA (makeF tape).heap.conf (new7 (makeF tape).heap (Header.mk 3 (n % 100) 0)).snd.fst).fst.toNat default).dv) (Fa ((fun hg => by (try simp only [bs] at hg); exact @law7words (n % 100)) : (true&&(ofA (makeF tape).heap.conf (new7 (makeF tape).heap (Header.mk 3 (n % 100) 0)).snd.fst).snd.fst == 0&&((new7 (makeF tape).heap (Header.mk 3 (n % 100) 0)).fst.pages.getD (ofA (makeF tape).heap.conf (new7 (makeF tape).heap (Header.mk 3 (n % 100) 0)).snd.fst).fst.toNat default).kind == 2) =true→GSpec Tryz.prog 37 [int (n % 100)] true (Header.mk 3 (n % 100) 0).av []) (Fa ((fun hg => by (try simp only [bs] at hg); exact @ref3Size (Header.mk 3 (n % 100) 0) (by (try simp only [bs] at hg); (simp only [bs]; omega))) : (true&&(ofA (makeF tape).heap.conf (new7 (makeF tape).heap (Header.mk 3 (n % 100) 0)).snd.fst).snd.fst == 0&&((new7 (makeF tape).heap (Header.mk 3 (n % 100) 0)).fst.pages.getD (ofA (makeF tape).heap.conf (new7 (makeF tape).heap (Header.mk 3 (n % 100) 0)).snd.fst).fst.toNat default).kind == 2) =true→GSpec Tryz.prog 39 [(Header.mk 3 (n % 100) 0).av] true (int (sizeH (Header.mk 3 (n % 100) 0))) []) (Fa (by grind [] : ((ofA (makeF tape).heap.conf (new7 (makeF tape).heap (Header.mk 3 (n % 100) 0)).snd.fst).snd.fst == 0&&((new7 (makeF tape).heap (Header.mk 3 (n % 100) 0)).fst.pages.getD (ofA (makeF tape).heap.conf (new7 (makeF tape).heap (Header.mk 3 (n % 100) 0)).snd.fst).fst.toNat default).kind == 2&&((new7 (makeF tape).heap (Header.mk 3 (n % 100) 0)).fst.pages.getD (ofA (makeF tape).heap.conf (new7 (makeF tape).heap (Header.mk 3 (n % 100) 0)).snd.fst).fst.toNat default).used == sizeH (Header.mk 3 (n % 100) 0))=true) Fz))))))))))))))))))))))))
theorem lawSizes (tape : List Int) (n : Int) (h1 : tape.length ≤ 140737488355328) : GSpec Tryz.prog 9 [intsV tape,int n] true (bool true) [] := by
 by_cases e : (new7 (makeF tape).heap ⟨3,n % 100,0⟩).2.2 = 0
 ·exact lawSizesOk tape n h1 e
 ·exact lawSizesNo tape n h1 e
end Go.Proofs.YtpklpkmnhgedbaaGreat
namespace Go.Proofs.YtpklpkmnhgedbaaGreat
open Go.Sx Go.RowKit
theorem allocSizes_lifted (os : Os) (started : os.Started) (H : Type) (enc : TypeId × Value → H) :
  ReturnsInHanded {} Tryz.checked os 9 .any (Rows.allocSizesSpec.pre6 enc Tryz.prog Tryz.f9 Rows.allocSizesRow.domain false) (Rows.allocSizesSpec.post enc Tryz.prog Tryz.f9 false true false false) := by
 refine law_of_gspec (C := Tryz.checked) (tb := 4) 5 own0 started (by kernel_rfl) Tryz.func9
  (ChangeSpec.witness6 (enc := enc) (C := Tryz.checked) false ⟨#[],#[.slice none 0 0,.int .i64 0],[]⟩ 8 (by kernel_rfl) (by kernel_rfl) (by kernel_rfl) (by kernel_rfl))
  laidOut0 (by kernel_rfl) (by kernel_rfl) (by kernel_rfl) (by kernel_rfl) rfl (fun ds hd => ?_) (fun ls hl h => ?_)
 ·match ds,hd with
  | [a,b],_ => rfl
 ·match ls,hl with
  | [b,p],_ =>
   obtain ⟨tape,rfl,ht⟩ := shp_ints (n := 3) (h 0 28 b (by kernel_rfl) rfl)
   obtain ⟨z,rfl,_⟩ := shp_int (n := 4) (h 1 3 p (by kernel_rfl) rfl)
   have e : zipAv Tryz.prog Tryz.f9.params.toList [[.sl 1 (tape.map idv)],[dint z]] = [intsV tape,int z] := by kernel_rfl
   exact ⟨true,e ▸ lawSizes tape z ht⟩
theorem allocSizes_holds : Rows.AllocSizesSaid :=
 OpenClaim.holds_of_wide 9 Tryz.f9 rfl rfl rfl rfl rfl rfl rfl ⟨rfl,rfl,rfl,rfl,rfl⟩ rfl rfl rfl rfl rfl (by kernel_rfl) Tryz.func9 (by kernel_rfl)
  (of_decide_eq_true (by kernel_rfl)) (by unfold Func.isWrapper; first | (rw [if_pos (by decide +kernel)]; kernel_rfl) | (rw [if_neg (by decide +kernel)]; exact ⟨rfl,rfl⟩))
  (fun os started H enc _ => allocSizes_lifted os started H enc)
end Go.Proofs.YtpklpkmnhgedbaaGreat
