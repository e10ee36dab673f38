/-
 The statement ObjectKeeps: part 11.
 Conditions: none.
-/
import Derived.Test.YtpklpkmnhgedbaaGreatM10
set_option maxRecDepth 100000
set_option linter.all false
namespace Go.Proofs.YtpklpkmnhgedbaaGreat
open Go.Sx
theorem madeLight (h : Heap) : GSpec Tryz.prog 47 [h.av] true (bool (decide (h.words.length ≤ 5000 ∧ h.pages.length ≤ 100))) [] := by
 exact gF [] Tryz.func47 [false,false,false,false,true] (Fh 10 [.int ↑h.pages.length] (Fl 5 wdv h.words (Fa (by intro hg; (try simp only [bs] at hg); simp only [List.length_map] : decide ((↑h.words.length : Int)≤5000) =true→(↑(List.map Page.dv h.pages).length : Int) =(↑h.pages.length : Int)) (Fa (by grind [] : (decide ((↑h.words.length : Int)≤5000)&&decide ((↑h.pages.length : Int)≤100)) =decide (h.words.length≤5000∧h.pages.length≤100)) Fz))))
theorem sp_worldStep (w : WorldM) (t : Tape) (n : Nat) (hm : MOk w n) (hn : n ≤ 1000000) (ht : TOk t) (ha : t.at' ≤ 900000) : LentSpec Tryz.prog 68 [w.av,.pt 0 0 0] [t.b] (w.step t).av [(w.stepT t).b] :=
 worldStep w t n hm hn ht ha
structure TUp (n : Int) (t u : Tape) : Prop where
 l : u.l = t.l
 lo : t.at' ≤ u.at'
 hi : u.at' ≤ t.at' + n
theorem TUp.step (t : Tape) (n : Int) : TUp 1 t (t.step n) := by
 have := step_at (t := t) n
 exact ⟨this.2.2,this.1,this.2.1⟩
theorem TUp.trans {m n : Int} {t u v : Tape} (h1 : TUp m t u) (h2 : TUp n u v) : TUp (m + n) t v :=
 ⟨h2.l.trans h1.l,by have := h1.lo; have := h2.lo; omega,by have := h1.hi; have := h2.hi; omega⟩
theorem TUp.mono {m n : Int} {t u : Tape} (h : TUp m t u) (hmn : m ≤ n) : TUp n t u := ⟨h.l,h.lo,by have := h.hi; omega⟩
theorem headerT_up (t : Tape) (c : Conf) : TUp 10 t (t.headerT c) := by
 have h1 : TUp 4 t (hdr1T t c) := by
  unfold hdr1T
  split
  ·exact (((TUp.step t _).trans (TUp.step _ 12)).trans (TUp.step _ _)).mono (by decide)
  ·exact ((TUp.step t _).trans (TUp.step _ 12)).mono (by decide)
 unfold Tape.headerT
 repeat' split
 ·exact (h1.trans (TUp.step _ 4)).mono (by decide)
 ·exact (h1.trans (TUp.step _ 4)).mono (by decide)
 ·exact ((h1.trans (TUp.step _ 4)).trans (TUp.step _ _)).mono (by decide)
theorem linkT_up (w : WorldM) (t : Tape) : TUp 10 t (w.linkT t) := by
 have h1 : TUp 1 t (w.pickT t) := TUp.step _ _
 have h2 : TUp 1 (w.pickT t) (w.pickT (w.pickT t)) := TUp.step _ _
 unfold WorldM.linkT
 split
 ·exact ((((h1.trans h2).trans (TUp.step _ 8))).trans (TUp.step _ _)).mono (by decide)
 ·exact ((h1.trans h2).trans (TUp.step _ 8)).mono (by decide)
theorem stepT_up (w : WorldM) (t : Tape) : (w.stepT t).l = t.l ∧ t.at' + 1 ≤ (w.stepT t).at' ∧ (w.stepT t).at' ≤ t.at' + 20 := by
 have h0 : (t.step 12).at' = t.at' + 1 ∧ (t.step 12).l = t.l := by simp [Tape.step]
 have key : TUp 10 (t.step 12) (w.stepT t) := by
  unfold WorldM.stepT
  repeat' split
  ·exact headerT_up _ _
  ·exact linkT_up _ _
  ·unfold WorldM.pinT
   split
   ·exact ((TUp.step _ _).trans (TUp.step _ 2)).mono (by decide)
   ·exact (TUp.step _ _).mono (by decide)
  ·unfold WorldM.dropT
   split
   ·exact ((TUp.step _ _).trans (TUp.step _ 3)).mono (by decide)
   ·exact ⟨rfl,by omega,by omega⟩
  ·exact ⟨rfl,by omega,by omega⟩
  ·exact (TUp.step _ _).mono (by decide)
 have a := key.l
 have b := key.lo
 have c := key.hi
 exact ⟨a.trans h0.2,by omega,by omega⟩
def mkS (w : WorldM) (t : Tape) : Nat → WorldM × Tape
 | 0 => (w,t)
 | k + 1 => ((mkS w t k).1.step (mkS w t k).2,(mkS w t k).1.stepT (mkS w t k).2)
def mkB (w : WorldM) (t : Tape) (k : Nat) : Bool := decide (((mkS w t k).2.l.length : Int) ≤ (mkS w t k).2.at')
def mkN (w : WorldM) (t : Tape) : Nat := ((List.range (2 + t.l.length)).find? (mkB w t)).getD 0
def makeW (w : WorldM) (t : Tape) : WorldM := (mkS w t (mkN w t)).1
theorem mkS_up (w : WorldM) (t : Tape) : ∀ k : Nat,(mkS w t k).2.l = t.l ∧ t.at' + k ≤ (mkS w t k).2.at' ∧ (mkS w t k).2.at' ≤ t.at' + 20 * k
 | 0 => by simp [mkS]
 | k + 1 => by
  have ih := mkS_up w t k
  have := stepT_up (mkS w t k).1 (mkS w t k).2
  refine ⟨this.1.trans ih.1, ?_, ?_⟩
  ·simp only [mkS]; omega
  ·simp only [mkS]; omega
theorem mkS_ok {w : WorldM} {n : Nat} (h : MOk w n) (t : Tape) : ∀ k,n + k ≤ 1000000 → MOk (mkS w t k).1 (n + k)
 | 0,_ => h
 | k + 1,hk => (mkS_ok h t k (by omega)).step (by omega) _
theorem mkN_is (w : WorldM) (t : Tape) (ht : 0 ≤ t.at') : mkB w t (mkN w t) = true ∧ (∀ j,j < mkN w t → mkB w t j = false) ∧ mkN w t ≤ t.l.length + 1 := by
 cases hb : (List.range (2 + t.l.length)).find? (mkB w t) with
 | none =>
  exfalso
  have := List.find?_eq_none.1 hb t.l.length (List.mem_range.2 (by omega))
  have u := mkS_up w t t.l.length
  simp only [mkB,decide_eq_true_eq,u.1] at this
  omega
 | some k =>
  obtain ⟨h1,h2,h3⟩ := List.find?_range_eq_some.1 hb
  have h2 := List.mem_range.1 h2
  have e : mkN w t = k := by rw [mkN,hb]; rfl
  rw [e]
  exact ⟨h1,fun j hj => by simpa using h3 j hj,by omega⟩
def mkLA (w : WorldM) (t : Tape) : Tg := ⟨tm 22 [(2,.pt 8002 0 0),(3,.pt 32012 0 0),(4,.pt 40004 0 0)],[(40004,.box 54 w.cells),(32012,t.b),(8002,.box 54 [int 0,int 0,.d (.sl 0 []),.d (.sl 0 []),int 0,int 0,.d (.sl 0 []),.d (.sl 0 [])])],60⟩
theorem mkRoundA (w : WorldM) (t : Tape) (n : Nat) (hm : MOk w n) (hn : n ≤ 1000000) (ht : TOk t) (ha : t.at' ≤ 900000) (hd : t.at' < t.l.length) : CSpec Tryz.prog (rndF Tryz.f28 0) (mkLA w t).st .nrm (mkLA (w.step t) (w.stepT t)).st := by
 exact sE [(16,[Hint.lent (Sx.bool (decide ((↑t.l.length : Int)≤t.at'))) [t.b]]),bT 17,(20,[Hint.lent (w.step t).av [(w.stepT t).b]])] [] [] [] (an (@tapeDone t ‹_›) (an (bo ((!decide ((↑t.l.length : Int)≤t.at'))=true)) (an tt (@sp_worldStep w t n ‹_› ‹_› ‹_› ‹_›))))
theorem mkEndA (w : WorldM) (t : Tape) (ht : TOk t) (hd : ¬ t.at' < t.l.length) : CSpec Tryz.prog (rndF Tryz.f28 0) (mkLA w t).st (.ext 0) (Tg.st ⟨tm 22 [(2,.pt 8002 0 0),(4,.pt 40004 0 0)],[(40004,.box 54 w.cells),(8002,.box 54 [int 0,int 0,.d (.sl 0 []),.d (.sl 0 []),int 0,int 0,.d (.sl 0 []),.d (.sl 0 [])])],60⟩) := by
 exact sE [(16,[Hint.lent (Sx.bool (decide ((↑t.l.length : Int)≤t.at'))) [t.b]]),bF 17] [] [] [] (an (@tapeDone t ‹_›) (an (bo ((!decide ((↑t.l.length : Int)≤t.at')) = false)) (rf false)))
theorem mkLoopA (w : WorldM) (t : Tape) (hm : MOk w 0) (hl : t.l.length ≤ 300) (h0 : 0 ≤ t.at') (h1 : t.at' ≤ 1000) : CSpec Tryz.prog (blkF Tryz.f28 0) (Tg.st ⟨tm 22 [(2,.pt 8002 0 0),(3,.pt 32012 0 0),(4,.pt 40004 0 0)],[(40004,.box 54 w.cells),(32012,t.b),(8002,.box 54 [int 0,int 0,.d (.sl 0 []),.d (.sl 0 []),int 0,int 0,.d (.sl 0 []),.d (.sl 0 [])])],60⟩) .nrm (Tg.st ⟨tm 22 [(2,.pt 8002 0 0),(4,.pt 40004 0 0)],[(40004,.box 54 (makeW w t).cells),(8002,.box 54 [int 0,int 0,.d (.sl 0 []),.d (.sl 0 []),int 0,int 0,.d (.sl 0 []),.d (.sl 0 [])])],60⟩) := by
 have hk := mkN_is w t h0
 have tok : ∀ k,k ≤ mkN w t → TOk (mkS w t k).2 ∧ (mkS w t k).2.at' ≤ 900000 := fun k hk' => by
  have u := mkS_up w t k
  refine ⟨?_,by omega⟩
  unfold TOk
  rw [u.1]
  omega
 refine loop_ext_of (S := fun k => (mkLA (mkS w t k).1 (mkS w t k).2).st) (mkN w t) (by kernel_rfl) (fun k hk' => ?_) ?_
 ·have hs := hk.2.1 k hk'
  simp only [mkB,decide_eq_false_iff_not] at hs
  have m := mkS_ok hm t k (by omega)
  exact mkRoundA _ _ (0 + k) m (by omega) (tok k (by omega)).1 (tok k (by omega)).2 (by omega)
 ·have hs := hk.1
  simp only [mkB,decide_eq_true_eq] at hs
  exact mkEndA _ _ (tok _ (Nat.le_refl _)).1 (by omega)
def mkLB (w : WorldM) (t : Tape) : Tg := ⟨tm 22 [(2,.pt 8002 0 0),(3,.pt 24012 0 0),(4,.pt 32004 0 0)],[(32004,.box 54 w.cells),(24012,t.b),(8002,.box 54 [int 0,int 0,.d (.sl 0 []),.d (.sl 0 []),int 0,int 0,.d (.sl 0 []),.d (.sl 0 [])])],60⟩
theorem mkRoundB (w : WorldM) (t : Tape) (n : Nat) (hm : MOk w n) (hn : n ≤ 1000000) (ht : TOk t) (ha : t.at' ≤ 900000) (hd : t.at' < t.l.length) : CSpec Tryz.prog (rndF Tryz.f28 0) (mkLB w t).st .nrm (mkLB (w.step t) (w.stepT t)).st := by
 exact sE [(16,[Hint.lent (Sx.bool (decide ((↑t.l.length : Int)≤t.at'))) [t.b]]),bT 17,(20,[Hint.lent (w.step t).av [(w.stepT t).b]])] [] [] [] (an (@tapeDone t ‹_›) (an (bo ((!decide ((↑t.l.length : Int)≤t.at'))=true)) (an tt (@sp_worldStep w t n ‹_› ‹_› ‹_› ‹_›))))
theorem mkEndB (w : WorldM) (t : Tape) (ht : TOk t) (hd : ¬ t.at' < t.l.length) : CSpec Tryz.prog (rndF Tryz.f28 0) (mkLB w t).st (.ext 0) (Tg.st ⟨tm 22 [(2,.pt 8002 0 0),(4,.pt 32004 0 0)],[(32004,.box 54 w.cells),(8002,.box 54 [int 0,int 0,.d (.sl 0 []),.d (.sl 0 []),int 0,int 0,.d (.sl 0 []),.d (.sl 0 [])])],60⟩) := by
 exact sE [(16,[Hint.lent (Sx.bool (decide ((↑t.l.length : Int)≤t.at'))) [t.b]]),bF 17] [] [] [] (an (@tapeDone t ‹_›) (an (bo ((!decide ((↑t.l.length : Int)≤t.at')) = false)) (rf false)))
theorem mkLoopB (w : WorldM) (t : Tape) (hm : MOk w 0) (hl : t.l.length ≤ 300) (h0 : 0 ≤ t.at') (h1 : t.at' ≤ 1000) : CSpec Tryz.prog (blkF Tryz.f28 0) (Tg.st ⟨tm 22 [(2,.pt 8002 0 0),(3,.pt 24012 0 0),(4,.pt 32004 0 0)],[(32004,.box 54 w.cells),(24012,t.b),(8002,.box 54 [int 0,int 0,.d (.sl 0 []),.d (.sl 0 []),int 0,int 0,.d (.sl 0 []),.d (.sl 0 [])])],60⟩) .nrm (Tg.st ⟨tm 22 [(2,.pt 8002 0 0),(4,.pt 32004 0 0)],[(32004,.box 54 (makeW w t).cells),(8002,.box 54 [int 0,int 0,.d (.sl 0 []),.d (.sl 0 []),int 0,int 0,.d (.sl 0 []),.d (.sl 0 [])])],60⟩) := by
 have hk := mkN_is w t h0
 have tok : ∀ k,k ≤ mkN w t → TOk (mkS w t k).2 ∧ (mkS w t k).2.at' ≤ 900000 := fun k hk' => by
  have u := mkS_up w t k
  refine ⟨?_,by omega⟩
  unfold TOk
  rw [u.1]
  omega
 refine loop_ext_of (S := fun k => (mkLB (mkS w t k).1 (mkS w t k).2).st) (mkN w t) (by kernel_rfl) (fun k hk' => ?_) ?_
 ·have hs := hk.2.1 k hk'
  simp only [mkB,decide_eq_false_iff_not] at hs
  have m := mkS_ok hm t k (by omega)
  exact mkRoundB _ _ (0 + k) m (by omega) (tok k (by omega)).1 (tok k (by omega)).2 (by omega)
 ·have hs := hk.1
  simp only [mkB,decide_eq_true_eq] at hs
  exact mkEndB _ _ (tok _ (Nat.le_refl _)).1 (by omega)
def makeT (l : List Int) : Tape := ⟨l.take 300,0⟩
def makeF (l : List Int) : WorldM := makeW (makeT l).empty (((makeT l).step 4).step 5)
theorem empty_ok (t : Tape) : MOk t.empty 0 := by
 have hv := tape_conf_valid t
 have hb := validB_iff.1 hv
 refine ⟨?_,hv, ?_, ?_, ?_, ?_, ?_, ?_,by simp [Tape.empty],by simp [Tape.empty]⟩
 ·intro x hx
  simp only [Tape.empty,newHeap,List.mem_replicate] at hx
  omega
 ·simp only [Tape.empty,newHeap,List.length_replicate]; omega
 ·have := area hv
  simp only [Tape.empty,newHeap,List.length_replicate]; omega
 ·intro j hj
  simp only [Tape.empty,newHeap,List.length_replicate] at hj ⊢
  have : (List.replicate t.conf.pg.toNat (⟨0,0,0,0⟩ : Page)).getD j default = ⟨0,0,0,0⟩ := by simp [List.getD_eq_getElem?_getD,hj]
  rw [this]; simp
 ·intro j hj
  simp only [Tape.empty,newHeap,List.length_replicate] at hj ⊢
  have : (List.replicate t.conf.pg.toNat (⟨0,0,0,0⟩ : Page)).getD j default = ⟨0,0,0,0⟩ := by simp [List.getD_eq_getElem?_getD,hj]
  rw [this]; simp
 ·intro x hx; simp [Tape.empty] at hx
 ·intro x hx; simp [Tape.empty] at hx
theorem make_steps (l : List Int) : (((makeT l).step 4).step 5).l = l.take 300 ∧ (((makeT l).step 4).step 5).at' = 2 := by simp [makeT,Tape.step]
theorem makeF_ok (l : List Int) : MOk (makeF l) 1000 := by
 have e := make_steps l
 have hl : (((makeT l).step 4).step 5).l.length ≤ 300 := by rw [e.1]; simp; omega
 have hk := mkN_is (makeT l).empty (((makeT l).step 4).step 5) (by omega)
 have m := mkS_ok (empty_ok (makeT l)) (((makeT l).step 4).step 5) (mkN (makeT l).empty (((makeT l).step 4).step 5)) (by omega)
 have h2 : ∀ (w : WorldM) (a b : Nat),MOk w a → a ≤ b → MOk w b := fun w a b h hab =>
  ⟨h.words,h.hv,h.pl,h.L,fun j hj => by have := h.pins j hj; omega,h.us,h.strong,h.weak,by have := h.sl; omega,by have := h.wl; omega⟩
 exact h2 _ _ _ m (by omega)
theorem madeMake (l : List Int) (hl : l.length ≤ 140737488355328) : GSpec Tryz.prog 28 [intsV l] false (makeF l).av [] := by
 have e := make_steps l
 have he := empty_ok (makeT l)
 have h1 : (((makeT l).step 4).step 5).l.length ≤ 300 := by rw [e.1]; simp; omega
 have h2 := e.2
 by_cases h : 300 < l.length
 ·have ht : TOk ⟨List.take (Int.toNat 300) l,0⟩ := by simp [TOk]; omega
  have e9 : makeT l = ⟨List.take (Int.toNat 300) l,0⟩ := rfl
  unfold makeF
  rw [e9] at he h1 h2 ⊢
  exact gE [(6,[Hint.int ↑l.length]),bT 7,(9,[Hint.els (List.map idv (List.take (Int.toNat 300) l))]),(14,[Hint.lent (Tape.mk (List.take (Int.toNat 300) l) 0).empty.av [(((Tape.mk (List.take (Int.toNat 300) l) 0).step 4).step 5).b]])] [cutOf (@mkLoopA ((Tape.mk (List.take (Int.toNat 300) l) 0).empty) (((Tape.mk (List.take (Int.toNat 300) l) 0).step 4).step 5) ‹_› ‹_› (by omega) (by omega))] [] Tryz.func28 [] (an (lm ((↑(List.map idv l).length : Int) = (↑l.length : Int))) (an (bo (decide (300 < (↑l.length : Int))=true)) (an tt (an (by (simp only [List.length_map]; omega) : (0 :Int)≤(300 :Int)∧300≤(↑(List.map idv l).length : Int)) (an (by simp [List.map_take,List.map_drop,List.map_set,List.map_append,wdv,idv] : List.take (Int.toNat 300) (List.map idv l) = List.map idv (List.take (Int.toNat 300) l)) (an (@tapeEmpty (Tape.mk (List.take (Int.toNat 300) l) 0) ‹_› (by (simp only [bs]; omega))) (@mkLoopA ((Tape.mk (List.take (Int.toNat 300) l) 0).empty) (((Tape.mk (List.take (Int.toNat 300) l) 0).step 4).step 5) ‹_› ‹_› (by omega) (by omega))))))))
 ·have ht : TOk ⟨l,0⟩ := by simp [TOk]; omega
  have e9 : makeT l = ⟨l,0⟩ := by rw [makeT,List.take_of_length_le (by omega)]
  unfold makeF
  rw [e9] at he h1 h2 ⊢
  exact gE [(6,[Hint.int ↑l.length]),bF 7,(14,[Hint.lent (Tape.mk l 0).empty.av [(((Tape.mk l 0).step 4).step 5).b]])] [cutOf (@mkLoopB ((Tape.mk l 0).empty) (((Tape.mk l 0).step 4).step 5) ‹_› ‹_› (by omega) (by omega))] [] Tryz.func28 [] (an (lm ((↑(List.map idv l).length : Int) = (↑l.length : Int))) (an (bo (decide (300 < (↑l.length : Int)) = false)) (an (rf false) (an (@tapeEmpty (Tape.mk l 0) ‹_› (by (simp only [bs]; omega))) (@mkLoopB ((Tape.mk l 0).empty) (((Tape.mk l 0).step 4).step 5) ‹_› ‹_› (by omega) (by omega))))))
theorem headerValid (h : Header) (hm : 0 ≤ h.map ∧ h.map ≤ 4294967295) : GSpec Tryz.prog 90 [h.av] true (bool (validH h)) [] := by
 have hs := fun q => pow32 (n := h.length) q
 have ho : 0 ≤ h.length → h.length ≤ 32 → ones h.length = 2 ^ h.length.toNat - 1 := fun h0 h1 => by rw [ones,Nat.min_eq_left (by omega)]
 rcases bb (decide (h.kind < 0) || decide (3 < h.kind) || decide (h.length < 0) || decide (255 < h.length)) with hc0 | hc0<;>have hc0p:=hc0<;>simp only [bs] at hc0p
 ·exact gF [] Tryz.func90 [false,false,false,false,false,false,false,false,false,true] (Ft 20 hc0 (Fa (by (simp [validH, *]; omega) : false =validH h) Fz))
 ·obtain ⟨⟨⟨hc0paaa,hc0paab⟩,hc0pab⟩,hc0pb⟩ := hc0p
  rcases bb (h.kind == 1) with hc1 | hc1<;>have hc1p:=hc1<;>simp only [bs] at hc1p
  ·exact gF [] Tryz.func90 [false,false,false,false,false,false,false,false,false,false,false,false,false,false,false,false,true] (Fh 30 [.int h.map] (Fh 33 [.call true (u64 (ones h.length)) []] (Ff 20 hc0 (Ft 23 hc1 (Fa (by intro hg; (try simp only [bs] at hg); exact wrapU2 rfl (by omega) (by omega) : decide (h.length≤32) =true→IntKind.u64.wrap h.map =h.map) (Fa ((fun hg => by (try simp only [bs] at hg); exact @bitsOnes h.length) : decide (h.length≤32) =true→GSpec Tryz.prog 124 [int h.length] true (u64 (ones h.length)) []) (Fa (by grind [validH] : (decide (h.length≤32)&&decide (h.map≤ones h.length)) =validH h) Fz)))))))
  ·exact gF [] Tryz.func90 [false,false,false,false,false,false,false,false,false,true] (Ff 20 hc0 (Ff 23 hc1 (Fa (by grind [validH] : (h.kind == h.kind&&(h.length == h.length&&h.map == 0)) =validH h) Fz)))
theorem headerSize (h : Header) (hm : 0 ≤ h.map ∧ h.map ≤ 4294967295) : GSpec Tryz.prog 54 [h.av] true (int (sizeH h)) [] := by
 rcases bb (!validH h) with hc0 | hc0<;>have hc0p:=hc0<;>simp only [bs] at hc0p
 ·exact gF [] Tryz.func54 [true] (Fc 4 (@headerValid h ‹_›) (Ft 5 hc0 (Fa (by simp [sizeH, *] : 0 =sizeH h) Fz)))
 ·have hf3 := validH_iff.1 hc0p
  obtain ⟨hf3a,⟨hf3ba,⟨hf3bba,⟨hf3bbba,hf3bbbb⟩⟩⟩⟩ := hf3
  exact gF [] Tryz.func54 [true] (Fc 4 (@headerValid h ‹_›) (Ff 5 hc0 (Fi 8 (h.length + 1) (Fa (by simp [sizeH, *] : h.length + 1 =sizeH h) Fz))))
theorem arenaPlace (ws : List Int) (a n : Int) (hw : ws.length ≤ 1048576) (h0 : 0 ≤ a ∧ a ≤ 18446744073709551615) : GSpec Tryz.prog 94 [wordsV ws,u64 a,int n] true (.tu [int (placeA ws a n).1,bool (placeA ws a n).2]) [] := by
 have Q0 {h c p} (r : Fq h c p) := Fa (by intro hg; (try simp only [bs] at hg); exact wrapU2 rfl (by omega) (by omega) : (!decide (a < 4096)) =true→IntKind.u64.wrap (a - 4096) =a - 4096) (Fa (by intro hg; (try simp only [bs] at hg); simp only [List.length_map] : (!decide (a < 4096)) =true→(↑(List.map wdv ws).length : Int) =(↑ws.length : Int)) (Fa (by intro hg; (try simp only [bs] at hg); exact wrapU2 rfl (by omega) (by omega) : (!decide (a < 4096)) =true→IntKind.u64.wrap (↑ws.length : Int) =(↑ws.length : Int)) r))
 rcases bb (decide (a < 4096) || decide ((↑ws.length : Int) < a - 4096)) with hc0 | hc0<;>have hc0p:=hc0<;>simp only [bs] at hc0p
 ·exact gF [] Tryz.func94 [false,false,false,false,false,false,true] (Fh 13 [.int (a - 4096)] (Fh 15 [.int ↑ws.length] (Fh 16 [.int ↑ws.length] (Q0 (Ft 18 hc0 (Fa (by (simp only [placeA]; (repeat' split) <;> first | rfl | omega | (exfalso; omega) | simp_all) : 0 =(placeA ws a n).fst) (Fa (by (simp only [placeA]; (repeat' split) <;> first | rfl | omega | (exfalso; omega) | simp_all) : false =(placeA ws a n).snd) Fz)))))))
 ·obtain ⟨hc0pa,hc0pb⟩ := hc0p
  exact gF [] Tryz.func94 [false,false,false,false,false,false,true] (Fh 16 [.int ↑ws.length] (Fh 21 [.int (a - 4096)] (Fh 25 [.int ↑ws.length] (Q0 (Ff 18 hc0 (Fv 13 (a - 4096) (Fi 20 (a - 4096) (Fl 15 wdv ws (Fi 27 ((↑ws.length : Int) - (a - 4096)) (Fa (by (simp only [placeA]; (repeat' split) <;> first | rfl | omega | (exfalso; omega) | simp_all) : a - 4096 =(placeA ws a n).fst) (Fa (by (simp only [placeA]; (repeat' split) <;> first | rfl | omega | (exfalso; omega) | simp_all) : decide (n≤(↑ws.length : Int) - (a - 4096)) =(placeA ws a n).snd) Fz)))))))))))
theorem arenaIndex (ws : List Int) (a : Int) (hw : ws.length ≤ 1048576) (h0 : 0 ≤ a ∧ a ≤ 18446744073709551615) : GSpec Tryz.prog 88 [wordsV ws,u64 a] true (.tu [int (indexA ws a).1,int (indexA ws a).2]) [] := by
 have Q0 {h c p} (r : Fq h c p) := Fc 11 (@arenaPlace ws a (1) ‹_› ‹_›) r
 rcases bb (!(placeA ws a 1).snd) with hc0 | hc0<;>have hc0p:=hc0<;>simp only [bs] at hc0p
 ·exact gF [] Tryz.func88 [true] (Q0 (Ft 15 hc0 (Fa (by grind [placeA,indexA] : 0 =(indexA ws a).fst) (Fa (by grind [placeA,indexA] : 2 =(indexA ws a).snd) Fz))))
 ·exact gF [] Tryz.func88 [true] (Q0 (Ff 15 hc0 (Fa (by grind [placeA,indexA] : (placeA ws a 1).fst =(indexA ws a).fst) (Fa (by grind [placeA,indexA] : 0 =(indexA ws a).snd) Fz))))
theorem arenaLoad (ws : List Int) (a : Int) (hw : ws.length ≤ 1048576) (h0 : 0 ≤ a ∧ a ≤ 18446744073709551615) : GSpec Tryz.prog 52 [wordsV ws,u64 a] true (.tu [u64 (loadA ws a).1,int (loadA ws a).2]) [] := by
 have Q0 {h c p} (r : Fq h c p) := Fc 11 (@arenaIndex ws a ‹_› ‹_›) r
 rcases bb ((indexA ws a).snd != 0) with hc0 | hc0<;>have hc0p:=hc0<;>simp only [bs] at hc0p
 ·have hf3 := indexA_no hc0p
  obtain ⟨hf3a,hf3b⟩ := hf3
  exact gF [] Tryz.func52 [true] (Q0 (Ft 15 hc0 (Fa (by simp [loadA, *] : 0 =(loadA ws a).fst) (Fa (by simp [loadA, *] : (indexA ws a).snd =(loadA ws a).snd) Fz))))
 ·have hf5 := indexA_ok hc0p
  obtain ⟨hf5a,⟨hf5ba,hf5bb⟩⟩ := hf5
  exact gF [] Tryz.func52 [true] (Q0 (Ff 15 hc0 (Fe 19 wdv ws ((indexA ws a).fst) (Fa (by simp [loadA, *] : ws.getD (indexA ws a).fst.toNat default =(loadA ws a).fst) (Fa (by simp [loadA, *] : 0 =(loadA ws a).snd) Fz)))))
def upS (w : Int) : Nat → Int
 | 0 => w
 | 1 => w / 4
 | 2 => w / 16
 | 3 => w / 65536
 | _ => w / 281474976710656
def upO (w : Int) : List Int := [w % 4,w / 4 % 4,w / 16 % 4096,w / 65536 % 4294967296]
def upL1 (w : Int) (i : Nat) : Tg := ⟨tm 49 [(0,u64 w),(1,intsV [2,2,12,32]),(4,.d (.sl 0 [])),(5,int 0),(6,int ([64,62,60,48,16].getD i 0)),(12,intsV [2,2,12,32]),(13,int 4),(14,int i)],[],20⟩
theorem up1Round (w : Int) (i : Nat) (hi : i < 4) : CSpec Tryz.prog (rndF Tryz.f89 0) (upL1 w i).st .nrm (upL1 w (i + 1)).st := by
 have h : i = 0 ∨ i = 1 ∨ i = 2 ∨ i = 3 := by omega
 rcases h with rfl | rfl | rfl | rfl
 ·refine stretchE [((16 : Nat),[Hint.el (idv (2 : Int))])] [] [] [] (φ := (0 : Int) ≤ (↑(0 : Nat) : Int) ∧ (List.map idv [(2 : Int),(2 : Int),(12 : Int),(32 : Int)])[(↑(0 : Nat) : Int).toNat]? = some (idv (2 : Int))) ?_ (by kernel_rfl) (by kernel_rfl) (by kernel_rfl)
  exact (by simp [*])
 ·refine stretchE [((16 : Nat),[Hint.el (idv (2 : Int))])] [] [] [] (φ := (0 : Int) ≤ (↑(1 : Nat) : Int) ∧ (List.map idv [(2 : Int),(2 : Int),(12 : Int),(32 : Int)])[(↑(1 : Nat) : Int).toNat]? = some (idv (2 : Int))) ?_ (by kernel_rfl) (by kernel_rfl) (by kernel_rfl)
  exact (by simp [*])
 ·refine stretchE [((16 : Nat),[Hint.el (idv (12 : Int))])] [] [] [] (φ := (0 : Int) ≤ (↑(2 : Nat) : Int) ∧ (List.map idv [(2 : Int),(2 : Int),(12 : Int),(32 : Int)])[(↑(2 : Nat) : Int).toNat]? = some (idv (12 : Int))) ?_ (by kernel_rfl) (by kernel_rfl) (by kernel_rfl)
  exact (by simp [*])
 ·refine stretchE [((16 : Nat),[Hint.el (idv (32 : Int))])] [] [] [] (φ := (0 : Int) ≤ (↑(3 : Nat) : Int) ∧ (List.map idv [(2 : Int),(2 : Int),(12 : Int),(32 : Int)])[(↑(3 : Nat) : Int).toNat]? = some (idv (32 : Int))) ?_ (by kernel_rfl) (by kernel_rfl) (by kernel_rfl)
  exact (by simp [*])
theorem up1End (w : Int) : CSpec Tryz.prog (rndF Tryz.f89 0) (upL1 w 4).st (.ext 0) (Tg.st ⟨tm 49 [(0,u64 w),(1,intsV [2,2,12,32]),(4,.d (.sl 0 [])),(5,int 0)],[],60⟩) := by
 exact sE [] [] [] [] (trivial)
theorem up1Loop (w : Int) : CSpec Tryz.prog (blkF Tryz.f89 0) (Tg.st ⟨tm 49 [(0,u64 w),(1,intsV [2,2,12,32]),(4,.d (.sl 0 [])),(5,int 0),(6,int 64),(12,intsV [2,2,12,32]),(13,int 4),(14,int 0)],[],20⟩) .nrm (Tg.st ⟨tm 49 [(0,u64 w),(1,intsV [2,2,12,32]),(4,.d (.sl 0 [])),(5,int 0)],[],60⟩) :=
 loop_ext_of (S := fun i => (upL1 w i).st) 4 (by kernel_rfl) (fun i hi => up1Round w i hi) (up1End w)
def upL2 (w : Int) (i : Nat) : Tg := ⟨tm 49 [(0,u64 (upS w i)),(4,.d (.sl 0 [])),(5,int 0),(9,.ow 480009),(29,intsV [2,2,12,32]),(30,int 4),(31,int i)],[(480009,.arr 29 1 (((upO w).take i).map wdv))],60⟩
theorem up2Round (w : Int) (i : Nat) (h0 : 0 ≤ w) (h1 : w ≤ 18446744073709551615) (hi : i < 4) : CSpec Tryz.prog (rndF Tryz.f89 2) (upL2 w i).st .nrm (upL2 w (i + 1)).st := by
 have o1 : ones 2 = 3 := by decide
 have o2 : ones 12 = 4095 := by decide
 have o3 : ones 32 = 4294967295 := by decide
 have a0 : bits .and .u64 w (ones 2) = w % 4 := by rw [o1]; exact and_mask 2 (by decide) (by decide) (by omega) (by omega)
 have a1 : bits .and .u64 (w / 4) (ones 2) = w / 4 % 4 := by rw [o1]; exact and_mask 2 (by decide) (by decide) (by omega) (by omega)
 have a2 : bits .and .u64 (w / 16) (ones 12) = w / 16 % 4096 := by rw [o2]; exact and_mask 12 (by decide) (by decide) (by omega) (by omega)
 have a3 : bits .and .u64 (w / 65536) (ones 32) = w / 65536 % 4294967296 := by rw [o3]; exact and_mask 32 (by decide) (by decide) (by omega) (by omega)
 have f1 : (w / 4).fdiv 4 = w / 16 := by rw [Int.fdiv_eq_ediv_of_nonneg _ (by decide)]; omega
 have f2 : (w / 16).fdiv 4096 = w / 65536 := by rw [Int.fdiv_eq_ediv_of_nonneg _ (by decide)]; omega
 have f3 : (w / 65536).fdiv 4294967296 = w / 281474976710656 := by rw [Int.fdiv_eq_ediv_of_nonneg _ (by decide)]; omega
 have h : i = 0 ∨ i = 1 ∨ i = 2 ∨ i = 3 := by omega
 rcases h with rfl | rfl | rfl | rfl
 ·exact sF [(496041,480009)] [] (Fh 33 [.el (idv 2)] (Fh 40 [.els (List.map wdv [upS w 0 % 4])] (Fh 41 [.els (List.map wdv [upS w 0 % 4])] (Fa (by simp [upS,upO, *] : 0≤(↑0 : Int)∧(List.map idv [2,2,12,32])[(↑0 : Int).toNat]? = some (idv 2)) (Fc 38 (@bitsOnes (2)) (Fg 39 (by assumption : bits BinOp.and IntKind.u64 (upS w 0) (ones (2 :Int)) =upS w 0 % 4) (Fr (List.map wdv [upS w 0 % 4]) (Fa (by simp [upS,upO, *] : (List.map wdv (List.take 0 (upO w))).length + (List.map wdv [upS w 0 % 4]).length≤2 ^ 30) (Fr (List.map wdv [upS w 0 % 4]) (Fg 44 (by exact fdiv2 rfl (by decide) : (upS w 0).fdiv (2 ^ min (Int.toNat 2) 64) =upS w 0 / 4) (Fo ((0 :Int)≤2) Fz)))))))))))
 ·exact sF [(496041,480009)] [true] (Fh 33 [.el (idv 2)] (Fh 40 [.els (List.map wdv [upS w 1 % 4])] (Fh 41 [.els (List.map wdv [w % 4,upS w 1 % 4])] (Fa (by simp [upS,upO, *] : 0≤(↑1 : Int)∧(List.map idv [2,2,12,32])[(↑1 : Int).toNat]? = some (idv 2)) (Fc 38 (@bitsOnes (2)) (Fg 39 (by assumption : bits BinOp.and IntKind.u64 (upS w 1) (ones (2 :Int)) =upS w 1 % 4) (Fr (List.map wdv [upS w 1 % 4]) (Fa (by simp [upS,upO, *] : (List.map wdv (List.take 1 (upO w))).length + (List.map wdv [upS w 1 % 4]).length≤2 ^ 30) (Fr (List.map wdv [w % 4,upS w 1 % 4]) (Fg 44 (by exact fdiv2 rfl (by decide) : (upS w 1).fdiv (2 ^ min (Int.toNat 2) 64) =upS w 1 / 4) (Fo ((0 :Int)≤2) (Fa (by (simp [upS,upO, *]; omega) : upS w 1 / 4 =upS w (1 + 1)) Fz))))))))))))
 ·exact sF [(496041,480009)] [true] (Fh 33 [.el (idv 12)] (Fh 40 [.els (List.map wdv [upS w 2 % 4096])] (Fh 41 [.els (List.map wdv [w % 4,w / 4 % 4,upS w 2 % 4096])] (Fa (by simp [upS,upO, *] : 0≤(↑2 : Int)∧(List.map idv [2,2,12,32])[(↑2 : Int).toNat]? = some (idv 12)) (Fc 38 (@bitsOnes (12)) (Fg 39 (by assumption : bits BinOp.and IntKind.u64 (upS w 2) (ones (12 :Int)) =upS w 2 % 4096) (Fr (List.map wdv [upS w 2 % 4096]) (Fa (by simp [upS,upO, *] : (List.map wdv (List.take 2 (upO w))).length + (List.map wdv [upS w 2 % 4096]).length≤2 ^ 30) (Fr (List.map wdv [w % 4,w / 4 % 4,upS w 2 % 4096]) (Fg 44 (by exact fdiv2 rfl (by decide) : (upS w 2).fdiv (2 ^ min (Int.toNat 12) 64) =upS w 2 / 4096) (Fo ((0 :Int)≤12) (Fa (by (simp [upS,upO, *]; omega) : upS w 2 / 4096 =upS w (2 + 1)) Fz))))))))))))
 ·exact sF [(496041,480009)] [true] (Fh 33 [.el (idv 32)] (Fh 40 [.els (List.map wdv [upS w 3 % 4294967296])] (Fh 41 [.els (List.map wdv [w % 4,w / 4 % 4,w / 16 % 4096,upS w 3 % 4294967296])] (Fa (by simp [upS,upO, *] : 0≤(↑3 : Int)∧(List.map idv [2,2,12,32])[(↑3 : Int).toNat]? = some (idv 32)) (Fc 38 (@bitsOnes (32)) (Fg 39 (by assumption : bits BinOp.and IntKind.u64 (upS w 3) (ones (32 :Int)) =upS w 3 % 4294967296) (Fr (List.map wdv [upS w 3 % 4294967296]) (Fa (by simp [upS,upO, *] : (List.map wdv (List.take 3 (upO w))).length + (List.map wdv [upS w 3 % 4294967296]).length≤2 ^ 30) (Fr (List.map wdv (List.take 3 (upO w)) ++ List.map wdv [upS w 3 % 4294967296]) (Fg 44 (by exact fdiv2 rfl (by decide) : (upS w 3).fdiv (2 ^ min (Int.toNat 32) 64) =upS w 3 / 4294967296) (Fo ((0 :Int)≤32) (Fa (by (simp [upS,upO, *]; omega) : upS w 3 / 4294967296 =upS w (3 + 1)) Fz))))))))))))
theorem up2End (w : Int) : CSpec Tryz.prog (rndF Tryz.f89 2) (upL2 w 4).st (.ext 2) (Tg.st ⟨tm 49 [(0,u64 (w / 281474976710656)),(4,.d (.sl 0 [])),(5,int 0),(9,.ow 480009)],[(480009,.arr 29 1 ((upO w).map wdv))],60⟩) := by
 exact sE [] [] [] [] (trivial)
theorem up2Loop (w : Int) (h0 : 0 ≤ w) (h1 : w ≤ 18446744073709551615) : CSpec Tryz.prog (blkF Tryz.f89 2) (Tg.st ⟨tm 49 [(0,u64 w),(4,.d (.sl 0 [])),(5,int 0),(9,.ow 480009),(29,intsV [2,2,12,32]),(30,int 4),(31,int 0)],[(480009,.arr 29 1 [])],60⟩) .nrm (Tg.st ⟨tm 49 [(0,u64 (w / 281474976710656)),(4,.d (.sl 0 [])),(5,int 0),(9,.ow 480009)],[(480009,.arr 29 1 ((upO w).map wdv))],60⟩) :=
 loop_ext_of (S := fun i => (upL2 w i).st) 4 (by kernel_rfl) (fun i hi => up2Round w i h0 h1 hi) (up2End w)
theorem unpack4 (w : Int) (h0 : 0 ≤ w) (h1 : w ≤ 18446744073709551615) (h : w < 281474976710656) : GSpec Tryz.prog 89 [u64 w,intsV [2,2,12,32]] true (.tu [wordsV (upO w),int 0]) [] := by
 exact gF [] Tryz.func89 [] (Fh 9 [.own] (Fu (@up1Loop w) (Fu (@up2Loop w ‹_› ‹_›) (Ffb 47 (w / (281474976710656 :Int) != 0) (Fa (by exact flat_wdv _ : FlatEls (List.map wdv (upO w))) Fz)))))
theorem unpack4n (w : Int) (h0 : 0 ≤ w) (h1 : w ≤ 18446744073709551615) (h : ¬ w < 281474976710656) : GSpec Tryz.prog 89 [u64 w,intsV [2,2,12,32]] true (.tu [wordsV [],int 2]) [] := by
 exact gF [] Tryz.func89 [] (Fh 9 [.own] (Fu (@up1Loop w) (Fu (@up2Loop w ‹_› ‹_›) (Ftb 47 (w / (281474976710656 :Int) != 0) (Fnl Fz)))))
theorem decode_cases (w : Int) (h0 : 0 ≤ w) : decodeH w = if w < 281474976710656 ∧ w % 4 = 1 ∧ validH (hdrOf w) = true then (hdrOf w,true) else (noHdr,false) := by
 have k1 : (hdrOf w).kind = w / 4 % 4 := rfl
 have k2 : (hdrOf w).length = w / 16 % 4096 := rfl
 have k3 : (hdrOf w).map = w / 65536 % 4294967296 := rfl
 by_cases hv : validH (hdrOf w) = true
 ·have e : encodeH (hdrOf w) = (1 + 4 * (hdrOf w).kind + 16 * (hdrOf w).length + 65536 * (hdrOf w).map,0) := by rw [encodeH,if_pos hv]
  by_cases hc : w < 281474976710656 ∧ w % 4 = 1
  ·rw [decodeH,e,if_pos ⟨rfl,by simp only; omega⟩,if_pos ⟨hc.1,hc.2,hv⟩]
  ·rw [decodeH,e,if_neg (by simp only; omega),if_neg (fun q => hc ⟨q.1,q.2.1⟩)]
 ·have e : encodeH (hdrOf w) = (0,1) := by rw [encodeH,if_neg hv]
  rw [decodeH,e,if_neg (by simp),if_neg (fun q => hv q.2.2)]
theorem headerDecode (w : Int) (h0 : 0 ≤ w) (h1 : w ≤ 18446744073709551615) : GSpec Tryz.prog 53 [u64 w] true (.tu [(decodeH w).1.av,bool (decodeH w).2]) [] := by
 have hm := hdrOf_map w h0
 rw [decode_cases w h0]
 have u0 : (upO w).getD 0 default = w % 4 := rfl
 have u1 : (upO w).getD 1 default = w / 4 % 4 := rfl
 have u2 : (upO w).getD 2 default = w / 16 % 4096 := rfl
 have u3 : (upO w).getD 3 default = w / 65536 % 4294967296 := rfl
 have uL : (upO w).length = 4 := rfl
 have k1 : (hdrOf w).kind = w / 4 % 4 := rfl
 have k2 : (hdrOf w).length = w / 16 % 4096 := rfl
 have k3 : (hdrOf w).map = w / 65536 % 4294967296 := rfl
 by_cases ha : w < 281474976710656
 ·by_cases hb : w % 4 = 1
  ·by_cases hv : validH (hdrOf w) = true
   ·rw [if_pos ⟨ha,hb,hv⟩]
    have hv2 : validH ⟨w / 4 % 4,w / 16 % 4096,w / 65536 % 4294967296⟩ = true := hv
    exact gF [] Tryz.func53 [] (Fh 9 [.els (List.map idv [2,2,12,32])] (Fh 17 [.el (wdv ((upO w).getD 0 default))] (Fh 23 [.el (wdv ((upO w).getD 1 default))] (Fh 27 [.el (wdv ((upO w).getD 2 default))] (Fh 31 [.el (wdv ((upO w).getD 3 default))] (Fr (List.map idv [2,2,12,32]) (Fc 10 (@unpack4 w ‹_› ‹_› ‹_›) (Fa (by intro hg; (try simp only [bs] at hg); exact elI (by omega) (by omega) (by omega) : (!(0 :Int) != 0) =true→(0 :Int)≤0∧(List.map wdv (upO w))[Int.toNat 0]? = some (wdv ((upO w).getD 0 default))) (Ffb 20 ((upO w).getD 0 default != 1) (Fa (by exact elI (by omega) (by omega) (by omega) : (0 :Int)≤1∧(List.map wdv (upO w))[Int.toNat 1]? = some (wdv ((upO w).getD 1 default))) (Fi 25 ((upO w).getD 1 default) (Fa (by exact elI (by omega) (by omega) (by omega) : (0 :Int)≤2∧(List.map wdv (upO w))[Int.toNat 2]? = some (wdv ((upO w).getD 2 default))) (Fi 29 ((upO w).getD 2 default) (Fa (by exact elI (by omega) (by omega) (by omega) : (0 :Int)≤3∧(List.map wdv (upO w))[Int.toNat 3]? = some (wdv ((upO w).getD 3 default))) (Fg 33 (by exact wrap32' (by omega) (by omega) : IntKind.u32.wrap ((upO w).getD 3 default) =(upO w).getD 3 default) (Fc 36 (@headerValid (Header.mk ((upO w).getD 1 default) ((upO w).getD 2 default) ((upO w).getD 3 default)) ‹_›) (Ff 37 (by simp only [bs, *,true_or,or_true,true_and,and_true,not_true_eq_false,not_false_eq_true,Bool.true_eq_false,Bool.false_eq_true] : (!validH (Header.mk ((upO w).getD 1 default) ((upO w).getD 2 default) ((upO w).getD 3 default)))=false) Fz)))))))))))))))))
   ·rw [if_neg (by simp [hv])]
    have hv' : validH ⟨w / 4 % 4,w / 16 % 4096,w / 65536 % 4294967296⟩ = false := eq_false_of_ne_true hv
    exact gF [] Tryz.func53 [] (Fh 9 [.els (List.map idv [2,2,12,32])] (Fh 17 [.el (wdv ((upO w).getD 0 default))] (Fh 23 [.el (wdv ((upO w).getD 1 default))] (Fh 27 [.el (wdv ((upO w).getD 2 default))] (Fh 31 [.el (wdv ((upO w).getD 3 default))] (Fr (List.map idv [2,2,12,32]) (Fc 10 (@unpack4 w ‹_› ‹_› ‹_›) (Fa (by intro hg; (try simp only [bs] at hg); exact elI (by omega) (by omega) (by omega) : (!(0 :Int) != 0) =true→(0 :Int)≤0∧(List.map wdv (upO w))[Int.toNat 0]? = some (wdv ((upO w).getD 0 default))) (Ffb 20 ((upO w).getD 0 default != 1) (Fa (by exact elI (by omega) (by omega) (by omega) : (0 :Int)≤1∧(List.map wdv (upO w))[Int.toNat 1]? = some (wdv ((upO w).getD 1 default))) (Fi 25 ((upO w).getD 1 default) (Fa (by exact elI (by omega) (by omega) (by omega) : (0 :Int)≤2∧(List.map wdv (upO w))[Int.toNat 2]? = some (wdv ((upO w).getD 2 default))) (Fi 29 ((upO w).getD 2 default) (Fa (by exact elI (by omega) (by omega) (by omega) : (0 :Int)≤3∧(List.map wdv (upO w))[Int.toNat 3]? = some (wdv ((upO w).getD 3 default))) (Fg 33 (by exact wrap32' (by omega) (by omega) : IntKind.u32.wrap ((upO w).getD 3 default) =(upO w).getD 3 default) (Fc 36 (@headerValid (Header.mk ((upO w).getD 1 default) ((upO w).getD 2 default) ((upO w).getD 3 default)) ‹_›) (Ft 37 (by simp only [bs, *,true_or,or_true,true_and,and_true,not_true_eq_false,not_false_eq_true,Bool.true_eq_false,Bool.false_eq_true] : (!validH (Header.mk ((upO w).getD 1 default) ((upO w).getD 2 default) ((upO w).getD 3 default)))=true) Fz)))))))))))))))))
  ·rw [if_neg (by simp [hb])]
   exact gF [] Tryz.func53 [] (Fh 9 [.els (List.map idv [2,2,12,32])] (Fh 17 [.el (wdv ((upO w).getD 0 default))] (Fr (List.map idv [2,2,12,32]) (Fc 10 (@unpack4 w ‹_› ‹_› ‹_›) (Fa (by intro hg; (try simp only [bs] at hg); exact elI (by omega) (by omega) (by omega) : (!(0 :Int) != 0) =true→(0 :Int)≤0∧(List.map wdv (upO w))[Int.toNat 0]? = some (wdv ((upO w).getD 0 default))) (Ftb 20 ((upO w).getD 0 default != 1) Fz))))))
 ·rw [if_neg (by simp [ha])]
  exact gF [] Tryz.func53 [] (Fh 9 [.els (List.map idv [2,2,12,32])] (Fh 17 [.el (wdv ([].getD 0 default))] (Fr (List.map idv [2,2,12,32]) (Fc 10 (@unpack4n w ‹_› ‹_› ‹_›) (Fa (by intro hg; (try simp only [bs] at hg); exact elI (by omega) (by omega) (by omega) : (!(2 :Int) != 0) =true→(0 :Int)≤0∧(List.map wdv [])[Int.toNat 0]? = some (wdv ([].getD 0 default))) Fz)))))
end Go.Proofs.YtpklpkmnhgedbaaGreat
namespace Go.Sx
theorem lent_ro2 {P : Program} {f : Nat} {e0 e1 : List DV} {t0 t1 : Nat} {x : Value} (hx : x.oneCell' = true) (h : GSpec P f [.rp e0 0,.rp e1 0] true (.d (.sc x)) []) :
  LentSpec P f [.pt 0 0 0,.pt 1 0 0] [.box t0 (e0.map .d),.box t1 (e1.map .d)] (.d (.sc x)) [.box t0 (e0.map .d),.box t1 (e1.map .d)] := by
 intro w Im ρ vs hIm hsz hρ hinj hbnd hpre hargs
 have box : ∀ (k : Nat) (e : List DV) (t : Nat) (v : Value) (Im2 : Nat → Prop),(∀ g,Im g → Im2 g) → (∀ β g,ρ k = some β → β.g = some g → Im2 g) → (∃ β,ρ k = some β ∧ RelB ρ w Im β (.box t (e.map .d))) → Rel ρ w Im (.pt k 0 0) v → Rel (fun _ => none) w Im2 (.rp e 0) v := by
  intro k e t v Im2 hi hg hb hv
  obtain ⟨β,hβ,r⟩ := hb
  obtain ⟨g,s,n,k1,rfl⟩ := rel_ptr hv
  rw [hβ] at k1
  cases k1
  obtain ⟨r1,r2,g2,cs,r3,r4,r5,r6,r7⟩ := r
  cases r3
  have := @Rel.rp (fun _ => none) w Im2 e 0 ⟨g,0,none⟩ rfl (hg _ _ hβ rfl) (fun j y hy => by
   have hj : j < e.length := (List.getElem?_eq_some_iff.1 hy).1
   have hc : j < cs.size := by rw [r5]; simpa using hj
   have h1 : cs[j]? = some cs[j] := Array.getElem?_eq_getElem hc
   have h2 := r7 j (.d y) cs[j] (by simp [hy]) h1
   refine ⟨cs[j], ?_, ?_⟩
   ·simp only [World.cell?,r4]
    simpa using h1
   ·cases h2 with
    | d h2 => exact h2.mono (Ext.refl _ _) hi)
  simpa using this
 refine (h w (fun g => Im g ∨ ∃ k β,ρ k = some β ∧ β.g = some g) vs ?_ hsz ?_).mono ?_
 ·rintro g (hg | ⟨k,β,h1,h2⟩)
  ·exact hIm g hg
  ·exact (hbnd k β g h1 h2).1
 ·intro i y v hy hv
  cases i with
  | zero =>
   simp at hy; subst hy
   exact box 0 e0 t0 v _ (fun g hg => .inl hg) (fun β g h1 h2 => .inr ⟨0,β,h1,h2⟩) (hpre 0 _ rfl) (hargs 0 _ v rfl hv)
  | succ i => cases i with
   | zero =>
    simp at hy; subst hy
    exact box 1 e1 t1 v _ (fun g hg => .inl hg) (fun β g h1 h2 => .inr ⟨1,β,h1,h2⟩) (hpre 1 _ rfl) (hargs 1 _ v rfl hv)
   | succ i => simp at hy
 ·rintro e w' ⟨v,rfl,hk,ρ',Im',_,_,_,_,_,_,hr⟩
  have hv := rel_sc hr
  subst hv
  have ext : Ext Im w w' := ⟨hk.size,fun g hg => hk.block g (hIm g hg) (fun q => q),hk.rows⟩
  refine ⟨_,rfl,⟨hk.os,hk.tape,hk.output,hk.size,fun k h1 _ => hk.block k h1 (fun q => q),hk.rows⟩,Im,fun g hg => .inl hg,fun g hg => Nat.lt_of_lt_of_le (hIm g hg) hk.size, ?_,.d (.sc _ hx)⟩
  intro k B hB
  obtain ⟨β,b1,b2⟩ := hpre k B hB
  exact ⟨β,b1,b2.mono ext (fun _ h => h) (fun _ _ h => h) (fun b β g h1 h2 => (hbnd b β g h1 h2).1) (fun g hg => hk.block g (hbnd k β g b1 hg).1 (fun q => q))⟩
end Go.Sx
namespace Go.Proofs.YtpklpkmnhgedbaaGreat
open Go.Sx
def Heap.dvs (h : Heap) : List DV := [.sc (.int .i64 h.conf.pw),.sc (.int .i64 h.conf.pg),.sl 1 (h.words.map wdv),.sl 4 (h.pages.map Page.dv),.sc (.int .i64 h.space),.sc (.int .i64 h.bump)]
theorem objectAt1R (h : Heap) (a : Int) (hl : h.words.length ≤ 1048576) (h0 : 0 ≤ a ∧ a ≤ 18446744073709551615) : GSpec Tryz.prog 51 [.rp [.sc (.int .i64 h.conf.pw),.sc (.int .i64 h.conf.pg),.sl 1 (h.words.map wdv),.sl 4 (h.pages.map Page.dv),.sc (.int .i64 h.space),.sc (.int .i64 h.bump)] 0,.rp [.sc (.int .u64 a)] 0] true (u64 (loadA h.words a).1) [] := by
 exact gF [] Tryz.func51 [] (Fc 9 (@arenaLoad h.words a ‹_› ‹_›) Fz)
theorem objectAt1 (h : Heap) (a : Int) (hl : h.words.length ≤ 1048576) (h0 : 0 ≤ a ∧ a ≤ 18446744073709551615) : LentSpec Tryz.prog 51 [.pt 0 0 0,.pt 1 0 0] [.box 27 h.cells,.box 29 [u64 a]] (u64 (loadA h.words a).1) [.box 27 h.cells,.box 29 [u64 a]] :=
 lent_ro2 (e0 := h.dvs) (e1 := [.sc (.int .u64 a)]) rfl (objectAt1R h a hl h0)
theorem objectAt (h : Heap) (a : Int) (hw : WOk h.words) (h0 : 0 ≤ a ∧ a ≤ 18446744073709551615) : GSpec Tryz.prog 13 [h.av,u64 a] true (.tu [(atH h a).1.av,int (atH h a).2]) [] := by
 have hv := loadA_range hw a
 have hm := decodeH_map (loadA h.words a).1 hv.1
 by_cases hp : properB h = true
 ·have po := proper_ok hp
  by_cases ho : (ofA h.conf a).2.2 = 0
  ·have oo := ofA_ok po.1 ho
   have hz : (decodeH (loadA h.words a).1).2 = true → sizeH (decodeH (loadA h.words a).1).1 = (decodeH (loadA h.words a).1).1.length + 1 ∧ 0 ≤ (decodeH (loadA h.words a).1).1.length ∧ (decodeH (loadA h.words a).1).1.length ≤ 255 := fun e => by
    have hv := decodeH_ok e
    have := validH_iff.1 hv
    rw [sizeH,if_pos hv]
    omega
   have pp := proper_page hp (j := (ofA h.conf a).1.toNat) (by omega)
   by_cases c3 : ((h.pages.getD (ofA h.conf a).1.toNat default).kind = 1 ∨ (h.pages.getD (ofA h.conf a).1.toNat default).kind = 2) ∧ (ofA h.conf a).2.1 < (h.pages.getD (ofA h.conf a).1.toNat default).used ∧ (decodeH (loadA h.words a).1).2 = true
   ·have hz' := hz c3.2.2
    by_cases c4 : ((h.pages.getD (ofA h.conf a).1.toNat default).kind = 1 ∧ (h.pages.getD (ofA h.conf a).1.toNat default).used < (ofA h.conf a).2.1 + sizeH (decodeH (loadA h.words a).1).1) ∨ ((h.pages.getD (ofA h.conf a).1.toNat default).kind = 2 ∧ ((ofA h.conf a).2.1 ≠ 0 ∨ sizeH (decodeH (loadA h.words a).1).1 ≠ (h.pages.getD (ofA h.conf a).1.toNat default).used))
    ·have e7 : atH h a = (noHdr,19) := by rw [atH,if_pos hp,if_pos ho,if_pos c3,if_pos c4]
     rw [e7]
     rcases Bool.eq_false_or_eq_true (!(decodeH (loadA h.words a).fst).snd || decide ((h.pages.getD (ofA h.conf a).fst.toNat default).used ≤ (ofA h.conf a).snd.fst)) with hc0 | hc0
     ·have hc0p := hc0
      simp only [bs] at hc0p
      exact gE [(15,[Hint.call true (Sx.bool (properB h)) []]),bF 16,(22,[Hint.call true (ofV h.conf a) []]),bF 27,(34,[Hint.el (h.pages.getD (ofA h.conf a).fst.toNat default).dv]),(38,[Hint.lent (u64 (loadA h.words a).fst) [Blk.box 27 h.cells,Blk.box 29 [u64 a]]]),(39,[Hint.call true (AV.tu [(decodeH (loadA h.words a).fst).fst.av,Sx.bool (decodeH (loadA h.words a).fst).snd]) []]),(43,[Hint.call true (int (sizeH (decodeH (loadA h.words a).fst).fst)) []]),bT 44] [] [] Tryz.func13 [] (an (@pageProper h) (an (bo ((!properB h) = false)) (an (rf false) (an (@pageOf h.conf a (by omega) (by omega)) (an (bo (((ofA h.conf a).snd.snd != 0) = false)) (an (rf false) (an (eI (0≤(ofA h.conf a).fst∧(List.map Page.dv h.pages)[(ofA h.conf a).fst.toNat]? = some (h.pages.getD (ofA h.conf a).fst.toNat default).dv)) (an (@objectAt1 h a (by omega) ‹_›) (an (@headerDecode ((loadA h.words a).fst) (by omega) (by omega)) (an (@headerSize ((decodeH (loadA h.words a).fst).fst) ‹_›) ‹(!(decodeH (loadA h.words a).fst).snd||decide ((h.pages.getD (ofA h.conf a).fst.toNat default).used≤(ofA h.conf a).snd.fst)) = true›))))))))))
     ·have hc0p := hc0
      simp only [bs] at hc0p
      obtain ⟨hc0pa,hc0pb⟩ := hc0p
      rcases Bool.eq_false_or_eq_true ((h.pages.getD (ofA h.conf a).fst.toNat default).kind == (1 : Int)) with hc1 | hc1
      ·have hc1p := hc1
       simp only [bs] at hc1p
       exact gE [(15,[Hint.call true (Sx.bool (properB h)) []]),bF 16,(22,[Hint.call true (ofV h.conf a) []]),bF 27,(34,[Hint.el (h.pages.getD (ofA h.conf a).fst.toNat default).dv]),(38,[Hint.lent (u64 (loadA h.words a).fst) [Blk.box 27 h.cells,Blk.box 29 [u64 a]]]),(39,[Hint.call true (AV.tu [(decodeH (loadA h.words a).fst).fst.av,Sx.bool (decodeH (loadA h.words a).fst).snd]) []]),(43,[Hint.call true (int (sizeH (decodeH (loadA h.words a).fst).fst)) []]),bF 44,bT 53,(61,[Hint.int ((h.pages.getD (ofA h.conf a).fst.toNat default).used - (ofA h.conf a).snd.fst)]),bT 76] [] [] Tryz.func13 [] (an (@pageProper h) (an (bo ((!properB h) = false)) (an (rf false) (an (@pageOf h.conf a (by omega) (by omega)) (an (bo (((ofA h.conf a).snd.snd != 0) = false)) (an (rf false) (an (eI (0≤(ofA h.conf a).fst∧(List.map Page.dv h.pages)[(ofA h.conf a).fst.toNat]? = some (h.pages.getD (ofA h.conf a).fst.toNat default).dv)) (an (@objectAt1 h a (by omega) ‹_›) (an (@headerDecode ((loadA h.words a).fst) (by omega) (by omega)) (an (@headerSize ((decodeH (loadA h.words a).fst).fst) ‹_›) (an ‹(!(decodeH (loadA h.words a).fst).snd||decide ((h.pages.getD (ofA h.conf a).fst.toNat default).used≤(ofA h.conf a).snd.fst)) = false› (an ‹((h.pages.getD (ofA h.conf a).fst.toNat default).kind == 1) = true› (an (wI (IntKind.i64.wrap ((h.pages.getD (ofA h.conf a).fst.toNat default).used - (ofA h.conf a).snd.fst) = (h.pages.getD (ofA h.conf a).fst.toNat default).used - (ofA h.conf a).snd.fst)) (an (bo ((!decide (sizeH (decodeH (loadA h.words a).fst).fst≤(h.pages.getD (ofA h.conf a).fst.toNat default).used - (ofA h.conf a).snd.fst))=true)) tt))))))))))))))
      ·have hc1p := hc1
       simp only [bs] at hc1p
       exact gE [(15,[Hint.call true (Sx.bool (properB h)) []]),bF 16,(22,[Hint.call true (ofV h.conf a) []]),bF 27,(34,[Hint.el (h.pages.getD (ofA h.conf a).fst.toNat default).dv]),(38,[Hint.lent (u64 (loadA h.words a).fst) [Blk.box 27 h.cells,Blk.box 29 [u64 a]]]),(39,[Hint.call true (AV.tu [(decodeH (loadA h.words a).fst).fst.av,Sx.bool (decodeH (loadA h.words a).fst).snd]) []]),(43,[Hint.call true (int (sizeH (decodeH (loadA h.words a).fst).fst)) []]),bF 44,bF 53,bT 63,bT 76] [] [] Tryz.func13 [] (an (@pageProper h) (an (bo ((!properB h) = false)) (an (rf false) (an (@pageOf h.conf a (by omega) (by omega)) (an (bo (((ofA h.conf a).snd.snd != 0) = false)) (an (rf false) (an (eI (0≤(ofA h.conf a).fst∧(List.map Page.dv h.pages)[(ofA h.conf a).fst.toNat]? = some (h.pages.getD (ofA h.conf a).fst.toNat default).dv)) (an (@objectAt1 h a (by omega) ‹_›) (an (@headerDecode ((loadA h.words a).fst) (by omega) (by omega)) (an (@headerSize ((decodeH (loadA h.words a).fst).fst) ‹_›) (an ‹(!(decodeH (loadA h.words a).fst).snd||decide ((h.pages.getD (ofA h.conf a).fst.toNat default).used≤(ofA h.conf a).snd.fst)) = false› (an ‹((h.pages.getD (ofA h.conf a).fst.toNat default).kind == 1) = false› (an (bo (((h.pages.getD (ofA h.conf a).fst.toNat default).kind == 2)=true)) (an (bo ((!((ofA h.conf a).snd.fst == 0&&sizeH (decodeH (loadA h.words a).fst).fst == (h.pages.getD (ofA h.conf a).fst.toNat default).used))=true)) tt))))))))))))))
    ·have e7 : atH h a = ((decodeH (loadA h.words a).1).1,0) := by rw [atH,if_pos hp,if_pos ho,if_pos c3,if_neg c4]
     rw [e7]
     rcases Bool.eq_false_or_eq_true (!(decodeH (loadA h.words a).fst).snd || decide ((h.pages.getD (ofA h.conf a).fst.toNat default).used ≤ (ofA h.conf a).snd.fst)) with hc0 | hc0
     ·have hc0p := hc0
      simp only [bs] at hc0p
      exact gE [(15,[Hint.call true (Sx.bool (properB h)) []]),bF 16,(22,[Hint.call true (ofV h.conf a) []]),bF 27,(34,[Hint.el (h.pages.getD (ofA h.conf a).fst.toNat default).dv]),(38,[Hint.lent (u64 (loadA h.words a).fst) [Blk.box 27 h.cells,Blk.box 29 [u64 a]]]),(39,[Hint.call true (AV.tu [(decodeH (loadA h.words a).fst).fst.av,Sx.bool (decodeH (loadA h.words a).fst).snd]) []]),(43,[Hint.call true (int (sizeH (decodeH (loadA h.words a).fst).fst)) []]),bT 44] [] [] Tryz.func13 [false,false,false,false,true] (an (@pageProper h) (an (bo ((!properB h) = false)) (an (rf false) (an (@pageOf h.conf a (by omega) (by omega)) (an (bo (((ofA h.conf a).snd.snd != 0) = false)) (an (rf false) (an (eI (0≤(ofA h.conf a).fst∧(List.map Page.dv h.pages)[(ofA h.conf a).fst.toNat]? = some (h.pages.getD (ofA h.conf a).fst.toNat default).dv)) (an (@objectAt1 h a (by omega) ‹_›) (an (@headerDecode ((loadA h.words a).fst) (by omega) (by omega)) (an (@headerSize ((decodeH (loadA h.words a).fst).fst) ‹_›) (an ‹(!(decodeH (loadA h.words a).fst).snd||decide ((h.pages.getD (ofA h.conf a).fst.toNat default).used≤(ofA h.conf a).snd.fst)) = true› (an (by grind [noHdr] : 0 = (decodeH (loadA h.words a).fst).fst.kind) (an (by grind [noHdr] : 0 = (decodeH (loadA h.words a).fst).fst.length) (an (by grind [noHdr] : 0 = (decodeH (loadA h.words a).fst).fst.map) (by grind [noHdr] : (19 :Int) = 0)))))))))))))))
     ·have hc0p := hc0
      simp only [bs] at hc0p
      obtain ⟨hc0pa,hc0pb⟩ := hc0p
      rcases Bool.eq_false_or_eq_true ((h.pages.getD (ofA h.conf a).fst.toNat default).kind == (1 : Int)) with hc1 | hc1
      ·have hc1p := hc1
       simp only [bs] at hc1p
       exact gE [(15,[Hint.call true (Sx.bool (properB h)) []]),bF 16,(22,[Hint.call true (ofV h.conf a) []]),bF 27,(34,[Hint.el (h.pages.getD (ofA h.conf a).fst.toNat default).dv]),(38,[Hint.lent (u64 (loadA h.words a).fst) [Blk.box 27 h.cells,Blk.box 29 [u64 a]]]),(39,[Hint.call true (AV.tu [(decodeH (loadA h.words a).fst).fst.av,Sx.bool (decodeH (loadA h.words a).fst).snd]) []]),(43,[Hint.call true (int (sizeH (decodeH (loadA h.words a).fst).fst)) []]),bF 44,bT 53,(61,[Hint.int ((h.pages.getD (ofA h.conf a).fst.toNat default).used - (ofA h.conf a).snd.fst)]),bF 76] [] [] Tryz.func13 [] (an (@pageProper h) (an (bo ((!properB h) = false)) (an (rf false) (an (@pageOf h.conf a (by omega) (by omega)) (an (bo (((ofA h.conf a).snd.snd != 0) = false)) (an (rf false) (an (eI (0≤(ofA h.conf a).fst∧(List.map Page.dv h.pages)[(ofA h.conf a).fst.toNat]? = some (h.pages.getD (ofA h.conf a).fst.toNat default).dv)) (an (@objectAt1 h a (by omega) ‹_›) (an (@headerDecode ((loadA h.words a).fst) (by omega) (by omega)) (an (@headerSize ((decodeH (loadA h.words a).fst).fst) ‹_›) (an ‹(!(decodeH (loadA h.words a).fst).snd||decide ((h.pages.getD (ofA h.conf a).fst.toNat default).used≤(ofA h.conf a).snd.fst)) = false› (an ‹((h.pages.getD (ofA h.conf a).fst.toNat default).kind == 1) = true› (an (wI (IntKind.i64.wrap ((h.pages.getD (ofA h.conf a).fst.toNat default).used - (ofA h.conf a).snd.fst) = (h.pages.getD (ofA h.conf a).fst.toNat default).used - (ofA h.conf a).snd.fst)) (an (bo ((!decide (sizeH (decodeH (loadA h.words a).fst).fst≤(h.pages.getD (ofA h.conf a).fst.toNat default).used - (ofA h.conf a).snd.fst)) = false)) (rf false)))))))))))))))
      ·have hc1p := hc1
       simp only [bs] at hc1p
       exact gE [(15,[Hint.call true (Sx.bool (properB h)) []]),bF 16,(22,[Hint.call true (ofV h.conf a) []]),bF 27,(34,[Hint.el (h.pages.getD (ofA h.conf a).fst.toNat default).dv]),(38,[Hint.lent (u64 (loadA h.words a).fst) [Blk.box 27 h.cells,Blk.box 29 [u64 a]]]),(39,[Hint.call true (AV.tu [(decodeH (loadA h.words a).fst).fst.av,Sx.bool (decodeH (loadA h.words a).fst).snd]) []]),(43,[Hint.call true (int (sizeH (decodeH (loadA h.words a).fst).fst)) []]),bF 44,bF 53,bT 63,bF 76] [] [] Tryz.func13 [] (an (@pageProper h) (an (bo ((!properB h) = false)) (an (rf false) (an (@pageOf h.conf a (by omega) (by omega)) (an (bo (((ofA h.conf a).snd.snd != 0) = false)) (an (rf false) (an (eI (0≤(ofA h.conf a).fst∧(List.map Page.dv h.pages)[(ofA h.conf a).fst.toNat]? = some (h.pages.getD (ofA h.conf a).fst.toNat default).dv)) (an (@objectAt1 h a (by omega) ‹_›) (an (@headerDecode ((loadA h.words a).fst) (by omega) (by omega)) (an (@headerSize ((decodeH (loadA h.words a).fst).fst) ‹_›) (an ‹(!(decodeH (loadA h.words a).fst).snd||decide ((h.pages.getD (ofA h.conf a).fst.toNat default).used≤(ofA h.conf a).snd.fst)) = false› (an ‹((h.pages.getD (ofA h.conf a).fst.toNat default).kind == 1) = false› (an (bo (((h.pages.getD (ofA h.conf a).fst.toNat default).kind == 2)=true)) (an (bo ((!((ofA h.conf a).snd.fst == 0&&sizeH (decodeH (loadA h.words a).fst).fst == (h.pages.getD (ofA h.conf a).fst.toNat default).used)) = false)) (rf false)))))))))))))))
   ·have e7 : atH h a = (noHdr,19) := by rw [atH,if_pos hp,if_pos ho,if_neg c3]
    rw [e7]
    rcases Bool.eq_false_or_eq_true (!(decodeH (loadA h.words a).fst).snd || decide ((h.pages.getD (ofA h.conf a).fst.toNat default).used ≤ (ofA h.conf a).snd.fst)) with hc0 | hc0
    ·have hc0p := hc0
     simp only [bs] at hc0p
     exact gE [(15,[Hint.call true (Sx.bool (properB h)) []]),bF 16,(22,[Hint.call true (ofV h.conf a) []]),bF 27,(34,[Hint.el (h.pages.getD (ofA h.conf a).fst.toNat default).dv]),(38,[Hint.lent (u64 (loadA h.words a).fst) [Blk.box 27 h.cells,Blk.box 29 [u64 a]]]),(39,[Hint.call true (AV.tu [(decodeH (loadA h.words a).fst).fst.av,Sx.bool (decodeH (loadA h.words a).fst).snd]) []]),(43,[Hint.call true (int (sizeH (decodeH (loadA h.words a).fst).fst)) []]),bT 44] [] [] Tryz.func13 [] (an (@pageProper h) (an (bo ((!properB h) = false)) (an (rf false) (an (@pageOf h.conf a (by omega) (by omega)) (an (bo (((ofA h.conf a).snd.snd != 0) = false)) (an (rf false) (an (eI (0≤(ofA h.conf a).fst∧(List.map Page.dv h.pages)[(ofA h.conf a).fst.toNat]? = some (h.pages.getD (ofA h.conf a).fst.toNat default).dv)) (an (@objectAt1 h a (by omega) ‹_›) (an (@headerDecode ((loadA h.words a).fst) (by omega) (by omega)) (an (@headerSize ((decodeH (loadA h.words a).fst).fst) ‹_›) ‹(!(decodeH (loadA h.words a).fst).snd||decide ((h.pages.getD (ofA h.conf a).fst.toNat default).used≤(ofA h.conf a).snd.fst)) = true›))))))))))
    ·have hc0p := hc0
     simp only [bs] at hc0p
     obtain ⟨hc0pa,hc0pb⟩ := hc0p
     rcases Bool.eq_false_or_eq_true ((h.pages.getD (ofA h.conf a).fst.toNat default).kind == (1 : Int)) with hc1 | hc1
     ·have hc1p := hc1
      simp only [bs] at hc1p
      rcases Bool.eq_false_or_eq_true (!decide (sizeH (decodeH (loadA h.words a).fst).fst ≤ (h.pages.getD (ofA h.conf a).fst.toNat default).used - (ofA h.conf a).snd.fst)) with hc2 | hc2
      ·have hc2p := hc2
       simp only [bs] at hc2p
       exact gE [(15,[Hint.call true (Sx.bool (properB h)) []]),bF 16,(22,[Hint.call true (ofV h.conf a) []]),bF 27,(34,[Hint.el (h.pages.getD (ofA h.conf a).fst.toNat default).dv]),(38,[Hint.lent (u64 (loadA h.words a).fst) [Blk.box 27 h.cells,Blk.box 29 [u64 a]]]),(39,[Hint.call true (AV.tu [(decodeH (loadA h.words a).fst).fst.av,Sx.bool (decodeH (loadA h.words a).fst).snd]) []]),(43,[Hint.call true (int (sizeH (decodeH (loadA h.words a).fst).fst)) []]),bF 44,bT 53,(61,[Hint.int ((h.pages.getD (ofA h.conf a).fst.toNat default).used - (ofA h.conf a).snd.fst)]),bT 76] [] [] Tryz.func13 [] (an (@pageProper h) (an (bo ((!properB h) = false)) (an (rf false) (an (@pageOf h.conf a (by omega) (by omega)) (an (bo (((ofA h.conf a).snd.snd != 0) = false)) (an (rf false) (an (eI (0≤(ofA h.conf a).fst∧(List.map Page.dv h.pages)[(ofA h.conf a).fst.toNat]? = some (h.pages.getD (ofA h.conf a).fst.toNat default).dv)) (an (@objectAt1 h a (by omega) ‹_›) (an (@headerDecode ((loadA h.words a).fst) (by omega) (by omega)) (an (@headerSize ((decodeH (loadA h.words a).fst).fst) ‹_›) (an ‹(!(decodeH (loadA h.words a).fst).snd||decide ((h.pages.getD (ofA h.conf a).fst.toNat default).used≤(ofA h.conf a).snd.fst)) = false› (an ‹((h.pages.getD (ofA h.conf a).fst.toNat default).kind == 1) = true› (an (wI (IntKind.i64.wrap ((h.pages.getD (ofA h.conf a).fst.toNat default).used - (ofA h.conf a).snd.fst) = (h.pages.getD (ofA h.conf a).fst.toNat default).used - (ofA h.conf a).snd.fst)) (an ‹(!decide (sizeH (decodeH (loadA h.words a).fst).fst≤(h.pages.getD (ofA h.conf a).fst.toNat default).used - (ofA h.conf a).snd.fst)) = true› tt))))))))))))))
      ·have hc2p := hc2
       simp only [bs] at hc2p
       exact gE [(15,[Hint.call true (Sx.bool (properB h)) []]),bF 16,(22,[Hint.call true (ofV h.conf a) []]),bF 27,(34,[Hint.el (h.pages.getD (ofA h.conf a).fst.toNat default).dv]),(38,[Hint.lent (u64 (loadA h.words a).fst) [Blk.box 27 h.cells,Blk.box 29 [u64 a]]]),(39,[Hint.call true (AV.tu [(decodeH (loadA h.words a).fst).fst.av,Sx.bool (decodeH (loadA h.words a).fst).snd]) []]),(43,[Hint.call true (int (sizeH (decodeH (loadA h.words a).fst).fst)) []]),bF 44,bT 53,(61,[Hint.int ((h.pages.getD (ofA h.conf a).fst.toNat default).used - (ofA h.conf a).snd.fst)]),bF 76] [] [] Tryz.func13 [false,false,false,false,true] (an (@pageProper h) (an (bo ((!properB h) = false)) (an (rf false) (an (@pageOf h.conf a (by omega) (by omega)) (an (bo (((ofA h.conf a).snd.snd != 0) = false)) (an (rf false) (an (eI (0≤(ofA h.conf a).fst∧(List.map Page.dv h.pages)[(ofA h.conf a).fst.toNat]? = some (h.pages.getD (ofA h.conf a).fst.toNat default).dv)) (an (@objectAt1 h a (by omega) ‹_›) (an (@headerDecode ((loadA h.words a).fst) (by omega) (by omega)) (an (@headerSize ((decodeH (loadA h.words a).fst).fst) ‹_›) (an ‹(!(decodeH (loadA h.words a).fst).snd||decide ((h.pages.getD (ofA h.conf a).fst.toNat default).used≤(ofA h.conf a).snd.fst)) = false› (an ‹((h.pages.getD (ofA h.conf a).fst.toNat default).kind == 1) = true› (an (wI (IntKind.i64.wrap ((h.pages.getD (ofA h.conf a).fst.toNat default).used - (ofA h.conf a).snd.fst) = (h.pages.getD (ofA h.conf a).fst.toNat default).used - (ofA h.conf a).snd.fst)) (an ‹(!decide (sizeH (decodeH (loadA h.words a).fst).fst≤(h.pages.getD (ofA h.conf a).fst.toNat default).used - (ofA h.conf a).snd.fst)) = false› (an (rf false) (an (by grind [noHdr] : (decodeH (loadA h.words a).fst).fst.kind = 0) (an (by grind [noHdr] : (decodeH (loadA h.words a).fst).fst.length = 0) (an (by grind [noHdr] : (decodeH (loadA h.words a).fst).fst.map = 0) (by grind [noHdr] : (0 :Int) = 19)))))))))))))))))))
     ·have hc1p := hc1
      simp only [bs] at hc1p
      rcases Bool.eq_false_or_eq_true ((h.pages.getD (ofA h.conf a).fst.toNat default).kind == (2 : Int)) with hc3 | hc3
      ·have hc3p := hc3
       simp only [bs] at hc3p
       rcases Bool.eq_false_or_eq_true (!((ofA h.conf a).snd.fst == (0 : Int) && sizeH (decodeH (loadA h.words a).fst).fst == (h.pages.getD (ofA h.conf a).fst.toNat default).used)) with hc4 | hc4
       ·have hc4p := hc4
        simp only [bs] at hc4p
        exact gE [(15,[Hint.call true (Sx.bool (properB h)) []]),bF 16,(22,[Hint.call true (ofV h.conf a) []]),bF 27,(34,[Hint.el (h.pages.getD (ofA h.conf a).fst.toNat default).dv]),(38,[Hint.lent (u64 (loadA h.words a).fst) [Blk.box 27 h.cells,Blk.box 29 [u64 a]]]),(39,[Hint.call true (AV.tu [(decodeH (loadA h.words a).fst).fst.av,Sx.bool (decodeH (loadA h.words a).fst).snd]) []]),(43,[Hint.call true (int (sizeH (decodeH (loadA h.words a).fst).fst)) []]),bF 44,bF 53,bT 63,bT 76] [] [] Tryz.func13 [] (an (@pageProper h) (an (bo ((!properB h) = false)) (an (rf false) (an (@pageOf h.conf a (by omega) (by omega)) (an (bo (((ofA h.conf a).snd.snd != 0) = false)) (an (rf false) (an (eI (0≤(ofA h.conf a).fst∧(List.map Page.dv h.pages)[(ofA h.conf a).fst.toNat]? = some (h.pages.getD (ofA h.conf a).fst.toNat default).dv)) (an (@objectAt1 h a (by omega) ‹_›) (an (@headerDecode ((loadA h.words a).fst) (by omega) (by omega)) (an (@headerSize ((decodeH (loadA h.words a).fst).fst) ‹_›) (an ‹(!(decodeH (loadA h.words a).fst).snd||decide ((h.pages.getD (ofA h.conf a).fst.toNat default).used≤(ofA h.conf a).snd.fst)) = false› (an ‹((h.pages.getD (ofA h.conf a).fst.toNat default).kind == 1) = false› (an ‹((h.pages.getD (ofA h.conf a).fst.toNat default).kind == 2) = true› (an ‹(!((ofA h.conf a).snd.fst == 0&&sizeH (decodeH (loadA h.words a).fst).fst == (h.pages.getD (ofA h.conf a).fst.toNat default).used)) = true› tt))))))))))))))
       ·have hc4p := hc4
        simp only [bs] at hc4p
        obtain ⟨hc4pa,hc4pb⟩ := hc4p
        exact gE [(15,[Hint.call true (Sx.bool (properB h)) []]),bF 16,(22,[Hint.call true (ofV h.conf a) []]),bF 27,(34,[Hint.el (h.pages.getD (ofA h.conf a).fst.toNat default).dv]),(38,[Hint.lent (u64 (loadA h.words a).fst) [Blk.box 27 h.cells,Blk.box 29 [u64 a]]]),(39,[Hint.call true (AV.tu [(decodeH (loadA h.words a).fst).fst.av,Sx.bool (decodeH (loadA h.words a).fst).snd]) []]),(43,[Hint.call true (int (sizeH (decodeH (loadA h.words a).fst).fst)) []]),bF 44,bF 53,bT 63,bF 76] [] [] Tryz.func13 [false,false,false,false,false,false,false,false,true] (an (@pageProper h) (an (bo ((!properB h) = false)) (an (rf false) (an (@pageOf h.conf a (by omega) (by omega)) (an (bo (((ofA h.conf a).snd.snd != 0) = false)) (an (rf false) (an (eI (0≤(ofA h.conf a).fst∧(List.map Page.dv h.pages)[(ofA h.conf a).fst.toNat]? = some (h.pages.getD (ofA h.conf a).fst.toNat default).dv)) (an (@objectAt1 h a (by omega) ‹_›) (an (@headerDecode ((loadA h.words a).fst) (by omega) (by omega)) (an (@headerSize ((decodeH (loadA h.words a).fst).fst) ‹_›) (an ‹(!(decodeH (loadA h.words a).fst).snd||decide ((h.pages.getD (ofA h.conf a).fst.toNat default).used≤(ofA h.conf a).snd.fst)) = false› (an ‹((h.pages.getD (ofA h.conf a).fst.toNat default).kind == 1) = false› (an ‹((h.pages.getD (ofA h.conf a).fst.toNat default).kind == 2) = true› (an ‹(!((ofA h.conf a).snd.fst == 0&&sizeH (decodeH (loadA h.words a).fst).fst == (h.pages.getD (ofA h.conf a).fst.toNat default).used)) = false› (an (rf false) (an (by grind [noHdr] : (decodeH (loadA h.words a).fst).fst.kind = 0) (an (by grind [noHdr] : (decodeH (loadA h.words a).fst).fst.length = 0) (an (by grind [noHdr] : (decodeH (loadA h.words a).fst).fst.map = 0) (by grind [noHdr] : (0 :Int) = 19)))))))))))))))))))
      ·have hc3p := hc3
       simp only [bs] at hc3p
       exact gE [(15,[Hint.call true (Sx.bool (properB h)) []]),bF 16,(22,[Hint.call true (ofV h.conf a) []]),bF 27,(34,[Hint.el (h.pages.getD (ofA h.conf a).fst.toNat default).dv]),(38,[Hint.lent (u64 (loadA h.words a).fst) [Blk.box 27 h.cells,Blk.box 29 [u64 a]]]),(39,[Hint.call true (AV.tu [(decodeH (loadA h.words a).fst).fst.av,Sx.bool (decodeH (loadA h.words a).fst).snd]) []]),(43,[Hint.call true (int (sizeH (decodeH (loadA h.words a).fst).fst)) []]),bF 44,bF 53,bF 63] [] [] Tryz.func13 [] (an (@pageProper h) (an (bo ((!properB h) = false)) (an (rf false) (an (@pageOf h.conf a (by omega) (by omega)) (an (bo (((ofA h.conf a).snd.snd != 0) = false)) (an (rf false) (an (eI (0≤(ofA h.conf a).fst∧(List.map Page.dv h.pages)[(ofA h.conf a).fst.toNat]? = some (h.pages.getD (ofA h.conf a).fst.toNat default).dv)) (an (@objectAt1 h a (by omega) ‹_›) (an (@headerDecode ((loadA h.words a).fst) (by omega) (by omega)) (an (@headerSize ((decodeH (loadA h.words a).fst).fst) ‹_›) (an ‹(!(decodeH (loadA h.words a).fst).snd||decide ((h.pages.getD (ofA h.conf a).fst.toNat default).used≤(ofA h.conf a).snd.fst)) = false› (an ‹((h.pages.getD (ofA h.conf a).fst.toNat default).kind == 1) = false› ‹((h.pages.getD (ofA h.conf a).fst.toNat default).kind == 2) = false›))))))))))))
  ·have e7 : atH h a = (noHdr,2) := by rw [atH,if_pos hp,if_neg ho]
   have e2 : (ofA h.conf a).2.2 = 2 := by
    unfold ofA at ho ⊢
    rw [if_pos po.1] at ho ⊢
    split at ho
    ·simp at ho
    ·rename_i q; rw [if_neg q]
   rw [e7]
   exact gE [(15,[Hint.call true (Sx.bool (properB h)) []]),bF 16,(22,[Hint.call true (ofV h.conf a) []]),bT 27] [] [] Tryz.func13 [true] (an (@pageProper h) (an (bo ((!properB h) = false)) (an (rf false) (an (@pageOf h.conf a (by omega) (by omega)) (an (bo (((ofA h.conf a).snd.snd != 0)=true)) (an tt (an (rf (0 : Int)) (an (rf (0 : Int)) (an (rf (0 : Int)) ‹(ofA h.conf a).snd.snd = 2›)))))))))
 ·have e7 : atH h a = (noHdr,1) := by rw [atH,if_neg hp]
  have hp' : properB h = false := by simpa using hp
  rw [e7]
  exact gE [(15,[Hint.call true (Sx.bool (properB h)) []]),bT 16] [] [] Tryz.func13 [] (an (@pageProper h) (an (bo ((!properB h)=true)) tt))
theorem atH_err {h : Heap} {a : Int} (e : ¬ (atH h a).2 = 0) : (atH h a).1.kind = 0 ∧ (atH h a).1.length = 0 ∧ (atH h a).1.map = 0 := by
 unfold atH at e ⊢
 split at e
 ·rename_i h1
  rw [if_pos h1]
  split at e
  ·rename_i h2
   rw [if_pos h2]
   split at e
   ·rename_i h3
    rw [if_pos h3]
    split at e
    ·rename_i h4
     rw [if_pos h4]
     exact ⟨rfl,rfl,rfl⟩
    ·exact absurd rfl e
   ·rename_i h3
    rw [if_neg h3]
    exact ⟨rfl,rfl,rfl⟩
  ·rename_i h2
   rw [if_neg h2]
   exact ⟨rfl,rfl,rfl⟩
 ·rename_i h1
  rw [if_neg h1]
  exact ⟨rfl,rfl,rfl⟩
theorem objectGet (h : Heap) (a : Int) (hw : WOk h.words) (h0 : 0 ≤ a ∧ a ≤ 18446744073709551615) : GSpec Tryz.prog 15 [h.av,u64 a] true (.tu [(getH h a).1.av,int (getH h a).2]) [] := by
 rcases bb (!properB h) with hc0 | hc0<;>have hc0p:=hc0<;>simp only [bs] at hc0p
 ·exact gF [] Tryz.func15 [true] (Fc 9 (@pageProper h) (Ft 10 hc0 (Fa (by simp [getH,noHdr, *] : 0 =(getH h a).fst.kind) (Fa (by simp [getH,noHdr, *] : 0 =(getH h a).fst.length) (Fa (by simp [getH,noHdr, *] : 0 =(getH h a).fst.map) (Fa (by simp [getH,noHdr, *] : 1 =(getH h a).snd) Fz))))))
 ·rcases bb (a == 0) with hc5 | hc5<;>have hc5p:=hc5<;>simp only [bs] at hc5p
  ·exact gF [] Tryz.func15 [true] (Fc 9 (@pageProper h) (Ff 10 hc0 (Ft 13 hc5 (Fa (by simp [getH,noHdr, *] : 0 =(getH h a).fst.kind) (Fa (by simp [getH,noHdr, *] : 0 =(getH h a).fst.length) (Fa (by simp [getH,noHdr, *] : 0 =(getH h a).fst.map) (Fa (by simp [getH,noHdr, *] : 5 =(getH h a).snd) Fz)))))))
  ·rcases bb ((atH h a).snd != 0) with hc10 | hc10<;>have hc10p:=hc10<;>simp only [bs] at hc10p
   ·have hf11 := atH_err hc10p
    obtain ⟨hf11a,⟨hf11ba,hf11bb⟩⟩ := hf11
    exact gF [] Tryz.func15 [true] (Fh 21 [.br true] (Fc 9 (@pageProper h) (Ff 10 hc0 (Ff 13 hc5 (Fc 18 (@objectAt h a ‹_› ‹_›) (Fa hc10 (Fa (by simp [getH,noHdr, *] : 0 =(getH h a).fst.kind) (Fa (by simp [getH,noHdr, *] : 0 =(getH h a).fst.length) (Fa (by simp [getH,noHdr, *] : 0 =(getH h a).fst.map) (Fa (by simp [getH,noHdr, *] : (atH h a).snd =(getH h a).snd) Fz))))))))))
   ·rcases bb ((atH h a).fst.kind == 0) with hc15 | hc15<;>have hc15p:=hc15<;>simp only [bs] at hc15p
    ·exact gF [] Tryz.func15 [true] (Fh 21 [.br false] (Fh 26 [.br true] (Fc 9 (@pageProper h) (Ff 10 hc0 (Ff 13 hc5 (Fc 18 (@objectAt h a ‹_› ‹_›) (Fa hc10 (Fa hc15 (Fa (by simp [getH,noHdr, *] : 0 =(getH h a).fst.kind) (Fa (by simp [getH,noHdr, *] : 0 =(getH h a).fst.length) (Fa (by simp [getH,noHdr, *] : 0 =(getH h a).fst.map) (Fa (by simp [getH,noHdr, *] : 4 =(getH h a).snd) Fz))))))))))))
    ·exact gF [] Tryz.func15 [true] (Fh 21 [.br false] (Fh 26 [.br false] (Fc 9 (@pageProper h) (Ff 10 hc0 (Ff 13 hc5 (Fc 18 (@objectAt h a ‹_› ‹_›) (Fa hc10 (Fa hc15 (Fa (by simp [getH,noHdr, *] : (atH h a).fst.kind =(getH h a).fst.kind) (Fa (by simp [getH,noHdr, *] : (atH h a).fst.length =(getH h a).fst.length) (Fa (by simp [getH,noHdr, *] : (atH h a).fst.map =(getH h a).fst.map) (Fa (by simp [getH,noHdr, *] : 0 =(getH h a).snd) Fz))))))))))))
def nearF (h : Heap) (a : Int) : List Int := [a,0,4096 + a % 5000] ++ (if 0 < (startsW h).1.length then [(startsW h).1.getD (a % (startsW h).1.length).toNat default,(startsW h).1.getD (a % (startsW h).1.length).toNat default + 1] else [])
theorem law5near (h : Heap) (a : Int) (hw : WOk h.words) (h0 : 0 ≤ a ∧ a ≤ 18446744073709551615) : GSpec Tryz.prog 12 [h.av,u64 a] true (wordsV (nearF h a)) [] := by
 have hl := startsW_len h
 by_cases hc : 0 < (startsW h).1.length
 ·have hm1 := Int.emod_nonneg a (b := ((startsW h).1.length : Int)) (by omega)
  have hm2 := Int.emod_lt_of_pos a (b := ((startsW h).1.length : Int)) (by omega)
  have hr := startsW_range h _ (getD_mem_iff.2 ⟨(a % ((startsW h).1.length : Int)).toNat,by omega,rfl⟩)
  have hx : IntKind.u64.wrap ((startsW h).1.getD (a % ((startsW h).1.length : Int)).toNat default + 1) = (startsW h).1.getD (a % ((startsW h).1.length : Int)).toNat default + 1 := wrapU' (by omega) (by omega)
  have e7 : nearF h a = [a,0,4096 + a % 5000,(startsW h).1.getD (a % (startsW h).1.length).toNat default,(startsW h).1.getD (a % (startsW h).1.length).toNat default + 1] := by rw [nearF,if_pos hc]; rfl
  rw [e7]
  refine gspec_ofE [((11 : Nat),[Hint.call false (AV.tu [wordsV (startsW h).fst,int (startsW h).snd]) []]),((16 : Nat),[Hint.int (a % (5000 : Int))]),((17 : Nat),[Hint.int ((4096 : Int) + a % (5000 : Int))]),((18 : Nat),[Hint.els (List.map wdv [a,(0 : Int),(4096 : Int) + a % (5000 : Int)])]),((20 : Nat),[Hint.int (↑(startsW h).fst.length : Int)]),((21 : Nat),[Hint.br true]),((25 : Nat),[Hint.int (↑(startsW h).fst.length : Int)]),((26 : Nat),[Hint.int (↑(startsW h).fst.length : Int)]),((27 : Nat),[Hint.int (a % (↑(startsW h).fst.length : Int))]),((28 : Nat),[Hint.el (wdv ((startsW h).fst.getD (a % (↑(startsW h).fst.length : Int)).toNat default))]),((33 : Nat),[Hint.int ((startsW h).fst.getD (a % (↑(startsW h).fst.length : Int)).toNat default + (1 : Int))]),((34 : Nat),[Hint.els (List.map wdv [(startsW h).fst.getD (a % (↑(startsW h).fst.length : Int)).toNat default,(startsW h).fst.getD (a % (↑(startsW h).fst.length : Int)).toNat default + (1 : Int)])]),((35 : Nat),[Hint.els (List.map wdv [a,(0 : Int),(4096 : Int) + a % (5000 : Int),(startsW h).fst.getD (a % (↑(startsW h).fst.length : Int)).toNat default,(startsW h).fst.getD (a % (↑(startsW h).fst.length : Int)).toNat default + (1 : Int)])])] [] [] (by decide) Tryz.func12 [] (φ := GSpec Tryz.prog 48 [h.av] false (AV.tu [wordsV (startsW h).fst,int (startsW h).snd]) [] ∧ a.tmod (5000 : Int) = a % (5000 : Int) ∧ (5000 : Int) ≠ (0 : Int) ∧ IntKind.u64.wrap ((4096 : Int) + a % (5000 : Int)) = (4096 : Int) + a % (5000 : Int) ∧ (((List.replicate (3 : Nat) [du64 (0 : Int)]).set ((0 : Nat),Operand.tmp (14 : Nat)).fst [du64 a]).set ((1 : Nat),Operand.const (Value.int IntKind.u64 (0 : Int))).fst [du64 (0 : Int)]).set ((2 : Nat),Operand.tmp (17 : Nat)).fst [du64 ((4096 : Int) + a % (5000 : Int))] = List.map wdv [a,(0 : Int),(4096 : Int) + a % (5000 : Int)] ∧ (↑(List.map wdv (startsW h).fst).length : Int) = (↑(startsW h).fst.length : Int) ∧ decide ((0 : Int) < (↑(startsW h).fst.length : Int)) = true ∧ true = true ∧ (↑(List.map wdv (startsW h).fst).length : Int) = (↑(startsW h).fst.length : Int) ∧ IntKind.u64.wrap (↑(startsW h).fst.length : Int) = (↑(startsW h).fst.length : Int) ∧ a.tmod (↑(startsW h).fst.length : Int) = a % (↑(startsW h).fst.length : Int) ∧ (↑(startsW h).fst.length : Int) ≠ (0 : Int) ∧ ((0 : Int) ≤ a % (↑(startsW h).fst.length : Int) ∧ (List.map wdv (startsW h).fst)[(a % (↑(startsW h).fst.length : Int)).toNat]? = some (wdv ((startsW h).fst.getD (a % (↑(startsW h).fst.length : Int)).toNat default))) ∧ IntKind.u64.wrap ((startsW h).fst.getD (a % (↑(startsW h).fst.length : Int)).toNat default + (1 : Int)) = (startsW h).fst.getD (a % (↑(startsW h).fst.length : Int)).toNat default + (1 : Int) ∧ ((List.replicate (2 : Nat) [du64 (0 : Int)]).set ((0 : Nat),Operand.tmp (31 : Nat)).fst [du64 ((startsW h).fst.getD (a % (↑(startsW h).fst.length : Int)).toNat default)]).set ((1 : Nat),Operand.tmp (33 : Nat)).fst [du64 ((startsW h).fst.getD (a % (↑(startsW h).fst.length : Int)).toNat default + (1 : Int))] = List.map wdv [(startsW h).fst.getD (a % (↑(startsW h).fst.length : Int)).toNat default,(startsW h).fst.getD (a % (↑(startsW h).fst.length : Int)).toNat default + (1 : Int)] ∧ (List.map wdv [a,(0 : Int),(4096 : Int) + a % (5000 : Int)]).length + (List.map wdv [(startsW h).fst.getD (a % (↑(startsW h).fst.length : Int)).toNat default,(startsW h).fst.getD (a % (↑(startsW h).fst.length : Int)).toNat default + (1 : Int)]).length ≤ (2 : Nat) ^ (30 : Nat) ∧ List.map wdv [a,(0 : Int),(4096 : Int) + a % (5000 : Int)] ++ List.map wdv [(startsW h).fst.getD (a % (↑(startsW h).fst.length : Int)).toNat default,(startsW h).fst.getD (a % (↑(startsW h).fst.length : Int)).toNat default + (1 : Int)] = List.map wdv [a,(0 : Int),(4096 : Int) + a % (5000 : Int),(startsW h).fst.getD (a % (↑(startsW h).fst.length : Int)).toNat default,(startsW h).fst.getD (a % (↑(startsW h).fst.length : Int)).toNat default + (1 : Int)] ∧ FlatEls (List.map wdv [a,(0 : Int),(4096 : Int) + a % (5000 : Int),(startsW h).fst.getD (a % (↑(startsW h).fst.length : Int)).toNat default,(startsW h).fst.getD (a % (↑(startsW h).fst.length : Int)).toNat default + (1 : Int)])) ?_ (by kernel_rfl) (by kernel_rfl)
  exact ⟨(@ref6Starts (h) ‹_›),(by exact Int.tmod_eq_emod_of_nonneg (by omega)),(by decide),(by exact wrapU2 rfl (by omega) (by omega)),rfl,(by simp only [List.length_map]),(by (simp only [bs]; omega)),rfl,(by simp only [List.length_map]),(by exact wrapU2 rfl (by omega) (by omega)),(by exact Int.tmod_eq_emod_of_nonneg (by omega)),(by omega),(by exact elI (by omega) (by omega) (by omega)),(by rw [hx]),rfl,(by simp [*]),rfl,(by exact flat_wdv _)⟩
 ·have e7 : nearF h a = [a,0,4096 + a % 5000] := by rw [nearF,if_neg hc]; rfl
  rw [e7]
  refine gspec_ofE [((11 : Nat),[Hint.call false (AV.tu [wordsV (startsW h).fst,int (startsW h).snd]) []]),((16 : Nat),[Hint.int (a % (5000 : Int))]),((17 : Nat),[Hint.int ((4096 : Int) + a % (5000 : Int))]),((18 : Nat),[Hint.els (List.map wdv [a,(0 : Int),(4096 : Int) + a % (5000 : Int)])]),((20 : Nat),[Hint.int (↑(startsW h).fst.length : Int)]),((21 : Nat),[Hint.br false])] [] [] (by decide) Tryz.func12 [] (φ := GSpec Tryz.prog 48 [h.av] false (AV.tu [wordsV (startsW h).fst,int (startsW h).snd]) [] ∧ a.tmod (5000 : Int) = a % (5000 : Int) ∧ (5000 : Int) ≠ (0 : Int) ∧ IntKind.u64.wrap ((4096 : Int) + a % (5000 : Int)) = (4096 : Int) + a % (5000 : Int) ∧ (((List.replicate (3 : Nat) [du64 (0 : Int)]).set ((0 : Nat),Operand.tmp (14 : Nat)).fst [du64 a]).set ((1 : Nat),Operand.const (Value.int IntKind.u64 (0 : Int))).fst [du64 (0 : Int)]).set ((2 : Nat),Operand.tmp (17 : Nat)).fst [du64 ((4096 : Int) + a % (5000 : Int))] = List.map wdv [a,(0 : Int),(4096 : Int) + a % (5000 : Int)] ∧ (↑(List.map wdv (startsW h).fst).length : Int) = (↑(startsW h).fst.length : Int) ∧ decide ((0 : Int) < (↑(startsW h).fst.length : Int)) = false ∧ false = false ∧ FlatEls (List.map wdv [a,(0 : Int),(4096 : Int) + a % (5000 : Int)])) ?_ (by kernel_rfl) (by kernel_rfl)
  exact ⟨(@ref6Starts (h) ‹_›),(by exact Int.tmod_eq_emod_of_nonneg (by omega)),(by decide),(by exact wrapU2 rfl (by omega) (by omega)),rfl,(by simp only [List.length_map]),(by (simp only [bs]; omega)),rfl,(by exact flat_wdv _)⟩
theorem ref4NewA : GSpec Tryz.prog 58 [.ag [int 16,int 8]] true (.tu [.ag [int 16,int 8,.ow 0,.ow 1,int 0,int (-1)],int 0]) [.arr 29 1 ((List.replicate 128 0).map wdv),.arr 73 4 ((List.replicate 8 (⟨0,0,0,0⟩ : Page)).map Page.dv)] := by
 have h : validB ⟨16,8⟩ = true := by decide
 have ei : (8 : Int) * 16 = 128 := rfl
 exact gF [24014,24017] Tryz.func58 [] (Fh 14 [.els (List.map wdv (List.replicate (Int.toNat 128) 0))] (Fh 17 [.els (List.map Page.dv [Page.mk 0 0 0 0,Page.mk 0 0 0 0,Page.mk 0 0 0 0,Page.mk 0 0 0 0,Page.mk 0 0 0 0,Page.mk 0 0 0 0,Page.mk 0 0 0 0,Page.mk 0 0 0 0])] (Fc 5 (@refValidConf (Conf.mk 16 8)) (Fa (by decide +kernel : 0≤IntKind.i64.wrap ((8 :Int) * 16)∧IntKind.i64.wrap ((8 :Int) * 16)≤IntKind.i64.wrap ((8 :Int) * 16)∧IntKind.i64.wrap ((8 :Int) * 16) * ((↑(nat_lit 7) : Int) + 1)≤2 ^ 48) (Fr (List.map wdv (List.replicate (Int.toNat 128) 0)) (Fa (by decide +kernel : (0 :Int)≤(8 :Int)∧(8 :Int)≤(8 :Int)∧8 * ((↑(nat_lit 31) : Int) + 1)≤2 ^ 48) (Fr (List.replicate (Int.toNat 8) [dint 0,dint 0,dint 0,dint 0]) (Fa (by exact flat_wdv _ : FlatEls (List.map wdv (List.replicate (Int.toNat 128) 0))) (Fa (by exact flat_pages _ : FlatEls (List.map Page.dv [Page.mk 0 0 0 0,Page.mk 0 0 0 0,Page.mk 0 0 0 0,Page.mk 0 0 0 0,Page.mk 0 0 0 0,Page.mk 0 0 0 0,Page.mk 0 0 0 0,Page.mk 0 0 0 0])) Fz)))))))))
def fieldA (h : Heap) (a i : Int) : Int × Int := if (getH h a).2 = 0 then (if 0 ≤ i ∧ i < (getH h a).1.length then (a + 1 + i,0) else (0,2)) else (0,(getH h a).2)
theorem fieldA_ok {h : Heap} {a i : Int} (e : (fieldA h a i).2 = 0) : (getH h a).2 = 0 ∧ 0 ≤ i ∧ i < (getH h a).1.length ∧ (fieldA h a i).1 = a + 1 + i := by
 unfold fieldA at e ⊢
 split at e
 ·rename_i h1
  split at e
  ·rename_i h2
   rw [if_pos h1,if_pos h2]
   exact ⟨h1,h2.1,h2.2,rfl⟩
  ·simp at e
 ·rename_i h1
  exact absurd e h1
theorem objectFieldA (h : Heap) (a i : Int) (hw : WOk h.words) (h0 : 0 ≤ a ∧ a ≤ 18446744073709551615) : GSpec Tryz.prog 59 [h.av,u64 a,int i] true (.tu [u64 (fieldA h a i).1,int (fieldA h a i).2]) [] := by
 rcases bb ((getH h a).snd != 0) with hc0 | hc0<;>have hc0p:=hc0<;>simp only [bs] at hc0p
 ·exact gF [] Tryz.func59 [true] (Fh 16 [.br true] (Fc 13 (@objectGet h a ‹_› ‹_›) (Fa hc0 (Fa (by simp [fieldA, *] : 0 =(fieldA h a i).fst) (Fa (by simp [fieldA, *] : (getH h a).snd =(fieldA h a i).snd) Fz)))))
 ·have hf3 := getH_ok hc0p
  obtain ⟨hf3a,⟨hf3ba,⟨hf3bba,⟨hf3bbba,⟨hf3bbbba,⟨hf3bbbbba,⟨hf3bbbbbba,⟨hf3bbbbbbba,⟨hf3bbbbbbbba,⟨hf3bbbbbbbbba,hf3bbbbbbbbbb⟩⟩⟩⟩⟩⟩⟩⟩⟩⟩ := hf3
  rcases bb (decide (i < 0) || decide ((getH h a).fst.length ≤ i)) with hc5 | hc5<;>have hc5p:=hc5<;>simp only [bs] at hc5p
  ·exact gF [] Tryz.func59 [false,false,false,false,true] (Fh 16 [.br false] (Fh 20 [.br true] (Fc 13 (@objectGet h a ‹_› ‹_›) (Fa hc0 (Fa hc5 (Fa (by (simp only [fieldA]; (repeat' split) <;> first | rfl | omega | (exfalso; omega) | simp_all) : 0 =(fieldA h a i).fst) (Fa (by (simp only [fieldA]; (repeat' split) <;> first | rfl | omega | (exfalso; omega) | simp_all) : 2 =(fieldA h a i).snd) Fz)))))))
  ·obtain ⟨hc5pa,hc5pb⟩ := hc5p
   exact gF [] Tryz.func59 [false,false,false,false,true] (Fh 16 [.br false] (Fh 20 [.br false] (Fc 13 (@objectGet h a ‹_› ‹_›) (Fa hc0 (Fa hc5 (Fv 30 (a + 1) (Fv 32 i (Fv 33 (a + 1 + i) (Fa (by (simp only [fieldA]; (repeat' split) <;> first | rfl | omega | (exfalso; omega) | simp_all) : a + 1 + i =(fieldA h a i).fst) (Fa (by (simp only [fieldA]; (repeat' split) <;> first | rfl | omega | (exfalso; omega) | simp_all) : 0 =(fieldA h a i).snd) Fz))))))))))
theorem fieldA_no {h : Heap} {a i : Int} (e : ¬ (fieldA h a i).2 = 0) : fieldH h a i = (0,(fieldA h a i).2) ∧ setFieldH h a i = fun _ => (noHeap,(fieldA h a i).2) := by
 have k : fieldH h a i = (0,(fieldA h a i).2) := by
  unfold fieldA at e ⊢
  unfold fieldH
  split at e
  ·rename_i h1
   rw [if_pos h1,if_pos h1]
   split at e
   ·exact absurd rfl e
   ·rename_i h2
    rw [if_neg h2,if_neg h2]
  ·rename_i h1
   rw [if_neg h1,if_neg h1]
 refine ⟨k, ?_⟩
 funext v
 unfold setFieldH
 rw [k]
 simp only
 rw [if_neg e]
theorem fieldA_yes {h : Heap} {a i : Int} (e : (fieldA h a i).2 = 0) : fieldH h a i = loadA h.words (a + 1 + i) := by
 have k := fieldA_ok e
 unfold fieldH
 rw [if_pos k.1,if_pos ⟨k.2.1,k.2.2.1⟩]
theorem objectField (h : Heap) (a i : Int) (hw : WOk h.words) (h0 : 0 ≤ a ∧ a ≤ 18446744073709551615) : GSpec Tryz.prog 18 [h.av,u64 a,int i] true (.tu [u64 (fieldH h a i).1,int (fieldH h a i).2]) [] := by
 by_cases e : (fieldA h a i).2 = 0
 ·have k := fieldA_ok e
  have g := getH_ok k.1
  have po := proper_ok g.2.2.1
  rw [fieldA_yes e]
  exact gF [] Tryz.func18 [true] (Fc 14 (@objectFieldA h a i ‹_› ‹_›) (Ffb 18 ((fieldA h a i).snd != 0) (Fc 23 (@arenaLoad h.words ((fieldA h a i).fst) (by omega) (by omega)) (Fa (by simp only [bs, *,true_or,or_true,true_and,and_true,not_true_eq_false,not_false_eq_true,Bool.true_eq_false,Bool.false_eq_true] : (loadA h.words (fieldA h a i).fst).fst =(loadA h.words (a + 1 + i)).fst) (Fa (by simp only [bs, *,true_or,or_true,true_and,and_true,not_true_eq_false,not_false_eq_true,Bool.true_eq_false,Bool.false_eq_true] : (loadA h.words (fieldA h a i).fst).snd =(loadA h.words (a + 1 + i)).snd) Fz)))))
 ·rw [(fieldA_no e).1]
  exact gF [] Tryz.func18 [] (Fc 14 (@objectFieldA h a i ‹_› ‹_›) (Ftb 18 ((fieldA h a i).snd != 0) Fz))
def hAwake : Heap := (⟨⟨16,8⟩,((List.replicate 128 0).set 0 29).set 1 55,[⟨1,0,2,0⟩,⟨0,0,0,0⟩,⟨0,0,0,0⟩,⟨0,0,0,0⟩,⟨0,0,0,0⟩,⟨0,0,0,0⟩,⟨0,0,0,0⟩,⟨0,0,0,0⟩],0,-1⟩ : Heap)
theorem hAwake_facts : WOk hAwake.words ∧ getH hAwake 4096 = (⟨3,1,0⟩,0) ∧ fieldH hAwake 4096 0 = (55,0) := by
 refine ⟨?_, ?_, ?_⟩
 ·unfold WOk hAwake
  decide +kernel
 ·decide +kernel
 ·decide +kernel
theorem law5awake : GSpec Tryz.prog 17 [] true (bool true) [] := by
 obtain ⟨f1,f2,f3⟩ := hAwake_facts
 have g1 := congrArg (fun x => x.1.kind) f2
 have g2 := congrArg (fun x => x.1.length) f2
 have g3 := congrArg (fun x => x.2) f2
 have g4 := congrArg (fun x => x.1) f3
 have g5 := congrArg (fun x => x.2) f3
 unfold hAwake at f1 g1 g2 g3 g4 g5
 simp only at f1 g1 g2 g3 g4 g5
 exact gF [] Tryz.func17 [] (Fh 10015 [.els (List.map Page.dv [Page.mk 1 0 2 0,Page.mk 0 0 0 0,Page.mk 0 0 0 0,Page.mk 0 0 0 0,Page.mk 0 0 0 0,Page.mk 0 0 0 0,Page.mk 0 0 0 0,Page.mk 0 0 0 0])] (Fh 10020 [.els (List.map wdv ((List.replicate 128 0).set 0 29))] (Fh 10021 [.els (List.map wdv (((List.replicate 128 0).set 0 29).set 1 55))] (Fc 9 (@ref4NewA) (Fa (by simp [*] : (0 :Int)≤0∧Int.toNat 0 < (List.map Page.dv (List.replicate 8 (Page.mk 0 0 0 0))).length) (Fa (by simp [*] : Int.toNat 0 < (List.map Page.dv (List.replicate 8 (Page.mk 0 0 0 0))).length) (Fr ((List.map Page.dv (List.replicate 8 (Page.mk 0 0 0 0))).set (Int.toNat 0) [dint 1,dint 0,dint 2,dint 0]) (Fa (by simp [*] : (0 :Int)≤0∧Int.toNat 0 < (List.map wdv (List.replicate 128 0)).length) (Fa (by simp [*] : Int.toNat 0 < (List.map wdv (List.replicate 128 0)).length) (Fr (List.map wdv ((List.replicate 128 0).set 0 29)) (Fa (by simp [*] : (0 :Int)≤1∧Int.toNat 1 < (List.map wdv ((List.replicate 128 0).set 0 29)).length) (Fa (by simp [*] : Int.toNat 1 < (List.map wdv ((List.replicate 128 0).set 0 29)).length) (Fr (List.map wdv (((List.replicate 128 0).set 0 29).set 1 55)) (Fc 24 (@objectGet (Heap.mk (Conf.mk 16 8) (((List.replicate 128 0).set 0 29).set 1 55) [Page.mk 1 0 2 0,Page.mk 0 0 0 0,Page.mk 0 0 0 0,Page.mk 0 0 0 0,Page.mk 0 0 0 0,Page.mk 0 0 0 0,Page.mk 0 0 0 0,Page.mk 0 0 0 0] 0 (-1 : Int)) (4096) ‹_› (by omega)) (Fc 29 (@objectField (Heap.mk (Conf.mk 16 8) (((List.replicate 128 0).set 0 29).set 1 55) [Page.mk 1 0 2 0,Page.mk 0 0 0 0,Page.mk 0 0 0 0,Page.mk 0 0 0 0,Page.mk 0 0 0 0,Page.mk 0 0 0 0,Page.mk 0 0 0 0,Page.mk 0 0 0 0] 0 (-1 : Int)) (4096) (0) ‹_› (by omega)) Fz)))))))))))))))
structure HOk (h : Heap) : Prop where
 w : WOk h.words
 wl : h.words.length ≤ 1048576
 pl : h.pages.length ≤ 1048576
theorem nearF_ok (h : Heap) {a : Int} (h0 : 0 ≤ a ∧ a ≤ 18446744073709551615) : (nearF h a).length ≤ 5 ∧ ULe (nearF h a) := by
 unfold nearF
 split
 ·rename_i hc
  have hm1 := Int.emod_nonneg a (b := ((startsW h).1.length : Int)) (by omega)
  have hm2 := Int.emod_lt_of_pos a (b := ((startsW h).1.length : Int)) (by omega)
  have hr := startsW_range h _ (getD_mem_iff.2 ⟨(a % ((startsW h).1.length : Int)).toNat,by omega,rfl⟩)
  refine ⟨by simp,fun x hx => ?_⟩
  simp only [List.cons_append,List.nil_append,List.mem_cons,List.not_mem_nil,or_false] at hx
  omega
 ·refine ⟨by simp,fun x hx => ?_⟩
  simp only [List.append_nil,List.mem_cons,List.not_mem_nil,or_false] at hx
  omega
theorem map_ne {α β : Type} {f : α → β} {l : List α} (h : l ≠ []) : l.map f ≠ [] := by simpa using h
theorem cloneWordsN (ws : List Int) (hw : ws.length ≤ 1048576) (hne : ws ≠ []) : GSpec Tryz.prog 95 [wordsV ws] true (.ow 0) [.arr 29 1 (ws.map wdv)] := by
 exact gF [24007] Tryz.func95 [] (Fh 5 [.els (List.map wdv [])] (Fh 7 [.els (List.map wdv ws)] (Fa (by exact map_ne hne : List.map wdv ws ≠ []) (Fr (List.map wdv []) (Fa (by (simp [*]; omega) : (List.map wdv []).length + (List.map wdv ws).length≤2 ^ 30) (Fr (List.map wdv ws) (Fa (by exact flat_wdv _ : FlatEls (List.map wdv ws)) Fz)))))))
theorem clonePages (l : List Page) (hl : l.length ≤ 1048576) (hne : l ≠ []) : GSpec Tryz.prog 97 [pagesV l] true (pagesV l) [] := by
 exact gF [] Tryz.func97 [] (Fh 5 [.els (List.map Page.dv [])] (Fh 7 [.els (List.map Page.dv l)] (Fa (by exact map_ne hne : List.map Page.dv l ≠ []) (Fr (List.map Page.dv []) (Fa (by (simp [*]; omega) : (List.map Page.dv []).length + (List.map Page.dv l).length≤2 ^ 30) (Fr (List.map Page.dv l) (Fa (by exact flat_pages _ : FlatEls (List.map Page.dv l)) Fz)))))))
theorem ne_of_len {α : Type} {l : List α} (h : 0 < l.length) : l ≠ [] := by
 rintro rfl
 simp at h
theorem arenaWrite (ws l : List Int) (a : Int) (hw : ws.length ≤ 1048576) (hl : l.length ≤ 1048576) (h0 : 0 ≤ a ∧ a ≤ 18446744073709551615) (hn : 0 < l.length) : GSpec Tryz.prog 70 [wordsV ws,u64 a,wordsV l] true (.tu [wordsV (writeA ws a l).1,int (writeA ws a l).2]) [] := by
 by_cases h : 4096 ≤ a ∧ a - 4096 + l.length ≤ ws.length
 ·have e7 : writeA ws a l = (spl ws (a - 4096).toNat l,0) := by rw [writeA,if_pos h]
  have e1 : placeA ws a (l.length : Int) = (a - 4096,true) := by
   rw [placeA,if_pos (by omega)]
   simp; omega
  have e2 := congrArg (fun x => x.1) e1
  have e3 := congrArg (fun x => x.2) e1
  simp only at e2 e3
  have hne : ws ≠ [] := ne_of_len (by omega)
  have hs : spliceE (List.map wdv ws) (placeA ws a l.length).1.toNat (List.map wdv l) = List.map wdv (List.take (placeA ws a l.length).1.toNat ws ++ l ++ List.drop ((placeA ws a l.length).1.toNat + l.length) ws) := by simp [spliceE]
  rw [e7]
  exact gF [] Tryz.func70 [true] (Fh 27 [.els (List.map wdv (List.take (placeA ws a (↑l.length : Int)).fst.toNat ws ++ l ++ List.drop ((placeA ws a (↑l.length : Int)).fst.toNat + l.length) ws))] (Fl 15 wdv l (Fc 16 (@arenaPlace ws a ((↑l.length : Int)) ‹_› ‹_›) (Ffb 20 (!(placeA ws a (↑l.length : Int)).snd) (Fc 22 (@cloneWordsN ws ‹_› ‹_›) (Fa (by (simp only [List.length_map]; omega) : 0≤(placeA ws a (↑l.length : Int)).fst∧(placeA ws a (↑l.length : Int)).fst≤(↑(List.map wdv ws).length : Int)) (Fa (by (simp only [List.length_map]; omega) : (List.map wdv l).length≤(↑(List.map wdv ws).length : Int).toNat - (placeA ws a (↑l.length : Int)).fst.toNat) (Fa (by exact hs : spliceE (List.map wdv ws) (placeA ws a (↑l.length : Int)).fst.toNat (List.map wdv l) =List.map wdv (List.take (placeA ws a (↑l.length : Int)).fst.toNat ws ++ l ++ List.drop ((placeA ws a (↑l.length : Int)).fst.toNat + l.length) ws)) (Fa (by exact flat_wdv _ : FlatEls (List.map wdv (List.take (placeA ws a (↑l.length : Int)).fst.toNat ws ++ l ++ List.drop ((placeA ws a (↑l.length : Int)).fst.toNat + l.length) ws))) (Fa (by refine congrArg _ ?_; simp [spl, *] : List.map wdv (List.take (placeA ws a (↑l.length : Int)).fst.toNat ws ++ l ++ List.drop ((placeA ws a (↑l.length : Int)).fst.toNat + l.length) ws) =List.map wdv (spl ws (a - 4096).toNat l,0).fst) (Fr (0 : Int) Fz)))))))))))
 ·have e7 : writeA ws a l = ([],2) := by rw [writeA,if_neg h]
  have e3 : (placeA ws a (l.length : Int)).2 = false := by
   unfold placeA
   split
   ·simp; omega
   ·rfl
  rw [e7]
  exact gF [] Tryz.func70 [] (Fl 15 wdv l (Fc 16 (@arenaPlace ws a ((↑l.length : Int)) ‹_› ‹_›) (Ftb 20 (!(placeA ws a (↑l.length : Int)).snd) (Fnl Fz))))
theorem arenaStore (ws : List Int) (a v : Int) (hw : ws.length ≤ 1048576) (h0 : 0 ≤ a ∧ a ≤ 18446744073709551615) : GSpec Tryz.prog 62 [wordsV ws,u64 a,u64 v] false (.tu [wordsV (storeA ws a v).1,int (storeA ws a v).2]) [] := by
 exact gF [] Tryz.func62 [] (Fh 11 [.els (List.map wdv [v])] (Fr (List.map wdv [v]) (Fc 12 (@arenaWrite ws ([v]) a ‹_› (by simp [storeA, *]) ‹_› (by simp [storeA, *])) Fz)))
theorem objectChanged0 (h : Heap) (ws : List Int) (e : Int) (hp : h.pages.length ≤ 1048576) (he : e = 0) (hne : h.pages ≠ []) : GSpec Tryz.prog 63 [h.av,wordsV ws,int e] false (.tu [Heap.av ⟨h.conf,ws,h.pages,h.space,h.bump⟩,int 0]) [] := by
 exact gF [] Tryz.func63 [] (Ffb 9 (e != 0) (Fc 15 (@clonePages h.pages ‹_› ‹_›) Fz))
theorem objectSetField (h : Heap) (a i v : Int) (hw : WOk h.words) (hv : 0 ≤ v ∧ v ≤ 18446744073709551615) (h0 : 0 ≤ a ∧ a ≤ 18446744073709551615) : GSpec Tryz.prog 25 [h.av,u64 a,int i,u64 v] false (.tu [(setFieldH h a i v).1.av,int (setFieldH h a i v).2]) [] := by
 by_cases e : (fieldA h a i).2 = 0
 ·have k := fieldA_ok e
  have g := getH_ok k.1
  have po := proper_ok g.2.2.1
  obtain ⟨s1,s2,s3⟩ := setField_ok hw hv k.1 ⟨k.2.1,k.2.2.1⟩
  have kin := atH_in g.2.1
  rw [← g.1] at kin
  have e2 : (storeA h.words (a + 1 + i) v).2 = 0 := by
   unfold storeA writeA
   rw [if_pos (by simp; omega)]
  have hne : h.pages ≠ [] := ne_of_len (by omega)
  have e3 : (storeA h.words (fieldA h a i).1 v).2 = 0 := by rw [k.2.2.2]; exact e2
  have e4 : (storeA h.words (fieldA h a i).1 v).1 = (storeA h.words (a + 1 + i) v).1 := by rw [k.2.2.2]
  rw [s1,← e4]
  exact gF [] Tryz.func25 [] (Fc 17 (@objectFieldA h a i ‹_› ‹_›) (Ffb 21 ((fieldA h a i).snd != 0) (Fc 29 (@arenaStore h.words ((fieldA h a i).fst) v (by omega) (by omega)) (Fc 35 (@objectChanged0 h ((storeA h.words (fieldA h a i).fst v).fst) ((storeA h.words (fieldA h a i).fst v).snd) (by omega) ‹_› ‹_›) Fz))))
 ·have e2 : setFieldH h a i v = (noHeap,(fieldA h a i).2) := congrFun (fieldA_no e).2 v
  rw [e2]
  exact gF [] Tryz.func25 [] (Fc 17 (@objectFieldA h a i ‹_› ‹_›) (Ftb 21 ((fieldA h a i).snd != 0) (Fnl (Fnl Fz))))
theorem setField_yes {h : Heap} {a i v : Int} (e : (setFieldH h a i v).2 = 0) : (fieldH h a i).2 = 0 := by
 unfold setFieldH at e
 split at e
 ·assumption
 ·exact e
theorem keep_law {h : Heap} {a i v : Int} (hw : WOk h.words) (hv : 0 ≤ v ∧ v ≤ 18446744073709551615) (e : (setFieldH h a i v).2 = 0) :
  fieldH (setFieldH h a i v).1 a i = (v,0) ∧ (setFieldH h a i v).1.words.length = h.words.length ∧ (0 ≤ i ∧ i ≤ 255 ∧ 4096 ≤ a ∧ a < 8192) ∧ WOk (setFieldH h a i v).1.words ∧ ∀ k : Nat,k < h.words.length → (4096 + k : Int) ≠ a + 1 + i → (setFieldH h a i v).1.words.getD k default = h.words.getD k default := by
 have e1 := setField_yes e
 have f := fieldH_ok e1
 have g := getH_ok f.1
 have s := setField_ok hw hv f.1 f.2
 have k := atH_in g.2.1
 rw [← g.1] at k
 have hin : 4096 ≤ a + 1 + i ∧ a + 1 + i < 4096 + h.words.length := by omega
 have p' := s.2.1
 have w' := s.2.2
 rw [s.1] at p' w' ⊢
 have hl : loadA (storeA h.words (a + 1 + i) v).1 a = loadA h.words a := load_store_ne hin (by omega)
 have ea : atH { h with words := (storeA h.words (a + 1 + i) v).1 } a = atH h a := by
  unfold atH
  rw [if_pos p',if_pos g.2.2.1,hl]
 have eg : getH { h with words := (storeA h.words (a + 1 + i) v).1 } a = getH h a := by
  unfold getH
  rw [if_pos p',if_pos g.2.2.1,ea]
 refine ⟨?_,store_len_in hin,by omega,w',fun k hk hne => ?_⟩
 ·unfold fieldH
  rw [eg,if_pos f.1,if_pos f.2]
  exact load_store_eq hin
 ·have := load_store_ne (v := v) hin hne
  unfold loadA at this
  have hb : 4096 ≤ (4096 + k : Int) ∧ (4096 + k : Int) < 4096 + h.words.length := by omega
  rw [if_pos (by rw [store_len_in hin]; exact hb),if_pos hb] at this
  have e2 : ((4096 : Int) + k - 4096).toNat = k := by omega
  rw [e2] at this
  exact (Prod.ext_iff.1 this).1
def keepI (i v : Int) (h : Heap) (ns : List Int) (k : Nat) : Tg := ⟨tm 95 [(2,int i),(3,u64 v),(8,bool false),(9,.pt 16009 0 0),(22,wordsV ns),(23,int ns.length),(24,int k)],[(16009,.box 27 h.cells)],4⟩
def keepK (i v : Int) (h : Heap) (ns : List Int) (k : Nat) (a : Int) (x : Heap) (j : Nat) : Tg := ⟨tm 95 [(2,int i),(3,u64 v),(8,bool false),(9,.pt 16009 0 0),(11,u64 a),(12,.pt 48012 0 0),(16,int j),(22,wordsV ns),(23,int ns.length),(24,int k)],[(48012,.box 27 x.cells),(16009,.box 27 h.cells)],11⟩
theorem keepKRound (i v : Int) (h : Heap) (ns : List Int) (k : Nat) (a : Int) (x : Heap) (j : Nat) (hh : HOk h) (hl : x.words.length = h.words.length) (ha : 4096 ≤ a ∧ a < 8192) (hi : 0 ≤ bits BinOp.and IntKind.i64 i 3 ∧ bits BinOp.and IntKind.i64 i 3 ≤ 255) (hj : j < h.words.length) (hx : (4096 + j : Int) ≠ a + 1 + bits BinOp.and IntKind.i64 i 3 → x.words.getD j default = h.words.getD j default) : CSpec Tryz.prog (rndF Tryz.f6 2) (keepK i v h ns k a x j).st .nrm (keepK i v h ns k a x (j + 1)).st := by
 have hwl := hh.wl
 by_cases e : (4096 + j : Int) = a + 1 + bits BinOp.and IntKind.i64 i 3
 ·have ei1 : IntKind.u64.wrap (bits BinOp.and IntKind.i64 i 3) = bits BinOp.and IntKind.i64 i 3 := wrapU' (by omega) (by omega)
  have ei2 : IntKind.u64.wrap (a + 1 + bits BinOp.and IntKind.i64 i 3) = 4096 + j := by rw [← e]; exact wrapU' (by omega) (by omega)
  exact sF [] [] (Fh 84 [.el (wdv (x.words.getD j default))] (Fh 89 [.el (wdv (h.words.getD j default))] (Fl 66 wdv h.words (Ftb 67 (decide ((↑j : Int) < (↑h.words.length : Int))) (Fi 71 (4096 + (↑j : Int)) (Fv 72 (4096 + (↑j : Int)) (Fv 74 (a + 1) (Fv 78 (a + 1 + IntKind.u64.wrap (bits BinOp.and IntKind.i64 i 3)) (Fa (by intro hg; (try simp only [bs] at hg); exact elI (by omega) (by omega) (by omega) : (4096 + (↑j : Int) != a + 1 + IntKind.u64.wrap (bits BinOp.and IntKind.i64 i 3)) =true→0≤(↑j : Int)∧(List.map wdv x.words)[(↑j : Int).toNat]? = some (wdv (x.words.getD j default))) (Fa (by intro hg; (try simp only [bs] at hg); exact elI (by omega) (by omega) (by omega) : (4096 + (↑j : Int) != a + 1 + IntKind.u64.wrap (bits BinOp.and IntKind.i64 i 3)) =true→0≤(↑j : Int)∧(List.map wdv h.words)[(↑j : Int).toNat]? = some (wdv (h.words.getD j default))) (Ffb 92 (4096 + (↑j : Int) != a + 1 + IntKind.u64.wrap (bits BinOp.and IntKind.i64 i 3)&&x.words.getD j default != h.words.getD j default) (Fg 69 (by exact wrapI2 rfl (by omega) (by omega) : IntKind.i64.wrap ((↑j : Int) + 1) =(↑(j + 1) : Int)) Fz))))))))))))
 ·have e7 := hx e
  have ei1 : IntKind.u64.wrap (bits BinOp.and IntKind.i64 i 3) = bits BinOp.and IntKind.i64 i 3 := wrapU' (by omega) (by omega)
  exact sF [] [] (Fh 84 [.el (wdv (x.words.getD j default))] (Fh 89 [.el (wdv (h.words.getD j default))] (Fl 66 wdv h.words (Ftb 67 (decide ((↑j : Int) < (↑h.words.length : Int))) (Fi 71 (4096 + (↑j : Int)) (Fv 72 (4096 + (↑j : Int)) (Fv 74 (a + 1) (Fv 78 (a + 1 + IntKind.u64.wrap (bits BinOp.and IntKind.i64 i 3)) (Fa (by intro hg; (try simp only [bs] at hg); exact elI (by omega) (by omega) (by omega) : (4096 + (↑j : Int) != a + 1 + IntKind.u64.wrap (bits BinOp.and IntKind.i64 i 3)) =true→0≤(↑j : Int)∧(List.map wdv x.words)[(↑j : Int).toNat]? = some (wdv (x.words.getD j default))) (Fa (by intro hg; (try simp only [bs] at hg); exact elI (by omega) (by omega) (by omega) : (4096 + (↑j : Int) != a + 1 + IntKind.u64.wrap (bits BinOp.and IntKind.i64 i 3)) =true→0≤(↑j : Int)∧(List.map wdv h.words)[(↑j : Int).toNat]? = some (wdv (h.words.getD j default))) (Ffb 92 (4096 + (↑j : Int) != a + 1 + IntKind.u64.wrap (bits BinOp.and IntKind.i64 i 3)&&x.words.getD j default != h.words.getD j default) (Fg 69 (by exact wrapI2 rfl (by omega) (by omega) : IntKind.i64.wrap ((↑j : Int) + 1) =(↑(j + 1) : Int)) Fz))))))))))))
theorem keepKEnd (i v : Int) (h : Heap) (ns : List Int) (k : Nat) (a : Int) (x : Heap) : CSpec Tryz.prog (rndF Tryz.f6 2) (keepK i v h ns k a x h.words.length).st (.ext 2) (Tg.st ⟨tm 95 [(2,int i),(3,u64 v),(8,bool false),(9,.pt 16009 0 0),(22,wordsV ns),(23,int ns.length),(24,int k)],[(16009,.box 27 h.cells)],4⟩) := by
 exact sF [] [] (Fl 66 wdv h.words (Ffb 67 (decide ((↑h.words.length : Int) < (↑h.words.length : Int))) Fz))
theorem keepKLoop (i v : Int) (h : Heap) (ns : List Int) (k : Nat) (a : Int) (x : Heap) (hh : HOk h) (hl : x.words.length = h.words.length) (ha : 4096 ≤ a ∧ a < 8192) (hi : 0 ≤ bits BinOp.and IntKind.i64 i 3 ∧ bits BinOp.and IntKind.i64 i 3 ≤ 255) (hx : ∀ j : Nat,j < h.words.length → (4096 + j : Int) ≠ a + 1 + bits BinOp.and IntKind.i64 i 3 → x.words.getD j default = h.words.getD j default) : CSpec Tryz.prog (blkF Tryz.f6 2) (Tg.st ⟨tm 95 [(2,int i),(3,u64 v),(8,bool false),(9,.pt 16009 0 0),(11,u64 a),(12,.pt 48012 0 0),(16,int 0),(22,wordsV ns),(23,int ns.length),(24,int k)],[(48012,.box 27 x.cells),(16009,.box 27 h.cells)],11⟩) .nrm (Tg.st ⟨tm 95 [(2,int i),(3,u64 v),(8,bool false),(9,.pt 16009 0 0),(22,wordsV ns),(23,int ns.length),(24,int k)],[(16009,.box 27 h.cells)],4⟩) :=
 loop_ext_of (S := fun j => (keepK i v h ns k a x j).st) h.words.length (by kernel_rfl) (fun j hj => keepKRound i v h ns k a x j hh hl ha hi hj (hx j hj)) (keepKEnd i v h ns k a x)
theorem keepIRound (i v : Int) (h : Heap) (ns : List Int) (k : Nat) (hh : HOk h) (hv : 0 ≤ v ∧ v ≤ 18446744073709551615) (hn : ns.length ≤ 5) (hr : 0 ≤ ns.getD k default ∧ ns.getD k default ≤ 18446744073709551615) (hk : k < ns.length) : CSpec Tryz.prog (rndF Tryz.f6 0) (keepI i v h ns k).st .nrm (keepI i v h ns (k + 1)).st := by
 have hw := hh.w
 by_cases e : (setFieldH h (ns.getD k default) (bits BinOp.and IntKind.i64 i 3) v).2 = 0
 ·have kl := keep_law hw hv e
  have kl1 := kl.1
  have kl2 := kl.2.1
  have kl3 := kl.2.2.1
  have kl4 := kl.2.2.2.1
  have kl5 := kl.2.2.2.2
  exact sF [] [] (Fh 57 [.int (↑(setFieldH h (ns.getD k default) (bits BinOp.and IntKind.i64 i 3) v).fst.words.length : Int)] (Fh 60 [.int ↑h.words.length] (Ftb 25 (decide ((↑k : Int) < (↑ns.length : Int))) (Fek 26 wdv ns (↑k) k (Fc 34 (@objectSetField h (ns.getD k default) (bits BinOp.and IntKind.i64 i 3) v ‹_› ‹_› ‹_›) (Ffb 38 ((setFieldH h (ns.getD k default) (bits BinOp.and IntKind.i64 i 3) v).snd != 0) (Fc 44 (@objectField ((setFieldH h (ns.getD k default) (bits BinOp.and IntKind.i64 i 3) v).fst) (ns.getD k default) (bits BinOp.and IntKind.i64 i 3) ‹_› ‹_›) (Fa (by intro hg; (try simp only [bs] at hg); simp only [List.length_map] : (!((fieldH (setFieldH h (ns.getD k default) (bits BinOp.and IntKind.i64 i 3) v).fst (ns.getD k default) (bits BinOp.and IntKind.i64 i 3)).snd != 0||(fieldH (setFieldH h (ns.getD k default) (bits BinOp.and IntKind.i64 i 3) v).fst (ns.getD k default) (bits BinOp.and IntKind.i64 i 3)).fst != v)) =true→(↑(List.map wdv (setFieldH h (ns.getD k default) (bits BinOp.and IntKind.i64 i 3) v).fst.words).length : Int) =(↑(setFieldH h (ns.getD k default) (bits BinOp.and IntKind.i64 i 3) v).fst.words.length : Int)) (Fa (by intro hg; (try simp only [bs] at hg); simp only [List.length_map] : (!((fieldH (setFieldH h (ns.getD k default) (bits BinOp.and IntKind.i64 i 3) v).fst (ns.getD k default) (bits BinOp.and IntKind.i64 i 3)).snd != 0||(fieldH (setFieldH h (ns.getD k default) (bits BinOp.and IntKind.i64 i 3) v).fst (ns.getD k default) (bits BinOp.and IntKind.i64 i 3)).fst != v)) =true→(↑(List.map wdv h.words).length : Int) =(↑h.words.length : Int)) (Ff 62 (by simp only [bs, *,true_or,or_true,true_and,and_true,not_true_eq_false,not_false_eq_true,Bool.true_eq_false,Bool.false_eq_true] : ((fieldH (setFieldH h (ns.getD k default) (bits BinOp.and IntKind.i64 i 3) v).fst (ns.getD k default) (bits BinOp.and IntKind.i64 i 3)).snd != 0||(fieldH (setFieldH h (ns.getD k default) (bits BinOp.and IntKind.i64 i 3) v).fst (ns.getD k default) (bits BinOp.and IntKind.i64 i 3)).fst != v||(↑(setFieldH h (ns.getD k default) (bits BinOp.and IntKind.i64 i 3) v).fst.words.length : Int) != (↑h.words.length : Int))=false) (Fu (@keepKLoop i v h ns k (ns.getD k default) ((setFieldH h (ns.getD k default) (bits BinOp.and IntKind.i64 i 3) v).fst) ‹_› ‹_› (by omega) (by omega) ‹_›) (Fg 93 (by exact wrapI2 rfl (by omega) (by omega) : IntKind.i64.wrap ((↑k : Int) + 1) =(↑(k + 1) : Int)) Fz))))))))))))
 ·exact sF [] [] (Ftb 25 (decide ((↑k : Int) < (↑ns.length : Int))) (Fek 26 wdv ns (↑k) k (Fc 34 (@objectSetField h (ns.getD k default) (bits BinOp.and IntKind.i64 i 3) v ‹_› ‹_› ‹_›) (Ftb 38 ((setFieldH h (ns.getD k default) (bits BinOp.and IntKind.i64 i 3) v).snd != 0) (Fg 93 (by exact wrapI2 rfl (by omega) (by omega) : IntKind.i64.wrap ((↑k : Int) + 1) =(↑(k + 1) : Int)) Fz)))))
theorem keepIEnd (i v : Int) (h : Heap) (ns : List Int) : CSpec Tryz.prog (rndF Tryz.f6 0) (keepI i v h ns ns.length).st (.ext 0) (Tg.st ⟨tm 95 [(8,bool false)],[],2⟩) := by
 exact sF [] [] (Ffb 25 (decide ((↑ns.length : Int) < (↑ns.length : Int))) Fz)
theorem keepILoop (i v : Int) (h : Heap) (ns : List Int) (hh : HOk h) (hv : 0 ≤ v ∧ v ≤ 18446744073709551615) (hn : ns.length ≤ 5) (hr : ULe ns) : CSpec Tryz.prog (blkF Tryz.f6 0) (Tg.st ⟨tm 95 [(2,int i),(3,u64 v),(8,bool false),(9,.pt 16009 0 0),(22,wordsV ns),(23,int ns.length),(24,int 0)],[(16009,.box 27 h.cells)],4⟩) .nrm (Tg.st ⟨tm 95 [(8,bool false)],[],2⟩) :=
 loop_ext_of (S := fun k => (keepI i v h ns k).st) ns.length (by kernel_rfl) (fun k hk => keepIRound i v h ns k hh hv hn (getD_mem hr k) hk) (keepIEnd i v h ns)
theorem objKeeps (tape : List Int) (a i v : Int) (h1 : tape.length ≤ 140737488355328) (h0 : 0 ≤ a ∧ a ≤ 18446744073709551615) (hv : 0 ≤ v ∧ v ≤ 18446744073709551615) : GSpec Tryz.prog 6 [intsV tape,u64 a,int i,u64 v] true (bool true) [] := by
 have hm := makeF_ok tape
 have hw := hm.words
 have a1 := area hm.hv
 have a2 := validB_iff.1 hm.hv
 have a3 := hm.L
 have a4 := hm.pl
 have hh : HOk (makeF tape).heap := ⟨hm.words,by omega,by omega⟩
 have hn := nearF_ok (makeF tape).heap h0
 have hn1 := hn.1
 have hn2 := hn.2
 exact gF [] Tryz.func6 [] (Fc 18 (@madeMake tape ‹_›) (Fc 22 (@law5near ((makeF tape).heap) a ‹_› ‹_›) (Fl 23 wdv (nearF (makeF tape).heap a) (Fu (@keepILoop i v ((makeF tape).heap) (nearF (makeF tape).heap a) ‹_› ‹_› ‹_› ‹_›) (Fc 94 (@law5awake) Fz)))))
end Go.Proofs.YtpklpkmnhgedbaaGreat
namespace Go.Proofs.YtpklpkmnhgedbaaGreat
open Go.Sx Go.RowKit
theorem objectKeeps_lifted (os : Os) (started : os.Started) (H : Type) (enc : TypeId × Value → H) :
  ReturnsInHanded {} Tryz.checked os 6 .any (Rows.objectKeepsSpec.pre6 enc Tryz.prog Tryz.f6 Rows.objectKeepsRow.domain false) (Rows.objectKeepsSpec.post enc Tryz.prog Tryz.f6 false true false false) := by
 refine law_of_gspec (C := Tryz.checked) (tb := 4) 5 own0 started (by kernel_rfl) Tryz.func6
  (ChangeSpec.witness6 (enc := enc) (C := Tryz.checked) false ⟨#[],#[.slice none 0 0,.int .u64 0,.int .i64 0,.int .u64 0],[]⟩ 8 (by kernel_rfl) (by kernel_rfl) (by kernel_rfl) (by kernel_rfl))
  laidOut0 (by kernel_rfl) (by kernel_rfl) (by kernel_rfl) (by kernel_rfl) rfl (fun ds hd => ?_) (fun ls hl h => ?_)
 ·match ds,hd with
  | [a,b,c,d],_ => rfl
 ·match ls,hl with
  | [b,d,p,q],_ =>
   obtain ⟨tape,rfl,ht⟩ := shp_ints (n := 3) (h 0 28 b (by kernel_rfl) rfl)
   obtain ⟨y,rfl,hy⟩ := shp_u64 (n := 4) (h 1 29 d (by kernel_rfl) rfl)
   obtain ⟨z,rfl,_⟩ := shp_int (n := 4) (h 2 3 p (by kernel_rfl) rfl)
   obtain ⟨v,rfl,hv⟩ := shp_u64 (n := 4) (h 3 29 q (by kernel_rfl) rfl)
   have e : zipAv Tryz.prog Tryz.f6.params.toList [[.sl 1 (tape.map idv)],[du64 y],[dint z],[du64 v]] = [intsV tape,u64 y,int z,u64 v] := by kernel_rfl
   exact ⟨true,e ▸ objKeeps tape y z v ht (range_u64 hy) (range_u64 hv)⟩
theorem objectKeeps_holds : Rows.ObjectKeepsSaid :=
 OpenClaim.holds_of_wide 6 Tryz.f6 rfl rfl rfl rfl rfl rfl rfl ⟨rfl,rfl,rfl,rfl,rfl⟩ rfl rfl rfl rfl rfl (by kernel_rfl) Tryz.func6 (by kernel_rfl)
  (of_decide_eq_true (by kernel_rfl)) (by unfold Func.isWrapper; first | (rw [if_pos (by decide +kernel)]; kernel_rfl) | (rw [if_neg (by decide +kernel)]; exact ⟨rfl,rfl⟩))
  (fun os started H enc _ => objectKeeps_lifted os started H enc)
end Go.Proofs.YtpklpkmnhgedbaaGreat
