/-
 The statement ObjectSets: part 12.
 Conditions: none.
-/
import Derived.Test.YtpklpkmnhgedbaaGreatM11
set_option maxRecDepth 100000
set_option linter.all false
namespace Go.Proofs.YtpklpkmnhgedbaaGreat
open Go.Sx
structure HOk (h : Heap) : Prop where
 w : WOk h.words
 wl : h.words.length ≤ 1048576
 pl : h.pages.length ≤ 1048576
theorem nearF_ok (h : Heap) {a : Int} (h0 : 0 ≤ a ∧ a ≤ 18446744073709551615) : (nearF h a).length ≤ 5 ∧ ULe (nearF h a) := by
 unfold nearF
 split
 ·rename_i hc
  have hm1 := Int.emod_nonneg a (b := ((startsW h).1.length : Int)) (by omega)
  have hm2 := Int.emod_lt_of_pos a (b := ((startsW h).1.length : Int)) (by omega)
  have hr := startsW_range h _ (getD_mem_iff.2 ⟨(a % ((startsW h).1.length : Int)).toNat,by omega,rfl⟩)
  refine ⟨by simp,fun x hx => ?_⟩
  simp only [List.cons_append,List.nil_append,List.mem_cons,List.not_mem_nil,or_false] at hx
  omega
 ·refine ⟨by simp,fun x hx => ?_⟩
  simp only [List.append_nil,List.mem_cons,List.not_mem_nil,or_false] at hx
  omega
theorem wrapU_range (n : Int) : 0 ≤ IntKind.u64.wrap n ∧ IntKind.u64.wrap n ≤ 18446744073709551615 := by
 unfold IntKind.wrap
 simp only [IntKind.signed,IntKind.bits,Bool.false_and,Bool.false_eq_true,if_false]
 omega
theorem spV_range {w : WorldM} (hw : WOk w.heap.words) (t : Tape) (d : Int) : 0 ≤ spV w t d ∧ spV w t d ≤ 18446744073709551615 := by
 unfold spV
 split
 ·have h : ∀ x ∈ spList,0 ≤ x ∧ x ≤ 18446744073709551615 := by
   intro x hx
   simp only [spList,List.mem_cons,List.not_mem_nil,or_false] at hx
   omega
  exact getD_mem h _
 ·exact wrapU_range _
theorem spoil_ok {w : WorldM} (hm : MOk w 1000) (t : Tape) : HOk (w.spoil t).heap := by
 have a1 := area hm.hv
 have a2 := validB_iff.1 hm.hv
 have a3 := hm.L
 have a4 := hm.pl
 unfold WorldM.spoil spH
 simp only
 split
 ·refine ⟨fun x hx => ?_,by simp only [List.length_set]; omega,by simp only; omega⟩
  rcases List.mem_or_eq_of_mem_set hx with hx | rfl
  ·exact hm.words x hx
  ·exact spV_range hm.words _ _
 ·split
  ·exact ⟨hm.words,by simp only; omega,by simp only [List.length_set]; omega⟩
  ·split
   ·exact ⟨hm.words,by simp only; omega,by simp only; omega⟩
   ·split
    ·exact ⟨hm.words,by simp only; omega,by simp only; omega⟩
    ·split
     ·exact ⟨hm.words,by simp only; omega,by simp only; omega⟩
     ·split
      ·exact ⟨hm.words,by simp only; omega,by simp only [List.length_drop]; omega⟩
      ·exact ⟨hm.words,by simp only; omega,by simp only [List.length_map]; omega⟩
theorem heapsF_ok (raw : Heap) (tape odd : List Int) (hw : WOk raw.words) : (heapsF raw tape odd).length ≤ 3 ∧ ∀ h ∈ heapsF raw tape odd,HOk h := by
 have hm := makeF_ok tape
 have a1 := area hm.hv
 have a2 := validB_iff.1 hm.hv
 have a3 := hm.L
 have a4 := hm.pl
 have h1 : HOk (makeF tape).heap := ⟨hm.words,by omega,by omega⟩
 have h2 := spoil_ok hm ⟨odd,0⟩
 unfold heapsF
 split
 ·rename_i hc
  simp only [lightB,decide_eq_true_eq] at hc
  refine ⟨by simp,fun h hh => ?_⟩
  simp only [List.cons_append,List.nil_append,List.mem_cons,List.not_mem_nil,or_false] at hh
  rcases hh with rfl | rfl | rfl
  ·exact h1
  ·exact h2
  ·exact ⟨hw,by omega,by omega⟩
 ·refine ⟨by simp,fun h hh => ?_⟩
  simp only [List.append_nil,List.mem_cons,List.not_mem_nil,or_false] at hh
  rcases hh with rfl | rfl
  ·exact h1
  ·exact h2
theorem map_ne {α β : Type} {f : α → β} {l : List α} (h : l ≠ []) : l.map f ≠ [] := by simpa using h
theorem cloneWordsN (ws : List Int) (hw : ws.length ≤ 1048576) (hne : ws ≠ []) : GSpec Tryz.prog 95 [wordsV ws] true (.ow 0) [.arr 29 1 (ws.map wdv)] := by
 exact gF [24007] Tryz.func95 [] (Fh 5 [.els (List.map wdv [])] (Fh 7 [.els (List.map wdv ws)] (Fa (by exact map_ne hne : List.map wdv ws ≠ []) (Fr (List.map wdv []) (Fa (by (simp [*]; omega) : (List.map wdv []).length + (List.map wdv ws).length≤2 ^ 30) (Fr (List.map wdv ws) (Fa (by exact flat_wdv _ : FlatEls (List.map wdv ws)) Fz)))))))
theorem clonePages (l : List Page) (hl : l.length ≤ 1048576) (hne : l ≠ []) : GSpec Tryz.prog 97 [pagesV l] true (pagesV l) [] := by
 exact gF [] Tryz.func97 [] (Fh 5 [.els (List.map Page.dv [])] (Fh 7 [.els (List.map Page.dv l)] (Fa (by exact map_ne hne : List.map Page.dv l ≠ []) (Fr (List.map Page.dv []) (Fa (by (simp [*]; omega) : (List.map Page.dv []).length + (List.map Page.dv l).length≤2 ^ 30) (Fr (List.map Page.dv l) (Fa (by exact flat_pages _ : FlatEls (List.map Page.dv l)) Fz)))))))
theorem ne_of_len {α : Type} {l : List α} (h : 0 < l.length) : l ≠ [] := by
 rintro rfl
 simp at h
theorem arenaWrite (ws l : List Int) (a : Int) (hw : ws.length ≤ 1048576) (hl : l.length ≤ 1048576) (h0 : 0 ≤ a ∧ a ≤ 18446744073709551615) (hn : 0 < l.length) : GSpec Tryz.prog 70 [wordsV ws,u64 a,wordsV l] true (.tu [wordsV (writeA ws a l).1,int (writeA ws a l).2]) [] := by
 by_cases h : 4096 ≤ a ∧ a - 4096 + l.length ≤ ws.length
 ·have e7 : writeA ws a l = (spl ws (a - 4096).toNat l,0) := by rw [writeA,if_pos h]
  have e1 : placeA ws a (l.length : Int) = (a - 4096,true) := by
   rw [placeA,if_pos (by omega)]
   simp; omega
  have e2 := congrArg (fun x => x.1) e1
  have e3 := congrArg (fun x => x.2) e1
  simp only at e2 e3
  have hne : ws ≠ [] := ne_of_len (by omega)
  have hs : spliceE (List.map wdv ws) (placeA ws a l.length).1.toNat (List.map wdv l) = List.map wdv (List.take (placeA ws a l.length).1.toNat ws ++ l ++ List.drop ((placeA ws a l.length).1.toNat + l.length) ws) := by simp [spliceE]
  rw [e7]
  exact gF [] Tryz.func70 [true] (Fh 27 [.els (List.map wdv (List.take (placeA ws a (↑l.length : Int)).fst.toNat ws ++ l ++ List.drop ((placeA ws a (↑l.length : Int)).fst.toNat + l.length) ws))] (Fl 15 wdv l (Fc 16 (@arenaPlace ws a ((↑l.length : Int)) ‹_› ‹_›) (Ffb 20 (!(placeA ws a (↑l.length : Int)).snd) (Fc 22 (@cloneWordsN ws ‹_› ‹_›) (Fa (by (simp only [List.length_map]; omega) : 0≤(placeA ws a (↑l.length : Int)).fst∧(placeA ws a (↑l.length : Int)).fst≤(↑(List.map wdv ws).length : Int)) (Fa (by (simp only [List.length_map]; omega) : (List.map wdv l).length≤(↑(List.map wdv ws).length : Int).toNat - (placeA ws a (↑l.length : Int)).fst.toNat) (Fa (by exact hs : spliceE (List.map wdv ws) (placeA ws a (↑l.length : Int)).fst.toNat (List.map wdv l) =List.map wdv (List.take (placeA ws a (↑l.length : Int)).fst.toNat ws ++ l ++ List.drop ((placeA ws a (↑l.length : Int)).fst.toNat + l.length) ws)) (Fa (by exact flat_wdv _ : FlatEls (List.map wdv (List.take (placeA ws a (↑l.length : Int)).fst.toNat ws ++ l ++ List.drop ((placeA ws a (↑l.length : Int)).fst.toNat + l.length) ws))) (Fa (by refine congrArg _ ?_; simp [spl, *] : List.map wdv (List.take (placeA ws a (↑l.length : Int)).fst.toNat ws ++ l ++ List.drop ((placeA ws a (↑l.length : Int)).fst.toNat + l.length) ws) =List.map wdv (spl ws (a - 4096).toNat l,0).fst) (Fr (0 : Int) Fz)))))))))))
 ·have e7 : writeA ws a l = ([],2) := by rw [writeA,if_neg h]
  have e3 : (placeA ws a (l.length : Int)).2 = false := by
   unfold placeA
   split
   ·simp; omega
   ·rfl
  rw [e7]
  exact gF [] Tryz.func70 [] (Fl 15 wdv l (Fc 16 (@arenaPlace ws a ((↑l.length : Int)) ‹_› ‹_›) (Ftb 20 (!(placeA ws a (↑l.length : Int)).snd) (Fnl Fz))))
theorem arenaStore (ws : List Int) (a v : Int) (hw : ws.length ≤ 1048576) (h0 : 0 ≤ a ∧ a ≤ 18446744073709551615) : GSpec Tryz.prog 62 [wordsV ws,u64 a,u64 v] false (.tu [wordsV (storeA ws a v).1,int (storeA ws a v).2]) [] := by
 exact gF [] Tryz.func62 [] (Fh 11 [.els (List.map wdv [v])] (Fr (List.map wdv [v]) (Fc 12 (@arenaWrite ws ([v]) a ‹_› (by simp [storeA, *]) ‹_› (by simp [storeA, *])) Fz)))
theorem objectChanged0 (h : Heap) (ws : List Int) (e : Int) (hp : h.pages.length ≤ 1048576) (he : e = 0) (hne : h.pages ≠ []) : GSpec Tryz.prog 63 [h.av,wordsV ws,int e] false (.tu [Heap.av ⟨h.conf,ws,h.pages,h.space,h.bump⟩,int 0]) [] := by
 exact gF [] Tryz.func63 [] (Ffb 9 (e != 0) (Fc 15 (@clonePages h.pages ‹_› ‹_›) Fz))
theorem objectSetField (h : Heap) (a i v : Int) (hw : WOk h.words) (hv : 0 ≤ v ∧ v ≤ 18446744073709551615) (h0 : 0 ≤ a ∧ a ≤ 18446744073709551615) : GSpec Tryz.prog 25 [h.av,u64 a,int i,u64 v] false (.tu [(setFieldH h a i v).1.av,int (setFieldH h a i v).2]) [] := by
 by_cases e : (fieldA h a i).2 = 0
 ·have k := fieldA_ok e
  have g := getH_ok k.1
  have po := proper_ok g.2.2.1
  obtain ⟨s1,s2,s3⟩ := setField_ok hw hv k.1 ⟨k.2.1,k.2.2.1⟩
  have kin := atH_in g.2.1
  rw [← g.1] at kin
  have e2 : (storeA h.words (a + 1 + i) v).2 = 0 := by
   unfold storeA writeA
   rw [if_pos (by simp; omega)]
  have hne : h.pages ≠ [] := ne_of_len (by omega)
  have e3 : (storeA h.words (fieldA h a i).1 v).2 = 0 := by rw [k.2.2.2]; exact e2
  have e4 : (storeA h.words (fieldA h a i).1 v).1 = (storeA h.words (a + 1 + i) v).1 := by rw [k.2.2.2]
  rw [s1,← e4]
  exact gF [] Tryz.func25 [] (Fc 17 (@objectFieldA h a i ‹_› ‹_›) (Ffb 21 ((fieldA h a i).snd != 0) (Fc 29 (@arenaStore h.words ((fieldA h a i).fst) v (by omega) (by omega)) (Fc 35 (@objectChanged0 h ((storeA h.words (fieldA h a i).fst v).fst) ((storeA h.words (fieldA h a i).fst v).snd) (by omega) ‹_› ‹_›) Fz))))
 ·have e2 : setFieldH h a i v = (noHeap,(fieldA h a i).2) := congrFun (fieldA_no e).2 v
  rw [e2]
  exact gF [] Tryz.func25 [] (Fc 17 (@objectFieldA h a i ‹_› ‹_›) (Ftb 21 ((fieldA h a i).snd != 0) (Fnl (Fnl Fz))))
def setsL (l : List Heap) (a x v : Int) (i : Nat) : Tg := ⟨tm 78 [(3,u64 a),(4,int x),(5,u64 v),(12,bool false),(26,.d (.sl 6 (l.map Heap.dvs))),(27,int l.length),(28,int i)],[],60⟩
def setsK (l : List Heap) (a x v : Int) (i : Nat) (h : Heap) (ns : List Int) (k : Nat) (y : Int) (js : List Int) (j : Nat) : Tg := ⟨tm 78 [(3,u64 a),(4,int x),(5,u64 v),(12,bool false),(14,.pt 488014 0 0),(16,u64 y),(26,.d (.sl 6 (l.map Heap.dvs))),(27,int l.length),(28,int i),(34,wordsV ns),(35,int ns.length),(36,int k),(43,.ow 528043),(44,int 2),(45,int j)],[(528043,.arr 3 1 (js.map idv)),(488014,.box 27 h.cells)],68⟩
theorem setField_len (h : Heap) (a i v : Int) : (setFieldH h a i v).1.words.length ≤ h.words.length ∧ (setFieldH h a i v).1.pages.length ≤ h.pages.length := by
 unfold setFieldH
 split
 ·exact ⟨store_len _ _ _,Nat.le_refl _⟩
 ·simp [noHeap]
theorem setsKRound (l : List Heap) (a x v : Int) (i : Nat) (h : Heap) (ns : List Int) (k : Nat) (y : Int) (js : List Int) (j : Nat) (hh : HOk h) (hv : 0 ≤ v ∧ v ≤ 18446744073709551615) (hy : 0 ≤ y ∧ y ≤ 18446744073709551615) (hj : js.length = 2) (hk : j < 2) : CSpec Tryz.prog (rndF Tryz.f5 4) (setsK l a x v i h ns k y js j).st .nrm (setsK l a x v i h ns k y js (j + 1)).st := by
 have hw := hh.w
 have hl1 := hh.wl
 have hl2 := hh.pl
 have hs := setField_len h y (js.getD j default) v
 exact sF [] [] (Fh 48 [.el (idv (js.getD (↑j : Int).toNat default))] (Fh 71 [.call true (Sx.bool (decide ((setFieldH h y (js.getD (↑j : Int).toNat default) v).fst =(setFieldH h y (js.getD (↑j : Int).toNat default) v).fst))) []] (Ftb 46 (decide ((↑j : Int) < 2)) (Fa (by (simp only [List.length_map]; omega) : 0≤(↑j : Int)∧(↑j : Int).toNat < (List.map idv js).length) (Fa (by exact el_of (by omega) : (List.map idv js)[(↑j : Int).toNat]? = some (idv (js.getD (↑j : Int).toNat default))) (Fc 54 (@objectSetField h y (js.getD (↑j : Int).toNat default) v ‹_› ‹_› ‹_›) (Fc 62 (@ref5SetField h y (js.getD (↑j : Int).toNat default) v ‹_› ‹_›) (Fa ((fun hg => by (try simp only [bs] at hg); exact @refSame ((setFieldH h y (js.getD (↑j : Int).toNat default) v).fst) ((setFieldH h y (js.getD (↑j : Int).toNat default) v).fst) (by (try simp only [bs] at hg); grind []) (by (try simp only [bs] at hg); grind [])) : (!(setFieldH h y (js.getD (↑j : Int).toNat default) v).snd != (setFieldH h y (js.getD (↑j : Int).toNat default) v).snd) =true→GSpec Tryz.prog 27 [(setFieldH h y (js.getD (↑j : Int).toNat default) v).fst.av,(setFieldH h y (js.getD (↑j : Int).toNat default) v).fst.av] true (Sx.bool (decide ((setFieldH h y (js.getD (↑j : Int).toNat default) v).fst =(setFieldH h y (js.getD (↑j : Int).toNat default) v).fst))) []) (Ff 73 (by simp only [bs, *,true_or,or_true,true_and,and_true,not_true_eq_false,not_false_eq_true,Bool.true_eq_false,Bool.false_eq_true] : ((setFieldH h y (js.getD (↑j : Int).toNat default) v).snd != (setFieldH h y (js.getD (↑j : Int).toNat default) v).snd||!decide ((setFieldH h y (js.getD (↑j : Int).toNat default) v).fst =(setFieldH h y (js.getD (↑j : Int).toNat default) v).fst))=false) (Fg 74 (by exact wrapI2 rfl (by omega) (by omega) : IntKind.i64.wrap ((↑j : Int) + 1) =(↑(j + 1) : Int)) Fz))))))))))
theorem setsKEnd (l : List Heap) (a x v : Int) (i : Nat) (h : Heap) (ns : List Int) (k : Nat) (y : Int) (js : List Int) : CSpec Tryz.prog (rndF Tryz.f5 4) (setsK l a x v i h ns k y js 2).st (.ext 4) (Tg.st ⟨tm 78 [(3,u64 a),(4,int x),(5,u64 v),(12,bool false),(14,.pt 488014 0 0),(26,.d (.sl 6 (l.map Heap.dvs))),(27,int l.length),(28,int i),(34,wordsV ns),(35,int ns.length),(36,int k)],[(488014,.box 27 h.cells)],68⟩) := by
 exact sE [] [] [] [] (trivial)
theorem setsKLoop (l : List Heap) (a x v : Int) (i : Nat) (h : Heap) (ns : List Int) (k : Nat) (y : Int) (js : List Int) (hh : HOk h) (hv : 0 ≤ v ∧ v ≤ 18446744073709551615) (hy : 0 ≤ y ∧ y ≤ 18446744073709551615) (hj : js.length = 2) : CSpec Tryz.prog (blkF Tryz.f5 4) (Tg.st ⟨tm 78 [(3,u64 a),(4,int x),(5,u64 v),(12,bool false),(14,.pt 488014 0 0),(16,u64 y),(26,.d (.sl 6 (l.map Heap.dvs))),(27,int l.length),(28,int i),(34,wordsV ns),(35,int ns.length),(36,int k),(43,.ow 528043),(44,int 2),(45,int 0)],[(528043,.arr 3 1 (js.map idv)),(488014,.box 27 h.cells)],68⟩) .nrm (Tg.st ⟨tm 78 [(3,u64 a),(4,int x),(5,u64 v),(12,bool false),(14,.pt 488014 0 0),(26,.d (.sl 6 (l.map Heap.dvs))),(27,int l.length),(28,int i),(34,wordsV ns),(35,int ns.length),(36,int k)],[(488014,.box 27 h.cells)],68⟩) :=
 loop_ext_of (S := fun j => (setsK l a x v i h ns k y js j).st) 2 (by kernel_rfl) (fun j hj' => setsKRound l a x v i h ns k y js j hh hv hy hj hj') (setsKEnd l a x v i h ns k y js)
def setsI (l : List Heap) (a x v : Int) (i : Nat) (h : Heap) (ns : List Int) (k : Nat) : Tg := ⟨tm 78 [(3,u64 a),(4,int x),(5,u64 v),(12,bool false),(14,.pt 488014 0 0),(26,.d (.sl 6 (l.map Heap.dvs))),(27,int l.length),(28,int i),(34,wordsV ns),(35,int ns.length),(36,int k)],[(488014,.box 27 h.cells)],64⟩
theorem setsIRound (l : List Heap) (a x v : Int) (i : Nat) (h : Heap) (ns : List Int) (k : Nat) (hh : HOk h) (hv : 0 ≤ v ∧ v ≤ 18446744073709551615) (hn : ns.length ≤ 5) (hr : 0 ≤ ns.getD k default ∧ ns.getD k default ≤ 18446744073709551615) (hk : k < ns.length) : CSpec Tryz.prog (rndF Tryz.f5 2) (setsI l a x v i h ns k).st .nrm (setsI l a x v i h ns (k + 1)).st := by
 have hw := hh.w
 exact sF [] [] (Fh 43 [.els (List.map idv [x,bits BinOp.and IntKind.i64 x 7])] (Fh 44 [.int (↑(0 + 1 + 1) : Int)] (Ftb 37 (decide ((↑k : Int) < (↑ns.length : Int))) (Fek 38 wdv ns (↑k) k (Fr (List.map idv [x,bits BinOp.and IntKind.i64 x 7]) (Fr (↑(List.map idv [x,bits BinOp.and IntKind.i64 x (7 : Int)]).length : Int) (Fu (@setsKLoop l a x v i h ns k (ns.getD k default) ([x,bits BinOp.and IntKind.i64 x 7]) ‹_› ‹_› ‹_› (by rfl)) (Fg 75 (by exact wrapI2 rfl (by omega) (by omega) : IntKind.i64.wrap ((↑k : Int) + 1) =(↑(k + 1) : Int)) Fz))))))))
theorem setsIEnd (l : List Heap) (a x v : Int) (i : Nat) (h : Heap) (ns : List Int) : CSpec Tryz.prog (rndF Tryz.f5 2) (setsI l a x v i h ns ns.length).st (.ext 2) (Tg.st ⟨tm 78 [(3,u64 a),(4,int x),(5,u64 v),(12,bool false),(26,.d (.sl 6 (l.map Heap.dvs))),(27,int l.length),(28,int i)],[],64⟩) := by
 exact sF [] [] (Ffb 37 (decide ((↑ns.length : Int) < (↑ns.length : Int))) Fz)
theorem setsILoop (l : List Heap) (a x v : Int) (i : Nat) (h : Heap) (ns : List Int) (hh : HOk h) (hv : 0 ≤ v ∧ v ≤ 18446744073709551615) (hn : ns.length ≤ 5) (hr : ULe ns) : CSpec Tryz.prog (blkF Tryz.f5 2) (Tg.st ⟨tm 78 [(3,u64 a),(4,int x),(5,u64 v),(12,bool false),(14,.pt 488014 0 0),(26,.d (.sl 6 (l.map Heap.dvs))),(27,int l.length),(28,int i),(34,wordsV ns),(35,int ns.length),(36,int 0)],[(488014,.box 27 h.cells)],64⟩) .nrm (Tg.st ⟨tm 78 [(3,u64 a),(4,int x),(5,u64 v),(12,bool false),(26,.d (.sl 6 (l.map Heap.dvs))),(27,int l.length),(28,int i)],[],64⟩) :=
 loop_ext_of (S := fun k => (setsI l a x v i h ns k).st) ns.length (by kernel_rfl) (fun k hk => setsIRound l a x v i h ns k hh hv hn (getD_mem hr k) hk) (setsIEnd l a x v i h ns)
theorem setsRound (l : List Heap) (a x v : Int) (i : Nat) (hh : HOk (l.getD i default)) (hl : l.length ≤ 3) (h0 : 0 ≤ a ∧ a ≤ 18446744073709551615) (hv : 0 ≤ v ∧ v ≤ 18446744073709551615) (hi : i < l.length) : CSpec Tryz.prog (rndF Tryz.f5 0) (setsL l a x v i).st .nrm (setsL l a x v (i + 1)).st := by
 have hw := hh.w
 have hn := nearF_ok (l.getD i default) h0
 have hn1 := hn.1
 have hn2 := hn.2
 exact sF [] [] (Fh 30 [.el (l.getD i default).dvs] (Ftb 29 (decide ((↑i : Int) < (↑l.length : Int))) (Fa (by exact elI (by omega) (by omega) (by omega) : 0≤(↑i : Int)∧(List.map Heap.dvs l)[(↑i : Int).toNat]? = some (l.getD i default).dvs) (Fc 34 (@law5near (l.getD i default) a ‹_› ‹_›) (Fl 35 wdv (nearF (l.getD i default) a) (Fu (@setsILoop l a x v i (l.getD i default) (nearF (l.getD i default) a) ‹_› ‹_› ‹_› ‹_›) (Fg 76 (by exact wrapI2 rfl (by omega) (by omega) : IntKind.i64.wrap ((↑i : Int) + 1) =(↑(i + 1) : Int)) Fz)))))))
theorem setsEnd (l : List Heap) (a x v : Int) : CSpec Tryz.prog (rndF Tryz.f5 0) (setsL l a x v l.length).st (.ext 0) (Tg.st ⟨tm 78 [(12,bool false)],[],60⟩) := by
 exact sF [] [] (Ffb 29 (decide ((↑l.length : Int) < (↑l.length : Int))) Fz)
theorem setsLoop (l : List Heap) (a x v : Int) (hh : ∀ h ∈ l,HOk h) (hl : l.length ≤ 3) (h0 : 0 ≤ a ∧ a ≤ 18446744073709551615) (hv : 0 ≤ v ∧ v ≤ 18446744073709551615) : CSpec Tryz.prog (blkF Tryz.f5 0) (Tg.st ⟨tm 78 [(3,u64 a),(4,int x),(5,u64 v),(12,bool false),(26,.d (.sl 6 (l.map Heap.dvs))),(27,int l.length),(28,int 0)],[],60⟩) .nrm (Tg.st ⟨tm 78 [(12,bool false)],[],60⟩) :=
 loop_ext_of (S := fun i => (setsL l a x v i).st) l.length (by kernel_rfl) (fun i hi => setsRound l a x v i (hh _ (by rw [List.getD_eq_getElem?_getD,List.getElem?_eq_getElem hi]; exact List.getElem_mem hi)) hl h0 hv hi) (setsEnd l a x v)
theorem objSets (raw : Heap) (tape odd : List Int) (a i v : Int) (hw : WOk raw.words) (h1 : tape.length ≤ 140737488355328) (h2 : odd.length ≤ 140737488355328) (h0 : 0 ≤ a ∧ a ≤ 18446744073709551615) (hv : 0 ≤ v ∧ v ≤ 18446744073709551615) : GSpec Tryz.prog 5 [raw.av,intsV tape,intsV odd,u64 a,int i,u64 v] true (bool true) [] := by
 obtain ⟨k1,k2⟩ := heapsF_ok raw tape odd hw
 exact gF [] Tryz.func5 [] (Fc 26 (@law5heaps raw tape odd ‹_› ‹_›) (Fl 27 Heap.dvs (heapsF raw tape odd) (Fu (@setsLoop (heapsF raw tape odd) a i v ‹_› ‹_› ‹_› ‹_›) (Fc 77 (@law5awake) Fz))))
end Go.Proofs.YtpklpkmnhgedbaaGreat
namespace Go.Proofs.YtpklpkmnhgedbaaGreat
open Go.Sx Go.RowKit
theorem objectSets_lifted (os : Os) (started : os.Started) (H : Type) (enc : TypeId × Value → H) :
  ReturnsInHanded {} Tryz.checked os 5 .any (Rows.objectSetsSpec.pre6 enc Tryz.prog Tryz.f5 Rows.objectSetsRow.domain false) (Rows.objectSetsSpec.post enc Tryz.prog Tryz.f5 false true false false) := by
 refine law_of_gspec (C := Tryz.checked) (tb := 4) 5 own0 started (by kernel_rfl) Tryz.func5
  (ChangeSpec.witness6 (enc := enc) (C := Tryz.checked) false ⟨#[],#[.agg #[.int .i64 0,.int .i64 0,.slice none 0 0,.slice none 0 0,.int .i64 0,.int .i64 0],.slice none 0 0,.slice none 0 0,.int .u64 0,.int .i64 0,.int .u64 0],[]⟩ 8 (by kernel_rfl) (by kernel_rfl) (by kernel_rfl) (by kernel_rfl))
  laidOut0 (by kernel_rfl) (by kernel_rfl) (by kernel_rfl) (by kernel_rfl) rfl (fun ds hd => ?_) (fun ls hl h => ?_)
 ·match ds,hd with
  | [a,b,c,d,p,q],_ => rfl
 ·match ls,hl with
  | [a,b,c,d,p,q],_ =>
   obtain ⟨x,rfl,hx⟩ := shp_heap (n := 1) (h 0 27 a (by kernel_rfl) rfl)
   obtain ⟨tape,rfl,ht⟩ := shp_ints (n := 3) (h 1 28 b (by kernel_rfl) rfl)
   obtain ⟨odd,rfl,ho⟩ := shp_ints (n := 3) (h 2 28 c (by kernel_rfl) rfl)
   obtain ⟨y,rfl,hy⟩ := shp_u64 (n := 4) (h 3 29 d (by kernel_rfl) rfl)
   obtain ⟨z,rfl,_⟩ := shp_int (n := 4) (h 4 3 p (by kernel_rfl) rfl)
   obtain ⟨v,rfl,hv⟩ := shp_u64 (n := 4) (h 5 29 q (by kernel_rfl) rfl)
   have e : zipAv Tryz.prog Tryz.f5.params.toList [heapD x,[.sl 1 (tape.map idv)],[.sl 1 (odd.map idv)],[du64 y],[dint z],[du64 v]] = [x.av,intsV tape,intsV odd,u64 y,int z,u64 v] := by kernel_rfl
   exact ⟨true,e ▸ objSets x tape odd y z v hx ht ho (range_u64 hy) (range_u64 hv)⟩
theorem objectSets_holds : Rows.ObjectSetsSaid :=
 OpenClaim.holds_of_wide 5 Tryz.f5 rfl rfl rfl rfl rfl rfl rfl ⟨rfl,rfl,rfl,rfl,rfl⟩ rfl rfl rfl rfl rfl (by kernel_rfl) Tryz.func5 (by kernel_rfl)
  (of_decide_eq_true (by kernel_rfl)) (by unfold Func.isWrapper; first | (rw [if_pos (by decide +kernel)]; kernel_rfl) | (rw [if_neg (by decide +kernel)]; exact ⟨rfl,rfl⟩))
  (fun os started H enc _ => objectSets_lifted os started H enc)
end Go.Proofs.YtpklpkmnhgedbaaGreat
