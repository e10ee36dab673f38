/-
 The statement ObjectFields: part 12.
 Conditions: none.
-/
import Derived.Test.YtpklpkmnhgedbaaGreatM11
set_option maxRecDepth 100000
set_option linter.all false
namespace Go.Proofs.YtpklpkmnhgedbaaGreat
open Go.Sx
theorem ref4NewA : GSpec Tryz.prog 58 [.ag [int 16,int 8]] true (.tu [.ag [int 16,int 8,.ow 0,.ow 1,int 0,int (-1)],int 0]) [.arr 29 1 ((List.replicate 128 0).map wdv),.arr 73 4 ((List.replicate 8 (⟨0,0,0,0⟩ : Page)).map Page.dv)] := by
 have h : validB ⟨16,8⟩ = true := by decide
 have ei : (8 : Int) * 16 = 128 := rfl
 exact gF [24014,24017] Tryz.func58 [] (Fh 14 [.els (List.map wdv (List.replicate (Int.toNat 128) 0))] (Fh 17 [.els (List.map Page.dv [Page.mk 0 0 0 0,Page.mk 0 0 0 0,Page.mk 0 0 0 0,Page.mk 0 0 0 0,Page.mk 0 0 0 0,Page.mk 0 0 0 0,Page.mk 0 0 0 0,Page.mk 0 0 0 0])] (Fc 5 (@refValidConf (Conf.mk 16 8)) (Fa (by decide +kernel : 0≤IntKind.i64.wrap ((8 :Int) * 16)∧IntKind.i64.wrap ((8 :Int) * 16)≤IntKind.i64.wrap ((8 :Int) * 16)∧IntKind.i64.wrap ((8 :Int) * 16) * ((↑(nat_lit 7) : Int) + 1)≤2 ^ 48) (Fr (List.map wdv (List.replicate (Int.toNat 128) 0)) (Fa (by decide +kernel : (0 :Int)≤(8 :Int)∧(8 :Int)≤(8 :Int)∧8 * ((↑(nat_lit 31) : Int) + 1)≤2 ^ 48) (Fr (List.replicate (Int.toNat 8) [dint 0,dint 0,dint 0,dint 0]) (Fa (by exact flat_wdv _ : FlatEls (List.map wdv (List.replicate (Int.toNat 128) 0))) (Fa (by exact flat_pages _ : FlatEls (List.map Page.dv [Page.mk 0 0 0 0,Page.mk 0 0 0 0,Page.mk 0 0 0 0,Page.mk 0 0 0 0,Page.mk 0 0 0 0,Page.mk 0 0 0 0,Page.mk 0 0 0 0,Page.mk 0 0 0 0])) Fz)))))))))
def fieldA (h : Heap) (a i : Int) : Int × Int := if (getH h a).2 = 0 then (if 0 ≤ i ∧ i < (getH h a).1.length then (a + 1 + i,0) else (0,2)) else (0,(getH h a).2)
theorem fieldA_ok {h : Heap} {a i : Int} (e : (fieldA h a i).2 = 0) : (getH h a).2 = 0 ∧ 0 ≤ i ∧ i < (getH h a).1.length ∧ (fieldA h a i).1 = a + 1 + i := by
 unfold fieldA at e ⊢
 split at e
 ·rename_i h1
  split at e
  ·rename_i h2
   rw [if_pos h1,if_pos h2]
   exact ⟨h1,h2.1,h2.2,rfl⟩
  ·simp at e
 ·rename_i h1
  exact absurd e h1
theorem objectFieldA (h : Heap) (a i : Int) (hw : WOk h.words) (h0 : 0 ≤ a ∧ a ≤ 18446744073709551615) : GSpec Tryz.prog 59 [h.av,u64 a,int i] true (.tu [u64 (fieldA h a i).1,int (fieldA h a i).2]) [] := by
 rcases bb ((getH h a).snd != 0) with hc0 | hc0<;>have hc0p:=hc0<;>simp only [bs] at hc0p
 ·exact gF [] Tryz.func59 [true] (Fh 16 [.br true] (Fc 13 (@objectGet h a ‹_› ‹_›) (Fa hc0 (Fa (by simp [fieldA, *] : 0 =(fieldA h a i).fst) (Fa (by simp [fieldA, *] : (getH h a).snd =(fieldA h a i).snd) Fz)))))
 ·have hf3 := getH_ok hc0p
  obtain ⟨hf3a,⟨hf3ba,⟨hf3bba,⟨hf3bbba,⟨hf3bbbba,⟨hf3bbbbba,⟨hf3bbbbbba,⟨hf3bbbbbbba,⟨hf3bbbbbbbba,⟨hf3bbbbbbbbba,hf3bbbbbbbbbb⟩⟩⟩⟩⟩⟩⟩⟩⟩⟩ := hf3
  rcases bb (decide (i < 0) || decide ((getH h a).fst.length ≤ i)) with hc5 | hc5<;>have hc5p:=hc5<;>simp only [bs] at hc5p
  ·exact gF [] Tryz.func59 [false,false,false,false,true] (Fh 16 [.br false] (Fh 20 [.br true] (Fc 13 (@objectGet h a ‹_› ‹_›) (Fa hc0 (Fa hc5 (Fa (by (simp only [fieldA]; (repeat' split) <;> first | rfl | omega | (exfalso; omega) | simp_all) : 0 =(fieldA h a i).fst) (Fa (by (simp only [fieldA]; (repeat' split) <;> first | rfl | omega | (exfalso; omega) | simp_all) : 2 =(fieldA h a i).snd) Fz)))))))
  ·obtain ⟨hc5pa,hc5pb⟩ := hc5p
   exact gF [] Tryz.func59 [false,false,false,false,true] (Fh 16 [.br false] (Fh 20 [.br false] (Fc 13 (@objectGet h a ‹_› ‹_›) (Fa hc0 (Fa hc5 (Fv 30 (a + 1) (Fv 32 i (Fv 33 (a + 1 + i) (Fa (by (simp only [fieldA]; (repeat' split) <;> first | rfl | omega | (exfalso; omega) | simp_all) : a + 1 + i =(fieldA h a i).fst) (Fa (by (simp only [fieldA]; (repeat' split) <;> first | rfl | omega | (exfalso; omega) | simp_all) : 0 =(fieldA h a i).snd) Fz))))))))))
theorem fieldA_no {h : Heap} {a i : Int} (e : ¬ (fieldA h a i).2 = 0) : fieldH h a i = (0,(fieldA h a i).2) ∧ setFieldH h a i = fun _ => (noHeap,(fieldA h a i).2) := by
 have k : fieldH h a i = (0,(fieldA h a i).2) := by
  unfold fieldA at e ⊢
  unfold fieldH
  split at e
  ·rename_i h1
   rw [if_pos h1,if_pos h1]
   split at e
   ·exact absurd rfl e
   ·rename_i h2
    rw [if_neg h2,if_neg h2]
  ·rename_i h1
   rw [if_neg h1,if_neg h1]
 refine ⟨k, ?_⟩
 funext v
 unfold setFieldH
 rw [k]
 simp only
 rw [if_neg e]
theorem fieldA_yes {h : Heap} {a i : Int} (e : (fieldA h a i).2 = 0) : fieldH h a i = loadA h.words (a + 1 + i) := by
 have k := fieldA_ok e
 unfold fieldH
 rw [if_pos k.1,if_pos ⟨k.2.1,k.2.2.1⟩]
theorem objectField (h : Heap) (a i : Int) (hw : WOk h.words) (h0 : 0 ≤ a ∧ a ≤ 18446744073709551615) : GSpec Tryz.prog 18 [h.av,u64 a,int i] true (.tu [u64 (fieldH h a i).1,int (fieldH h a i).2]) [] := by
 by_cases e : (fieldA h a i).2 = 0
 ·have k := fieldA_ok e
  have g := getH_ok k.1
  have po := proper_ok g.2.2.1
  rw [fieldA_yes e]
  exact gF [] Tryz.func18 [true] (Fc 14 (@objectFieldA h a i ‹_› ‹_›) (Ffb 18 ((fieldA h a i).snd != 0) (Fc 23 (@arenaLoad h.words ((fieldA h a i).fst) (by omega) (by omega)) (Fa (by simp only [bs, *,true_or,or_true,true_and,and_true,not_true_eq_false,not_false_eq_true,Bool.true_eq_false,Bool.false_eq_true] : (loadA h.words (fieldA h a i).fst).fst =(loadA h.words (a + 1 + i)).fst) (Fa (by simp only [bs, *,true_or,or_true,true_and,and_true,not_true_eq_false,not_false_eq_true,Bool.true_eq_false,Bool.false_eq_true] : (loadA h.words (fieldA h a i).fst).snd =(loadA h.words (a + 1 + i)).snd) Fz)))))
 ·rw [(fieldA_no e).1]
  exact gF [] Tryz.func18 [] (Fc 14 (@objectFieldA h a i ‹_› ‹_›) (Ftb 18 ((fieldA h a i).snd != 0) Fz))
def hAwake : Heap := (⟨⟨16,8⟩,((List.replicate 128 0).set 0 29).set 1 55,[⟨1,0,2,0⟩,⟨0,0,0,0⟩,⟨0,0,0,0⟩,⟨0,0,0,0⟩,⟨0,0,0,0⟩,⟨0,0,0,0⟩,⟨0,0,0,0⟩,⟨0,0,0,0⟩],0,-1⟩ : Heap)
theorem hAwake_facts : WOk hAwake.words ∧ getH hAwake 4096 = (⟨3,1,0⟩,0) ∧ fieldH hAwake 4096 0 = (55,0) := by
 refine ⟨?_, ?_, ?_⟩
 ·unfold WOk hAwake
  decide +kernel
 ·decide +kernel
 ·decide +kernel
theorem law5awake : GSpec Tryz.prog 17 [] true (bool true) [] := by
 obtain ⟨f1,f2,f3⟩ := hAwake_facts
 have g1 := congrArg (fun x => x.1.kind) f2
 have g2 := congrArg (fun x => x.1.length) f2
 have g3 := congrArg (fun x => x.2) f2
 have g4 := congrArg (fun x => x.1) f3
 have g5 := congrArg (fun x => x.2) f3
 unfold hAwake at f1 g1 g2 g3 g4 g5
 simp only at f1 g1 g2 g3 g4 g5
 exact gF [] Tryz.func17 [] (Fh 10015 [.els (List.map Page.dv [Page.mk 1 0 2 0,Page.mk 0 0 0 0,Page.mk 0 0 0 0,Page.mk 0 0 0 0,Page.mk 0 0 0 0,Page.mk 0 0 0 0,Page.mk 0 0 0 0,Page.mk 0 0 0 0])] (Fh 10020 [.els (List.map wdv ((List.replicate 128 0).set 0 29))] (Fh 10021 [.els (List.map wdv (((List.replicate 128 0).set 0 29).set 1 55))] (Fc 9 (@ref4NewA) (Fa (by simp [*] : (0 :Int)≤0∧Int.toNat 0 < (List.map Page.dv (List.replicate 8 (Page.mk 0 0 0 0))).length) (Fa (by simp [*] : Int.toNat 0 < (List.map Page.dv (List.replicate 8 (Page.mk 0 0 0 0))).length) (Fr ((List.map Page.dv (List.replicate 8 (Page.mk 0 0 0 0))).set (Int.toNat 0) [dint 1,dint 0,dint 2,dint 0]) (Fa (by simp [*] : (0 :Int)≤0∧Int.toNat 0 < (List.map wdv (List.replicate 128 0)).length) (Fa (by simp [*] : Int.toNat 0 < (List.map wdv (List.replicate 128 0)).length) (Fr (List.map wdv ((List.replicate 128 0).set 0 29)) (Fa (by simp [*] : (0 :Int)≤1∧Int.toNat 1 < (List.map wdv ((List.replicate 128 0).set 0 29)).length) (Fa (by simp [*] : Int.toNat 1 < (List.map wdv ((List.replicate 128 0).set 0 29)).length) (Fr (List.map wdv (((List.replicate 128 0).set 0 29).set 1 55)) (Fc 24 (@objectGet (Heap.mk (Conf.mk 16 8) (((List.replicate 128 0).set 0 29).set 1 55) [Page.mk 1 0 2 0,Page.mk 0 0 0 0,Page.mk 0 0 0 0,Page.mk 0 0 0 0,Page.mk 0 0 0 0,Page.mk 0 0 0 0,Page.mk 0 0 0 0,Page.mk 0 0 0 0] 0 (-1 : Int)) (4096) ‹_› (by omega)) (Fc 29 (@objectField (Heap.mk (Conf.mk 16 8) (((List.replicate 128 0).set 0 29).set 1 55) [Page.mk 1 0 2 0,Page.mk 0 0 0 0,Page.mk 0 0 0 0,Page.mk 0 0 0 0,Page.mk 0 0 0 0,Page.mk 0 0 0 0,Page.mk 0 0 0 0,Page.mk 0 0 0 0] 0 (-1 : Int)) (4096) (0) ‹_› (by omega)) Fz)))))))))))))))
structure HOk (h : Heap) : Prop where
 w : WOk h.words
 wl : h.words.length ≤ 1048576
 pl : h.pages.length ≤ 1048576
theorem nearF_ok (h : Heap) {a : Int} (h0 : 0 ≤ a ∧ a ≤ 18446744073709551615) : (nearF h a).length ≤ 5 ∧ ULe (nearF h a) := by
 unfold nearF
 split
 ·rename_i hc
  have hm1 := Int.emod_nonneg a (b := ((startsW h).1.length : Int)) (by omega)
  have hm2 := Int.emod_lt_of_pos a (b := ((startsW h).1.length : Int)) (by omega)
  have hr := startsW_range h _ (getD_mem_iff.2 ⟨(a % ((startsW h).1.length : Int)).toNat,by omega,rfl⟩)
  refine ⟨by simp,fun x hx => ?_⟩
  simp only [List.cons_append,List.nil_append,List.mem_cons,List.not_mem_nil,or_false] at hx
  omega
 ·refine ⟨by simp,fun x hx => ?_⟩
  simp only [List.append_nil,List.mem_cons,List.not_mem_nil,or_false] at hx
  omega
theorem wrapU_range (n : Int) : 0 ≤ IntKind.u64.wrap n ∧ IntKind.u64.wrap n ≤ 18446744073709551615 := by
 unfold IntKind.wrap
 simp only [IntKind.signed,IntKind.bits,Bool.false_and,Bool.false_eq_true,if_false]
 omega
theorem spV_range {w : WorldM} (hw : WOk w.heap.words) (t : Tape) (d : Int) : 0 ≤ spV w t d ∧ spV w t d ≤ 18446744073709551615 := by
 unfold spV
 split
 ·have h : ∀ x ∈ spList,0 ≤ x ∧ x ≤ 18446744073709551615 := by
   intro x hx
   simp only [spList,List.mem_cons,List.not_mem_nil,or_false] at hx
   omega
  exact getD_mem h _
 ·exact wrapU_range _
theorem spoil_ok {w : WorldM} (hm : MOk w 1000) (t : Tape) : HOk (w.spoil t).heap := by
 have a1 := area hm.hv
 have a2 := validB_iff.1 hm.hv
 have a3 := hm.L
 have a4 := hm.pl
 unfold WorldM.spoil spH
 simp only
 split
 ·refine ⟨fun x hx => ?_,by simp only [List.length_set]; omega,by simp only; omega⟩
  rcases List.mem_or_eq_of_mem_set hx with hx | rfl
  ·exact hm.words x hx
  ·exact spV_range hm.words _ _
 ·split
  ·exact ⟨hm.words,by simp only; omega,by simp only [List.length_set]; omega⟩
  ·split
   ·exact ⟨hm.words,by simp only; omega,by simp only; omega⟩
   ·split
    ·exact ⟨hm.words,by simp only; omega,by simp only; omega⟩
    ·split
     ·exact ⟨hm.words,by simp only; omega,by simp only; omega⟩
     ·split
      ·exact ⟨hm.words,by simp only; omega,by simp only [List.length_drop]; omega⟩
      ·exact ⟨hm.words,by simp only; omega,by simp only [List.length_map]; omega⟩
theorem heapsF_ok (raw : Heap) (tape odd : List Int) (hw : WOk raw.words) : (heapsF raw tape odd).length ≤ 3 ∧ ∀ h ∈ heapsF raw tape odd,HOk h := by
 have hm := makeF_ok tape
 have a1 := area hm.hv
 have a2 := validB_iff.1 hm.hv
 have a3 := hm.L
 have a4 := hm.pl
 have h1 : HOk (makeF tape).heap := ⟨hm.words,by omega,by omega⟩
 have h2 := spoil_ok hm ⟨odd,0⟩
 unfold heapsF
 split
 ·rename_i hc
  simp only [lightB,decide_eq_true_eq] at hc
  refine ⟨by simp,fun h hh => ?_⟩
  simp only [List.cons_append,List.nil_append,List.mem_cons,List.not_mem_nil,or_false] at hh
  rcases hh with rfl | rfl | rfl
  ·exact h1
  ·exact h2
  ·exact ⟨hw,by omega,by omega⟩
 ·refine ⟨by simp,fun h hh => ?_⟩
  simp only [List.append_nil,List.mem_cons,List.not_mem_nil,or_false] at hh
  rcases hh with rfl | rfl
  ·exact h1
  ·exact h2
theorem map_ne {α β : Type} {f : α → β} {l : List α} (h : l ≠ []) : l.map f ≠ [] := by simpa using h
theorem cloneWordsN (ws : List Int) (hw : ws.length ≤ 1048576) (hne : ws ≠ []) : GSpec Tryz.prog 95 [wordsV ws] true (.ow 0) [.arr 29 1 (ws.map wdv)] := by
 exact gF [24007] Tryz.func95 [] (Fh 5 [.els (List.map wdv [])] (Fh 7 [.els (List.map wdv ws)] (Fa (by exact map_ne hne : List.map wdv ws ≠ []) (Fr (List.map wdv []) (Fa (by (simp [*]; omega) : (List.map wdv []).length + (List.map wdv ws).length≤2 ^ 30) (Fr (List.map wdv ws) (Fa (by exact flat_wdv _ : FlatEls (List.map wdv ws)) Fz)))))))
theorem clonePages (l : List Page) (hl : l.length ≤ 1048576) (hne : l ≠ []) : GSpec Tryz.prog 97 [pagesV l] true (pagesV l) [] := by
 exact gF [] Tryz.func97 [] (Fh 5 [.els (List.map Page.dv [])] (Fh 7 [.els (List.map Page.dv l)] (Fa (by exact map_ne hne : List.map Page.dv l ≠ []) (Fr (List.map Page.dv []) (Fa (by (simp [*]; omega) : (List.map Page.dv []).length + (List.map Page.dv l).length≤2 ^ 30) (Fr (List.map Page.dv l) (Fa (by exact flat_pages _ : FlatEls (List.map Page.dv l)) Fz)))))))
theorem ne_of_len {α : Type} {l : List α} (h : 0 < l.length) : l ≠ [] := by
 rintro rfl
 simp at h
theorem arenaWrite (ws l : List Int) (a : Int) (hw : ws.length ≤ 1048576) (hl : l.length ≤ 1048576) (h0 : 0 ≤ a ∧ a ≤ 18446744073709551615) (hn : 0 < l.length) : GSpec Tryz.prog 70 [wordsV ws,u64 a,wordsV l] true (.tu [wordsV (writeA ws a l).1,int (writeA ws a l).2]) [] := by
 by_cases h : 4096 ≤ a ∧ a - 4096 + l.length ≤ ws.length
 ·have e7 : writeA ws a l = (spl ws (a - 4096).toNat l,0) := by rw [writeA,if_pos h]
  have e1 : placeA ws a (l.length : Int) = (a - 4096,true) := by
   rw [placeA,if_pos (by omega)]
   simp; omega
  have e2 := congrArg (fun x => x.1) e1
  have e3 := congrArg (fun x => x.2) e1
  simp only at e2 e3
  have hne : ws ≠ [] := ne_of_len (by omega)
  have hs : spliceE (List.map wdv ws) (placeA ws a l.length).1.toNat (List.map wdv l) = List.map wdv (List.take (placeA ws a l.length).1.toNat ws ++ l ++ List.drop ((placeA ws a l.length).1.toNat + l.length) ws) := by simp [spliceE]
  rw [e7]
  exact gF [] Tryz.func70 [true] (Fh 27 [.els (List.map wdv (List.take (placeA ws a (↑l.length : Int)).fst.toNat ws ++ l ++ List.drop ((placeA ws a (↑l.length : Int)).fst.toNat + l.length) ws))] (Fl 15 wdv l (Fc 16 (@arenaPlace ws a ((↑l.length : Int)) ‹_› ‹_›) (Ffb 20 (!(placeA ws a (↑l.length : Int)).snd) (Fc 22 (@cloneWordsN ws ‹_› ‹_›) (Fa (by (simp only [List.length_map]; omega) : 0≤(placeA ws a (↑l.length : Int)).fst∧(placeA ws a (↑l.length : Int)).fst≤(↑(List.map wdv ws).length : Int)) (Fa (by (simp only [List.length_map]; omega) : (List.map wdv l).length≤(↑(List.map wdv ws).length : Int).toNat - (placeA ws a (↑l.length : Int)).fst.toNat) (Fa (by exact hs : spliceE (List.map wdv ws) (placeA ws a (↑l.length : Int)).fst.toNat (List.map wdv l) =List.map wdv (List.take (placeA ws a (↑l.length : Int)).fst.toNat ws ++ l ++ List.drop ((placeA ws a (↑l.length : Int)).fst.toNat + l.length) ws)) (Fa (by exact flat_wdv _ : FlatEls (List.map wdv (List.take (placeA ws a (↑l.length : Int)).fst.toNat ws ++ l ++ List.drop ((placeA ws a (↑l.length : Int)).fst.toNat + l.length) ws))) (Fa (by refine congrArg _ ?_; simp [spl, *] : List.map wdv (List.take (placeA ws a (↑l.length : Int)).fst.toNat ws ++ l ++ List.drop ((placeA ws a (↑l.length : Int)).fst.toNat + l.length) ws) =List.map wdv (spl ws (a - 4096).toNat l,0).fst) (Fr (0 : Int) Fz)))))))))))
 ·have e7 : writeA ws a l = ([],2) := by rw [writeA,if_neg h]
  have e3 : (placeA ws a (l.length : Int)).2 = false := by
   unfold placeA
   split
   ·simp; omega
   ·rfl
  rw [e7]
  exact gF [] Tryz.func70 [] (Fl 15 wdv l (Fc 16 (@arenaPlace ws a ((↑l.length : Int)) ‹_› ‹_›) (Ftb 20 (!(placeA ws a (↑l.length : Int)).snd) (Fnl Fz))))
theorem arenaStore (ws : List Int) (a v : Int) (hw : ws.length ≤ 1048576) (h0 : 0 ≤ a ∧ a ≤ 18446744073709551615) : GSpec Tryz.prog 62 [wordsV ws,u64 a,u64 v] false (.tu [wordsV (storeA ws a v).1,int (storeA ws a v).2]) [] := by
 exact gF [] Tryz.func62 [] (Fh 11 [.els (List.map wdv [v])] (Fr (List.map wdv [v]) (Fc 12 (@arenaWrite ws ([v]) a ‹_› (by simp [storeA, *]) ‹_› (by simp [storeA, *])) Fz)))
theorem objectChanged0 (h : Heap) (ws : List Int) (e : Int) (hp : h.pages.length ≤ 1048576) (he : e = 0) (hne : h.pages ≠ []) : GSpec Tryz.prog 63 [h.av,wordsV ws,int e] false (.tu [Heap.av ⟨h.conf,ws,h.pages,h.space,h.bump⟩,int 0]) [] := by
 exact gF [] Tryz.func63 [] (Ffb 9 (e != 0) (Fc 15 (@clonePages h.pages ‹_› ‹_›) Fz))
theorem objectSetField (h : Heap) (a i v : Int) (hw : WOk h.words) (hv : 0 ≤ v ∧ v ≤ 18446744073709551615) (h0 : 0 ≤ a ∧ a ≤ 18446744073709551615) : GSpec Tryz.prog 25 [h.av,u64 a,int i,u64 v] false (.tu [(setFieldH h a i v).1.av,int (setFieldH h a i v).2]) [] := by
 by_cases e : (fieldA h a i).2 = 0
 ·have k := fieldA_ok e
  have g := getH_ok k.1
  have po := proper_ok g.2.2.1
  obtain ⟨s1,s2,s3⟩ := setField_ok hw hv k.1 ⟨k.2.1,k.2.2.1⟩
  have kin := atH_in g.2.1
  rw [← g.1] at kin
  have e2 : (storeA h.words (a + 1 + i) v).2 = 0 := by
   unfold storeA writeA
   rw [if_pos (by simp; omega)]
  have hne : h.pages ≠ [] := ne_of_len (by omega)
  have e3 : (storeA h.words (fieldA h a i).1 v).2 = 0 := by rw [k.2.2.2]; exact e2
  have e4 : (storeA h.words (fieldA h a i).1 v).1 = (storeA h.words (a + 1 + i) v).1 := by rw [k.2.2.2]
  rw [s1,← e4]
  exact gF [] Tryz.func25 [] (Fc 17 (@objectFieldA h a i ‹_› ‹_›) (Ffb 21 ((fieldA h a i).snd != 0) (Fc 29 (@arenaStore h.words ((fieldA h a i).fst) v (by omega) (by omega)) (Fc 35 (@objectChanged0 h ((storeA h.words (fieldA h a i).fst v).fst) ((storeA h.words (fieldA h a i).fst v).snd) (by omega) ‹_› ‹_›) Fz))))
 ·have e2 : setFieldH h a i v = (noHeap,(fieldA h a i).2) := congrFun (fieldA_no e).2 v
  rw [e2]
  exact gF [] Tryz.func25 [] (Fc 17 (@objectFieldA h a i ‹_› ‹_›) (Ftb 21 ((fieldA h a i).snd != 0) (Fnl (Fnl Fz))))
def sam1L (a : List Int) (i : Nat) : Tg := ⟨tm 26 [(0,wordsV a),(1,wordsV a),(4,bool false),(5,int i)],[],60⟩
theorem sam1Round (a : List Int) (i : Nat) (ha : a.length ≤ 1048576) (hi : i < a.length) : CSpec Tryz.prog (rndF Tryz.f24 0) (sam1L a i).st .nrm (sam1L a (i + 1)).st := by
 exact sF [] [] (Fl 13 wdv a (Ftb 14 (decide ((↑i : Int) < (↑a.length : Int))) (Fek 19 wdv a (↑i) i (Fek 23 wdv a (↑i) i (Ff 25 (by simp only [bs, *,true_or,or_true,true_and,and_true,not_true_eq_false,not_false_eq_true,Bool.true_eq_false,Bool.false_eq_true] : (a.getD i default != a.getD i default)=false) (Fg 16 (by exact wrapI2 rfl (by omega) (by omega) : IntKind.i64.wrap ((↑i : Int) + 1) =(↑(i + 1) : Int)) Fz))))))
theorem sam1End (a : List Int) : CSpec Tryz.prog (rndF Tryz.f24 0) (sam1L a a.length).st (.ext 0) (Tg.st ⟨tm 26 [],[],60⟩) := by
 exact sF [] [] (Fl 13 wdv a (Ffb 14 (decide ((↑a.length : Int) < (↑a.length : Int))) Fz))
theorem sam1Loop (a : List Int) (ha : a.length ≤ 1048576) : CSpec Tryz.prog (blkF Tryz.f24 0) (Tg.st ⟨tm 26 [(0,wordsV a),(1,wordsV a),(4,bool false),(5,int 0)],[],60⟩) .nrm (Tg.st ⟨tm 26 [],[],60⟩) :=
 loop_ext_of (S := fun i => (sam1L a i).st) a.length (by kernel_rfl) (fun i hi => sam1Round a i ha hi) (sam1End a)
theorem ref1SameR (a : List Int) (ha : a.length ≤ 1048576) : GSpec Tryz.prog 24 [wordsV a,wordsV a] true (bool true) [] := by
 exact gF [] Tryz.func24 [] (Fl 7 wdv a (Fl 9 wdv a (Ff 10 (by simp only [bs, *,true_or,or_true,true_and,and_true,not_true_eq_false,not_false_eq_true,Bool.true_eq_false,Bool.false_eq_true] : ((↑a.length : Int) != (↑a.length : Int))=false) (Fu (@sam1Loop a ‹_›) Fz))))
theorem cloneNil (c : Nat) : GSpec Tryz.prog 95 [.d (.sc (.slice none 0 c))] true (wordsV []) [] := by
 exact gF [] Tryz.func95 [] (Fnl Fz)
theorem cloneSome (p : Addr) (c : Nat) : GSpec Tryz.prog 95 [.d (.sc (.slice (some p) 0 c))] true (wordsV []) [] := by
 exact gF [] Tryz.func95 [] (Fh 5 [.els (List.map wdv [])] (Fh 7 [.els (List.map wdv [])] (Fr (List.map wdv []) (Fa (by simp [*] : (List.map wdv []).length + ([] : List (List DV)).length≤2 ^ 30) (Fr (List.map wdv []) (Fa (by exact flat_wdv _ : FlatEls (List.map wdv [])) Fz))))))
theorem cloneWordsS (ws : List Int) (hw : ws.length ≤ 1048576) (hne : ws ≠ []) : GSpec Tryz.prog 95 [wordsV ws] true (wordsV ws) [] := by
 exact gF [] Tryz.func95 [] (Fh 5 [.els (List.map wdv [])] (Fh 7 [.els (List.map wdv ws)] (Fa (by exact map_ne hne : List.map wdv ws ≠ []) (Fr (List.map wdv []) (Fa (by (simp [*]; omega) : (List.map wdv []).length + (List.map wdv ws).length≤2 ^ 30) (Fr (List.map wdv ws) (Fa (by exact flat_wdv _ : FlatEls (List.map wdv ws)) Fz)))))))
theorem cloneWords (ws : List Int) (hw : ws.length ≤ 1048576) : GSpec Tryz.prog 95 [wordsV ws] true (wordsV ws) [] := by
 by_cases hne : ws = []
 ·subst hne
  exact gspec_empty fun p c => match p with | none => cloneNil c | some p => cloneSome p c
 ·exact cloneWordsS ws hw hne
theorem arenaRead (ws : List Int) (a n : Int) (hw : ws.length ≤ 1048576) (h0 : 0 ≤ a ∧ a ≤ 18446744073709551615) : GSpec Tryz.prog 60 [wordsV ws,u64 a,int n] false (.tu [wordsV (readA ws a n).1,int (readA ws a n).2]) [] := by
 rcases bb (decide (n < 0)) with hc0 | hc0<;>have hc0p:=hc0<;>simp only [bs] at hc0p
 ·exact gF [] Tryz.func60 [true] (Ft 11 hc0 (Fnl (Fa (by simp [readA, *] : [] =List.map wdv (readA ws a n).fst) (Fa (by simp [readA, *] : 1 =(readA ws a n).snd) Fz))))
 ·have Q0 {h c p} (r : Fq h c p) := Ff 11 hc0 (Fc 16 (@arenaPlace ws a n ‹_› ‹_›) r)
  rcases bb (!(placeA ws a n).snd) with hc9 | hc9<;>have hc9p:=hc9<;>simp only [bs] at hc9p
  ·have hf12 := placeA_no hc9p
   exact gF [] Tryz.func60 [true] (Q0 (Ft 20 hc9 (Fnl (Fa (by (simp only [readA]; (repeat' split) <;> first | rfl | omega | (exfalso; omega) | simp_all) : [] =List.map wdv (readA ws a n).fst) (Fa (by (simp only [readA]; (repeat' split) <;> first | rfl | omega | (exfalso; omega) | simp_all) : 2 =(readA ws a n).snd) Fz)))))
  ·have hf14 := placeA_ok hc9p
   obtain ⟨hf14a,⟨hf14ba,⟨hf14bba,hf14bbb⟩⟩⟩ := hf14
   exact gF [] Tryz.func60 [true] (Fh 26 [.els (List.map wdv (List.take (((placeA ws a n).fst + n).toNat - (placeA ws a n).fst.toNat) (List.drop (placeA ws a n).fst.toNat ws)))] (Q0 (Ff 20 hc9 (Fi 25 ((placeA ws a n).fst + n) (Fa (by (simp only [List.length_map]; omega) : 0≤(placeA ws a n).fst∧(placeA ws a n).fst≤(placeA ws a n).fst + n∧(placeA ws a n).fst + n≤(↑(List.map wdv ws).length : Int)) (Fa (by simp [readA,List.map_take,List.map_drop,List.map_set,List.map_append,wdv,idv] : List.take (((placeA ws a n).fst + n).toNat - (placeA ws a n).fst.toNat) (List.drop (placeA ws a n).fst.toNat (List.map wdv ws)) =List.map wdv (List.take (((placeA ws a n).fst + n).toNat - (placeA ws a n).fst.toNat) (List.drop (placeA ws a n).fst.toNat ws))) (Fc 27 (@cloneWords (List.take (((placeA ws a n).fst + n).toNat - (placeA ws a n).fst.toNat) (List.drop (placeA ws a n).fst.toNat ws)) (by (simp [readA, *]; omega))) (Fa (by refine congrArg _ ?_; (simp [readA, *]; omega) : List.map wdv (List.take (((placeA ws a n).fst + n).toNat - (placeA ws a n).fst.toNat) (List.drop (placeA ws a n).fst.toNat ws)) =List.map wdv (readA ws a n).fst) (Fa (by simp [readA, *] : 0 =(readA ws a n).snd) Fz)))))))))
theorem objectFields (h : Heap) (a : Int) (hw : WOk h.words) (h0 : 0 ≤ a ∧ a ≤ 18446744073709551615) : GSpec Tryz.prog 20 [h.av,u64 a] false (.tu [wordsV (fieldsH h a).1,int (fieldsH h a).2]) [] := by
 rcases bb ((getH h a).snd != 0) with hc0 | hc0<;>have hc0p:=hc0<;>simp only [bs] at hc0p
 ·exact gF [] Tryz.func20 [true] (Fc 11 (@objectGet h a ‹_› ‹_›) (Ft 15 hc0 (Fnl (Fa (by simp [fieldsH, *] : [] =List.map wdv (fieldsH h a).fst) (Fa (by simp [fieldsH, *] : (getH h a).snd =(fieldsH h a).snd) Fz)))))
 ·have hf5 := getH_ok hc0p
  obtain ⟨hf5a,⟨hf5ba,⟨hf5bba,⟨hf5bbba,⟨hf5bbbba,⟨hf5bbbbba,⟨hf5bbbbbba,⟨hf5bbbbbbba,⟨hf5bbbbbbbba,⟨hf5bbbbbbbbba,hf5bbbbbbbbbb⟩⟩⟩⟩⟩⟩⟩⟩⟩⟩ := hf5
  have hf11 := proper_ok hf5bba
  obtain ⟨hf11a,⟨hf11ba,⟨hf11bba,⟨hf11bbba,⟨hf11bbbba,⟨hf11bbbbba,⟨hf11bbbbbba,⟨hf11bbbbbbba,hf11bbbbbbbb⟩⟩⟩⟩⟩⟩⟩⟩ := hf11
  exact gF [] Tryz.func20 [true] (Fc 11 (@objectGet h a ‹_› ‹_›) (Ff 15 hc0 (Fv 20 (a + 1) (Fc 23 (@arenaRead h.words (a + 1) ((getH h a).fst.length) (by omega) (by omega)) (Fa (by refine congrArg _ ?_; simp [fieldsH, *] : List.map wdv (readA h.words (a + 1) (getH h a).fst.length).fst =List.map wdv (fieldsH h a).fst) (Fa (by simp [fieldsH, *] : (readA h.words (a + 1) (getH h a).fst.length).snd =(fieldsH h a).snd) Fz))))))
theorem objectExtent (h : Heap) (a : Int) (hw : WOk h.words) (h0 : 0 ≤ a ∧ a ≤ 18446744073709551615) : GSpec Tryz.prog 22 [h.av,u64 a] true (.tu [u64 (extentH h a).1,u64 (extentH h a).2.1,int (extentH h a).2.2]) [] := by
 rcases bb ((getH h a).snd != 0) with hc0 | hc0<;>have hc0p:=hc0<;>simp only [bs] at hc0p
 ·exact gF [] Tryz.func22 [true] (Fc 11 (@objectGet h a ‹_› ‹_›) (Ft 15 hc0 (Fa (by simp [extentH, *] : 0 =(extentH h a).fst) (Fa (by simp [extentH, *] : 0 =(extentH h a).snd.fst) (Fa (by simp [extentH, *] : (getH h a).snd =(extentH h a).snd.snd) Fz)))))
 ·have hf3 := getH_ok hc0p
  obtain ⟨hf3a,⟨hf3ba,⟨hf3bba,⟨hf3bbba,⟨hf3bbbba,⟨hf3bbbbba,⟨hf3bbbbbba,⟨hf3bbbbbbba,⟨hf3bbbbbbbba,⟨hf3bbbbbbbbba,hf3bbbbbbbbbb⟩⟩⟩⟩⟩⟩⟩⟩⟩⟩ := hf3
  exact gF [] Tryz.func22 [true] (Fc 11 (@objectGet h a ‹_› ‹_›) (Ff 15 hc0 (Fv 18 (a + 1) (Fv 20 (a + 1) (Fv 23 ((getH h a).fst.length) (Fv 24 (a + 1 + (getH h a).fst.length) (Fa (by simp [extentH, *] : a + 1 =(extentH h a).fst) (Fa (by simp [extentH, *] : a + 1 + (getH h a).fst.length =(extentH h a).snd.fst) (Fa (by simp [extentH, *] : 0 =(extentH h a).snd.snd) Fz)))))))))
def fldsL (l : List Heap) (a x : Int) (i : Nat) : Tg := ⟨tm 133 [(3,u64 a),(4,int x),(10,bool false),(34,.d (.sl 6 (l.map Heap.dvs))),(35,int l.length),(36,int i)],[],60⟩
def fldsI (l : List Heap) (a x : Int) (i : Nat) (h : Heap) (ns : List Int) (k : Nat) : Tg := ⟨tm 133 [(3,u64 a),(4,int x),(10,bool false),(12,.pt 488012 0 0),(34,.d (.sl 6 (l.map Heap.dvs))),(35,int l.length),(36,int i),(42,wordsV ns),(43,int ns.length),(44,int k)],[(488012,.box 27 h.cells)],64⟩
def fldsK (l : List Heap) (a x : Int) (i : Nat) (h : Heap) (ns : List Int) (k : Nat) (y : Int) (js : List Int) (j : Nat) : Tg := ⟨tm 133 [(3,u64 a),(4,int x),(10,bool false),(12,.pt 488012 0 0),(14,u64 y),(34,.d (.sl 6 (l.map Heap.dvs))),(35,int l.length),(36,int i),(42,wordsV ns),(43,int ns.length),(44,int k),(51,.ow 528051),(52,int 2),(53,int j)],[(528051,.arr 3 1 (js.map idv)),(488012,.box 27 h.cells)],68⟩
theorem fldsKRound (l : List Heap) (a x : Int) (i : Nat) (h : Heap) (ns : List Int) (k : Nat) (y : Int) (js : List Int) (j : Nat) (hh : HOk h) (hy : 0 ≤ y ∧ y ≤ 18446744073709551615) (hj : js.length = 2) (hk : j < 2) : CSpec Tryz.prog (rndF Tryz.f4 4) (fldsK l a x i h ns k y js j).st .nrm (fldsK l a x i h ns k y js (j + 1)).st := by
 have hw := hh.w
 exact sF [] [] (Fh 56 [.el (idv (js.getD (↑j : Int).toNat default))] (Ftb 54 (decide ((↑j : Int) < 2)) (Fa (by (simp only [List.length_map]; omega) : 0≤(↑j : Int)∧(↑j : Int).toNat < (List.map idv js).length) (Fa (by exact el_of (by omega) : (List.map idv js)[(↑j : Int).toNat]? = some (idv (js.getD (↑j : Int).toNat default))) (Fc 61 (@objectField h y (js.getD (↑j : Int).toNat default) ‹_› ‹_›) (Fc 68 (@ref5Field h y (js.getD (↑j : Int).toNat default) ‹_› ‹_›) (Ff 78 (by simp only [bs, *,true_or,or_true,true_and,and_true,not_true_eq_false,not_false_eq_true,Bool.true_eq_false,Bool.false_eq_true] : ((fieldH h y (js.getD (↑j : Int).toNat default)).fst != (fieldH h y (js.getD (↑j : Int).toNat default)).fst||(fieldH h y (js.getD (↑j : Int).toNat default)).snd != (fieldH h y (js.getD (↑j : Int).toNat default)).snd)=false) (Fg 79 (by exact wrapI2 rfl (by omega) (by omega) : IntKind.i64.wrap ((↑j : Int) + 1) =(↑(j + 1) : Int)) Fz))))))))
theorem fldsKEnd (l : List Heap) (a x : Int) (i : Nat) (h : Heap) (ns : List Int) (k : Nat) (y : Int) (js : List Int) : CSpec Tryz.prog (rndF Tryz.f4 4) (fldsK l a x i h ns k y js 2).st (.ext 4) (Tg.st ⟨tm 133 [(3,u64 a),(4,int x),(10,bool false),(12,.pt 488012 0 0),(14,u64 y),(34,.d (.sl 6 (l.map Heap.dvs))),(35,int l.length),(36,int i),(42,wordsV ns),(43,int ns.length),(44,int k)],[(488012,.box 27 h.cells)],68⟩) := by
 exact sE [] [] [] [] (trivial)
theorem fldsKLoop (l : List Heap) (a x : Int) (i : Nat) (h : Heap) (ns : List Int) (k : Nat) (y : Int) (js : List Int) (hh : HOk h) (hy : 0 ≤ y ∧ y ≤ 18446744073709551615) (hj : js.length = 2) : CSpec Tryz.prog (blkF Tryz.f4 4) (Tg.st ⟨tm 133 [(3,u64 a),(4,int x),(10,bool false),(12,.pt 488012 0 0),(14,u64 y),(34,.d (.sl 6 (l.map Heap.dvs))),(35,int l.length),(36,int i),(42,wordsV ns),(43,int ns.length),(44,int k),(51,.ow 528051),(52,int 2),(53,int 0)],[(528051,.arr 3 1 (js.map idv)),(488012,.box 27 h.cells)],68⟩) .nrm (Tg.st ⟨tm 133 [(3,u64 a),(4,int x),(10,bool false),(12,.pt 488012 0 0),(14,u64 y),(34,.d (.sl 6 (l.map Heap.dvs))),(35,int l.length),(36,int i),(42,wordsV ns),(43,int ns.length),(44,int k)],[(488012,.box 27 h.cells)],68⟩) :=
 loop_ext_of (S := fun j => (fldsK l a x i h ns k y js j).st) 2 (by kernel_rfl) (fun j hj' => fldsKRound l a x i h ns k y js j hh hy hj hj') (fldsKEnd l a x i h ns k y js)
theorem fldsIRound (l : List Heap) (a x : Int) (i : Nat) (h : Heap) (ns : List Int) (k : Nat) (hh : HOk h) (hn : ns.length ≤ 5) (hr : 0 ≤ ns.getD k default ∧ ns.getD k default ≤ 18446744073709551615) (hk : k < ns.length) : CSpec Tryz.prog (rndF Tryz.f4 2) (fldsI l a x i h ns k).st .nrm (fldsI l a x i h ns (k + 1)).st := by
 have hw := hh.w
 have hl1 := hh.wl
 have hl2 := hh.pl
 have hs := fieldsH_len h (ns.getD k default)
 exact sF [] [] (Fh 51 [.els (List.map idv [x,bits BinOp.and IntKind.i64 x 7])] (Fh 52 [.int (↑(0 + 1 + 1) : Int)] (Fh 112 [.call true (Sx.bool true) []] (Ftb 45 (decide ((↑k : Int) < (↑ns.length : Int))) (Fek 46 wdv ns (↑k) k (Fr (List.map idv [x,bits BinOp.and IntKind.i64 x 7]) (Fr (↑(List.map idv [x,bits BinOp.and IntKind.i64 x (7 : Int)]).length : Int) (Fu (@fldsKLoop l a x i h ns k (ns.getD k default) ([x,bits BinOp.and IntKind.i64 x 7]) ‹_› ‹_› (by rfl)) (Fc 83 (@objectFields h (ns.getD k default) ‹_› ‹_›) (Fc 89 (@ref5Fields h (ns.getD k default) ‹_› ‹_›) (Fc 95 (@objectExtent h (ns.getD k default) ‹_› ‹_›) (Fc 102 (@ref5Extent h (ns.getD k default) ‹_› ‹_›) (Fa ((fun hg => by (try simp only [bs] at hg); exact @ref1SameR ((fieldsH h (ns.getD k default)).fst) (by (try simp only [bs] at hg); omega)) : (!(fieldsH h (ns.getD k default)).snd != (fieldsH h (ns.getD k default)).snd) =true→GSpec Tryz.prog 24 [wordsV (fieldsH h (ns.getD k default)).fst,wordsV (fieldsH h (ns.getD k default)).fst] true (Sx.bool true) []) (Ff 129 (by simp only [bs, *,true_or,or_true,true_and,and_true,not_true_eq_false,not_false_eq_true,Bool.true_eq_false,Bool.false_eq_true] : ((fieldsH h (ns.getD k default)).snd != (fieldsH h (ns.getD k default)).snd||false||(extentH h (ns.getD k default)).fst != (extentH h (ns.getD k default)).fst||(extentH h (ns.getD k default)).snd.fst != (extentH h (ns.getD k default)).snd.fst||(extentH h (ns.getD k default)).snd.snd != (extentH h (ns.getD k default)).snd.snd)=false) (Fg 130 (by exact wrapI2 rfl (by omega) (by omega) : IntKind.i64.wrap ((↑k : Int) + 1) =(↑(k + 1) : Int)) Fz)))))))))))))))
theorem fldsIEnd (l : List Heap) (a x : Int) (i : Nat) (h : Heap) (ns : List Int) : CSpec Tryz.prog (rndF Tryz.f4 2) (fldsI l a x i h ns ns.length).st (.ext 2) (Tg.st ⟨tm 133 [(3,u64 a),(4,int x),(10,bool false),(34,.d (.sl 6 (l.map Heap.dvs))),(35,int l.length),(36,int i)],[],64⟩) := by
 exact sF [] [] (Ffb 45 (decide ((↑ns.length : Int) < (↑ns.length : Int))) Fz)
theorem fldsILoop (l : List Heap) (a x : Int) (i : Nat) (h : Heap) (ns : List Int) (hh : HOk h) (hn : ns.length ≤ 5) (hr : ULe ns) : CSpec Tryz.prog (blkF Tryz.f4 2) (Tg.st ⟨tm 133 [(3,u64 a),(4,int x),(10,bool false),(12,.pt 488012 0 0),(34,.d (.sl 6 (l.map Heap.dvs))),(35,int l.length),(36,int i),(42,wordsV ns),(43,int ns.length),(44,int 0)],[(488012,.box 27 h.cells)],64⟩) .nrm (Tg.st ⟨tm 133 [(3,u64 a),(4,int x),(10,bool false),(34,.d (.sl 6 (l.map Heap.dvs))),(35,int l.length),(36,int i)],[],64⟩) :=
 loop_ext_of (S := fun k => (fldsI l a x i h ns k).st) ns.length (by kernel_rfl) (fun k hk => fldsIRound l a x i h ns k hh hn (getD_mem hr k) hk) (fldsIEnd l a x i h ns)
theorem fldsRound (l : List Heap) (a x : Int) (i : Nat) (hh : HOk (l.getD i default)) (hl : l.length ≤ 3) (h0 : 0 ≤ a ∧ a ≤ 18446744073709551615) (hi : i < l.length) : CSpec Tryz.prog (rndF Tryz.f4 0) (fldsL l a x i).st .nrm (fldsL l a x (i + 1)).st := by
 have hw := hh.w
 have hn := nearF_ok (l.getD i default) h0
 have hn1 := hn.1
 have hn2 := hn.2
 exact sF [] [] (Fh 38 [.el (l.getD i default).dvs] (Ftb 37 (decide ((↑i : Int) < (↑l.length : Int))) (Fa (by exact elI (by omega) (by omega) (by omega) : 0≤(↑i : Int)∧(List.map Heap.dvs l)[(↑i : Int).toNat]? = some (l.getD i default).dvs) (Fc 42 (@law5near (l.getD i default) a ‹_› ‹_›) (Fl 43 wdv (nearF (l.getD i default) a) (Fu (@fldsILoop l a x i (l.getD i default) (nearF (l.getD i default) a) ‹_› ‹_› ‹_›) (Fg 131 (by exact wrapI2 rfl (by omega) (by omega) : IntKind.i64.wrap ((↑i : Int) + 1) =(↑(i + 1) : Int)) Fz)))))))
theorem fldsEnd (l : List Heap) (a x : Int) : CSpec Tryz.prog (rndF Tryz.f4 0) (fldsL l a x l.length).st (.ext 0) (Tg.st ⟨tm 133 [(10,bool false)],[],60⟩) := by
 exact sF [] [] (Ffb 37 (decide ((↑l.length : Int) < (↑l.length : Int))) Fz)
theorem fldsLoop (l : List Heap) (a x : Int) (hh : ∀ h ∈ l,HOk h) (hl : l.length ≤ 3) (h0 : 0 ≤ a ∧ a ≤ 18446744073709551615) : CSpec Tryz.prog (blkF Tryz.f4 0) (Tg.st ⟨tm 133 [(3,u64 a),(4,int x),(10,bool false),(34,.d (.sl 6 (l.map Heap.dvs))),(35,int l.length),(36,int 0)],[],60⟩) .nrm (Tg.st ⟨tm 133 [(10,bool false)],[],60⟩) :=
 loop_ext_of (S := fun i => (fldsL l a x i).st) l.length (by kernel_rfl) (fun i hi => fldsRound l a x i (hh _ (by rw [List.getD_eq_getElem?_getD,List.getElem?_eq_getElem hi]; exact List.getElem_mem hi)) hl h0 hi) (fldsEnd l a x)
theorem objFields (raw : Heap) (tape odd : List Int) (a i : Int) (hw : WOk raw.words) (h1 : tape.length ≤ 140737488355328) (h2 : odd.length ≤ 140737488355328) (h0 : 0 ≤ a ∧ a ≤ 18446744073709551615) : GSpec Tryz.prog 4 [raw.av,intsV tape,intsV odd,u64 a,int i] true (bool true) [] := by
 obtain ⟨k1,k2⟩ := heapsF_ok raw tape odd hw
 exact gF [] Tryz.func4 [] (Fc 34 (@law5heaps raw tape odd ‹_› ‹_›) (Fl 35 Heap.dvs (heapsF raw tape odd) (Fu (@fldsLoop (heapsF raw tape odd) a i ‹_› ‹_› ‹_›) (Fc 132 (@law5awake) Fz))))
end Go.Proofs.YtpklpkmnhgedbaaGreat
namespace Go.Proofs.YtpklpkmnhgedbaaGreat
open Go.Sx Go.RowKit
theorem objectFields_lifted (os : Os) (started : os.Started) (H : Type) (enc : TypeId × Value → H) :
  ReturnsInHanded {} Tryz.checked os 4 .any (Rows.objectFieldsSpec.pre6 enc Tryz.prog Tryz.f4 Rows.objectFieldsRow.domain false) (Rows.objectFieldsSpec.post enc Tryz.prog Tryz.f4 false true false false) := by
 refine law_of_gspec (C := Tryz.checked) (tb := 4) 5 own0 started (by kernel_rfl) Tryz.func4
  (ChangeSpec.witness6 (enc := enc) (C := Tryz.checked) false ⟨#[],#[.agg #[.int .i64 0,.int .i64 0,.slice none 0 0,.slice none 0 0,.int .i64 0,.int .i64 0],.slice none 0 0,.slice none 0 0,.int .u64 0,.int .i64 0],[]⟩ 8 (by kernel_rfl) (by kernel_rfl) (by kernel_rfl) (by kernel_rfl))
  laidOut0 (by kernel_rfl) (by kernel_rfl) (by kernel_rfl) (by kernel_rfl) rfl (fun ds hd => ?_) (fun ls hl h => ?_)
 ·match ds,hd with
  | [a,b,c,d,p],_ => rfl
 ·match ls,hl with
  | [a,b,c,d,p],_ =>
   obtain ⟨x,rfl,hx⟩ := shp_heap (n := 1) (h 0 27 a (by kernel_rfl) rfl)
   obtain ⟨tape,rfl,ht⟩ := shp_ints (n := 3) (h 1 28 b (by kernel_rfl) rfl)
   obtain ⟨odd,rfl,ho⟩ := shp_ints (n := 3) (h 2 28 c (by kernel_rfl) rfl)
   obtain ⟨y,rfl,hy⟩ := shp_u64 (n := 4) (h 3 29 d (by kernel_rfl) rfl)
   obtain ⟨z,rfl,_⟩ := shp_int (n := 4) (h 4 3 p (by kernel_rfl) rfl)
   have e : zipAv Tryz.prog Tryz.f4.params.toList [heapD x,[.sl 1 (tape.map idv)],[.sl 1 (odd.map idv)],[du64 y],[dint z]] = [x.av,intsV tape,intsV odd,u64 y,int z] := by kernel_rfl
   exact ⟨true,e ▸ objFields x tape odd y z hx ht ho (range_u64 hy)⟩
theorem objectFields_holds : Rows.ObjectFieldsSaid :=
 OpenClaim.holds_of_wide 4 Tryz.f4 rfl rfl rfl rfl rfl rfl rfl ⟨rfl,rfl,rfl,rfl,rfl⟩ rfl rfl rfl rfl rfl (by kernel_rfl) Tryz.func4 (by kernel_rfl)
  (of_decide_eq_true (by kernel_rfl)) (by unfold Func.isWrapper; first | (rw [if_pos (by decide +kernel)]; kernel_rfl) | (rw [if_neg (by decide +kernel)]; exact ⟨rfl,rfl⟩))
  (fun os started H enc _ => objectFields_lifted os started H enc)
end Go.Proofs.YtpklpkmnhgedbaaGreat
