/-
 ObjectGets: the statement returns true, whatever the arguments.
 Conditions: none.
-/
import Derived.Test.YtpklpkmnhgedbaaGreatM11
set_option maxRecDepth 100000
set_option linter.all false
namespace Go.Proofs.YtpklpkmnhgedbaaGreat
open Go.Sx
structure HOk (h : Heap) : Prop where
 w : WOk h.words
 wl : h.words.length ≤ 1048576
 pl : h.pages.length ≤ 1048576
def getsL (l : List Heap) (a : Int) (i : Nat) : Tg := ⟨tm 83 [(3,u64 a),(8,bool false),(24,.d (.sl 6 (l.map Heap.dvs))),(25,int l.length),(26,int i)],[],60⟩
def getsI (l : List Heap) (a : Int) (i : Nat) (h : Heap) (ns : List Int) (k : Nat) : Tg := ⟨tm 83 [(3,u64 a),(8,bool false),(10,.pt 488010 0 0),(24,.d (.sl 6 (l.map Heap.dvs))),(25,int l.length),(26,int i),(32,wordsV ns),(33,int ns.length),(34,int k)],[(488010,.box 27 h.cells)],64⟩
theorem getsIRound (l : List Heap) (a : Int) (i : Nat) (h : Heap) (ns : List Int) (k : Nat) (hh : HOk h) (hn : ns.length ≤ 5) (hr : 0 ≤ ns.getD k default ∧ ns.getD k default ≤ 18446744073709551615) (hk : k < ns.length) : CSpec Tryz.prog (rndF Tryz.f3 2) (getsI l a i h ns k).st .nrm (getsI l a i h ns (k + 1)).st := by
 have hw := hh.w
 exact sE [bT 35,(36,[.el (wdv (ns.getD k default))]),(41,[.call true (AV.tu [(atH h (ns.getD k default)).fst.av,int (atH h (ns.getD k default)).snd]) []]),(47,[.call true (AV.tu [(atH h (ns.getD k default)).fst.av,int (atH h (ns.getD k default)).snd]) []]),(53,[.call true (AV.tu [(getH h (ns.getD k default)).fst.av,int (getH h (ns.getD k default)).snd]) []]),(59,[.call true (AV.tu [(getH h (ns.getD k default)).fst.av,int (getH h (ns.getD k default)).snd]) []]),bF 79,(80,[.int (↑(k + 1) : Int)])] [] [] [] (an (bo (decide ((↑k : Int) < (↑ns.length : Int))=true)) (an tt (an (eI (0≤(↑k : Int)∧(List.map wdv ns)[(↑k : Int).toNat]? = some (wdv (ns.getD k default)))) (an (@objectAt h (ns.getD k default) ‹_› ‹_›) (an (@ref5At h (ns.getD k default) ‹_› ‹_›) (an (@objectGet h (ns.getD k default) ‹_› ‹_›) (an (@ref5Get h (ns.getD k default) ‹_› ‹_›) (an (by simp only [bs, *,true_or,or_true,true_and,and_true,not_true_eq_false,not_false_eq_true,Bool.true_eq_false,Bool.false_eq_true] : (!((atH h (ns.getD k default)).fst.kind == (atH h (ns.getD k default)).fst.kind&&((atH h (ns.getD k default)).fst.length == (atH h (ns.getD k default)).fst.length&&(atH h (ns.getD k default)).fst.map == (atH h (ns.getD k default)).fst.map))||(atH h (ns.getD k default)).snd != (atH h (ns.getD k default)).snd||!((getH h (ns.getD k default)).fst.kind == (getH h (ns.getD k default)).fst.kind&&((getH h (ns.getD k default)).fst.length == (getH h (ns.getD k default)).fst.length&&(getH h (ns.getD k default)).fst.map == (getH h (ns.getD k default)).fst.map))||(getH h (ns.getD k default)).snd != (getH h (ns.getD k default)).snd) = false) (an (rf false) (wI (IntKind.i64.wrap ((↑k : Int) + 1) = (↑(k + 1) : Int))))))))))))
theorem getsIEnd (l : List Heap) (a : Int) (i : Nat) (h : Heap) (ns : List Int) : CSpec Tryz.prog (rndF Tryz.f3 2) (getsI l a i h ns ns.length).st (.ext 2) (Tg.st ⟨tm 83 [(3,u64 a),(8,bool false),(24,.d (.sl 6 (l.map Heap.dvs))),(25,int l.length),(26,int i)],[],64⟩) := by
 exact sE [bF 35] [] [] [] (an (bo (decide ((↑ns.length : Int) < (↑ns.length : Int)) = false)) (rf false))
theorem getsILoop (l : List Heap) (a : Int) (i : Nat) (h : Heap) (ns : List Int) (hh : HOk h) (hn : ns.length ≤ 5) (hr : ULe ns) : CSpec Tryz.prog (blkF Tryz.f3 2) (Tg.st ⟨tm 83 [(3,u64 a),(8,bool false),(10,.pt 488010 0 0),(24,.d (.sl 6 (l.map Heap.dvs))),(25,int l.length),(26,int i),(32,wordsV ns),(33,int ns.length),(34,int 0)],[(488010,.box 27 h.cells)],64⟩) .nrm (Tg.st ⟨tm 83 [(3,u64 a),(8,bool false),(24,.d (.sl 6 (l.map Heap.dvs))),(25,int l.length),(26,int i)],[],64⟩) :=
 loop_ext_of (S := fun k => (getsI l a i h ns k).st) ns.length (by kernel_rfl) (fun k hk => getsIRound l a i h ns k hh hn (getD_mem hr k) hk) (getsIEnd l a i h ns)
theorem nearF_ok (h : Heap) {a : Int} (h0 : 0 ≤ a ∧ a ≤ 18446744073709551615) : (nearF h a).length ≤ 5 ∧ ULe (nearF h a) := by
 unfold nearF
 split
 ·rename_i hc
  have hm1 := Int.emod_nonneg a (b := ((startsW h).1.length : Int)) (by omega)
  have hm2 := Int.emod_lt_of_pos a (b := ((startsW h).1.length : Int)) (by omega)
  have hr := startsW_range h _ (getD_mem_iff.2 ⟨(a % ((startsW h).1.length : Int)).toNat,by omega,rfl⟩)
  refine ⟨by simp,fun x hx => ?_⟩
  simp only [List.cons_append,List.nil_append,List.mem_cons,List.not_mem_nil,or_false] at hx
  omega
 ·refine ⟨by simp,fun x hx => ?_⟩
  simp only [List.append_nil,List.mem_cons,List.not_mem_nil,or_false] at hx
  omega
theorem getsRound (l : List Heap) (a : Int) (i : Nat) (hh : HOk (l.getD i default)) (hl : l.length ≤ 3) (h0 : 0 ≤ a ∧ a ≤ 18446744073709551615) (hi : i < l.length) : CSpec Tryz.prog (rndF Tryz.f3 0) (getsL l a i).st .nrm (getsL l a (i + 1)).st := by
 have hw := hh.w
 have hn := nearF_ok (l.getD i default) h0
 have hn1 := hn.1
 have hn2 := hn.2
 exact sE [bT 27,(28,[.el (l.getD i default).dvs]),(32,[.call true (wordsV (nearF (l.getD i default) a)) []]),(33,[.int (↑(nearF (l.getD i default) a).length : Int)]),(81,[.int (↑(i + 1) : Int)])] [cutOf (@getsILoop l a i (l.getD i default) (nearF (l.getD i default) a) ‹_› ‹_› ‹_›)] [] [] (an (bo (decide ((↑i : Int) < (↑l.length : Int))=true)) (an tt (an (eI (0≤(↑i : Int)∧(List.map Heap.dvs l)[(↑i : Int).toNat]? = some (l.getD i default).dvs)) (an (@law5near (l.getD i default) a ‹_› ‹_›) (an (lm ((↑(List.map wdv (nearF (l.getD i default) a)).length : Int) = (↑(nearF (l.getD i default) a).length : Int))) (an (@getsILoop l a i (l.getD i default) (nearF (l.getD i default) a) ‹_› ‹_› ‹_›) (wI (IntKind.i64.wrap ((↑i : Int) + 1) = (↑(i + 1) : Int)))))))))
theorem getsEnd (l : List Heap) (a : Int) : CSpec Tryz.prog (rndF Tryz.f3 0) (getsL l a l.length).st (.ext 0) (Tg.st ⟨tm 83 [(8,bool false)],[],60⟩) := by
 exact sE [bF 27] [] [] [] (an (bo (decide ((↑l.length : Int) < (↑l.length : Int)) = false)) (rf false))
theorem getsLoop (l : List Heap) (a : Int) (hh : ∀ h ∈ l,HOk h) (hl : l.length ≤ 3) (h0 : 0 ≤ a ∧ a ≤ 18446744073709551615) : CSpec Tryz.prog (blkF Tryz.f3 0) (Tg.st ⟨tm 83 [(3,u64 a),(8,bool false),(24,.d (.sl 6 (l.map Heap.dvs))),(25,int l.length),(26,int 0)],[],60⟩) .nrm (Tg.st ⟨tm 83 [(8,bool false)],[],60⟩) :=
 loop_ext_of (S := fun i => (getsL l a i).st) l.length (by kernel_rfl) (fun i hi => getsRound l a i (hh _ (by rw [List.getD_eq_getElem?_getD,List.getElem?_eq_getElem hi]; exact List.getElem_mem hi)) hl h0 hi) (getsEnd l a)
theorem wrapU_range (n : Int) : 0 ≤ IntKind.u64.wrap n ∧ IntKind.u64.wrap n ≤ 18446744073709551615 := by
 unfold IntKind.wrap
 simp only [IntKind.signed,IntKind.bits,Bool.false_and,Bool.false_eq_true,if_false]
 omega
theorem spV_range {w : WorldM} (hw : WOk w.heap.words) (t : Tape) (d : Int) : 0 ≤ spV w t d ∧ spV w t d ≤ 18446744073709551615 := by
 unfold spV
 split
 ·have h : ∀ x ∈ spList,0 ≤ x ∧ x ≤ 18446744073709551615 := by
   intro x hx
   simp only [spList,List.mem_cons,List.not_mem_nil,or_false] at hx
   omega
  exact getD_mem h _
 ·exact wrapU_range _
theorem spoil_ok {w : WorldM} (hm : MOk w 1000) (t : Tape) : HOk (w.spoil t).heap := by
 have a1 := area hm.hv
 have a2 := validB_iff.1 hm.hv
 have a3 := hm.L
 have a4 := hm.pl
 unfold WorldM.spoil spH
 simp only
 split
 ·refine ⟨fun x hx => ?_,by simp only [List.length_set]; omega,by simp only; omega⟩
  rcases List.mem_or_eq_of_mem_set hx with hx | rfl
  ·exact hm.words x hx
  ·exact spV_range hm.words _ _
 ·split
  ·exact ⟨hm.words,by simp only; omega,by simp only [List.length_set]; omega⟩
  ·split
   ·exact ⟨hm.words,by simp only; omega,by simp only; omega⟩
   ·split
    ·exact ⟨hm.words,by simp only; omega,by simp only; omega⟩
    ·split
     ·exact ⟨hm.words,by simp only; omega,by simp only; omega⟩
     ·split
      ·exact ⟨hm.words,by simp only; omega,by simp only [List.length_drop]; omega⟩
      ·exact ⟨hm.words,by simp only; omega,by simp only [List.length_map]; omega⟩
theorem heapsF_ok (raw : Heap) (tape odd : List Int) (hw : WOk raw.words) : (heapsF raw tape odd).length ≤ 3 ∧ ∀ h ∈ heapsF raw tape odd,HOk h := by
 have hm := makeF_ok tape
 have a1 := area hm.hv
 have a2 := validB_iff.1 hm.hv
 have a3 := hm.L
 have a4 := hm.pl
 have h1 : HOk (makeF tape).heap := ⟨hm.words,by omega,by omega⟩
 have h2 := spoil_ok hm ⟨odd,0⟩
 unfold heapsF
 split
 ·rename_i hc
  simp only [lightB,decide_eq_true_eq] at hc
  refine ⟨by simp,fun h hh => ?_⟩
  simp only [List.cons_append,List.nil_append,List.mem_cons,List.not_mem_nil,or_false] at hh
  rcases hh with rfl | rfl | rfl
  ·exact h1
  ·exact h2
  ·exact ⟨hw,by omega,by omega⟩
 ·refine ⟨by simp,fun h hh => ?_⟩
  simp only [List.append_nil,List.mem_cons,List.not_mem_nil,or_false] at hh
  rcases hh with rfl | rfl
  ·exact h1
  ·exact h2
theorem objGets (raw : Heap) (tape odd : List Int) (a : Int) (hw : WOk raw.words) (h1 : tape.length ≤ 140737488355328) (h2 : odd.length ≤ 140737488355328) (h0 : 0 ≤ a ∧ a ≤ 18446744073709551615) : GSpec Tryz.prog 3 [raw.av,intsV tape,intsV odd,u64 a] true (bool true) [] := by
 obtain ⟨k1,k2⟩ := heapsF_ok raw tape odd hw
 exact gE [(24,[.call false (AV.d (DV.sl 6 (List.map Heap.dvs (heapsF raw tape odd)))) []]),(25,[.int (↑(heapsF raw tape odd).length : Int)]),(82,[.call true (Sx.bool true) []])] [cutOf (@getsLoop (heapsF raw tape odd) a ‹_› ‹_› ‹_›)] [] Tryz.func3 [] (an (@law5heaps raw tape odd ‹_› ‹_›) (an (lm ((↑(List.map Heap.dvs (heapsF raw tape odd)).length : Int) = (↑(heapsF raw tape odd).length : Int))) (an (@getsLoop (heapsF raw tape odd) a ‹_› ‹_› ‹_›) (@law5awake))))
end Go.Proofs.YtpklpkmnhgedbaaGreat
namespace Go.Proofs.YtpklpkmnhgedbaaGreat
open Go.Sx Go.RowKit
theorem objectGets_lifted (os : Os) (started : os.Started) (H : Type) (enc : TypeId × Value → H) :
  ReturnsInHanded {} Tryz.checked os 3 .any (Rows.objectGetsSpec.pre6 enc Tryz.prog Tryz.f3 Rows.objectGetsRow.domain false) (Rows.objectGetsSpec.post enc Tryz.prog Tryz.f3 false true false false) := by
 refine law_of_gspec (C := Tryz.checked) (tb := 4) 5 own0 started (by kernel_rfl) Tryz.func3
  (ChangeSpec.witness6 (enc := enc) (C := Tryz.checked) false ⟨#[],#[.agg #[.int .i64 0,.int .i64 0,.slice none 0 0,.slice none 0 0,.int .i64 0,.int .i64 0],.slice none 0 0,.slice none 0 0,.int .u64 0],[]⟩ 8 (by kernel_rfl) (by kernel_rfl) (by kernel_rfl) (by kernel_rfl))
  laidOut0 (by kernel_rfl) (by kernel_rfl) (by kernel_rfl) (by kernel_rfl) rfl (fun ds hd => ?_) (fun ls hl h => ?_)
 ·match ds,hd with
  | [a,b,c,d],_ => rfl
 ·match ls,hl with
  | [a,b,c,d],_ =>
   obtain ⟨x,rfl,hx⟩ := shp_heap (n := 1) (h 0 27 a (by kernel_rfl) rfl)
   obtain ⟨tape,rfl,ht⟩ := shp_ints (n := 3) (h 1 28 b (by kernel_rfl) rfl)
   obtain ⟨odd,rfl,ho⟩ := shp_ints (n := 3) (h 2 28 c (by kernel_rfl) rfl)
   obtain ⟨y,rfl,hy⟩ := shp_u64 (n := 4) (h 3 29 d (by kernel_rfl) rfl)
   have e : zipAv Tryz.prog Tryz.f3.params.toList [heapD x,[.sl 1 (tape.map idv)],[.sl 1 (odd.map idv)],[du64 y]] = [x.av,intsV tape,intsV odd,u64 y] := by kernel_rfl
   exact ⟨true,e ▸ objGets x tape odd y hx ht ho (range_u64 hy)⟩
theorem objectGets_holds : Rows.ObjectGetsSaid :=
 OpenClaim.holds_of_wide 3 Tryz.f3 rfl rfl rfl rfl rfl rfl rfl ⟨rfl,rfl,rfl,rfl,rfl⟩ rfl rfl rfl rfl rfl (by kernel_rfl) Tryz.func3 (by kernel_rfl)
  (of_decide_eq_true (by kernel_rfl)) (by unfold Func.isWrapper; first | (rw [if_pos (by decide +kernel)]; kernel_rfl) | (rw [if_neg (by decide +kernel)]; exact ⟨rfl,rfl⟩))
  (fun os started H enc _ => objectGets_lifted os started H enc)
end Go.Proofs.YtpklpkmnhgedbaaGreat
