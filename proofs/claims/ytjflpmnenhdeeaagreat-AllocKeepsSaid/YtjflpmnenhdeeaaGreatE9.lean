/-
 The statement AllocKeeps: part 9.
 Conditions: none.
-/
import Derived.Test.YtjflpmnenhdeeaaGreatE8
set_option maxRecDepth 100000
set_option maxHeartbeats 2000000
set_option linter.all false
namespace Go.Proofs.YtjflpmnenhdeeaaGreat
open Go.Sx
theorem Z4D {l : List Int} (h : ULe l) (i : Nat) : 0 ≤ l.getD i default ∧ l.getD i default ≤ 18446744073709551615 := by
 rw [List.getD_eq_getElem?_getD]
 cases e : l[i]? with
 | none => simp
 | some x => exact h x (List.mem_of_getElem? e)
theorem ZjB {w : WorldM} (hw : WMok w) : ULe w.refs := by
 intro x hx
 simp only [WorldM.refs,List.mem_cons,List.mem_append] at hx
 rcases hx with rfl | hx | hx
 ·omega
 ·exact hw.strong x hx
 ·exact hw.weak x hx
theorem Z2z {w : WorldM} (hw : WMok w) (t : Tape) : 0 ≤ w.pick t ∧ w.pick t ≤ 18446744073709551615 := Z4D (ZjB hw) _
theorem Z9P (w : WorldM) (t : Tape) : t.at' ≤ (w.pickT t).at' ∧ (w.pickT t).at' ≤ t.at' + 1 ∧ (w.pickT t).l = t.l := Z3o _
def Z1G (w : WorldM) (t : Tape) : Int := ((w.pickT (w.pickT t)).next 8).tmod (getH w.heap (w.pick t)).1.length
def Z1K (w : WorldM) (t : Tape) : Int := if Z0n (getH w.heap (w.pick t)).1 (Z1G w t) = true then w.pick (w.pickT t) else ((w.pickT (w.pickT t)).step 8).next 1048576
def WorldM.link (w : WorldM) (t : Tape) : WorldM := if (getH w.heap (w.pick t)).2 = 0 ∧ (getH w.heap (w.pick t)).1.length ≠ 0 then ⟨(Z0c w.heap (w.pick t) (Z1G w t) (Z1K w t)).1,w.strong,w.weak⟩ else w
def WorldM.linkT (w : WorldM) (t : Tape) : Tape := if (getH w.heap (w.pick t)).2 = 0 ∧ (getH w.heap (w.pick t)).1.length ≠ 0 ∧ Z0n (getH w.heap (w.pick t)).1 (Z1G w t) = false then ((w.pickT (w.pickT t)).step 8).step 1048576 else (w.pickT (w.pickT t)).step 8
theorem Z7b (w : WorldM) (t : Tape) (hw : WMok w) (ht : TOk t) (ha : t.at' ≤ 1000000) : LentSpec Tryz.prog 64 [w.av,.pt 0 0 0] [t.b] (w.link t).av [(w.linkT t).b] := by
 have h0 := hw.words
 have s1 := Z9P w t
 have s2 := Z9P w (w.pickT t)
 have s3 := Z3o (t := w.pickT (w.pickT t)) 8
 have k1 := Z4c ht s1.2.2 (by omega) (by omega)
 have k2 := Z4c k1 s2.2.2 (by omega) (by omega)
 have k3 := Z4c k2 s3.2.2 (by omega) (by omega)
 have p1 := Z2z hw t
 have p2 := Z2z hw (w.pickT t)
 have n1 := Z0A (w.pickT (w.pickT t)) (n := 8) (by decide)
 have n2 := Z0A ((w.pickT (w.pickT t)).step 8) (n := 1048576) (by decide)
 have m1 := Z9s hw.words (w.pick t)
 have Q0 {h_ c_ p_} (r_ : Fq h_ c_ p_) := Fp 12 (@Z1V w t ‹_› ‹_› (by omega)) (Fp 15 (@Z1V w (w.pickT t) ‹_› ‹_› (by omega)) (Fp 17 (@Z0z (w.pickT (w.pickT t)) (8) ‹_› (by omega) (by omega)) (Fc 22 (@Z2U w.heap (w.pick t) ‹_› ‹_›) r_)))
 rcases bb ((getH w.heap (w.pick t)).snd != 0 || (getH w.heap (w.pick t)).fst.length == 0) with hc0 | hc0<;>have hc0p:=hc0<;>simp only [bs] at hc0p
 ·exact lF Tryz.func64 [false,false,false,true,true] (Q0 (Ft 31 hc0 (Fa (by (simp only [WorldM.link,WorldM.linkT,Z1G,Z1K]; (repeat' split) <;> first | rfl | omega | (exfalso; omega) | simp_all) : w.heap.conf.pw =(w.link t).heap.conf.pw) (Fa (by (simp only [WorldM.link,WorldM.linkT,Z1G,Z1K]; (repeat' split) <;> first | rfl | omega | (exfalso; omega) | simp_all) : w.heap.conf.pg =(w.link t).heap.conf.pg) (Fa (by refine congrArg _ ?_; (simp only [WorldM.link,WorldM.linkT,Z1G,Z1K]; (repeat' split) <;> first | rfl | omega | (exfalso; omega) | simp_all) : List.map wdv w.heap.words =List.map wdv (w.link t).heap.words) (Fa (by refine congrArg _ ?_; (simp only [WorldM.link,WorldM.linkT,Z1G,Z1K]; (repeat' split) <;> first | rfl | omega | (exfalso; omega) | simp_all) : List.map Page.dv w.heap.pages =List.map Page.dv (w.link t).heap.pages) (Fa (by (simp only [WorldM.link,WorldM.linkT,Z1G,Z1K]; (repeat' split) <;> first | rfl | omega | (exfalso; omega) | simp_all) : w.heap.space =(w.link t).heap.space) (Fa (by (simp only [WorldM.link,WorldM.linkT,Z1G,Z1K]; (repeat' split) <;> first | rfl | omega | (exfalso; omega) | simp_all) : w.heap.bump =(w.link t).heap.bump) (Fa (by refine congrArg _ ?_; (simp only [WorldM.link,WorldM.linkT,Z1G,Z1K]; (repeat' split) <;> first | rfl | omega | (exfalso; omega) | simp_all) : List.map wdv w.strong =List.map wdv (w.link t).strong) (Fa (by refine congrArg _ ?_; (simp only [WorldM.link,WorldM.linkT,Z1G,Z1K]; (repeat' split) <;> first | rfl | omega | (exfalso; omega) | simp_all) : List.map wdv w.weak =List.map wdv (w.link t).weak) (Fr (37 : Int) (Fa (by refine congrArg _ ?_; grind [WorldM.link,WorldM.linkT,Z1G,Z1K] : List.map idv ((w.pickT (w.pickT t)).step 8).l =List.map idv (w.linkT t).l) (Fa (by grind [WorldM.link,WorldM.linkT,Z1G,Z1K] : ((w.pickT (w.pickT t)).step 8).at' = (w.linkT t).at') Fz)))))))))))))
 ·obtain ⟨hc0pa,hc0pb⟩ := hc0p
  have hf3 := Z3T hc0pa
  obtain ⟨hf3a,⟨hf3ba,⟨hf3bba,⟨hf3bbba,⟨hf3bbbba,⟨hf3bbbbba,⟨hf3bbbbbba,⟨hf3bbbbbbba,⟨hf3bbbbbbbba,⟨hf3bbbbbbbbba,hf3bbbbbbbbbb⟩⟩⟩⟩⟩⟩⟩⟩⟩⟩ := hf3
  have Q1 {h_ c_ p_} (r_ : Fq h_ c_ p_) := Q0 (Ff 31 hc0 (Fg 36 (by exact Int.tmod_eq_emod_of_nonneg (by omega) : ((w.pickT (w.pickT t)).next 8).tmod (getH w.heap (w.pick t)).fst.length =(w.pickT (w.pickT t)).next 8 % (getH w.heap (w.pick t)).fst.length) (Fo ((getH w.heap (w.pick t)).fst.length ≠ 0) (Fc 39 (@Z27 ((getH w.heap (w.pick t)).fst) ((w.pickT (w.pickT t)).next 8 % (getH w.heap (w.pick t)).fst.length) ‹_›) r_))))
  rcases bb (!Z0n (getH w.heap (w.pick t)).fst ((w.pickT (w.pickT t)).next 8 % (getH w.heap (w.pick t)).fst.length)) with hc6 | hc6<;>have hc6p:=hc6<;>simp only [bs] at hc6p
  ·exact lF Tryz.func64 [false,false,false,true,true] (Q1 (Ft 40 hc6 (Fp 42 (@Z0z ((w.pickT (w.pickT t)).step 8) (1048576) ‹_› (by omega) (by omega)) (Fv 43 (((w.pickT (w.pickT t)).step 8).next 1048576) (Fc 50 (@Z6m w.heap (w.pick t) ((w.pickT (w.pickT t)).next 8 % (getH w.heap (w.pick t)).fst.length) (((w.pickT (w.pickT t)).step 8).next 1048576) ‹_› ‹_›) (Fa (by grind [WorldM.link,WorldM.linkT,Z1G,Z1K] : (Z0c w.heap (w.pick t) ((w.pickT (w.pickT t)).next 8 % (getH w.heap (w.pick t)).fst.length) (((w.pickT (w.pickT t)).step 8).next 1048576)).fst.conf.pw =(w.link t).heap.conf.pw) (Fa (by grind [WorldM.link,WorldM.linkT,Z1G,Z1K] : (Z0c w.heap (w.pick t) ((w.pickT (w.pickT t)).next 8 % (getH w.heap (w.pick t)).fst.length) (((w.pickT (w.pickT t)).step 8).next 1048576)).fst.conf.pg =(w.link t).heap.conf.pg) (Fa (by refine congrArg _ ?_; grind [WorldM.link,WorldM.linkT,Z1G,Z1K] : List.map wdv (Z0c w.heap (w.pick t) ((w.pickT (w.pickT t)).next 8 % (getH w.heap (w.pick t)).fst.length) (((w.pickT (w.pickT t)).step 8).next 1048576)).fst.words =List.map wdv (w.link t).heap.words) (Fa (by refine congrArg _ ?_; grind [WorldM.link,WorldM.linkT,Z1G,Z1K] : List.map Page.dv (Z0c w.heap (w.pick t) ((w.pickT (w.pickT t)).next 8 % (getH w.heap (w.pick t)).fst.length) (((w.pickT (w.pickT t)).step 8).next 1048576)).fst.pages =List.map Page.dv (w.link t).heap.pages) (Fa (by grind [WorldM.link,WorldM.linkT,Z1G,Z1K] : (Z0c w.heap (w.pick t) ((w.pickT (w.pickT t)).next 8 % (getH w.heap (w.pick t)).fst.length) (((w.pickT (w.pickT t)).step 8).next 1048576)).fst.space =(w.link t).heap.space) (Fa (by grind [WorldM.link,WorldM.linkT,Z1G,Z1K] : (Z0c w.heap (w.pick t) ((w.pickT (w.pickT t)).next 8 % (getH w.heap (w.pick t)).fst.length) (((w.pickT (w.pickT t)).step 8).next 1048576)).fst.bump =(w.link t).heap.bump) (Fa (by refine congrArg _ ?_; (simp only [WorldM.link,WorldM.linkT,Z1G,Z1K]; (repeat' split) <;> first | rfl | omega | (exfalso; omega) | simp_all) : List.map wdv w.strong =List.map wdv (w.link t).strong) (Fa (by refine congrArg _ ?_; (simp only [WorldM.link,WorldM.linkT,Z1G,Z1K]; (repeat' split) <;> first | rfl | omega | (exfalso; omega) | simp_all) : List.map wdv w.weak =List.map wdv (w.link t).weak) (Fr (37 : Int) (Fa (by refine congrArg _ ?_; grind [WorldM.link,WorldM.linkT,Z1G,Z1K] : List.map idv (((w.pickT (w.pickT t)).step 8).step 1048576).l =List.map idv (w.linkT t).l) (Fa (by grind [WorldM.link,WorldM.linkT,Z1G,Z1K] : (((w.pickT (w.pickT t)).step 8).step 1048576).at' = (w.linkT t).at') Fz))))))))))))))))
  ·exact lF Tryz.func64 [false,false,false,true,true] (Q1 (Ff 40 hc6 (Fc 50 (@Z6m w.heap (w.pick t) ((w.pickT (w.pickT t)).next 8 % (getH w.heap (w.pick t)).fst.length) (w.pick (w.pickT t)) ‹_› ‹_›) (Fa (by grind [WorldM.link,WorldM.linkT,Z1G,Z1K] : (Z0c w.heap (w.pick t) ((w.pickT (w.pickT t)).next 8 % (getH w.heap (w.pick t)).fst.length) (w.pick (w.pickT t))).fst.conf.pw =(w.link t).heap.conf.pw) (Fa (by grind [WorldM.link,WorldM.linkT,Z1G,Z1K] : (Z0c w.heap (w.pick t) ((w.pickT (w.pickT t)).next 8 % (getH w.heap (w.pick t)).fst.length) (w.pick (w.pickT t))).fst.conf.pg =(w.link t).heap.conf.pg) (Fa (by refine congrArg _ ?_; grind [WorldM.link,WorldM.linkT,Z1G,Z1K] : List.map wdv (Z0c w.heap (w.pick t) ((w.pickT (w.pickT t)).next 8 % (getH w.heap (w.pick t)).fst.length) (w.pick (w.pickT t))).fst.words =List.map wdv (w.link t).heap.words) (Fa (by refine congrArg _ ?_; grind [WorldM.link,WorldM.linkT,Z1G,Z1K] : List.map Page.dv (Z0c w.heap (w.pick t) ((w.pickT (w.pickT t)).next 8 % (getH w.heap (w.pick t)).fst.length) (w.pick (w.pickT t))).fst.pages =List.map Page.dv (w.link t).heap.pages) (Fa (by grind [WorldM.link,WorldM.linkT,Z1G,Z1K] : (Z0c w.heap (w.pick t) ((w.pickT (w.pickT t)).next 8 % (getH w.heap (w.pick t)).fst.length) (w.pick (w.pickT t))).fst.space =(w.link t).heap.space) (Fa (by grind [WorldM.link,WorldM.linkT,Z1G,Z1K] : (Z0c w.heap (w.pick t) ((w.pickT (w.pickT t)).next 8 % (getH w.heap (w.pick t)).fst.length) (w.pick (w.pickT t))).fst.bump =(w.link t).heap.bump) (Fa (by refine congrArg _ ?_; (simp only [WorldM.link,WorldM.linkT,Z1G,Z1K]; (repeat' split) <;> first | rfl | omega | (exfalso; omega) | simp_all) : List.map wdv w.strong =List.map wdv (w.link t).strong) (Fa (by refine congrArg _ ?_; (simp only [WorldM.link,WorldM.linkT,Z1G,Z1K]; (repeat' split) <;> first | rfl | omega | (exfalso; omega) | simp_all) : List.map wdv w.weak =List.map wdv (w.link t).weak) (Fr (37 : Int) (Fa (by refine congrArg _ ?_; grind [WorldM.link,WorldM.linkT,Z1G,Z1K] : List.map idv ((w.pickT (w.pickT t)).step 8).l =List.map idv (w.linkT t).l) (Fa (by grind [WorldM.link,WorldM.linkT,Z1G,Z1K] : ((w.pickT (w.pickT t)).step 8).at' = (w.linkT t).at') Fz))))))))))))))
def Z0L (l : List Page) : Nat → Nat
 | 0 => 0
 | i + 1 => Z0L l i + (if (l.getD i default).kind = 1 ∧ 0 < (l.getD i default).pins then 1 else 0)
theorem Z3q (l : List Page) : ∀ i,Z0L l i ≤ i
 | 0 => Nat.le_refl _
 | i + 1 => by
  have := Z3q l i
  simp only [Z0L]
  split <;> omega
def crowd (l : List Page) : Nat := Z0L l l.length
def Zdt (h : Heap) (i : Nat) : Tg := ⟨tm 31 [(1,.pt 8001 0 0),(3,int (Z0L h.pages i)),(4,int i)],[(8001,.box 28 h.cells)],60⟩
theorem Zef (h : Heap) (hl : h.pages.length ≤ 1048576) (i : Nat) (hi : i < h.pages.length) : CSpec Tryz.prog (rndF Tryz.f105 0) (Zdt h i).st .nrm (Zdt h (i + 1)).st := by
 have hc := Z3q h.pages i
 have Q0 {h_ c_ p_} (r_ : Fq h_ c_ p_) := Fl 8 Page.dv h.pages (Ftb 9 (decide ((↑i : Int) < (↑h.pages.length : Int))) (Fek 15 Page.dv h.pages (↑i) i (FeG 23 ((h.pages.getD i default).kind == 1) Page.dv h.pages (↑i) i r_)))
 rcases bb ((h.pages.getD i default).kind == 1 && decide (0 < (h.pages.getD i default).pins)) with hc0 | hc0<;>have hc0p:=hc0<;>simp only [bs] at hc0p
 ·obtain ⟨hc0pa,hc0pb⟩ := hc0p
  exact sF [] [false,false,false,false,false,false,false,false,true] (Q0 (Ft 27 hc0 (Fw 29 ((↑(Z0L h.pages i) : Int) + 1) (↑(Z0L h.pages i + 1) : Int) (Fx 11 i (Fa (by (simp only [Z0L]; (repeat' split) <;> first | rfl | omega | (exfalso; omega) | simp_all) : (↑(Z0L h.pages i + 1) : Int) =(↑(Z0L h.pages (i + 1)) : Int)) Fz)))))
 ·exact sF [] [false,false,false,false,false,false,false,false,true] (Q0 (Ff 27 hc0 (Fx 11 i (Fa (by (simp only [Z0L]; (repeat' split) <;> first | rfl | omega | (exfalso; omega) | simp_all) : (↑(Z0L h.pages i) : Int) =(↑(Z0L h.pages (i + 1)) : Int)) Fz))))
theorem ZgM (h : Heap) : CSpec Tryz.prog (rndF Tryz.f105 0) (Zdt h h.pages.length).st (.ext 0) (Tg.st ⟨tm 31 [(3,int (crowd h.pages))],[],60⟩) := by
 exact sF [] [] (Fl 8 Page.dv h.pages (Ffb 9 (decide ((↑h.pages.length : Int) < (↑h.pages.length : Int))) Fz))
theorem Zgt (h : Heap) (hl : h.pages.length ≤ 1048576) : CSpec Tryz.prog (blkF Tryz.f105 0) (Tg.st ⟨tm 31 [(1,.pt 8001 0 0),(3,int 0),(4,int 0)],[(8001,.box 28 h.cells)],60⟩) .nrm (Tg.st ⟨tm 31 [(3,int (crowd h.pages))],[],60⟩) :=
 Z0d (S := fun i => (Zdt h i).st) h.pages.length (by kernel_rfl) (fun i hi => Zef h hl i hi) (ZgM h)
theorem Z7r (h : Heap) (hl : h.pages.length ≤ 1048576) : GSpec Tryz.prog 105 [h.av] true (int (crowd h.pages)) [] := by
 exact gF [] Tryz.func105 [] (Fu (@Zgt h ‹_›) Fz)
def ZeS (w : WorldM) (t : Tape) : Int := t.next (w.strong.length : Int)
def WorldM.drop (w : WorldM) (t : Tape) : WorldM :=
 if 0 < w.strong.length then ⟨w.heap,w.strong.take (ZeS w t).toNat ++ w.strong.drop ((ZeS w t).toNat + 1),if (t.step (w.strong.length : Int)).next 3 = 0 then w.weak ++ [w.strong.getD (ZeS w t).toNat default] else w.weak⟩ else w
def WorldM.dropT (w : WorldM) (t : Tape) : Tape := if 0 < w.strong.length then (t.step (w.strong.length : Int)).step 3 else t
theorem ZaE (w : WorldM) (t : Tape) (hw : WMok w) (ht : TOk t) (ha : t.at' ≤ 1040000) : LentSpec Tryz.prog 66 [w.av,.pt 0 0 0] [t.b] (w.drop t).av [(w.dropT t).b] := by
 have h1 := hw.sl
 have h2 := hw.wl
 have s1 := Z3o (t := t) (w.strong.length : Int)
 have k1 := Z4c ht s1.2.2 (by omega) (by omega)
 have n1 := fun h => Z0A t (n := (w.strong.length : Int)) h
 by_cases c1 : 0 < w.strong.length
 ·have eT : w.dropT t = (t.step (w.strong.length : Int)).step 3 := by rw [WorldM.dropT,if_pos c1]
  by_cases c2 : (t.step (w.strong.length : Int)).next 3 = 0
  ·have eP : w.drop t = ⟨w.heap,w.strong.take (t.next (w.strong.length : Int)).toNat ++ w.strong.drop ((t.next (w.strong.length : Int)).toNat + 1),w.weak ++ [w.strong.getD (t.next (w.strong.length : Int)).toNat default]⟩ := by rw [WorldM.drop,if_pos c1,if_pos c2]; rfl
   rw [eP,eT]
   exact lF Tryz.func66 [true] (Fh 28 [.els (List.map wdv (w.weak ++ [w.strong.getD (t.next (↑w.strong.length : Int)).toNat default]))] (Fh 35 [.els (List.map wdv (List.take (t.next (↑w.strong.length : Int)).toNat w.strong))] (Fh 40 [.els (List.map wdv (List.drop (t.next (↑w.strong.length : Int) + 1).toNat w.strong))] (Fh 41 [.els (List.map wdv (List.take (t.next (↑w.strong.length : Int)).toNat w.strong ++ List.drop (t.next (↑w.strong.length : Int) + 1).toNat w.strong))] (Fl 9 wdv w.strong (Ftb 11 (decide (0 < (↑w.strong.length : Int))) (Fp 14 (@Z0z t ((↑w.strong.length : Int)) ‹_› (by omega) (by omega)) (Fp 16 (@Z0z (t.step (↑w.strong.length : Int)) (3) ‹_› (by omega) (by omega)) (Ftb 17 ((t.step (↑w.strong.length : Int)).next (3 :Int) == 0) (Fs 18 (List.map wdv []) (Fa (by (simp [*]; omega) : (List.map wdv []).length + (List.map wdv w.weak).length≤2 ^ 30) (Fs 21 (List.map wdv w.weak) (Fek 25 wdv w.strong (t.next (↑w.strong.length : Int)) ((t.next (↑w.strong.length : Int)).toNat) (Fs 27 (List.map wdv [w.strong.getD (t.next (↑w.strong.length : Int)).toNat default]) (Fa (by (simp [*]; omega) : (List.map wdv w.weak).length + (List.map wdv [w.strong.getD (t.next (↑w.strong.length : Int)).toNat default]).length≤2 ^ 30) (Fa (by simp [List.map_take,List.map_drop,List.map_set,List.map_append,wdv,idv] : List.map wdv w.weak ++ List.map wdv [w.strong.getD (t.next (↑w.strong.length : Int)).toNat default] =List.map wdv (w.weak ++ [w.strong.getD (t.next (↑w.strong.length : Int)).toNat default])) (Fs 30 (List.map wdv []) (Fa (by (simp only [List.length_map]; omega) : 0≤t.next (↑w.strong.length : Int)∧t.next (↑w.strong.length : Int)≤(↑(List.map wdv w.strong).length : Int)) (Fa (by simp [List.map_take,List.map_drop,List.map_set,List.map_append,wdv,idv] : List.take (t.next (↑w.strong.length : Int)).toNat (List.map wdv w.strong) =List.map wdv (List.take (t.next (↑w.strong.length : Int)).toNat w.strong)) (Fa (by (simp [*]; omega) : (List.map wdv []).length + (List.map wdv (List.take (t.next (↑w.strong.length : Int)).toNat w.strong)).length≤2 ^ 30) (Fs 34 (List.map wdv (List.take (t.next (↑w.strong.length : Int)).toNat w.strong)) (Fi 39 (t.next (↑w.strong.length : Int) + 1) (Fa (by (simp only [List.length_map]; omega) : 0≤t.next (↑w.strong.length : Int) + 1∧t.next (↑w.strong.length : Int) + 1≤(↑(List.map wdv w.strong).length : Int)) (Fa (by simp [List.map_take,List.map_drop,List.map_set,List.map_append,wdv,idv] : List.drop (t.next (↑w.strong.length : Int) + 1).toNat (List.map wdv w.strong) =List.map wdv (List.drop (t.next (↑w.strong.length : Int) + 1).toNat w.strong)) (Fa (by (simp [*]; omega) : (List.map wdv (List.take (t.next (↑w.strong.length : Int)).toNat w.strong)).length + (List.map wdv (List.drop (t.next (↑w.strong.length : Int) + 1).toNat w.strong)).length≤2 ^ 30) (Fa (by simp [List.map_take,List.map_drop,List.map_set,List.map_append,wdv,idv] : List.map wdv (List.take (t.next (↑w.strong.length : Int)).toNat w.strong) ++ List.map wdv (List.drop (t.next (↑w.strong.length : Int) + 1).toNat w.strong) =List.map wdv (List.take (t.next (↑w.strong.length : Int)).toNat w.strong ++ List.drop (t.next (↑w.strong.length : Int) + 1).toNat w.strong)) (Fr w.heap.conf.pw (Fr w.heap.conf.pg (Fr (List.map wdv w.heap.words) (Fr (List.map Page.dv w.heap.pages) (Fr w.heap.space (Fr w.heap.bump (Fa (by refine congrArg _ ?_; (simp [*]; omega) : List.map wdv (List.take (t.next (↑w.strong.length : Int)).toNat w.strong ++ List.drop (t.next (↑w.strong.length : Int) + 1).toNat w.strong) =List.map wdv (WorldM.mk w.heap (List.take (t.next (↑w.strong.length : Int)).toNat w.strong ++ List.drop ((t.next (↑w.strong.length : Int)).toNat + 1) w.strong) (w.weak ++ [w.strong.getD (t.next (↑w.strong.length : Int)).toNat default])).strong) (Fr (List.map wdv (w.weak ++ [w.strong.getD (t.next (↑w.strong.length : Int)).toNat default])) Fz))))))))))))))))))))))))))))))))))
  ·have eP : w.drop t = ⟨w.heap,w.strong.take (t.next (w.strong.length : Int)).toNat ++ w.strong.drop ((t.next (w.strong.length : Int)).toNat + 1),w.weak⟩ := by rw [WorldM.drop,if_pos c1,if_neg c2]; rfl
   rw [eP,eT]
   exact lF Tryz.func66 [true] (Fh 35 [.els (List.map wdv (List.take (t.next (↑w.strong.length : Int)).toNat w.strong))] (Fh 40 [.els (List.map wdv (List.drop (t.next (↑w.strong.length : Int) + 1).toNat w.strong))] (Fh 41 [.els (List.map wdv (List.take (t.next (↑w.strong.length : Int)).toNat w.strong ++ List.drop (t.next (↑w.strong.length : Int) + 1).toNat w.strong))] (Fl 9 wdv w.strong (Ftb 11 (decide (0 < (↑w.strong.length : Int))) (Fp 14 (@Z0z t ((↑w.strong.length : Int)) ‹_› (by omega) (by omega)) (Fp 16 (@Z0z (t.step (↑w.strong.length : Int)) (3) ‹_› (by omega) (by omega)) (Ffb 17 ((t.step (↑w.strong.length : Int)).next (3 :Int) == 0) (Fs 30 (List.map wdv []) (Fa (by (simp only [List.length_map]; omega) : 0≤t.next (↑w.strong.length : Int)∧t.next (↑w.strong.length : Int)≤(↑(List.map wdv w.strong).length : Int)) (Fa (by simp [List.map_take,List.map_drop,List.map_set,List.map_append,wdv,idv] : List.take (t.next (↑w.strong.length : Int)).toNat (List.map wdv w.strong) =List.map wdv (List.take (t.next (↑w.strong.length : Int)).toNat w.strong)) (Fa (by (simp [*]; omega) : (List.map wdv []).length + (List.map wdv (List.take (t.next (↑w.strong.length : Int)).toNat w.strong)).length≤2 ^ 30) (Fs 34 (List.map wdv (List.take (t.next (↑w.strong.length : Int)).toNat w.strong)) (Fi 39 (t.next (↑w.strong.length : Int) + 1) (Fa (by (simp only [List.length_map]; omega) : 0≤t.next (↑w.strong.length : Int) + 1∧t.next (↑w.strong.length : Int) + 1≤(↑(List.map wdv w.strong).length : Int)) (Fa (by simp [List.map_take,List.map_drop,List.map_set,List.map_append,wdv,idv] : List.drop (t.next (↑w.strong.length : Int) + 1).toNat (List.map wdv w.strong) =List.map wdv (List.drop (t.next (↑w.strong.length : Int) + 1).toNat w.strong)) (Fa (by (simp [*]; omega) : (List.map wdv (List.take (t.next (↑w.strong.length : Int)).toNat w.strong)).length + (List.map wdv (List.drop (t.next (↑w.strong.length : Int) + 1).toNat w.strong)).length≤2 ^ 30) (Fa (by simp [List.map_take,List.map_drop,List.map_set,List.map_append,wdv,idv] : List.map wdv (List.take (t.next (↑w.strong.length : Int)).toNat w.strong) ++ List.map wdv (List.drop (t.next (↑w.strong.length : Int) + 1).toNat w.strong) =List.map wdv (List.take (t.next (↑w.strong.length : Int)).toNat w.strong ++ List.drop (t.next (↑w.strong.length : Int) + 1).toNat w.strong)) (Fr w.heap.conf.pw (Fr w.heap.conf.pg (Fr (List.map wdv w.heap.words) (Fr (List.map Page.dv w.heap.pages) (Fr w.heap.space (Fr w.heap.bump (Fa (by refine congrArg _ ?_; (simp [*]; omega) : List.map wdv (List.take (t.next (↑w.strong.length : Int)).toNat w.strong ++ List.drop (t.next (↑w.strong.length : Int) + 1).toNat w.strong) =List.map wdv (WorldM.mk w.heap (List.take (t.next (↑w.strong.length : Int)).toNat w.strong ++ List.drop ((t.next (↑w.strong.length : Int)).toNat + 1) w.strong) w.weak).strong) (Fr (List.map wdv w.weak) Fz))))))))))))))))))))))))))
 ·have eP : w.drop t = w := by rw [WorldM.drop,if_neg c1]
  have eT : w.dropT t = t := by rw [WorldM.dropT,if_neg c1]
  rw [eP,eT]
  exact lF Tryz.func66 [] (Fl 9 wdv w.strong (Ffb 11 (decide (0 < (↑w.strong.length : Int))) Fz))
def crwL (h : Heap) (i : Nat) : Tg := ⟨tm 65 [(1,.pt 8001 0 0),(2,.pt 8002 0 0),(6,int (Z0L h.pages i)),(7,int i)],[(8002,.box 82 [int 0,int 0,u64 0]),(8001,.box 28 h.cells)],64⟩
theorem Zij (h : Heap) (i : Nat) (hp : Z02 h = true) (hi : i < h.pages.length) : CSpec Tryz.prog (rndF Tryz.f44 2) (crwL h i).st .nrm (crwL h (i + 1)).st := by
 have po := Z08 hp
 have := Z3q h.pages i
 by_cases h1 : (h.pages.getD i default).kind = 1
 ·by_cases h2 : 0 < (h.pages.getD i default).pins
  ·have e : Z0L h.pages (i + 1) = Z0L h.pages i + 1 := by rw [Z0L,if_pos ⟨h1,h2⟩]
   rw [crwL,crwL,e]
   exact sF [] [] (Fl 35 Page.dv h.pages (Ftb 36 (decide ((↑i : Int) < (↑h.pages.length : Int))) (Fek 42 Page.dv h.pages (↑i) i (FeG 50 ((h.pages.getD i default).kind == 1) Page.dv h.pages (↑i) i (Ftb 54 ((h.pages.getD i default).kind == 1&&decide (0 < (h.pages.getD i default).pins)) (Fw 56 ((↑(Z0L h.pages i) : Int) + 1) (↑(Z0L h.pages i + 1) : Int) (Fx 38 i Fz)))))))
  ·have e : Z0L h.pages (i + 1) = Z0L h.pages i := by rw [Z0L,if_neg (fun q => h2 q.2)]; rfl
   rw [crwL,crwL,e]
   exact sF [] [] (Fl 35 Page.dv h.pages (Ftb 36 (decide ((↑i : Int) < (↑h.pages.length : Int))) (Fek 42 Page.dv h.pages (↑i) i (FeG 50 ((h.pages.getD i default).kind == 1) Page.dv h.pages (↑i) i (Ffb 54 ((h.pages.getD i default).kind == 1&&decide (0 < (h.pages.getD i default).pins)) (Fx 38 i Fz))))))
 ·have e : Z0L h.pages (i + 1) = Z0L h.pages i := by rw [Z0L,if_neg (fun q => h1 q.1)]; rfl
  rw [crwL,crwL,e]
  exact sF [] [] (Fl 35 Page.dv h.pages (Ftb 36 (decide ((↑i : Int) < (↑h.pages.length : Int))) (Fek 42 Page.dv h.pages (↑i) i (FeG 50 ((h.pages.getD i default).kind == 1) Page.dv h.pages (↑i) i (Ffb 54 ((h.pages.getD i default).kind == 1&&decide (0 < (h.pages.getD i default).pins)) (Fx 38 i Fz))))))
theorem Zkh (h : Heap) (hp : Z02 h = true) : CSpec Tryz.prog (rndF Tryz.f44 2) (crwL h h.pages.length).st (.ext 2) (Tg.st ⟨tm 65 [(1,.pt 8001 0 0),(2,.pt 8002 0 0),(6,int (Z0L h.pages h.pages.length))],[(8002,.box 82 [int 0,int 0,u64 0]),(8001,.box 28 h.cells)],64⟩) := by
 have po := Z08 hp
 exact sF [] [] (Fl 35 Page.dv h.pages (Ffb 36 (decide ((↑h.pages.length : Int) < (↑h.pages.length : Int))) Fz))
theorem Zgl (h : Heap) (hp : Z02 h = true) : CSpec Tryz.prog (blkF Tryz.f44 2) (Tg.st ⟨tm 65 [(1,.pt 8001 0 0),(2,.pt 8002 0 0),(6,int 0),(7,int 0)],[(8002,.box 82 [int 0,int 0,u64 0]),(8001,.box 28 h.cells)],64⟩) .nrm (Tg.st ⟨tm 65 [(1,.pt 8001 0 0),(2,.pt 8002 0 0),(6,int (Z0L h.pages h.pages.length))],[(8002,.box 82 [int 0,int 0,u64 0]),(8001,.box 28 h.cells)],64⟩) :=
 Z0d (S := fun k => (crwL h k).st) h.pages.length (by kernel_rfl) (fun k hk => Zij h k hp hk) (Zkh h hp)
theorem Zea (h : Heap) (hw : WOk h.words) (hp : Z02 h = true) (hb : Z56 h = none) (hq : (Z0U h (Z03 h).1).fault = 0) (hc : h.conf.pg / 4 < (Z0L h.pages h.pages.length : Nat)) : GSpec Tryz.prog 44 [h.av] true (Finding.mk 7 0 0).av [] := by
 have po := Z08 hp
 have := Z3q h.pages h.pages.length
 exact gF [] Tryz.func44 [] (Fc 9 (@Z0m h) (Ffb 10 (!Z02 h) (Fu (@ZbS h ‹_› ‹_› ‹_›) (Fc 27 (@Z4k h ‹_›) (Ffb 30 ((Z0U h (Z03 h).fst).fault != 0) (Fu (@Zgl h ‹_›) (Fg 61 (by rw [Int.tdiv_eq_ediv_of_nonneg (by omega),wrapI' (by omega) (by omega)] : IntKind.i64.wrap (h.conf.pg.tdiv 4) =h.conf.pg / 4) (Fa (by decide : (4 :Int) ≠ 0) (Ftb 62 (decide (h.conf.pg / 4 < (↑(Z0L h.pages h.pages.length) : Int))) Fz)))))))))
theorem Zg5 (h : Heap) (hw : WOk h.words) (hp : Z02 h = true) (hb : Z56 h = none) (hq : (Z0U h (Z03 h).1).fault = 0) (hc : ¬ h.conf.pg / 4 < (Z0L h.pages h.pages.length : Nat)) : GSpec Tryz.prog 44 [h.av] true (Finding.mk 0 0 0).av [] := by
 have po := Z08 hp
 have := Z3q h.pages h.pages.length
 exact gF [] Tryz.func44 [] (Fc 9 (@Z0m h) (Ffb 10 (!Z02 h) (Fu (@ZbS h ‹_› ‹_› ‹_›) (Fc 27 (@Z4k h ‹_›) (Ffb 30 ((Z0U h (Z03 h).fst).fault != 0) (Fu (@Zgl h ‹_›) (Fg 61 (by rw [Int.tdiv_eq_ediv_of_nonneg (by omega),wrapI' (by omega) (by omega)] : IntKind.i64.wrap (h.conf.pg.tdiv 4) =h.conf.pg / 4) (Fa (by decide : (4 :Int) ≠ 0) (Ffb 62 (decide (h.conf.pg / 4 < (↑(Z0L h.pages h.pages.length) : Int))) Fz)))))))))
def Z0E (h : Heap) : Finding :=
 if Z02 h = true then
  match Z56 h with
  | some i => pageF h i
  | none =>
   if (Z0U h (Z03 h).1).fault ≠ 0 then Z0U h (Z03 h).1
   else if h.conf.pg / 4 < (Z0L h.pages h.pages.length : Nat) then ⟨7,0,0⟩ else ⟨0,0,0⟩
 else ⟨1,0,0⟩
theorem Z5t (h : Heap) (hw : WOk h.words) : GSpec Tryz.prog 44 [h.av] true (Z0E h).av [] := by
 unfold Z0E
 by_cases hp : Z02 h = true
 ·rw [if_pos hp]
  cases hb : Z56 h with
  | some i => exact ZgC h hw hp i hb
  | none =>
   by_cases hq : (Z0U h (Z03 h).1).fault = 0
   ·simp only [hq,ne_eq,not_true_eq_false,if_false]
    by_cases hc : h.conf.pg / 4 < (Z0L h.pages h.pages.length : Nat)
    ·rw [if_pos hc]; exact Zea h hw hp hb hq hc
    ·rw [if_neg hc]; exact Zg5 h hw hp hb hq hc
   ·simp only [ne_eq,hq,not_false_eq_true,if_true]
    exact ZhD h hw hp hb hq
 ·rw [if_neg hp]
  exact ZhE h hw (by simpa using hp)
theorem Z4R (h : Heap) (hw : WOk h.words) : GSpec Tryz.prog 14 [h.av] true (bool (decide (Z0E h = ⟨0,0,0⟩))) [] := by
 by_cases h1 : (Z0E h).fault = 0
 ·by_cases h2 : (Z0E h).page = 0
  ·by_cases h3 : (Z0E h).addr = 0
   ·have e : decide (Z0E h = ⟨0,0,0⟩) = true := by
     apply decide_eq_true
     revert h1 h2 h3
     cases Z0E h
     simp +contextual
    rw [e]
    exact gF [] Tryz.func14 [true] (Fc 4 (@Z5t h ‹_›) (Fb (((Z0E h).fault == 0&&((Z0E h).page == 0&&(Z0E h).addr == 0))=true) Fz))
   ·have e : decide (Z0E h = ⟨0,0,0⟩) = false := decide_eq_false (fun q => h3 (by rw [q]))
    rw [e]
    exact gF [] Tryz.func14 [true] (Fc 4 (@Z5t h ‹_›) (Fb (((Z0E h).fault == 0&&((Z0E h).page == 0&&(Z0E h).addr == 0))=false) Fz))
  ·have e : decide (Z0E h = ⟨0,0,0⟩) = false := decide_eq_false (fun q => h2 (by rw [q]))
   rw [e]
   exact gF [] Tryz.func14 [true] (Fc 4 (@Z5t h ‹_›) (Fb (((Z0E h).fault == 0&&((Z0E h).page == 0&&(Z0E h).addr == 0))=false) Fz))
 ·have e : decide (Z0E h = ⟨0,0,0⟩) = false := decide_eq_false (fun q => h1 (by rw [q]))
  rw [e]
  exact gF [] Tryz.func14 [true] (Fc 4 (@Z5t h ‹_›) (Fb (((Z0E h).fault == 0&&((Z0E h).page == 0&&(Z0E h).addr == 0))=false) Fz))
theorem ZaP (h : Heap) (refs : List Int) (hw : WOk h.words) (hg : Z0E h ≠ ⟨0,0,0⟩) : GSpec Tryz.prog 138 [h.av,Z01 refs] true (bool false) [] := by
 exact gF [] Tryz.func138 [] (Fc 9 (@Z4R h ‹_›) (Ftb 10 (!decide (Z0E h =Finding.mk 0 0 0)) Fz))
def rfsL (refs all : List Int) (i : Nat) : Tg := ⟨tm 36 [(1,Z01 refs),(4,bool false),(5,Z01 all),(7,int i)],[],60⟩
theorem Zdp (refs all : List Int) (i : Nat) (hl : refs.length ≤ 1048576) (ha : all.length ≤ 1048576) (hi : i < refs.length) (hb : refs.getD i default = 0 ∨ refs.getD i default ∈ all) : CSpec Tryz.prog (rndF Tryz.f138 0) (rfsL refs all i).st .nrm (rfsL refs all (i + 1)).st := by
 rcases hb with hb | hb
 ·exact sF [] [] (Fl 18 wdv refs (Ftb 19 (decide ((↑i : Int) < (↑refs.length : Int))) (Fek 24 wdv refs (↑i) i (FeG 31 (refs.getD i default != 0) wdv refs (↑i) i (FcG 33 (refs.getD i default != 0) (fun hg => by (try simp only [bs] at hg); exact @Z0N all (refs.getD i default) (by (try simp only [bs] at hg); assumption)) (Ffb 35 (refs.getD i default != 0&&!decide (refs.getD i default ∈ all)) (Fx 21 i Fz)))))))
 ·by_cases h0 : refs.getD i default = 0
  ·exact sF [] [] (Fl 18 wdv refs (Ftb 19 (decide ((↑i : Int) < (↑refs.length : Int))) (Fek 24 wdv refs (↑i) i (FeG 31 (refs.getD i default != 0) wdv refs (↑i) i (FcG 33 (refs.getD i default != 0) (fun hg => by (try simp only [bs] at hg); exact @Z0N all (refs.getD i default) (by (try simp only [bs] at hg); assumption)) (Ffb 35 (refs.getD i default != 0&&!decide (refs.getD i default ∈ all)) (Fx 21 i Fz)))))))
  ·exact sF [] [] (Fl 18 wdv refs (Ftb 19 (decide ((↑i : Int) < (↑refs.length : Int))) (Fek 24 wdv refs (↑i) i (FeG 31 (refs.getD i default != 0) wdv refs (↑i) i (FcG 33 (refs.getD i default != 0) (fun hg => by (try simp only [bs] at hg); exact @Z0N all (refs.getD i default) (by (try simp only [bs] at hg); assumption)) (Ff 35 (by simp only [bs, *,true_or,or_true,true_and,and_true,not_true_eq_false,not_false_eq_true,Bool.true_eq_false,Bool.false_eq_true] : (refs.getD i default != 0&&!decide (refs.getD i default ∈ all))=false) (Fx 21 i Fz)))))))
theorem Zho (refs all : List Int) (i : Nat) (hl : refs.length ≤ 1048576) (ha : all.length ≤ 1048576) (hi : i < refs.length) (h0 : refs.getD i default ≠ 0) (hb : refs.getD i default ∉ all) : CSpec Tryz.prog (rndF Tryz.f138 0) (rfsL refs all i).st .ret (Tg.st ⟨tm 36 [(4,bool false)],[],60⟩) := by
 exact sF [] [] (Fl 18 wdv refs (Ftb 19 (decide ((↑i : Int) < (↑refs.length : Int))) (Fek 24 wdv refs (↑i) i (FeG 31 (refs.getD i default != 0) wdv refs (↑i) i (FcG 33 (refs.getD i default != 0) (fun hg => by (try simp only [bs] at hg); exact @Z0N all (refs.getD i default) (by (try simp only [bs] at hg); assumption)) (Ft 35 (by simp only [bs, *,true_or,or_true,true_and,and_true,not_true_eq_false,not_false_eq_true,Bool.true_eq_false,Bool.false_eq_true] : (refs.getD i default != 0&&!decide (refs.getD i default ∈ all))=true) Fz))))))
theorem ZjW (refs all : List Int) : CSpec Tryz.prog (rndF Tryz.f138 0) (rfsL refs all refs.length).st (.ext 0) (Tg.st ⟨tm 36 [(4,bool false)],[],60⟩) := by
 exact sF [] [] (Fl 18 wdv refs (Ffb 19 (decide ((↑refs.length : Int) < (↑refs.length : Int))) Fz))
def rfsB (refs all : List Int) (i : Nat) : Bool := decide (refs.getD i default ≠ 0 ∧ refs.getD i default ∉ all)
def Z0l (h : Heap) (refs : List Int) : Bool := decide (Z0E h = ⟨0,0,0⟩) && ((List.range refs.length).find? (rfsB refs (Z03 h).1)).isNone
section
variable (refs all : List Int) (hl : refs.length ≤ 1048576) (ha : all.length ≤ 1048576)
include hl ha
theorem Zjr (hb : (List.range refs.length).find? (rfsB refs all) = none) : CSpec Tryz.prog (blkF Tryz.f138 0) (Tg.st ⟨tm 36 [(1,Z01 refs),(4,bool false),(5,Z01 all),(7,int 0)],[],60⟩) .nrm (Tg.st ⟨tm 36 [(4,bool false)],[],60⟩) := by
 refine Z0d (S := fun k => (rfsL refs all k).st) refs.length (by kernel_rfl) (fun k hk => Zdp refs all k hl ha hk ?_) (ZjW refs all)
 have := List.find?_eq_none.1 hb k (List.mem_range.2 hk)
 simp only [rfsB,decide_eq_true_eq,not_and,Decidable.not_not] at this
 by_cases h : refs.getD k default = 0
 ·exact Or.inl h
 ·exact Or.inr (this h)
theorem ZhX (i : Nat) (hb : (List.range refs.length).find? (rfsB refs all) = some i) : CSpec Tryz.prog (blkF Tryz.f138 0) (Tg.st ⟨tm 36 [(1,Z01 refs),(4,bool false),(5,Z01 all),(7,int 0)],[],60⟩) .ret (Tg.st ⟨tm 36 [(4,bool false)],[],60⟩) := by
 obtain ⟨h1,h2,h3⟩ := List.find?_range_eq_some.1 hb
 have h2 := List.mem_range.1 h2
 simp only [rfsB,decide_eq_true_eq] at h1
 refine Z0T (S := fun k => (rfsL refs all k).st) i (by kernel_rfl) (fun m hm' => Zdp refs all m hl ha (by omega) ?_) (Zho refs all i hl ha h2 h1.1 h1.2)
 have := h3 m hm'
 simp only [rfsB,Bool.not_eq_true',decide_eq_false_iff_not,not_and,Decidable.not_not] at this
 by_cases h : refs.getD m default = 0
 ·exact Or.inl h
 ·exact Or.inr (this h)
end
theorem Z1J (h : Heap) (refs : List Int) (hw : WOk h.words) (hl : refs.length ≤ 1048576) : GSpec Tryz.prog 138 [h.av,Z01 refs] true (bool (Z0l h refs)) [] := by
 have ho := Z2l h
 by_cases hg : Z0E h = ⟨0,0,0⟩
 ·cases hb : (List.range refs.length).find? (rfsB refs (Z03 h).1) with
  | none =>
   have e : Z0l h refs = true := by simp [Z0l,hg,hb]
   rw [e]
   exact gF [] Tryz.func138 [] (Fc 9 (@Z4R h ‹_›) (Ffb 10 (!decide (Z0E h =Finding.mk 0 0 0)) (Fc 13 (@Z1T h ‹_›) (Fu (@Zjr refs ((Z03 h).fst) ‹_› (by omega) ‹_›) Fz))))
  | some i =>
   have e : Z0l h refs = false := by simp [Z0l,hg,hb]
   rw [e]
   exact gF [] Tryz.func138 [] (Fc 9 (@Z4R h ‹_›) (Ffb 10 (!decide (Z0E h =Finding.mk 0 0 0)) (Fc 13 (@Z1T h ‹_›) (Fu (@ZhX refs ((Z03 h).fst) ‹_› (by omega) i hb) Fz))))
 ·have e : Z0l h refs = false := by simp [Z0l,hg]
  rw [e]
  exact ZaP h refs hw hg
structure Rep where
 copied : Int
 kept : Int
 filled : Int
 freed : Int
 cleared : Int
 steps : Int
 deriving Inhabited
def Rep.cells (r : Rep) : List AV := [int r.copied,int r.kept,int r.filled,int r.freed,int r.cleared,int r.steps]
structure Work where
 heap : Heap
 old : List Int
 taken : List Int
 queue : List Int
 scanned : Int
 rep : Rep
 deriving Inhabited
def Work.cells (w : Work) : List AV := w.heap.cells ++ [Z01 w.old,Z1B w.taken,Z01 w.queue,int w.scanned] ++ w.rep.cells
def Work.av (w : Work) : AV := .ag w.cells
def noWork : Work := ⟨noHeap,[],[],[],0,⟨0,0,0,0,0,0⟩⟩
def Z0q (w : Int) : Int × Bool := if w % 4 = 2 ∧ w / 4 < 4294967296 then (w / 4,true) else (0,false)
theorem Z2G (w : Int) (h0 : 0 ≤ w) (h1 : w ≤ 18446744073709551615) : GSpec Tryz.prog 161 [u64 w] true (.tu [u64 (Z0q w).1,bool (Z0q w).2]) [] := by
 have Q0 {h_ c_ p_} (r_ : Fq h_ c_ p_) := Fg 5 (by exact Int.tmod_eq_emod_of_nonneg (by omega) : w.tmod 4 =w % 4) (Fa (by decide : (4 :Int) ≠ 0) (Fa (by intro hg; (try simp only [bs] at hg); exact Z9y rfl (by decide) : (!w % (4 :Int) != 2) =true→w.fdiv (2 ^ min (Int.toNat 2) 64) =w / 4) (Fa (by intro hg; (try simp only [bs] at hg); omega : (!w % (4 :Int) != 2) =true→(0 :Int)≤2) r_)))
 rcases bb (w % (4 :Int) != 2 || decide (4294967296 ≤ w / 4)) with hc0 | hc0<;>have hc0p:=hc0<;>simp only [bs] at hc0p
 ·exact gF [] Tryz.func161 [false,false,false,true] (Fh 9 [.int (w / 4)] (Q0 (Ft 11 hc0 (Fa (by (simp only [Z0q]; (repeat' split) <;> first | rfl | omega | (exfalso; omega) | simp_all) : 0 =(Z0q w).fst) (Fa (by (simp only [Z0q]; (repeat' split) <;> first | rfl | omega | (exfalso; omega) | simp_all) : false =(Z0q w).snd) Fz)))))
 ·obtain ⟨hc0pa,hc0pb⟩ := hc0p
  exact gF [] Tryz.func161 [false,false,false,true] (Fh 13 [.int (w / 4)] (Q0 (Ff 11 hc0 (Fg 9 (by exact Z9y rfl (by decide) : w.fdiv (2 ^ min (Int.toNat 2) 64) =w / 4) (Fo ((0 :Int)≤2) (Fa (by (simp only [Z0q]; (repeat' split) <;> first | rfl | omega | (exfalso; omega) | simp_all) : w / 4 =(Z0q w).fst) (Fa (by (simp only [Z0q]; (repeat' split) <;> first | rfl | omega | (exfalso; omega) | simp_all) : true =(Z0q w).snd) Fz)))))))
theorem ZbM (a : Int) (h0 : 0 ≤ a) (h1 : a < 4294967296) : GSpec Tryz.prog 170 [u64 a] true (.tu [u64 (4 * a + 2),int 0]) [] := by
 exact gF [] Tryz.func170 [] (Ffb 5 (decide (4294967296≤a)) (Fv 7 (4 * a) (Fv 8 (4 * a + 2) Fz)))
def Z1c (w : Work) (i : Int) : Bool := decide (0 ≤ i ∧ i < w.heap.pages.length ∧ (w.heap.pages.getD i.toNat default).kind = 1 ∧ (w.heap.pages.getD i.toNat default).space ≠ w.heap.space ∧ i ∉ w.taken)
def Work.keep (w : Work) (r : Int) : Work := ⟨w.heap,w.old,w.taken,w.queue ++ [r],w.scanned,⟨w.rep.copied,w.rep.kept + 1,w.rep.filled,w.rep.freed,w.rep.cleared,w.rep.steps⟩⟩
def Z0Q (w : Work) : Int := w.taken.getD ((w.taken.length : Int) - 1).toNat default
def Z4p (w : Work) (n : Int) : Prop := 0 < w.taken.length ∧ (w.heap.pages.getD (Z0Q w).toNat default).used + n ≤ w.heap.conf.pw
instance (w : Work) (n : Int) : Decidable (Z4p w n) := by unfold Z4p; infer_instance
def Z0v (w : Work) : Int := first w.heap.pages 1
def Z2q (w : Work) : List Page := Z2r ⟨w.heap.conf,w.heap.words,w.heap.pages,1 - w.heap.space,w.heap.bump⟩
def Work.place (w : Work) (n : Int) : Work × Int × Bool :=
 if Z4p w n then (⟨⟨w.heap.conf,w.heap.words,Z1w w.heap.pages (Z0Q w).toNat n,w.heap.space,w.heap.bump⟩,w.old,w.taken,w.queue,w.scanned,w.rep⟩,4096 + Z0Q w * w.heap.conf.pw + (w.heap.pages.getD (Z0Q w).toNat default).used,true)
 else if 0 ≤ Z0v w then (⟨⟨w.heap.conf,w.heap.words,Z1w (Z2q w) (Z0v w).toNat n,w.heap.space,w.heap.bump⟩,w.old,w.taken ++ [Z0v w],w.queue,w.scanned,w.rep⟩,4096 + Z0v w * w.heap.conf.pw,true)
 else (noWork,0,false)
def Zbk (s : Int) (p : Page) : Page := ⟨p.kind,s,p.used,p.pins⟩
def Z0G (l : List Page) (i m : Nat) (s : Int) : List Page := (List.range l.length).map fun j => if i ≤ j ∧ j ≤ i + m then Zbk s (l.getD j default) else l.getD j default
def Z0y (l : List Page) (i : Nat) : Nat := ((l.drop (i + 1)).takeWhile fun p => p.kind == 3).length
def Work.flip (w : Work) (i : Nat) : Work := ⟨⟨w.heap.conf,w.heap.words,Z0G w.heap.pages i (Z0y w.heap.pages i) (1 - w.heap.space),w.heap.space,w.heap.bump⟩,w.old,w.taken,w.queue,w.scanned,w.rep⟩
def Work.copy (w : Work) (r a n : Int) : Work := ⟨⟨w.heap.conf,(Z0F (moveA w.heap.words a r n).1 r (4 * a + 2)).1,w.heap.pages,w.heap.space,w.heap.bump⟩,w.old,w.taken,w.queue ++ [a],w.scanned,⟨w.rep.copied + 1,w.rep.kept,w.rep.filled,w.rep.freed,w.rep.cleared,w.rep.steps⟩⟩
def hdW (w : Work) (r : Int) : Header := (decodeH (loadA w.heap.words r).1).1
def Z16 (w : Work) (r : Int) : Nat := (ofA w.heap.conf r).1.toNat
def Work.fwd (w : Work) (r : Int) : Work × Int × Int :=
 if r = 0 ∨ r ∈ w.queue then (w,r,0)
 else if r ∉ w.old then (noWork,0,19)
 else if (Z0q (loadA w.heap.words r).1).2 = true then (w,(Z0q (loadA w.heap.words r).1).1,0)
 else if (ofA w.heap.conf r).2.2 ≠ 0 then (noWork,0,19)
 else if Z1c w (ofA w.heap.conf r).1 = true then (w.keep r,r,0)
 else if (w.heap.pages.getD (Z16 w r) default).kind = 2 then ((w.flip (Z16 w r)).keep r,r,0)
 else if (w.place (sizeH (hdW w r))).2.2 = false then (noWork,0,3)
 else ((w.place (sizeH (hdW w r))).1.copy r (w.place (sizeH (hdW w r))).2.1 (sizeH (hdW w r)),(w.place (sizeH (hdW w r))).2.1,0)
def Z9C (pw : Int) (p : Page) : Nat := if p.kind = 0 then pw.toNat else (pw - p.used).toNat
def Z7i (pw : Int) (l : List Page) : Nat := (l.map (Z9C pw)).sum
def Zb4 (old q : List Int) : Nat := (old.filter fun x => decide (x ∉ q)).length
def muW (w : Work) : Nat := Zb4 w.old w.queue + Z7i w.heap.conf.pw w.heap.pages
structure WkOk (w : Work) : Prop where
 words : WOk w.heap.words
 wl : w.heap.words.length ≤ 4096
 conf : Z07 w.heap.conf = true
 pl : (w.heap.pages.length : Int) = w.heap.conf.pg
 sp : w.heap.space = 0 ∨ w.heap.space = 1
 ol : w.old.length ≤ 524288
 o : ∀ x ∈ w.old,0 ≤ x ∧ x ≤ 8192
 tk : ∀ x ∈ w.taken,0 ≤ x ∧ x < w.heap.pages.length ∧ (w.heap.pages.getD x.toNat default).kind = 1
 tl : w.taken.length ≤ w.queue.length
 q : ∀ x ∈ w.queue,0 ≤ x ∧ x ≤ 16384
 us : ∀ j,j < w.heap.pages.length → 0 ≤ (w.heap.pages.getD j default).used ∧ (w.heap.pages.getD j default).used ≤ 1024
 mu : w.queue.length + muW w ≤ 1000000
 sc : 0 ≤ w.scanned ∧ w.scanned ≤ w.queue.length
 rk : 0 ≤ w.rep.kept ∧ 0 ≤ w.rep.copied ∧ w.rep.kept + w.rep.copied ≤ w.queue.length
 rs : 0 ≤ w.rep.steps ∧ w.rep.steps ≤ 1000 * w.scanned
 r0 : w.rep.filled = 0 ∧ w.rep.freed = 0 ∧ w.rep.cleared = 0
theorem Zaj (pw : Int) (p : Page) : ∀ (l : List Page) (i : Nat),i < l.length → Z7i pw (l.set i p) + Z9C pw (l.getD i default) = Z7i pw l + Z9C pw p
 | [],i,h => by simp at h
 | x :: l,0,_ => by simp [Z7i]; omega
 | x :: l,i + 1,h => by
  have := Zaj pw p l i (by simpa using h)
  simp only [Z7i,List.set_cons_succ,List.map_cons,List.sum_cons,List.getD_cons_succ] at this ⊢
  omega
theorem Z7D (old q : List Int) (r : Int) : (old.filter fun x => decide (x ∉ q ++ [r])) = (old.filter fun x => decide (x ∉ q)).filter fun x => decide (x ≠ r) := by
 rw [List.filter_filter]
 refine List.filter_congr fun x _ => ?_
 by_cases h3 : x ∈ q <;> by_cases h4 : x = r <;> simp [h3,h4]
theorem Zic (old q : List Int) (r : Int) : Zb4 old (q ++ [r]) ≤ Zb4 old q := by
 unfold Zb4
 rw [Z7D]
 exact List.length_filter_le _ _
theorem Zhf {old q : List Int} {r : Int} (h1 : r ∈ old) (h2 : r ∉ q) : Zb4 old (q ++ [r]) < Zb4 old q := by
 unfold Zb4
 rw [Z7D]
 exact List.length_filter_lt_length_iff_exists.2 ⟨r,List.mem_filter.2 ⟨h1,by simpa using h2⟩,by simp⟩
theorem Z7n {l : List Page} {i : Nat} {p q : Page} (h : i < l.length) : tookP l i 1 p q = l.set i p := by
 unfold tookP
 have e : wr l (List.replicate 1 q) i 1 = l.set i q := by
  have := Z9r (ws := l) (l := List.replicate 1 q) (i := i) (k := 0) (by simp; omega) (by simp) q
  rw [Z7K] at this
  simpa using this.symm
 rw [e,List.set_set]
theorem Z0r {l : List Page} {i j : Nat} {p : Page} (h : i < l.length) : (l.set i p).getD j default = if i = j then p else l.getD j default := by
 simp only [List.getD_eq_getElem?_getD,List.getElem?_set,h]
 split
 ·rename_i e; subst e; simp
 ·rfl
theorem Z1s (l : List Page) (i m : Nat) (s : Int) : (Z0G l i m s).length = l.length := by simp [Z0G]
theorem Z1r {l : List Page} {i m : Nat} {s : Int} {j : Nat} (h : j < l.length) : (Z0G l i m s).getD j default = if i ≤ j ∧ j ≤ i + m then Zbk s (l.getD j default) else l.getD j default := by
 simp [Z0G,h,List.getD_eq_getElem?_getD]
theorem ZdO (pw : Int) (l : List Page) (i m : Nat) (s : Int) : Z7i pw (Z0G l i m s) = Z7i pw l := by
 unfold Z7i
 congr 1
 refine List.ext_getElem (by simp [Z0G]) fun j h1 h2 => ?_
 have h : j < l.length := by simpa using h2
 simp only [Z0G,List.map_map,List.getElem_map,List.getElem_range,Function.comp]
 have e : l.getD j default = l[j] := by simp [List.getD_eq_getElem?_getD,h]
 rw [e]
 split
 ·rfl
 ·rfl
abbrev sZ (w : Work) (r : Int) : Int := sizeH (decodeH (loadA w.heap.words r).fst).fst
abbrev lT (w : Work) : Int := w.taken.getD ((↑w.taken.length : Int) - 1).toNat default
theorem ZbD (w : Work) (r : Int) (hw : WkOk w) : GSpec Tryz.prog 167 [w.av,u64 r] false (w.keep r).av [] := by
 have h1 := hw.mu
 have h2 := hw.rk
 exact gF [] Tryz.func167 [] (Fh 11 [.els (List.map wdv (w.queue ++ [r]))] (Fs 5 (List.map wdv []) (Fa (by (simp [Work.keep, *]; omega) : (List.map wdv []).length + (List.map wdv w.queue).length≤2 ^ 30) (Fs 8 (List.map wdv w.queue) (Fs 10 (List.map wdv [r]) (Fa (by (simp [Work.keep, *]; omega) : (List.map wdv w.queue).length + (List.map wdv [r]).length≤2 ^ 30) (Fa (by simp [Work.keep,List.map_take,List.map_drop,List.map_set,List.map_append,wdv,idv] : List.map wdv w.queue ++ List.map wdv [r] =List.map wdv (w.queue ++ [r])) (Fi 16 (w.rep.kept + 1) Fz))))))))
def tknL (w : Work) (x : Int) (i : Nat) : Tg := ⟨tm 20 [(1,int x),(2,.pt 8002 0 0),(4,bool false),(5,int i)],[(8002,.box 176 w.cells)],60⟩
theorem ZdJ (w : Work) (x : Int) (i : Nat) (hl : w.taken.length ≤ 1048576) (hi : i < w.taken.length) (hv : ¬ w.taken.getD i default = x) : CSpec Tryz.prog (rndF Tryz.f172 0) (tknL w x i).st .nrm (tknL w x (i + 1)).st := by
 exact sF [] [] (Fl 9 idv w.taken (Ftb 10 (decide ((↑i : Int) < (↑w.taken.length : Int))) (Fek 16 idv w.taken (↑i) i (Ffb 19 (w.taken.getD i default == x) (Fx 12 i Fz)))))
theorem Zhj (w : Work) (x : Int) (i : Nat) (hl : w.taken.length ≤ 1048576) (hi : i < w.taken.length) (hv : w.taken.getD i default = x) : CSpec Tryz.prog (rndF Tryz.f172 0) (tknL w x i).st .ret (Tg.st ⟨tm 20 [(4,bool true)],[],60⟩) := by
 exact sF [] [] (Fl 9 idv w.taken (Ftb 10 (decide ((↑i : Int) < (↑w.taken.length : Int))) (Fek 16 idv w.taken (↑i) i (Ftb 19 (w.taken.getD i default == x) Fz))))
theorem Zkg (w : Work) (x : Int) : CSpec Tryz.prog (rndF Tryz.f172 0) (tknL w x w.taken.length).st (.ext 0) (Tg.st ⟨tm 20 [],[],60⟩) := by
 exact sF [] [] (Fl 9 idv w.taken (Ffb 10 (decide ((↑w.taken.length : Int) < (↑w.taken.length : Int))) Fz))
theorem ZiP (w : Work) (x : Int) (hl : w.taken.length ≤ 1048576) (h : x ∉ w.taken) : CSpec Tryz.prog (blkF Tryz.f172 0) (Tg.st ⟨tm 20 [(1,int x),(2,.pt 8002 0 0),(4,bool false),(5,int 0)],[(8002,.box 176 w.cells)],60⟩) .nrm (Tg.st ⟨tm 20 [],[],60⟩) :=
 Z0d (S := fun i => (tknL w x i).st) w.taken.length (by kernel_rfl) (fun i hi => ZdJ w x i hl hi fun e => h (getD_mem_iff.2 ⟨i,hi,e⟩)) (Zkg w x)
theorem Zhb (w : Work) (x : Int) (hl : w.taken.length ≤ 1048576) (h : x ∈ w.taken) : CSpec Tryz.prog (blkF Tryz.f172 0) (Tg.st ⟨tm 20 [(1,int x),(2,.pt 8002 0 0),(4,bool false),(5,int 0)],[(8002,.box 176 w.cells)],60⟩) .ret (Tg.st ⟨tm 20 [(4,bool true)],[],60⟩) := by
 obtain ⟨i,h1,h2⟩ := ZgE (getD_mem_iff.1 h)
 exact Z0T (S := fun i => (tknL w x i).st) i (by kernel_rfl) (fun j hj => ZdJ w x j hl (by omega) fun e => by have := h2 j ⟨by omega,e⟩; omega) (Zhj w x i hl h1.1 h1.2)
theorem ZdY (w : Work) (i : Int) (hl : w.taken.length ≤ 1048576) : GSpec Tryz.prog 172 [w.av,int i] true (bool (decide (i ∈ w.taken))) [] := by
 by_cases h : i ∈ w.taken
 ·rw [decide_eq_true h]
  exact gF [] Tryz.func172 [] (Fu (@Zhb w i ‹_› ‹_›) Fz)
 ·rw [decide_eq_false h]
  exact gF [] Tryz.func172 [] (Fu (@ZiP w i ‹_› ‹_›) Fz)
theorem Z1P (w : Work) (i : Int) (hl : w.taken.length ≤ 1048576) (hp : w.heap.pages.length ≤ 1048576) : GSpec Tryz.prog 162 [w.av,int i] true (bool (Z1c w i)) [] := by
 rcases bb (decide (i < 0) || decide ((↑w.heap.pages.length : Int) ≤ i)) with hc0 | hc0<;>have hc0p:=hc0<;>simp only [bs] at hc0p
 ·exact gF [] Tryz.func162 [false,false,false,false,false,false,true] (FlG 13 (!decide (i < 0)) Page.dv w.heap.pages (Ft 15 hc0 (Fa (by (simp [Z1c, *]; omega) : false =Z1c w i) Fz)))
 ·obtain ⟨hc0pa,hc0pb⟩ := hc0p
  exact gF [] Tryz.func162 [false,false,false,false,false,false,false,false,false,false,false,false,false,false,false,false,true] (FlG 13 (!decide (i < 0)) Page.dv w.heap.pages (Ff 15 hc0 (Fe 20 Page.dv w.heap.pages i (FcG 36 ((w.heap.pages.getD i.toNat default).kind == 1&&(w.heap.pages.getD i.toNat default).space != w.heap.space) (fun hg => by (try simp only [bs] at hg); exact @ZdY w i (by (try simp only [bs] at hg); assumption)) (Fa (by grind [Z1c] : ((w.heap.pages.getD i.toNat default).kind == 1&&(w.heap.pages.getD i.toNat default).space != w.heap.space&&!decide (i ∈ w.taken)) =Z1c w i) Fz)))))
theorem ZdE (w : Work) (a : Int) (hw : WkOk w) (h0 : 0 ≤ a ∧ a ≤ 18446744073709551615) : GSpec Tryz.prog 163 [w.av,u64 a] true (hdW w a).av [] := by
 have h1 := hw.wl
 have h2 := Z0S hw.words a
 exact gF [] Tryz.func163 [] (Fc 14 (@Z1H w.heap.words a (by omega) ‹_›) (Fc 19 (@Z2J ((loadA w.heap.words a).fst) (by omega) (by omega)) Fz))
theorem Z5r {ws l : List Int} (h : WOk ws) (hl : WOk l) (a : Int) : WOk (Z0b ws a l).1 := by
 unfold Z0b
 split
 ·intro x hx
  simp only [spl,List.mem_append] at hx
  rcases hx with (hx | hx) | hx
  ·exact h x (List.mem_of_mem_take hx)
  ·exact hl x hx
  ·exact h x (List.mem_of_mem_drop hx)
 ·exact Z67
theorem Z7j (ws l : List Int) (a : Int) : (Z0b ws a l).1.length ≤ ws.length := by
 unfold Z0b
 split
 ·simp only
  rw [Z3n (by omega)]
  exact Nat.le_refl _
 ·simp
theorem Z6Q {ws : List Int} (h : WOk ws) {v : Int} (hv : 0 ≤ v ∧ v ≤ 18446744073709551615) (a : Int) : WOk (Z0F ws a v).1 := Z5r h (by intro x hx; simp at hx; subst hx; exact hv) a
theorem Zax (ws : List Int) (a v : Int) : (Z0F ws a v).1.length ≤ ws.length := Z7j ws [v] a
theorem Zi3 {ws : List Int} (h : WOk ws) (a n : Int) : WOk (Z15 ws a n).1 := by
 unfold Z15
 repeat' split
 ·exact Z67
 ·intro x hx; exact h x (List.mem_of_mem_drop (List.mem_of_mem_take hx))
 ·exact Z67
theorem Zhu {ws : List Int} (h : WOk ws) (a b n : Int) : WOk (moveA ws a b n).1 := by
 unfold moveA
 split
 ·exact Z67
 ·exact Z5r h (Zi3 h b n) a
theorem Zdb (ws : List Int) (a b n : Int) : (moveA ws a b n).1.length ≤ ws.length := by
 unfold moveA
 split
 ·simp
 ·exact Z7j _ _ _
theorem WkOk.withWords {w : Work} (hw : WkOk w) {l : List Int} (h : WOk l) (hl : l.length ≤ 4096) : WkOk ⟨⟨w.heap.conf,l,w.heap.pages,w.heap.space,w.heap.bump⟩,w.old,w.taken,w.queue,w.scanned,w.rep⟩ :=
 ⟨h,hl,hw.conf,hw.pl,hw.sp,hw.ol,hw.o,hw.tk,hw.tl,hw.q,hw.us,hw.mu,hw.sc,hw.rk,hw.rs,hw.r0⟩
theorem ZeQ {w : Work} (hw : WkOk w) {r : Int} (h1 : r ∈ w.old) (h2 : r ∉ w.queue) : WkOk (w.keep r) := by
 have hm := hw.mu
 have hl := Zhf h1 h2
 have ho := hw.o r h1
 have hs := hw.sc
 have hk := hw.rk
 have ht := hw.tl
 unfold muW at hm
 refine ⟨hw.words,hw.wl,hw.conf,hw.pl,hw.sp,hw.ol,hw.o,hw.tk, ?_, ?_,hw.us, ?_, ?_, ?_,hw.rs,hw.r0⟩
 ·simp only [Work.keep,List.length_append,List.length_singleton]; omega
 ·intro x hx
  simp only [Work.keep,List.mem_append,List.mem_singleton] at hx
  rcases hx with hx | rfl
  ·exact hw.q x hx
  ·omega
 ·simp only [muW,Work.keep,List.length_append,List.length_singleton]; omega
 ·simp only [Work.keep,List.length_append,List.length_singleton]; omega
 ·simp only [Work.keep,List.length_append,List.length_singleton]; omega
theorem Zg8 {w : Work} (hw : WkOk w) (i : Nat) : WkOk (w.flip i) := by
 refine ⟨hw.words,hw.wl,hw.conf, ?_,hw.sp,hw.ol,hw.o, ?_,hw.tl,hw.q, ?_, ?_,hw.sc,hw.rk,hw.rs,hw.r0⟩
 ·simp only [Work.flip,Z1s]; exact hw.pl
 ·intro x hx
  have := hw.tk x hx
  simp only [Work.flip,Z1s]
  refine ⟨this.1,this.2.1, ?_⟩
  rw [Z1r (by omega)]
  split
  ·exact this.2.2
  ·exact this.2.2
 ·intro j hj
  simp only [Work.flip,Z1s] at hj ⊢
  have := hw.us j hj
  rw [Z1r hj]
  split
  ·exact this
  ·exact this
 ·have := hw.mu
  simp only [muW,Work.flip,ZdO] at this ⊢
  exact this
theorem Z1u {w : Work} (h : 0 < w.taken.length) : Z0Q w ∈ w.taken := by
 unfold Z0Q
 exact getD_mem_iff.2 ⟨((w.taken.length : Int) - 1).toNat,by omega,rfl⟩
theorem Z5f {w : Work} {n : Int} (hw : WkOk w) (hn : 1 ≤ n) (h : (w.place n).2.2 = true) :
  ∃ (i : Nat) (p : Page) (t : List Int),i < w.heap.pages.length ∧ p.kind = 1 ∧ 0 ≤ p.used ∧ p.used ≤ 1024 + n ∧ (p.used ≤ 64 ∨ p.used = n) ∧ Z9C w.heap.conf.pw p + 1 ≤ Z9C w.heap.conf.pw (w.heap.pages.getD i default) ∧ t.length ≤ w.taken.length + 1 ∧ (∀ x ∈ t,x ∈ w.taken ∨ x = (i : Int)) ∧ 4096 ≤ (w.place n).2.1 ∧ (w.place n).2.1 ≤ 12288 ∧
  (w.place n).1 = ⟨⟨w.heap.conf,w.heap.words,w.heap.pages.set i p,w.heap.space,w.heap.bump⟩,w.old,t,w.queue,w.scanned,w.rep⟩ := by
 have hb := validB_iff.1 hw.conf
 have hpl := hw.pl
 by_cases hf : Z4p w n
 ·have e : w.place n = (⟨⟨w.heap.conf,w.heap.words,Z1w w.heap.pages (Z0Q w).toNat n,w.heap.space,w.heap.bump⟩,w.old,w.taken,w.queue,w.scanned,w.rep⟩,4096 + Z0Q w * w.heap.conf.pw + (w.heap.pages.getD (Z0Q w).toNat default).used,true) := by rw [Work.place,if_pos hf]
  unfold Z4p at hf
  have hm := hw.tk _ (Z1u hf.1)
  have hu := hw.us (Z0Q w).toNat (by omega)
  have ha := Z2y hw.conf hm.1 (by omega)
  refine ⟨(Z0Q w).toNat,⟨(w.heap.pages.getD (Z0Q w).toNat default).kind,(w.heap.pages.getD (Z0Q w).toNat default).space,(w.heap.pages.getD (Z0Q w).toNat default).used + n,(w.heap.pages.getD (Z0Q w).toNat default).pins⟩,w.taken,by omega,hm.2.2,by simp only; omega,by simp only; omega,Or.inl (by simp only; omega), ?_,by omega,fun x hx => Or.inl hx, ?_, ?_, ?_⟩
  ·have hk := hm.2.2
   simp only [Z9C,hk,if_neg (show ¬ (1 : Int) = 0 by decide)]
   omega
  ·rw [e]; simp only; omega
  ·rw [e]; simp only; omega
  ·rw [e]; rfl
 ·by_cases hg : 0 ≤ Z0v w
  ·have e : w.place n = (⟨⟨w.heap.conf,w.heap.words,Z1w (Z2q w) (Z0v w).toNat n,w.heap.space,w.heap.bump⟩,w.old,w.taken ++ [Z0v w],w.queue,w.scanned,w.rep⟩,4096 + Z0v w * w.heap.conf.pw,true) := by rw [Work.place,if_neg hf,if_pos hg]
   obtain ⟨f1,f2,f3,f4⟩ := Z24 (h := ⟨w.heap.conf,w.heap.words,w.heap.pages,1 - w.heap.space,w.heap.bump⟩) (by have := hw.sp; simp only; omega) hg
   obtain ⟨g1,g2,g3⟩ := Z18 hg
   simp only at f1 f2 f3 f4
   have hi : (Z0v w).toNat < w.heap.pages.length := by unfold Z0v; omega
   have ha := Z2y hw.conf hg (by unfold Z0v; omega)
   have hk : (w.heap.pages.getD (Z0v w).toNat default).kind = 0 := by
    have := freeK_iff.1 g3 0 (by decide)
    simpa [Z0v] using this
   have hq : Z1w (Z2q w) (Z0v w).toNat n = w.heap.pages.set (Z0v w).toNat ⟨1,1 - w.heap.space,n,0⟩ := by
    unfold Z1w
    have e4 : (Z2q w).getD (Z0v w).toNat default = ⟨1,1 - w.heap.space,0,0⟩ := f4
    rw [e4]
    have e1 : Z2q w = w.heap.pages.set (Z0v w).toNat ⟨1,1 - w.heap.space,0,0⟩ := by
     have : Z2q w = tookP w.heap.pages (Z0v w).toNat 1 ⟨1,1 - w.heap.space,0,0⟩ ⟨0,0,0,0⟩ := f1
     rw [this,Z7n hi]
    rw [e1,List.set_set]
    simp
   refine ⟨(Z0v w).toNat,⟨1,1 - w.heap.space,n,0⟩,w.taken ++ [Z0v w],hi,rfl,by simp only; omega,by simp only; omega,Or.inr rfl, ?_,by simp, ?_, ?_, ?_, ?_⟩
   ·simp only [Z9C,hk]
    simp; omega
   ·intro x hx
    simp only [List.mem_append,List.mem_singleton] at hx
    rcases hx with hx | rfl
    ·exact Or.inl hx
    ·exact Or.inr (by omega)
   ·rw [e]; simp only; omega
   ·rw [e]; simp only; omega
   ·rw [e,hq]
  ·rw [Work.place,if_neg hf,if_neg hg] at h
   simp at h
theorem Zj7 {w : Work} (hw : WkOk w) {r n : Int} (hr : r ∈ w.old) (hq : r ∉ w.queue) (hn : 1 ≤ n ∧ n ≤ 256) (h : (w.place n).2.2 = true) : WkOk ((w.place n).1.copy r (w.place n).2.1 n) := by
 obtain ⟨i,p,t,h1,h2,h3,h4,h4',h5,h6,h7,h8,h9,e⟩ := Z5f hw hn.1 h
 generalize (w.place n).2.1 = a at h8 h9
 rw [e]
 have hm := hw.mu
 have hs := Zaj w.heap.conf.pw p w.heap.pages i h1
 have hsc := hw.sc
 have hk := hw.rk
 have ht := hw.tl
 have hl := Zic w.old w.queue a
 unfold muW at hm
 have w1 := Zhu hw.words a r n
 have l1 := Zdb w.heap.words a r n
 have l2 := Zax (moveA w.heap.words a r n).1 r (4 * a + 2)
 have l0 := hw.wl
 refine ⟨Z6Q w1 (by omega) r, ?_,hw.conf, ?_,hw.sp,hw.ol,hw.o, ?_, ?_, ?_, ?_, ?_, ?_, ?_,hw.rs,hw.r0⟩
 ·simp only [Work.copy]; omega
 ·simp only [Work.copy,List.length_set]; exact hw.pl
 ·intro x hx
  simp only [Work.copy,List.length_set] at hx ⊢
  rcases h7 x hx with hx | hx
  ·have := hw.tk x hx
   refine ⟨this.1,this.2.1, ?_⟩
   rw [Z0r h1]
   split
   ·exact h2
   ·exact this.2.2
  ·subst hx
   refine ⟨by omega,by omega, ?_⟩
   rw [Z0r h1,if_pos (by simp)]
   exact h2
 ·simp only [Work.copy,List.length_append,List.length_singleton]; omega
 ·intro x hx
  simp only [Work.copy,List.mem_append,List.mem_singleton] at hx
  rcases hx with hx | rfl
  ·exact hw.q x hx
  ·omega
 ·intro j hj
  simp only [Work.copy,List.length_set] at hj ⊢
  rw [Z0r h1]
  split
  ·omega
  ·exact hw.us j hj
 ·simp only [muW,Work.copy,List.length_append,List.length_singleton]; omega
 ·simp only [Work.copy,List.length_append,List.length_singleton]; omega
 ·simp only [Work.copy,List.length_append,List.length_singleton]; omega
theorem Z5P {v : Int} (h : 0 ≤ v) : 0 ≤ (Z0q v).1 ∧ (Z0q v).1 ≤ 4294967295 := by
 unfold Z0q
 split <;> simp only <;> omega
theorem Z2b (v : Int) : Z0i (decodeH v).1 = true := by
 cases e : (decodeH v).2 with
 | true => exact Z8D e
 | false =>
  unfold decodeH at e ⊢
  split
  ·rename_i hc; rw [if_pos hc] at e; cases e
  ·decide
theorem Z5K (w : Work) (r : Int) : 1 ≤ sizeH (hdW w r) ∧ sizeH (hdW w r) ≤ 256 := by
 have hv : Z0i (hdW w r) = true := Z2b _
 have := validH_iff.1 hv
 rw [sizeH,if_pos hv]
 omega
theorem ZeR {w : Work} (hw : WkOk w) (r : Int) (e : (w.fwd r).2.2 = 0) : WkOk (w.fwd r).1 ∧ 0 ≤ (w.fwd r).2.1 ∧ (w.fwd r).2.1 ≤ 4294967296 ∧ w.queue.length ≤ (w.fwd r).1.queue.length ∧ (w.fwd r).1.scanned = w.scanned ∧ (w.fwd r).1.rep.steps = w.rep.steps := by
 have hv := Z0S hw.words r
 have ht := Z5P hv.1
 unfold Work.fwd at e ⊢
 split at e
 ·rename_i c1
  rw [if_pos c1]
  refine ⟨hw, ?_, ?_,Nat.le_refl _,rfl,rfl⟩
  ·rcases c1 with c1 | c1
   ·simp only; omega
   ·exact (hw.q r c1).1
  ·rcases c1 with c1 | c1
   ·simp only; omega
   ·have := hw.q r c1; simp only; omega
 ·rename_i c1
  rw [if_neg c1]
  have c1' : r ∉ w.queue := fun h => c1 (Or.inr h)
  split at e
  ·simp at e
  ·rename_i c2
   rw [if_neg c2]
   have c2' : r ∈ w.old := Decidable.not_not.1 c2
   have ho := hw.o r c2'
   split at e
   ·rename_i c3
    rw [if_pos c3]
    exact ⟨hw,ht.1,by simp only; omega,Nat.le_refl _,rfl,rfl⟩
   ·rename_i c3
    rw [if_neg c3]
    split at e
    ·simp at e
    ·rename_i c4
     rw [if_neg c4]
     split at e
     ·rename_i c5
      rw [if_pos c5]
      exact ⟨ZeQ hw c2' c1',ho.1,by simp only; omega,by simp [Work.keep],rfl,rfl⟩
     ·rename_i c5
      rw [if_neg c5]
      split at e
      ·rename_i c6
       rw [if_pos c6]
       exact ⟨ZeQ (Zg8 hw _) c2' c1',ho.1,by simp only; omega,by simp [Work.keep,Work.flip],rfl,rfl⟩
      ·rename_i c6
       rw [if_neg c6]
       split at e
       ·simp at e
       ·rename_i c7
        rw [if_neg c7]
        have c7' : (w.place (sizeH (hdW w r))).2.2 = true := by simpa using c7
        have hz := Z5K w r
        obtain ⟨i,p,t,h1,h2,h3,h4,h4',h5,h6,h7,h8,h9,ee⟩ := Z5f hw hz.1 c7'
        refine ⟨Zj7 hw c2' c1' hz c7', ?_, ?_, ?_, ?_, ?_⟩
        ·simp only; omega
        ·simp only; omega
        ·simp only [Work.copy]; rw [ee]; simp
        ·simp only [Work.copy]; rw [ee]
        ·simp only [Work.copy]; rw [ee]
theorem Z8E (w : Work) (n : Int) (hw : WkOk w) (hn : 1 ≤ n ∧ n ≤ 256) : GSpec Tryz.prog 168 [w.av,int n] false (.tu [(w.place n).1.av,u64 (w.place n).2.1,bool (w.place n).2.2]) [] := by
 have o1 := hw.conf
 have hb := validB_iff.1 o1
 have hpl := hw.pl
 have hmu := hw.mu
 have htl := hw.tl
 have hr := Z5g w.heap.pages 1
 by_cases hf : Z4p w n
 ·have e7 : w.place n = (⟨⟨w.heap.conf,w.heap.words,Z1w w.heap.pages (Z0Q w).toNat n,w.heap.space,w.heap.bump⟩,w.old,w.taken,w.queue,w.scanned,w.rep⟩,4096 + Z0Q w * w.heap.conf.pw + (w.heap.pages.getD (Z0Q w).toNat default).used,true) := by rw [Work.place,if_pos hf]
  unfold Z4p at hf
  have hm := hw.tk _ (Z1u hf.1)
  have hu := hw.us (Z0Q w).toNat (by omega)
  have ha := Z2y hw.conf hm.1 (by omega)
  unfold Z0Q at hm hu ha hf e7
  rw [e7]
  exact gF [] Tryz.func168 [false,false,false,false,false,false,false,false,false,false,false,false,false,false,false,false,false,false,false,false] (Fh 34 [.el (w.heap.pages.getD (w.taken.getD ((↑w.taken.length : Int) - 1).toNat default).toNat default).dv] (Fh 47 [.el (idv (w.taken.getD ((↑w.taken.length : Int) - 1).toNat default))] (Fh 91 [.el (w.heap.pages.getD (w.taken.getD ((↑w.taken.length : Int) - 1).toNat default).toNat default).dv] (Fh 104 [.el (w.heap.pages.getD (w.taken.getD ((↑w.taken.length : Int) - 1).toNat default).toNat default).dv] (Fs 10 (List.map Page.dv []) (Fa (by (simp [*]; omega) : (List.map Page.dv []).length + (List.map Page.dv w.heap.pages).length≤2 ^ 30) (Fs 14 (List.map Page.dv w.heap.pages) (Fl 19 idv w.taken (FiG 29 (decide (0 < (↑w.taken.length : Int))) ((↑w.taken.length : Int) - 1) (Fa (by intro hg; (try simp only [bs] at hg); exact elI (by omega) (by omega) (by omega) : decide (0 < (↑w.taken.length : Int)) =true→0≤(↑w.taken.length : Int) - 1∧(List.map idv w.taken)[((↑w.taken.length : Int) - 1).toNat]? = some (idv (w.taken.getD ((↑w.taken.length : Int) - 1).toNat default))) (Fa (by intro hg; (try simp only [bs] at hg); (simp only [List.length_map]; omega) : decide (0 < (↑w.taken.length : Int)) =true→0≤w.taken.getD ((↑w.taken.length : Int) - 1).toNat default∧(w.taken.getD ((↑w.taken.length : Int) - 1).toNat default).toNat < (List.map Page.dv w.heap.pages).length) (Fa (by intro hg; (try simp only [bs] at hg); exact Z1E (by omega) : decide (0 < (↑w.taken.length : Int)) =true→(List.map Page.dv w.heap.pages)[(w.taken.getD ((↑w.taken.length : Int) - 1).toNat default).toNat]? = some (w.heap.pages.getD (w.taken.getD ((↑w.taken.length : Int) - 1).toNat default).toNat default).dv) (FiG 36 (decide (0 < (↑w.taken.length : Int))) ((w.heap.pages.getD (w.taken.getD ((↑w.taken.length : Int) - 1).toNat default).toNat default).used + n) (Ftb 42 (decide (0 < (↑w.taken.length : Int))&&decide ((w.heap.pages.getD (w.taken.getD ((↑w.taken.length : Int) - 1).toNat default).toNat default).used + n≤w.heap.conf.pw)) (Fi 46 ((↑w.taken.length : Int) - 1) (Fek 30 idv w.taken ((↑w.taken.length : Int) - 1) (((↑w.taken.length : Int) - 1).toNat) (Fi 83 (w.taken.getD ((↑w.taken.length : Int) - 1).toNat default * w.heap.conf.pw) (Fi 84 (4096 + w.taken.getD ((↑w.taken.length : Int) - 1).toNat default * w.heap.conf.pw) (Fa (by (simp only [List.length_map]; omega) : 0≤w.taken.getD ((↑w.taken.length : Int) - 1).toNat default∧(w.taken.getD ((↑w.taken.length : Int) - 1).toNat default).toNat < (List.map Page.dv w.heap.pages).length) (Fa (by exact Z1E (by omega) : (List.map Page.dv w.heap.pages)[(w.taken.getD ((↑w.taken.length : Int) - 1).toNat default).toNat]? = some (w.heap.pages.getD (w.taken.getD ((↑w.taken.length : Int) - 1).toNat default).toNat default).dv) (Fi 92 (4096 + w.taken.getD ((↑w.taken.length : Int) - 1).toNat default * w.heap.conf.pw + (w.heap.pages.getD (w.taken.getD ((↑w.taken.length : Int) - 1).toNat default).toNat default).used) (Fv 93 (4096 + w.taken.getD ((↑w.taken.length : Int) - 1).toNat default * w.heap.conf.pw + (w.heap.pages.getD (w.taken.getD ((↑w.taken.length : Int) - 1).toNat default).toNat default).used) (Fa (by (simp only [List.length_map]; omega) : 0≤w.taken.getD ((↑w.taken.length : Int) - 1).toNat default∧(w.taken.getD ((↑w.taken.length : Int) - 1).toNat default).toNat < (List.map Page.dv w.heap.pages).length) (Fa (by exact Z1E (by omega) : (List.map Page.dv w.heap.pages)[(w.taken.getD ((↑w.taken.length : Int) - 1).toNat default).toNat]? = some (w.heap.pages.getD (w.taken.getD ((↑w.taken.length : Int) - 1).toNat default).toNat default).dv) (Fi 106 ((w.heap.pages.getD (w.taken.getD ((↑w.taken.length : Int) - 1).toNat default).toNat default).used + n) (Fa (by (simp only [List.length_map]; omega) : 0≤w.taken.getD ((↑w.taken.length : Int) - 1).toNat default∧(w.taken.getD ((↑w.taken.length : Int) - 1).toNat default).toNat < (List.map Page.dv w.heap.pages).length) (Fa (by exact Z1E (by omega) : (List.map Page.dv w.heap.pages)[(w.taken.getD ((↑w.taken.length : Int) - 1).toNat default).toNat]? = some (w.heap.pages.getD (w.taken.getD ((↑w.taken.length : Int) - 1).toNat default).toNat default).dv) (FS 10108 Page.dv w.heap.pages ((w.taken.getD ((↑w.taken.length : Int) - 1).toNat default).toNat) (Page.mk (w.heap.pages.getD (w.taken.getD ((↑w.taken.length : Int) - 1).toNat default).toNat default).kind (w.heap.pages.getD (w.taken.getD ((↑w.taken.length : Int) - 1).toNat default).toNat default).space ((w.heap.pages.getD (w.taken.getD ((↑w.taken.length : Int) - 1).toNat default).toNat default).used + n) (w.heap.pages.getD (w.taken.getD ((↑w.taken.length : Int) - 1).toNat default).toNat default).pins) ((w.heap.pages.getD (w.taken.getD ((↑w.taken.length : Int) - 1).toNat default).toNat default).dv) Fz))))))))))))))))))))))))))))
 ·by_cases hg : 0 ≤ first w.heap.pages 1
  ·have e7 : w.place n = (⟨⟨w.heap.conf,w.heap.words,Z1w (Z2q w) (first w.heap.pages 1).toNat n,w.heap.space,w.heap.bump⟩,w.old,w.taken ++ [first w.heap.pages 1],w.queue,w.scanned,w.rep⟩,4096 + first w.heap.pages 1 * w.heap.conf.pw,true) := by rw [Work.place,if_neg hf,if_pos (show 0 ≤ Z0v w from hg)]; rfl
   obtain ⟨q1,q2,q3,q4⟩ := Z24 (h := ⟨w.heap.conf,w.heap.words,w.heap.pages,1 - w.heap.space,w.heap.bump⟩) (by have := hw.sp; simp only; omega) hg
   obtain ⟨r1,r2,r3⟩ := Z18 hg
   simp only at q1 q2 q3 q4
   rw [q1] at q2 q4
   have e8 : Z2q w = _ := q1
   rw [e8] at e7
   have r4 : Z4z w.heap.pages (first w.heap.pages 1).toNat 1 = true := r3
   have ha := Z2y hw.conf hg (by omega)
   have q6 := congrArg Page.used q4
   simp only at q6
   have hs := hw.sp
   have hm : 0 < w.taken.length → 0 ≤ Z0Q w ∧ Z0Q w < w.heap.pages.length := fun h => ⟨(hw.tk _ (Z1u h)).1,(hw.tk _ (Z1u h)).2.1⟩
   have hu := fun h => hw.us (Z0Q w).toNat h
   unfold Z4p at hf
   unfold Z0Q at hf hm hu
   exact gF [] Tryz.func168 [false,false,false,false,false,false,false,false,false,false,false,false,false,false,false,false,false,false,false,true] (Fh 30 [.el (idv (w.taken.getD ((↑w.taken.length : Int) - 1).toNat default))] (Fh 34 [.el (w.heap.pages.getD (w.taken.getD ((↑w.taken.length : Int) - 1).toNat default).toNat default).dv] (Fh 76 [.els (List.map idv (w.taken ++ [first w.heap.pages 1]))] (Fh 91 [.el ((tookP w.heap.pages (first w.heap.pages 1).toNat 1 (Page.mk 1 (1 - w.heap.space) 0 0) (Page.mk 0 0 0 0)).getD (first w.heap.pages 1).toNat default).dv] (Fh 104 [.el ((tookP w.heap.pages (first w.heap.pages 1).toNat 1 (Page.mk 1 (1 - w.heap.space) 0 0) (Page.mk 0 0 0 0)).getD (first w.heap.pages 1).toNat default).dv] (Fs 10 (List.map Page.dv []) (Fa (by (simp [*]; omega) : (List.map Page.dv []).length + (List.map Page.dv w.heap.pages).length≤2 ^ 30) (Fs 14 (List.map Page.dv w.heap.pages) (Fl 19 idv w.taken (FiG 29 (decide (0 < (↑w.taken.length : Int))) ((↑w.taken.length : Int) - 1) (Fa (by intro hg; (try simp only [bs] at hg); exact elI (by omega) (by omega) (by omega) : decide (0 < (↑w.taken.length : Int)) =true→0≤(↑w.taken.length : Int) - 1∧(List.map idv w.taken)[((↑w.taken.length : Int) - 1).toNat]? = some (idv (w.taken.getD ((↑w.taken.length : Int) - 1).toNat default))) (Fa (by intro hg; (try simp only [bs] at hg); (simp only [List.length_map]; omega) : decide (0 < (↑w.taken.length : Int)) =true→0≤w.taken.getD ((↑w.taken.length : Int) - 1).toNat default∧(w.taken.getD ((↑w.taken.length : Int) - 1).toNat default).toNat < (List.map Page.dv w.heap.pages).length) (Fa (by intro hg; (try simp only [bs] at hg); exact Z1E (by omega) : decide (0 < (↑w.taken.length : Int)) =true→(List.map Page.dv w.heap.pages)[(w.taken.getD ((↑w.taken.length : Int) - 1).toNat default).toNat]? = some (w.heap.pages.getD (w.taken.getD ((↑w.taken.length : Int) - 1).toNat default).toNat default).dv) (FiG 36 (decide (0 < (↑w.taken.length : Int))) ((w.heap.pages.getD (w.taken.getD ((↑w.taken.length : Int) - 1).toNat default).toNat default).used + n) (Ffb 42 (decide (0 < (↑w.taken.length : Int))&&decide ((w.heap.pages.getD (w.taken.getD ((↑w.taken.length : Int) - 1).toNat default).toNat default).used + n≤w.heap.conf.pw)) (Fc 52 (@Z4E w.heap.pages (1) (by omega)) (Ffb 54 (decide (first w.heap.pages (1 :Int) < 0)) (Fi 64 (1 - w.heap.space) (Fc 65 (@Z8H w.heap.pages (first w.heap.pages 1) (1 - w.heap.space) (by omega) (by omega) (by omega) ‹_›) (Fs 70 (List.map idv []) (Fa (by (simp [*]; omega) : (List.map idv []).length + (List.map idv w.taken).length≤2 ^ 30) (Fs 73 (List.map idv w.taken) (Fs 75 (List.map idv [first w.heap.pages 1]) (Fa (by (simp [*]; omega) : (List.map idv w.taken).length + (List.map idv [first w.heap.pages 1]).length≤2 ^ 30) (Fa (by simp [List.map_take,List.map_drop,List.map_set,List.map_append,wdv,idv] : List.map idv w.taken ++ List.map idv [first w.heap.pages 1] =List.map idv (w.taken ++ [first w.heap.pages 1])) (Fi 83 (first w.heap.pages 1 * w.heap.conf.pw) (Fi 84 (4096 + first w.heap.pages 1 * w.heap.conf.pw) (Fa (by (simp only [List.length_map]; omega) : 0≤first w.heap.pages 1∧(first w.heap.pages 1).toNat < (List.map Page.dv (tookP w.heap.pages (first w.heap.pages 1).toNat 1 (Page.mk 1 (1 - w.heap.space) 0 0) (Page.mk 0 0 0 0))).length) (Fa (by exact Z1E (by omega) : (List.map Page.dv (tookP w.heap.pages (first w.heap.pages 1).toNat 1 (Page.mk 1 (1 - w.heap.space) 0 0) (Page.mk 0 0 0 0)))[(first w.heap.pages 1).toNat]? = some ((tookP w.heap.pages (first w.heap.pages 1).toNat 1 (Page.mk 1 (1 - w.heap.space) 0 0) (Page.mk 0 0 0 0)).getD (first w.heap.pages 1).toNat default).dv) (Fi 92 (4096 + first w.heap.pages 1 * w.heap.conf.pw + ((tookP w.heap.pages (first w.heap.pages 1).toNat 1 (Page.mk 1 (1 - w.heap.space) 0 0) (Page.mk 0 0 0 0)).getD (first w.heap.pages 1).toNat default).used) (Fv 93 (4096 + first w.heap.pages 1 * w.heap.conf.pw + ((tookP w.heap.pages (first w.heap.pages 1).toNat 1 (Page.mk 1 (1 - w.heap.space) 0 0) (Page.mk 0 0 0 0)).getD (first w.heap.pages 1).toNat default).used) (Fa (by (simp only [List.length_map]; omega) : 0≤first w.heap.pages 1∧(first w.heap.pages 1).toNat < (List.map Page.dv (tookP w.heap.pages (first w.heap.pages 1).toNat 1 (Page.mk 1 (1 - w.heap.space) 0 0) (Page.mk 0 0 0 0))).length) (Fa (by exact Z1E (by omega) : (List.map Page.dv (tookP w.heap.pages (first w.heap.pages 1).toNat 1 (Page.mk 1 (1 - w.heap.space) 0 0) (Page.mk 0 0 0 0)))[(first w.heap.pages 1).toNat]? = some ((tookP w.heap.pages (first w.heap.pages 1).toNat 1 (Page.mk 1 (1 - w.heap.space) 0 0) (Page.mk 0 0 0 0)).getD (first w.heap.pages 1).toNat default).dv) (Fi 106 (((tookP w.heap.pages (first w.heap.pages 1).toNat 1 (Page.mk 1 (1 - w.heap.space) 0 0) (Page.mk 0 0 0 0)).getD (first w.heap.pages 1).toNat default).used + n) (Fa (by (simp only [List.length_map]; omega) : 0≤first w.heap.pages 1∧(first w.heap.pages 1).toNat < (List.map Page.dv (tookP w.heap.pages (first w.heap.pages 1).toNat 1 (Page.mk 1 (1 - w.heap.space) 0 0) (Page.mk 0 0 0 0))).length) (Fa (by exact Z1E (by omega) : (List.map Page.dv (tookP w.heap.pages (first w.heap.pages 1).toNat 1 (Page.mk 1 (1 - w.heap.space) 0 0) (Page.mk 0 0 0 0)))[(first w.heap.pages 1).toNat]? = some ((tookP w.heap.pages (first w.heap.pages 1).toNat 1 (Page.mk 1 (1 - w.heap.space) 0 0) (Page.mk 0 0 0 0)).getD (first w.heap.pages 1).toNat default).dv) (FS 10108 Page.dv (tookP w.heap.pages (first w.heap.pages 1).toNat 1 (Page.mk 1 (1 - w.heap.space) 0 0) (Page.mk 0 0 0 0)) ((first w.heap.pages 1).toNat) (Page.mk ((tookP w.heap.pages (first w.heap.pages 1).toNat 1 (Page.mk 1 (1 - w.heap.space) 0 0) (Page.mk 0 0 0 0)).getD (first w.heap.pages 1).toNat default).kind ((tookP w.heap.pages (first w.heap.pages 1).toNat 1 (Page.mk 1 (1 - w.heap.space) 0 0) (Page.mk 0 0 0 0)).getD (first w.heap.pages 1).toNat default).space (((tookP w.heap.pages (first w.heap.pages 1).toNat 1 (Page.mk 1 (1 - w.heap.space) 0 0) (Page.mk 0 0 0 0)).getD (first w.heap.pages 1).toNat default).used + n) ((tookP w.heap.pages (first w.heap.pages 1).toNat 1 (Page.mk 1 (1 - w.heap.space) 0 0) (Page.mk 0 0 0 0)).getD (first w.heap.pages 1).toNat default).pins) (((tookP w.heap.pages (first w.heap.pages 1).toNat 1 (Page.mk 1 (1 - w.heap.space) 0 0) (Page.mk 0 0 0 0)).getD (first w.heap.pages 1).toNat default).dv) (Fa (by rw [e7] : w.heap.conf.pw =(w.place n).fst.heap.conf.pw) (Fa (by rw [e7] : w.heap.conf.pg =(w.place n).fst.heap.conf.pg) (Fa (by refine congrArg _ ?_; rw [e7] : List.map wdv w.heap.words =List.map wdv (w.place n).fst.heap.words) (Fa (by refine congrArg _ ?_; rw [e7]; rfl : List.map Page.dv ((tookP w.heap.pages (first w.heap.pages 1).toNat 1 (Page.mk 1 (1 - w.heap.space) 0 0) (Page.mk 0 0 0 0)).set (first w.heap.pages 1).toNat (Page.mk ((tookP w.heap.pages (first w.heap.pages 1).toNat 1 (Page.mk 1 (1 - w.heap.space) 0 0) (Page.mk 0 0 0 0)).getD (first w.heap.pages 1).toNat default).kind ((tookP w.heap.pages (first w.heap.pages 1).toNat 1 (Page.mk 1 (1 - w.heap.space) 0 0) (Page.mk 0 0 0 0)).getD (first w.heap.pages 1).toNat default).space (((tookP w.heap.pages (first w.heap.pages 1).toNat 1 (Page.mk 1 (1 - w.heap.space) 0 0) (Page.mk 0 0 0 0)).getD (first w.heap.pages 1).toNat default).used + n) ((tookP w.heap.pages (first w.heap.pages 1).toNat 1 (Page.mk 1 (1 - w.heap.space) 0 0) (Page.mk 0 0 0 0)).getD (first w.heap.pages 1).toNat default).pins)) =List.map Page.dv (w.place n).fst.heap.pages) (Fa (by rw [e7] : w.heap.space =(w.place n).fst.heap.space) (Fa (by rw [e7] : w.heap.bump =(w.place n).fst.heap.bump) (Fa (by refine congrArg _ ?_; rw [e7] : List.map wdv w.old =List.map wdv (w.place n).fst.old) (Fa (by refine congrArg _ ?_; rw [e7] : List.map idv (w.taken ++ [first w.heap.pages 1]) =List.map idv (w.place n).fst.taken) (Fa (by refine congrArg _ ?_; rw [e7] : List.map wdv w.queue =List.map wdv (w.place n).fst.queue) (Fa (by rw [e7] : w.scanned =(w.place n).fst.scanned) (Fa (by rw [e7] : w.rep.copied =(w.place n).fst.rep.copied) (Fa (by rw [e7] : w.rep.kept =(w.place n).fst.rep.kept) (Fa (by rw [e7] : w.rep.filled =(w.place n).fst.rep.filled) (Fa (by rw [e7] : w.rep.freed =(w.place n).fst.rep.freed) (Fa (by rw [e7] : w.rep.cleared =(w.place n).fst.rep.cleared) (Fa (by rw [e7] : w.rep.steps =(w.place n).fst.rep.steps) (Fa (by grind [] : 4096 + first w.heap.pages 1 * w.heap.conf.pw + ((tookP w.heap.pages (first w.heap.pages 1).toNat 1 (Page.mk 1 (1 - w.heap.space) 0 0) (Page.mk 0 0 0 0)).getD (first w.heap.pages 1).toNat default).used =(w.place n).snd.fst) (Fa (by rw [e7] : true =(w.place n).snd.snd) Fz)))))))))))))))))))))))))))))))))))))))))))))))))))))))
  ·have e7 : w.place n = (noWork,0,false) := by rw [Work.place,if_neg hf,if_neg (show ¬ 0 ≤ Z0v w from hg)]
   have hm : 0 < w.taken.length → 0 ≤ Z0Q w ∧ Z0Q w < w.heap.pages.length := fun h => ⟨(hw.tk _ (Z1u h)).1,(hw.tk _ (Z1u h)).2.1⟩
   have hu := fun h => hw.us (Z0Q w).toNat h
   unfold Z4p at hf
   unfold Z0Q at hf hm hu
   rw [e7]
   exact gF [] Tryz.func168 [false,false,false,false,false,false,false,false,false,false,false,false,false,false,false,false,false,false,false,false] (Fh 30 [.el (idv (w.taken.getD ((↑w.taken.length : Int) - 1).toNat default))] (Fh 34 [.el (w.heap.pages.getD (w.taken.getD ((↑w.taken.length : Int) - 1).toNat default).toNat default).dv] (Fs 10 (List.map Page.dv []) (Fa (by (simp [noWork,noHeap, *]; omega) : (List.map Page.dv []).length + (List.map Page.dv w.heap.pages).length≤2 ^ 30) (Fs 14 (List.map Page.dv w.heap.pages) (Fl 19 idv w.taken (FiG 29 (decide (0 < (↑w.taken.length : Int))) ((↑w.taken.length : Int) - 1) (Fa (by intro hg; (try simp only [bs] at hg); exact elI (by omega) (by omega) (by omega) : decide (0 < (↑w.taken.length : Int)) =true→0≤(↑w.taken.length : Int) - 1∧(List.map idv w.taken)[((↑w.taken.length : Int) - 1).toNat]? = some (idv (w.taken.getD ((↑w.taken.length : Int) - 1).toNat default))) (Fa (by intro hg; (try simp only [bs] at hg); (simp only [List.length_map]; omega) : decide (0 < (↑w.taken.length : Int)) =true→0≤w.taken.getD ((↑w.taken.length : Int) - 1).toNat default∧(w.taken.getD ((↑w.taken.length : Int) - 1).toNat default).toNat < (List.map Page.dv w.heap.pages).length) (Fa (by intro hg; (try simp only [bs] at hg); exact Z1E (by omega) : decide (0 < (↑w.taken.length : Int)) =true→(List.map Page.dv w.heap.pages)[(w.taken.getD ((↑w.taken.length : Int) - 1).toNat default).toNat]? = some (w.heap.pages.getD (w.taken.getD ((↑w.taken.length : Int) - 1).toNat default).toNat default).dv) (FiG 36 (decide (0 < (↑w.taken.length : Int))) ((w.heap.pages.getD (w.taken.getD ((↑w.taken.length : Int) - 1).toNat default).toNat default).used + n) (Ffb 42 (decide (0 < (↑w.taken.length : Int))&&decide ((w.heap.pages.getD (w.taken.getD ((↑w.taken.length : Int) - 1).toNat default).toNat default).used + n≤w.heap.conf.pw)) (Fc 52 (@Z4E w.heap.pages (1) (by omega)) (Ftb 54 (decide (first w.heap.pages (1 :Int) < 0)) (Fnl (Fnl (Fnl (Fnl (Fnl Fz)))))))))))))))))))
def preM {α : Type} (f : α → α) (l : List α) (i : Nat) : List α := (l.take i).map f ++ l.drop i
theorem ZeZ {α : Type} (f : α → α) (l : List α) : preM f l 0 = l := by simp [preM]
theorem Z9z {α : Type} (f : α → α) (l : List α) : preM f l l.length = l.map f := by simp [preM]
theorem Z4I {α : Type} (f : α → α) (l : List α) (i : Nat) : (preM f l i).length = l.length := by simp [preM]; omega
theorem Za1 {α : Type} (f : α → α) (l : List α) {i j : Nat} (h : i ≤ j) (d : α) : (preM f l i).getD j d = l.getD j d := by
 rw [List.getD_eq_getElem?_getD,List.getD_eq_getElem?_getD]
 congr 1
 by_cases hi : i ≤ l.length
 ·rw [preM,List.getElem?_append_right (by simp; omega)]
  simp only [List.length_map,List.length_take,List.getElem?_drop]
  congr 1; omega
 ·rw [List.getElem?_eq_none (by rw [Z4I]; omega),List.getElem?_eq_none (by omega)]
theorem Z7u {α : Type} (f : α → α) (l : List α) {i : Nat} (h : i < l.length) (d : α) : (preM f l i).set i (f (l.getD i d)) = preM f l (i + 1) := by
 have e : l.getD i d = l[i] := by simp [List.getD_eq_getElem?_getD,h]
 rw [e,preM,preM,List.take_succ_eq_append_getElem h,List.map_append,List.set_append_right i _ (by simp; omega),List.append_assoc]
 congr 1
 have : l.drop i = l[i] :: l.drop (i + 1) := List.drop_eq_getElem_cons h
 rw [show i - (List.map f (List.take i l)).length = 0 by simp; omega,this]
 rfl
theorem Zb8 {α : Type} (f : α → α) (l : List α) {i : Nat} (h : i < l.length) (d : α) (hf : f (l.getD i d) = l.getD i d) : preM f l i = preM f l (i + 1) := by
 rw [← Z7u f l h d,hf,← Za1 f l (Nat.le_refl i) d]
 have h' : i < (preM f l i).length := by rw [Z4I]; exact h
 rw [show (preM f l i).getD i d = (preM f l i)[i] by simp [List.getD_eq_getElem?_getD,h'],List.set_getElem_self]
def begQ (s : Int) (p : Page) : Page := if p.kind = 1 ∧ 0 < p.pins then ⟨p.kind,s,p.used,p.pins⟩ else p
def begL (h : Heap) (all : List Int) (i : Nat) : Tg := ⟨tm 61 [(1,.pt 8001 0 0),(2,.pt 8002 0 0),(3,int 0),(4,.pt 32004 0 0),(5,int i)],[(32004,.box 176 [int h.conf.pw,int h.conf.pg,Z01 h.words,.ow 48026,int h.space,int h.bump,Z01 all,.d (.sl 0 []),.d (.sl 0 []),int 0,int 0,int 0,int 0,int 0,int 0,int 0]),(48026,.arr 56 4 ((preM (begQ (1 - h.space)) h.pages i).map Page.dv)),(8002,.box 176 [int 0,int 0,.d (.sl 0 []),.d (.sl 0 []),int 0,int 0,.d (.sl 0 []),.d (.sl 0 []),.d (.sl 0 []),int 0,int 0,int 0,int 0,int 0,int 0,int 0]),(8001,.box 28 h.cells)],60⟩
section
variable (h : Heap) (all : List Int) (hs : h.space = 0 ∨ h.space = 1) (hl : h.pages.length ≤ 1048576)
include hs hl
theorem ZhG (i : Nat) (hi : i < h.pages.length) : CSpec Tryz.prog (rndF Tryz.f139 0) (begL h all i).st .nrm (begL h all (i + 1)).st := by
 have ha := Za1 (begQ (1 - h.space)) h.pages (Nat.le_refl i) default
 have hn := Z4I (begQ (1 - h.space)) h.pages i
 by_cases hc : (h.pages.getD i default).kind = 1 ∧ 0 < (h.pages.getD i default).pins
 ·have hq := Z7u (begQ (1 - h.space)) h.pages hi default
  rw [show begQ (1 - h.space) (h.pages.getD i default) = ⟨(h.pages.getD i default).kind,1 - h.space,(h.pages.getD i default).used,(h.pages.getD i default).pins⟩ by rw [begQ,if_pos hc],← ha] at hq
  rw [← ha] at hc
  have Q0 {h_ c_ p_} (r_ : Fq h_ c_ p_) := Fl 33 Page.dv (preM (begQ ((1 : Int) - h.space)) h.pages i) (Ftb 34 (decide ((↑i : Int) < (↑(preM (begQ (1 - h.space)) h.pages i).length : Int))) (Fm 42 Page.dv (preM (begQ (1 - h.space)) h.pages i) (↑i) ((↑i : Int).toNat) r_))
  rcases bb (((preM (begQ (1 - h.space)) h.pages i).getD (↑i : Int).toNat default).kind == 1 && decide (0 < ((preM (begQ (1 - h.space)) h.pages i).getD (↑i : Int).toNat default).pins)) with hc0 | hc0<;>have hc0p:=hc0<;>simp only [bs] at hc0p
  ·obtain ⟨hc0pa,hc0pb⟩ := hc0p
   exact sF [] [false,false,false,false,false,false,false,false,false,true] (Q0 (Ft 50 hc0 (Fi 57 (1 - h.space) (Fm0 Page.dv (preM (begQ (1 - h.space)) h.pages i) (↑i) ((↑i : Int).toNat) (FS 10059 Page.dv (preM (begQ (1 - h.space)) h.pages i) ((↑i : Int).toNat) (Page.mk ((preM (begQ (1 - h.space)) h.pages i).getD (↑i : Int).toNat default).kind (1 - h.space) ((preM (begQ (1 - h.space)) h.pages i).getD (↑i : Int).toNat default).used ((preM (begQ (1 - h.space)) h.pages i).getD (↑i : Int).toNat default).pins) (((preM (begQ (1 - h.space)) h.pages i).getD (↑i : Int).toNat default).dv) (Fx 36 i (Fr (56 : Int) (Fa (by refine congrArg _ ?_; exact hq : List.map Page.dv ((preM (begQ (1 - h.space)) h.pages i).set (↑i : Int).toNat (Page.mk ((preM (begQ (1 - h.space)) h.pages i).getD (↑i : Int).toNat default).kind (1 - h.space) ((preM (begQ (1 - h.space)) h.pages i).getD (↑i : Int).toNat default).used ((preM (begQ (1 - h.space)) h.pages i).getD (↑i : Int).toNat default).pins)) =List.map Page.dv (preM (begQ (1 - h.space)) h.pages (i + 1))) Fz))))))))
  ·exact sF [] [false,false,false,false,false,false,false,false,false,true] (Q0 (Ff 50 hc0 (Fx 36 i (Fr (56 : Int) (Fa (by refine congrArg _ ?_; grind [] : List.map Page.dv (preM (begQ (1 - h.space)) h.pages i) =List.map Page.dv (preM (begQ (1 - h.space)) h.pages (i + 1))) Fz)))))
 ·have hq := Zb8 (begQ (1 - h.space)) h.pages hi default (by rw [begQ,if_neg hc])
  rw [← ha] at hc
  have Q1 {h_ c_ p_} (r_ : Fq h_ c_ p_) := Fl 33 Page.dv (preM (begQ ((1 : Int) - h.space)) h.pages i) (Ftb 34 (decide ((↑i : Int) < (↑(preM (begQ (1 - h.space)) h.pages i).length : Int))) (Fm 42 Page.dv (preM (begQ (1 - h.space)) h.pages i) (↑i) ((↑i : Int).toNat) r_))
  rcases bb (((preM (begQ (1 - h.space)) h.pages i).getD (↑i : Int).toNat default).kind == 1 && decide (0 < ((preM (begQ (1 - h.space)) h.pages i).getD (↑i : Int).toNat default).pins)) with hc0 | hc0<;>have hc0p:=hc0<;>simp only [bs] at hc0p
  ·obtain ⟨hc0pa,hc0pb⟩ := hc0p
   exact sF [] [false,false,false,false,false,false,false,false,false,true] (Q1 (Ft 50 hc0 (Fi 57 (1 - h.space) (Fm0 Page.dv (preM (begQ (1 - h.space)) h.pages i) (↑i) ((↑i : Int).toNat) (FS 10059 Page.dv (preM (begQ (1 - h.space)) h.pages i) ((↑i : Int).toNat) (Page.mk ((preM (begQ (1 - h.space)) h.pages i).getD (↑i : Int).toNat default).kind (1 - h.space) ((preM (begQ (1 - h.space)) h.pages i).getD (↑i : Int).toNat default).used ((preM (begQ (1 - h.space)) h.pages i).getD (↑i : Int).toNat default).pins) (((preM (begQ (1 - h.space)) h.pages i).getD (↑i : Int).toNat default).dv) (Fx 36 i (Fr (56 : Int) (Fa (by refine congrArg _ ?_; grind [] : List.map Page.dv ((preM (begQ (1 - h.space)) h.pages i).set (↑i : Int).toNat (Page.mk ((preM (begQ (1 - h.space)) h.pages i).getD (↑i : Int).toNat default).kind (1 - h.space) ((preM (begQ (1 - h.space)) h.pages i).getD (↑i : Int).toNat default).used ((preM (begQ (1 - h.space)) h.pages i).getD (↑i : Int).toNat default).pins)) =List.map Page.dv (preM (begQ (1 - h.space)) h.pages (i + 1))) Fz))))))))
  ·exact sF [] [false,false,false,false,false,false,false,false,false,true] (Q1 (Ff 50 hc0 (Fx 36 i (Fr (56 : Int) (Fa (by refine congrArg _ ?_; exact hq : List.map Page.dv (preM (begQ (1 - h.space)) h.pages i) =List.map Page.dv (preM (begQ (1 - h.space)) h.pages (i + 1))) Fz)))))
omit hs hl in
theorem Zkb : CSpec Tryz.prog (rndF Tryz.f139 0) (begL h all h.pages.length).st (.ext 0) (Tg.st ⟨tm 61 [(2,.pt 8002 0 0),(3,int 0),(4,.pt 32004 0 0)],[(32004,.box 176 [int h.conf.pw,int h.conf.pg,Z01 h.words,.ow 48026,int h.space,int h.bump,Z01 all,.d (.sl 0 []),.d (.sl 0 []),int 0,int 0,int 0,int 0,int 0,int 0,int 0]),(48026,.arr 56 4 ((h.pages.map (begQ (1 - h.space))).map Page.dv)),(8002,.box 176 [int 0,int 0,.d (.sl 0 []),.d (.sl 0 []),int 0,int 0,.d (.sl 0 []),.d (.sl 0 []),.d (.sl 0 []),int 0,int 0,int 0,int 0,int 0,int 0,int 0])],60⟩) := by
 have hq := Z9z (begQ (1 - h.space)) h.pages
 have hn := Z4I (begQ (1 - h.space)) h.pages h.pages.length
 exact sF [] [false,false,false,false,true] (Fl 33 Page.dv (preM (begQ ((1 : Int) - h.space)) h.pages h.pages.length) (Ffb 34 (decide ((↑h.pages.length : Int) < (↑(preM (begQ (1 - h.space)) h.pages h.pages.length).length : Int))) (Fr (56 : Int) (Fa (by refine congrArg _ ?_; assumption : List.map Page.dv (preM (begQ (1 - h.space)) h.pages h.pages.length) =List.map Page.dv (List.map (begQ (1 - h.space)) h.pages)) Fz))))
theorem Zjo : CSpec Tryz.prog (blkF Tryz.f139 0) (Tg.st ⟨tm 61 [(1,.pt 8001 0 0),(2,.pt 8002 0 0),(3,int 0),(4,.pt 32004 0 0),(5,int 0)],[(32004,.box 176 [int h.conf.pw,int h.conf.pg,Z01 h.words,.ow 48026,int h.space,int h.bump,Z01 all,.d (.sl 0 []),.d (.sl 0 []),int 0,int 0,int 0,int 0,int 0,int 0,int 0]),(48026,.arr 56 4 (h.pages.map Page.dv)),(8002,.box 176 [int 0,int 0,.d (.sl 0 []),.d (.sl 0 []),int 0,int 0,.d (.sl 0 []),.d (.sl 0 []),.d (.sl 0 []),int 0,int 0,int 0,int 0,int 0,int 0,int 0]),(8001,.box 28 h.cells)],60⟩) .nrm (Tg.st ⟨tm 61 [(2,.pt 8002 0 0),(3,int 0),(4,.pt 32004 0 0)],[(32004,.box 176 [int h.conf.pw,int h.conf.pg,Z01 h.words,.ow 48026,int h.space,int h.bump,Z01 all,.d (.sl 0 []),.d (.sl 0 []),int 0,int 0,int 0,int 0,int 0,int 0,int 0]),(48026,.arr 56 4 ((h.pages.map (begQ (1 - h.space))).map Page.dv)),(8002,.box 176 [int 0,int 0,.d (.sl 0 []),.d (.sl 0 []),int 0,int 0,.d (.sl 0 []),.d (.sl 0 []),.d (.sl 0 []),int 0,int 0,int 0,int 0,int 0,int 0,int 0])],60⟩) := by
 have := Z0d (S := fun k => (begL h all k).st) h.pages.length (by kernel_rfl) (fun k hk => ZhG h all hs hl k hk) (Zkb h all)
 simp only [begL,ZeZ] at this
 exact this
end
def beginW (h : Heap) : Work := ⟨⟨h.conf,h.words,h.pages.map (begQ (1 - h.space)),h.space,h.bump⟩,(Z03 h).1,[],[],0,⟨0,0,0,0,0,0⟩⟩
theorem Z3Y (h : Heap) (hw : WOk h.words) (hp : Z02 h = true) (hg : Z0E h = ⟨0,0,0⟩) : GSpec Tryz.prog 139 [h.av] false (.tu [(beginW h).av,int 0]) [] := by
 have po := Z08 hp
 have ho := Z2l h
 exact gF [] Tryz.func139 [] (Fc 8 (@Z0m h) (Ffb 9 (!Z02 h) (Fc 12 (@Z4R h ‹_›) (Ffb 13 (!decide (Z0E h =Finding.mk 0 0 0)) (Fc 19 (@Z1T h ‹_›) (Fs 23 (List.map Page.dv []) (Fa (by (simp [beginW, *]; omega) : (List.map Page.dv []).length + (List.map Page.dv h.pages).length≤2 ^ 30) (Fs 26 (List.map Page.dv h.pages) (Fu (@Zjo h ((Z03 h).fst) (by omega) (by omega)) (Fnl (Fnl Fz)))))))))))
theorem ZfQ (w : Work) (r : Int) (hw : WkOk w) (h0 : 0 ≤ r ∧ r ≤ 18446744073709551615) (hc : r = 0 ∨ r ∈ w.queue) : GSpec Tryz.prog 159 [w.av,u64 r] false (.tu [w.av,u64 r,int 0]) [] := by
 have h1 := hw.mu
 rcases hc with hc | hc
 ·exact gF [] Tryz.func159 [] (FcG 29 (!r == 0) (fun hg => by (try simp only [bs] at hg); exact @Z0N w.queue r (by (try simp only [bs] at hg); omega)) (Ftb 30 (r == 0||decide (r ∈ w.queue)) Fz))
 ·by_cases h0 : r = 0
  ·exact gF [] Tryz.func159 [] (FcG 29 (!r == 0) (fun hg => by (try simp only [bs] at hg); exact @Z0N w.queue r (by (try simp only [bs] at hg); omega)) (Ftb 30 (r == 0||decide (r ∈ w.queue)) Fz))
  ·exact gF [] Tryz.func159 [] (FcG 29 (!r == 0) (fun hg => by (try simp only [bs] at hg); exact @Z0N w.queue r (by (try simp only [bs] at hg); omega)) (Ft 30 (by simp only [bs, *,true_or,or_true,true_and,and_true,not_true_eq_false,not_false_eq_true,Bool.true_eq_false,Bool.false_eq_true] : (r == 0||decide (r ∈ w.queue))=true) Fz))
theorem ZfE (w : Work) (r : Int) (hw : WkOk w) (h0 : 0 ≤ r ∧ r ≤ 18446744073709551615) (c1 : r ≠ 0) (c2 : r ∉ w.queue) (c3 : r ∉ w.old) : GSpec Tryz.prog 159 [w.av,u64 r] false (.tu [noWork.av,u64 0,int 19]) [] := by
 have h1 := hw.mu
 have h2 := hw.ol
 exact gF [] Tryz.func159 [] (FcG 29 (!r == 0) (fun hg => by (try simp only [bs] at hg); exact @Z0N w.queue r (by (try simp only [bs] at hg); omega)) (Ff 30 (by simp only [bs, *,true_or,or_true,true_and,and_true,not_true_eq_false,not_false_eq_true,Bool.true_eq_false,Bool.false_eq_true] : (r == 0||decide (r ∈ w.queue))=false) (Fc 36 (@Z0N w.old r (by omega)) (Ftb 37 (!decide (r ∈ w.old)) (Fnl (Fnl (Fnl (Fnl (Fnl Fz)))))))))
theorem ZeX (w : Work) (r : Int) (hw : WkOk w) (h0 : 0 ≤ r ∧ r ≤ 18446744073709551615) (c1 : r ≠ 0) (c2 : r ∉ w.queue) (c3 : r ∈ w.old) (c4 : (Z0q (loadA w.heap.words r).1).2 = true) : GSpec Tryz.prog 159 [w.av,u64 r] false (.tu [w.av,u64 (Z0q (loadA w.heap.words r).1).1,int 0]) [] := by
 have h1 := hw.mu
 have h2 := hw.ol
 have h3 := hw.wl
 have h4 := Z0S hw.words r
 exact gF [] Tryz.func159 [] (Fh 52 [.br true] (FcG 29 (!r == 0) (fun hg => by (try simp only [bs] at hg); exact @Z0N w.queue r (by (try simp only [bs] at hg); omega)) (Ff 30 (by simp only [bs, *,true_or,or_true,true_and,and_true,not_true_eq_false,not_false_eq_true,Bool.true_eq_false,Bool.false_eq_true] : (r == 0||decide (r ∈ w.queue))=false) (Fc 36 (@Z0N w.old r (by omega)) (Ffb 37 (!decide (r ∈ w.old)) (Fc 44 (@Z1H w.heap.words r (by omega) ‹_›) (Fc 49 (@Z2G ((loadA w.heap.words r).fst) (by omega) (by omega)) (Fa ‹(Z0q (loadA w.heap.words r).fst).snd =true› Fz))))))))
theorem Zff (w : Work) (r : Int) (hw : WkOk w) (h0 : 0 ≤ r ∧ r ≤ 18446744073709551615) (c1 : r ≠ 0) (c2 : r ∉ w.queue) (c3 : r ∈ w.old) (c4 : (Z0q (loadA w.heap.words r).1).2 = false) (c5 : (ofA w.heap.conf r).2.2 ≠ 0) : GSpec Tryz.prog 159 [w.av,u64 r] false (.tu [noWork.av,u64 0,int 19]) [] := by
 have h1 := hw.mu
 have h2 := hw.ol
 have h3 := hw.wl
 have h4 := Z0S hw.words r
 exact gF [] Tryz.func159 [] (Fh 52 [.br false] (FcG 29 (!r == 0) (fun hg => by (try simp only [bs] at hg); exact @Z0N w.queue r (by (try simp only [bs] at hg); omega)) (Ff 30 (by simp only [bs, *,true_or,or_true,true_and,and_true,not_true_eq_false,not_false_eq_true,Bool.true_eq_false,Bool.false_eq_true] : (r == 0||decide (r ∈ w.queue))=false) (Fc 36 (@Z0N w.old r (by omega)) (Ffb 37 (!decide (r ∈ w.old)) (Fc 44 (@Z1H w.heap.words r (by omega) ‹_›) (Fc 49 (@Z2G ((loadA w.heap.words r).fst) (by omega) (by omega)) (Fa ‹(Z0q (loadA w.heap.words r).fst).snd =false› (Fc 60 (@Z47 w.heap.conf r (by omega) (by omega)) (FlG 71 (!(ofA w.heap.conf r).snd.snd != 0) Page.dv w.heap.pages (Ftb 73 ((ofA w.heap.conf r).snd.snd != 0||decide ((↑w.heap.pages.length : Int)≤(ofA w.heap.conf r).fst)) (Fnl (Fnl (Fnl (Fnl (Fnl Fz))))))))))))))))
theorem Zk4 {α : Type} (p : α → Bool) : ∀ (l : List α) (m : Nat),m < (l.takeWhile p).length → ∃ h : m < l.length,p l[m] = true
 | [],m,h => by simp at h
 | x :: l,m,h => by
  rw [List.takeWhile_cons] at h
  split at h
  ·rename_i hp
   cases m with
   | zero => exact ⟨by simp,hp⟩
   | succ m =>
    obtain ⟨h1,h2⟩ := Zk4 p l m (by simpa using h)
    exact ⟨by simp; omega,by simpa using h2⟩
  ·simp at h
theorem Zis {α : Type} (p : α → Bool) : ∀ (l : List α) (h : (l.takeWhile p).length < l.length),p l[(l.takeWhile p).length] = false
 | [],h => by simp at h
 | x :: l,h => by
  by_cases hp : p x = true
  ·have e : ((x :: l).takeWhile p).length = (l.takeWhile p).length + 1 := by rw [List.takeWhile_cons,if_pos hp]; rfl
   have := Zis p l (by simp only [e,List.length_cons] at h; omega)
   simp only [e,List.getElem_cons_succ]
   exact this
  ·have e : ((x :: l).takeWhile p).length = 0 := by rw [List.takeWhile_cons,if_neg hp]; rfl
   simp only [e,List.getElem_cons_zero]
   simpa using hp
theorem Z7J {l : List Page} {i m : Nat} (h : m < Z0y l i) : i + 1 + m < l.length ∧ (l.getD (i + 1 + m) default).kind = 3 := by
 obtain ⟨h1,h2⟩ := Zk4 _ _ _ h
 have h3 : i + 1 + m < l.length := by simp at h1; omega
 refine ⟨h3, ?_⟩
 simpa [List.getD_eq_getElem?_getD,h3] using h2
theorem Zdk {l : List Page} {i : Nat} (h : i + 1 + Z0y l i < l.length) : ¬ (l.getD (i + 1 + Z0y l i) default).kind = 3 := by
 have h2 := Zis (fun p : Page => p.kind == 3) (l.drop (i + 1)) (by simp; unfold Z0y at h; omega)
 intro h3
 have h4 : (l.drop (i + 1))[Z0y l i]'(by simp; omega) = l.getD (i + 1 + Z0y l i) default := by simp [List.getD_eq_getElem?_getD,h]
 have h5 : (((l.drop (i + 1))[Z0y l i]'(by simp; omega)).kind == 3) = false := h2
 rw [h4,h3] at h5
 simp at h5
theorem Zei {l : List Page} {i : Nat} (s : Int) : Z0G l i 0 s = l.set i (Zbk s (l.getD i default)) := by
 refine List.ext_getElem (by simp [Z0G]) fun j h1 h2 => ?_
 have h : j < l.length := by simpa using h2
 have e : l.getD j default = l[j] := by simp [List.getD_eq_getElem?_getD,h]
 simp only [Z0G,List.getElem_map,List.getElem_range,List.getElem_set,e]
 by_cases hj : i = j
 ·subst hj; rw [if_pos (by omega),if_pos rfl,e]
 ·rw [if_neg (by omega),if_neg hj]
theorem ZdW {l : List Page} {i m : Nat} (s : Int) (h : i + 1 + m < l.length) : (Z0G l i m s).set (i + 1 + m) (Zbk s (l.getD (i + 1 + m) default)) = Z0G l i (m + 1) s := by
 refine List.ext_getElem (by simp [Z0G]) fun j h1 h2 => ?_
 have h : j < l.length := by simpa [Z0G] using h2
 have e : l.getD j default = l[j] := by simp [List.getD_eq_getElem?_getD,h]
 simp only [Z0G,List.getElem_map,List.getElem_range,List.getElem_set,e]
 by_cases hj : i + 1 + m = j
 ·subst hj; rw [if_pos rfl,if_pos (by omega),e]
 ·rw [if_neg hj]
  by_cases hk : i ≤ j ∧ j ≤ i + m
  ·rw [if_pos hk,if_pos (by omega)]
  ·rw [if_neg hk,if_neg (by omega)]
theorem ZcV {l : List Page} {i m : Nat} (s : Int) : (Z0G l i m s).getD (i + 1 + m) default = l.getD (i + 1 + m) default := by
 by_cases h : i + 1 + m < l.length
 ·rw [Z1r h,if_neg (by omega)]
 ·rw [List.getD_eq_getElem?_getD,List.getD_eq_getElem?_getD,List.getElem?_eq_none (by rw [Z1s]; omega),List.getElem?_eq_none (by omega)]
def fwdL (w : Work) (r x : Int) (m : Nat) : Tg := ⟨tm 202 [(1,u64 r),(2,.pt 8002 0 0),(4,.pt 8004 0 0),(5,u64 0),(6,int 0),(14,int (x + 1 + m))],[(88094,.arr 56 4 ((Z0G w.heap.pages x.toNat m (1 - w.heap.space)).map Page.dv)),(8002,.box 176 [int w.heap.conf.pw,int w.heap.conf.pg,Z01 w.heap.words,.ow 88094,int w.heap.space,int w.heap.bump,Z01 w.old,Z1B w.taken,Z01 w.queue,int w.scanned,int w.rep.copied,int w.rep.kept,int w.rep.filled,int w.rep.freed,int w.rep.cleared,int w.rep.steps]),(8004,.box 176 [int 0,int 0,.d (.sl 0 []),.d (.sl 0 []),int 0,int 0,.d (.sl 0 []),.d (.sl 0 []),.d (.sl 0 []),int 0,int 0,int 0,int 0,int 0,int 0,int 0])],60⟩
theorem ZhI (w : Work) (r x : Int) (m : Nat) (hs : w.heap.space = 0 ∨ w.heap.space = 1) (hl : w.heap.pages.length ≤ 1048576) (hx : 0 ≤ x) (hm : m < Z0y w.heap.pages x.toNat) : CSpec Tryz.prog (rndF Tryz.f159 0) (fwdL w r x m).st .nrm (fwdL w r x (m + 1)).st := by
 have ht := Z7J hm
 have ha := ZcV (l := w.heap.pages) (i := x.toNat) (m := m) (1 - w.heap.space)
 have hn := Z1s w.heap.pages x.toNat m (1 - w.heap.space)
 have hq := ZdW (1 - w.heap.space) ht.1
 unfold Zbk at hq
 rw [← ha] at hq ht
 have eN : x.toNat + 1 + m = (x + 1 + (m : Int)).toNat := by omega
 have eI : ((x.toNat + 1 + m : Nat) : Int) = x + 1 + (m : Int) := by omega
 rw [eN] at ha hq ht
 exact sF [] [false,false,false,false,false,false,false,false,false,false,false,false,false,true,true] (Fh 122 [.el ((Z0G w.heap.pages x.toNat m (1 - w.heap.space)).getD (x + 1 + (↑m : Int)).toNat default).dv] (Fl 113 Page.dv (Z0G w.heap.pages x.toNat m ((1 : Int) - w.heap.space)) (Fa (by intro hg; (try simp only [bs] at hg); (simp only [List.length_map]; omega) : decide (x + 1 + (↑m : Int) < (↑(Z0G w.heap.pages x.toNat m (1 - w.heap.space)).length : Int)) =true→0≤x + 1 + (↑m : Int)∧(x + 1 + (↑m : Int)).toNat < (List.map Page.dv (Z0G w.heap.pages x.toNat m (1 - w.heap.space))).length) (Fa (by intro hg; (try simp only [bs] at hg); exact Z1E (by omega) : decide (x + 1 + (↑m : Int) < (↑(Z0G w.heap.pages x.toNat m (1 - w.heap.space)).length : Int)) =true→(List.map Page.dv (Z0G w.heap.pages x.toNat m (1 - w.heap.space)))[(x + 1 + (↑m : Int)).toNat]? = some ((Z0G w.heap.pages x.toNat m (1 - w.heap.space)).getD (x + 1 + (↑m : Int)).toNat default).dv) (Ftb 124 (decide (x + 1 + (↑m : Int) < (↑(Z0G w.heap.pages x.toNat m (1 - w.heap.space)).length : Int))&&((Z0G w.heap.pages x.toNat m (1 - w.heap.space)).getD (x + 1 + (↑m : Int)).toNat default).kind == 3) (Fi 134 (1 - w.heap.space) (Fa (by (simp only [List.length_map]; omega) : 0≤x + 1 + (↑m : Int)∧(x + 1 + (↑m : Int)).toNat < (List.map Page.dv (Z0G w.heap.pages x.toNat m (1 - w.heap.space))).length) (Fa (by exact Z1E (by omega) : (List.map Page.dv (Z0G w.heap.pages x.toNat m (1 - w.heap.space)))[(x + 1 + (↑m : Int)).toNat]? = some ((Z0G w.heap.pages x.toNat m (1 - w.heap.space)).getD (x + 1 + (↑m : Int)).toNat default).dv) (FS 10136 Page.dv (Z0G w.heap.pages x.toNat m (1 - w.heap.space)) ((x + 1 + (↑m : Int)).toNat) (Page.mk ((Z0G w.heap.pages x.toNat m (1 - w.heap.space)).getD (x + 1 + (↑m : Int)).toNat default).kind (1 - w.heap.space) ((Z0G w.heap.pages x.toNat m (1 - w.heap.space)).getD (x + 1 + (↑m : Int)).toNat default).used ((Z0G w.heap.pages x.toNat m (1 - w.heap.space)).getD (x + 1 + (↑m : Int)).toNat default).pins) (((Z0G w.heap.pages x.toNat m (1 - w.heap.space)).getD (x + 1 + (↑m : Int)).toNat default).dv) (Fi 126 (x + 1 + (↑m : Int) + 1) (Fo (x + 1 + (↑m : Int) + 1 =x + 1 + (↑(m + 1) : Int)) (Fr (56 : Int) (Fa (by refine congrArg _ ?_; exact hq : List.map Page.dv ((Z0G w.heap.pages x.toNat m (1 - w.heap.space)).set (x + 1 + (↑m : Int)).toNat (Page.mk ((Z0G w.heap.pages x.toNat m (1 - w.heap.space)).getD (x + 1 + (↑m : Int)).toNat default).kind (1 - w.heap.space) ((Z0G w.heap.pages x.toNat m (1 - w.heap.space)).getD (x + 1 + (↑m : Int)).toNat default).used ((Z0G w.heap.pages x.toNat m (1 - w.heap.space)).getD (x + 1 + (↑m : Int)).toNat default).pins)) =List.map Page.dv (Z0G w.heap.pages x.toNat (m + 1) (1 - w.heap.space))) Fz)))))))))))))
theorem ZjI (w : Work) (r x : Int) (hl : w.heap.pages.length ≤ 1048576) (hx : 0 ≤ x) : CSpec Tryz.prog (rndF Tryz.f159 0) (fwdL w r x (Z0y w.heap.pages x.toNat)).st (.ext 0) (Tg.st ⟨tm 202 [(1,u64 r),(2,.pt 8002 0 0),(4,.pt 8004 0 0),(5,u64 0),(6,int 0)],[(88094,.arr 56 4 ((Z0G w.heap.pages x.toNat (Z0y w.heap.pages x.toNat) (1 - w.heap.space)).map Page.dv)),(8002,.box 176 [int w.heap.conf.pw,int w.heap.conf.pg,Z01 w.heap.words,.ow 88094,int w.heap.space,int w.heap.bump,Z01 w.old,Z1B w.taken,Z01 w.queue,int w.scanned,int w.rep.copied,int w.rep.kept,int w.rep.filled,int w.rep.freed,int w.rep.cleared,int w.rep.steps]),(8004,.box 176 [int 0,int 0,.d (.sl 0 []),.d (.sl 0 []),int 0,int 0,.d (.sl 0 []),.d (.sl 0 []),.d (.sl 0 []),int 0,int 0,int 0,int 0,int 0,int 0,int 0])],60⟩) := by
 have ht := fun h => Zdk (l := w.heap.pages) (i := x.toNat) h
 have ha := ZcV (l := w.heap.pages) (i := x.toNat) (m := Z0y w.heap.pages x.toNat) (1 - w.heap.space)
 have hn := Z1s w.heap.pages x.toNat (Z0y w.heap.pages x.toNat) (1 - w.heap.space)
 have eN : x.toNat + 1 + Z0y w.heap.pages x.toNat = (x + 1 + (Z0y w.heap.pages x.toNat : Int)).toNat := by omega
 rw [← ha,eN] at ht
 exact sF [] [] (Fh 122 [.el ((Z0G w.heap.pages x.toNat (Z0y w.heap.pages x.toNat) (1 - w.heap.space)).getD (x + 1 + (↑(Z0y w.heap.pages x.toNat) : Int)).toNat default).dv] (Fl 113 Page.dv (Z0G w.heap.pages x.toNat (Z0y w.heap.pages x.toNat) ((1 : Int) - w.heap.space)) (Fa (by intro hg; (try simp only [bs] at hg); (simp only [List.length_map]; omega) : decide (x + 1 + (↑(Z0y w.heap.pages x.toNat) : Int) < (↑(Z0G w.heap.pages x.toNat (Z0y w.heap.pages x.toNat) (1 - w.heap.space)).length : Int)) =true→0≤x + 1 + (↑(Z0y w.heap.pages x.toNat) : Int)∧(x + 1 + (↑(Z0y w.heap.pages x.toNat) : Int)).toNat < (List.map Page.dv (Z0G w.heap.pages x.toNat (Z0y w.heap.pages x.toNat) (1 - w.heap.space))).length) (Fa (by intro hg; (try simp only [bs] at hg); exact Z1E (by omega) : decide (x + 1 + (↑(Z0y w.heap.pages x.toNat) : Int) < (↑(Z0G w.heap.pages x.toNat (Z0y w.heap.pages x.toNat) (1 - w.heap.space)).length : Int)) =true→(List.map Page.dv (Z0G w.heap.pages x.toNat (Z0y w.heap.pages x.toNat) (1 - w.heap.space)))[(x + 1 + (↑(Z0y w.heap.pages x.toNat) : Int)).toNat]? = some ((Z0G w.heap.pages x.toNat (Z0y w.heap.pages x.toNat) (1 - w.heap.space)).getD (x + 1 + (↑(Z0y w.heap.pages x.toNat) : Int)).toNat default).dv) (Ffb 124 (decide (x + 1 + (↑(Z0y w.heap.pages x.toNat) : Int) < (↑(Z0G w.heap.pages x.toNat (Z0y w.heap.pages x.toNat) (1 - w.heap.space)).length : Int))&&((Z0G w.heap.pages x.toNat (Z0y w.heap.pages x.toNat) (1 - w.heap.space)).getD (x + 1 + (↑(Z0y w.heap.pages x.toNat) : Int)).toNat default).kind == 3) Fz)))))
section
variable (w : Work) (r : Int) (hw : WkOk w) (h0 : 0 ≤ r ∧ r ≤ 18446744073709551615) (c1 : r ≠ 0) (c2 : r ∉ w.queue) (c3 : r ∈ w.old) (c4 : (Z0q (loadA w.heap.words r).1).2 = false) (c5 : (ofA w.heap.conf r).2.2 = 0)
include hw h0 c1 c2 c3 c4 c5
theorem Zg3 (c6 : Z1c w (ofA w.heap.conf r).1 = true) : GSpec Tryz.prog 159 [w.av,u64 r] false (.tu [(w.keep r).av,u64 r,int 0]) [] := by
 have h1 := hw.mu
 have h2 := hw.ol
 have h3 := hw.wl
 have h4 := Z0S hw.words r
 have h11 := Z2k (loadA w.heap.words r).1 h4.1
 have h5 := hw.pl
 have h6 := validB_iff.1 hw.conf
 have h7 := hw.tl
 have h8 := Z3B hw.conf c5
 have Q0 {h_ c_ p_} (r_ : Fq h_ c_ p_) := FcG 29 (!r == 0) (fun hg => by (try simp only [bs] at hg); exact @Z0N w.queue r (by (try simp only [bs] at hg); omega)) r_
 rcases bb (r == 0 || decide (r ∈ w.queue)) with hc0 | hc0<;>have hc0p:=hc0<;>simp only [bs] at hc0p
 ·exact gF [] Tryz.func159 [false,false,false,false,true] (Q0 (Ft 30 hc0 (Fr w.heap.conf.pw (Fr w.heap.conf.pg (Fr (List.map wdv w.heap.words) (Fr (List.map Page.dv w.heap.pages) (Fr w.heap.space (Fr w.heap.bump (Fr (List.map wdv w.old) (Fr (List.map idv w.taken) (Fa (by refine congrArg _ ?_; grind [] : List.map wdv w.queue =List.map wdv (w.keep r).queue) (Fr w.scanned (Fr w.rep.copied (Fa (by grind [] : w.rep.kept =(w.keep r).rep.kept) (Fr w.rep.filled (Fr w.rep.freed (Fr w.rep.cleared (Fr w.rep.steps (Fr r (Fr (0 : Int) Fz))))))))))))))))))))
 ·obtain ⟨hc0pa,hc0pb⟩ := hc0p
  exact gF [] Tryz.func159 [] (Fh 73 [.br false] (Fh 77 [.call true (Sx.bool (Z1c w (ofA w.heap.conf r).fst)) [],.br true] (Q0 (Ff 30 hc0 (Fc 36 (@Z0N w.old r (by omega)) (Ffb 37 (!decide (r ∈ w.old)) (Fc 44 (@Z1H w.heap.words r (by omega) ‹_›) (Fc 49 (@Z2G ((loadA w.heap.words r).fst) (by omega) (by omega)) (Fa ‹(Z0q (loadA w.heap.words r).fst).snd =false› (Fc 60 (@Z47 w.heap.conf r (by omega) (by omega)) (FlG 71 (!(ofA w.heap.conf r).snd.snd != 0) Page.dv w.heap.pages (Ffb 52 ((ofA w.heap.conf r).snd.snd != 0||decide ((↑w.heap.pages.length : Int)≤(ofA w.heap.conf r).fst)) (Fa (@Z1P w ((ofA w.heap.conf r).fst) (by omega) (by omega)) (Fa ‹Z1c w (ofA w.heap.conf r).fst =true› (Fc 80 (@ZbD w r ‹_›) Fz)))))))))))))))
theorem ZgH (c6 : Z1c w (ofA w.heap.conf r).1 = false) (c7 : ¬ (w.heap.pages.getD (Z16 w r) default).kind = 2) (c8 : (w.place (sizeH (hdW w r))).2.2 = false) : GSpec Tryz.prog 159 [w.av,u64 r] false (.tu [noWork.av,u64 0,int 3]) [] := by
 have h1 := hw.mu
 have h2 := hw.ol
 have h3 := hw.wl
 have h4 := Z0S hw.words r
 have h11 := Z2k (loadA w.heap.words r).1 h4.1
 have h5 := hw.pl
 have h6 := validB_iff.1 hw.conf
 have h7 := hw.tl
 have h8 := Z3B hw.conf c5
 have h9 := Z5K w r
 unfold Z16 at c7
 unfold hdW at h9 c8
 have Q0 {h_ c_ p_} (r_ : Fq h_ c_ p_) := FcG 29 (!r == 0) (fun hg => by (try simp only [bs] at hg); exact @Z0N w.queue r (by (try simp only [bs] at hg); omega)) r_
 rcases bb (r == 0 || decide (r ∈ w.queue)) with hc0 | hc0<;>have hc0p:=hc0<;>simp only [bs] at hc0p
 ·exact gF [] Tryz.func159 [false,false,false,false,true] (Q0 (Ft 30 hc0 (Fa (by grind [noWork,noHeap] : w.heap.conf.pw =0) (Fa (by grind [noWork,noHeap] : w.heap.conf.pg =0) (Fa (by refine congrArg _ ?_; grind [noWork,noHeap] : List.map wdv w.heap.words =List.map wdv noWork.heap.words) (Fa (by refine congrArg _ ?_; grind [noWork,noHeap] : List.map Page.dv w.heap.pages =List.map Page.dv noWork.heap.pages) (Fa (by grind [noWork,noHeap] : w.heap.space =0) (Fa (by grind [noWork,noHeap] : w.heap.bump =0) (Fa (by refine congrArg _ ?_; grind [noWork,noHeap] : List.map wdv w.old =List.map wdv noWork.old) (Fa (by refine congrArg _ ?_; grind [noWork,noHeap] : List.map idv w.taken =List.map idv noWork.taken) (Fa (by refine congrArg _ ?_; grind [noWork,noHeap] : List.map wdv w.queue =List.map wdv noWork.queue) (Fa (by grind [noWork,noHeap] : w.scanned =0) (Fa (by grind [noWork,noHeap] : w.rep.copied =0) (Fa (by grind [noWork,noHeap] : w.rep.kept =0) (Fa (by grind [noWork,noHeap] : w.rep.filled =0) (Fa (by grind [noWork,noHeap] : w.rep.freed =0) (Fa (by grind [noWork,noHeap] : w.rep.cleared =0) (Fa (by grind [noWork,noHeap] : w.rep.steps =0) (Fa (by grind [noWork,noHeap] : r =0) (Fa (by grind [noWork,noHeap] : (0 :Int) =3) Fz))))))))))))))))))))
 ·obtain ⟨hc0pa,hc0pb⟩ := hc0p
  exact gF [] Tryz.func159 [] (Fh 77 [.call true (Sx.bool (Z1c w (ofA w.heap.conf r).fst)) [],.br false] (Fh 89 [.br false] (Q0 (Ff 30 hc0 (Fc 36 (@Z0N w.old r (by omega)) (Ffb 37 (!decide (r ∈ w.old)) (Fc 44 (@Z1H w.heap.words r (by omega) ‹_›) (Fc 49 (@Z2G ((loadA w.heap.words r).fst) (by omega) (by omega)) (Fa ‹(Z0q (loadA w.heap.words r).fst).snd =false› (Fc 60 (@Z47 w.heap.conf r (by omega) (by omega)) (FlG 71 (!(ofA w.heap.conf r).snd.snd != 0) Page.dv w.heap.pages (Ffb 52 ((ofA w.heap.conf r).snd.snd != 0||decide ((↑w.heap.pages.length : Int)≤(ofA w.heap.conf r).fst)) (Fa (@Z1P w ((ofA w.heap.conf r).fst) (by omega) (by omega)) (Fa ‹Z1c w (ofA w.heap.conf r).fst =false› (Fe 86 Page.dv w.heap.pages ((ofA w.heap.conf r).fst) (Ffb 73 ((w.heap.pages.getD (ofA w.heap.conf r).fst.toNat default).kind == 2) (Fc 143 (@Z2J ((loadA w.heap.words r).fst) (by omega) (by omega)) (Fc 147 (@Z20 ((decodeH (loadA w.heap.words r).fst).fst) ‹_›) (Fc 151 (@Z8E w (sizeH (decodeH (loadA w.heap.words r).fst).fst) ‹_› ‹_›) (Ftb 156 (!(w.place (sizeH (decodeH (loadA w.heap.words r).fst).fst)).snd.snd) (Fnl (Fnl (Fnl (Fnl (Fnl Fz)))))))))))))))))))))))))
theorem Zfd (c6 : Z1c w (ofA w.heap.conf r).1 = false) (c7 : ¬ (w.heap.pages.getD (Z16 w r) default).kind = 2) (c8 : (w.place (sizeH (hdW w r))).2.2 = true) : GSpec Tryz.prog 159 [w.av,u64 r] false (.tu [((w.place (sizeH (hdW w r))).1.copy r (w.place (sizeH (hdW w r))).2.1 (sizeH (hdW w r))).av,u64 (w.place (sizeH (hdW w r))).2.1,int 0]) [] := by
 have h1 := hw.mu
 have h2 := hw.ol
 have h3 := hw.wl
 have h4 := Z0S hw.words r
 have h11 := Z2k (loadA w.heap.words r).1 h4.1
 have h5 := hw.pl
 have h6 := validB_iff.1 hw.conf
 have h7 := hw.tl
 have h8 := Z3B hw.conf c5
 have h9 := Z5K w r
 have h10 := hw.rk
 obtain ⟨i,p,t,d1,d2,d3,d4,d4',d5,d6,d7,d8,d9,e⟩ := Z5f hw h9.1 c8
 have e1 := congrArg (fun w => w.heap.words) e
 have e2 := congrArg (fun w => w.queue) e
 have e3 := congrArg (fun w => w.rep) e
 have e3c := congrArg (fun w => w.rep.copied) e
 simp only at e1 e2 e3 e3c
 have l1 := Zdb w.heap.words (w.place (sizeH (hdW w r))).2.1 r (sizeH (hdW w r))
 unfold Z16 at c7
 unfold hdW at *
 have Q0 {h_ c_ p_} (r_ : Fq h_ c_ p_) := FcG 29 (!r == 0) (fun hg => by (try simp only [bs] at hg); exact @Z0N w.queue r (by (try simp only [bs] at hg); omega)) r_
 rcases bb (r == 0 || decide (r ∈ w.queue)) with hc0 | hc0<;>have hc0p:=hc0<;>simp only [bs] at hc0p
 ·exact gF [] Tryz.func159 [false,false,false,false,true] (Q0 (Ft 30 hc0 (Fa (by grind [Work.copy] : w.heap.conf.pw =((w.place (sizeH (decodeH (loadA w.heap.words r).fst).fst)).fst.copy r (w.place (sizeH (decodeH (loadA w.heap.words r).fst).fst)).snd.fst (sizeH (decodeH (loadA w.heap.words r).fst).fst)).heap.conf.pw) (Fa (by grind [Work.copy] : w.heap.conf.pg =((w.place (sizeH (decodeH (loadA w.heap.words r).fst).fst)).fst.copy r (w.place (sizeH (decodeH (loadA w.heap.words r).fst).fst)).snd.fst (sizeH (decodeH (loadA w.heap.words r).fst).fst)).heap.conf.pg) (Fa (by refine congrArg _ ?_; grind [Work.copy] : List.map wdv w.heap.words =List.map wdv ((w.place (sizeH (decodeH (loadA w.heap.words r).fst).fst)).fst.copy r (w.place (sizeH (decodeH (loadA w.heap.words r).fst).fst)).snd.fst (sizeH (decodeH (loadA w.heap.words r).fst).fst)).heap.words) (Fa (by refine congrArg _ ?_; grind [Work.copy] : List.map Page.dv w.heap.pages =List.map Page.dv ((w.place (sizeH (decodeH (loadA w.heap.words r).fst).fst)).fst.copy r (w.place (sizeH (decodeH (loadA w.heap.words r).fst).fst)).snd.fst (sizeH (decodeH (loadA w.heap.words r).fst).fst)).heap.pages) (Fa (by grind [Work.copy] : w.heap.space =((w.place (sizeH (decodeH (loadA w.heap.words r).fst).fst)).fst.copy r (w.place (sizeH (decodeH (loadA w.heap.words r).fst).fst)).snd.fst (sizeH (decodeH (loadA w.heap.words r).fst).fst)).heap.space) (Fa (by grind [Work.copy] : w.heap.bump =((w.place (sizeH (decodeH (loadA w.heap.words r).fst).fst)).fst.copy r (w.place (sizeH (decodeH (loadA w.heap.words r).fst).fst)).snd.fst (sizeH (decodeH (loadA w.heap.words r).fst).fst)).heap.bump) (Fa (by refine congrArg _ ?_; grind [Work.copy] : List.map wdv w.old =List.map wdv ((w.place (sizeH (decodeH (loadA w.heap.words r).fst).fst)).fst.copy r (w.place (sizeH (decodeH (loadA w.heap.words r).fst).fst)).snd.fst (sizeH (decodeH (loadA w.heap.words r).fst).fst)).old) (Fa (by refine congrArg _ ?_; grind [Work.copy] : List.map idv w.taken =List.map idv ((w.place (sizeH (decodeH (loadA w.heap.words r).fst).fst)).fst.copy r (w.place (sizeH (decodeH (loadA w.heap.words r).fst).fst)).snd.fst (sizeH (decodeH (loadA w.heap.words r).fst).fst)).taken) (Fa (by refine congrArg _ ?_; grind [Work.copy] : List.map wdv w.queue =List.map wdv ((w.place (sizeH (decodeH (loadA w.heap.words r).fst).fst)).fst.copy r (w.place (sizeH (decodeH (loadA w.heap.words r).fst).fst)).snd.fst (sizeH (decodeH (loadA w.heap.words r).fst).fst)).queue) (Fa (by grind [Work.copy] : w.scanned =((w.place (sizeH (decodeH (loadA w.heap.words r).fst).fst)).fst.copy r (w.place (sizeH (decodeH (loadA w.heap.words r).fst).fst)).snd.fst (sizeH (decodeH (loadA w.heap.words r).fst).fst)).scanned) (Fa (by grind [Work.copy] : w.rep.copied =((w.place (sizeH (decodeH (loadA w.heap.words r).fst).fst)).fst.copy r (w.place (sizeH (decodeH (loadA w.heap.words r).fst).fst)).snd.fst (sizeH (decodeH (loadA w.heap.words r).fst).fst)).rep.copied) (Fa (by grind [Work.copy] : w.rep.kept =((w.place (sizeH (decodeH (loadA w.heap.words r).fst).fst)).fst.copy r (w.place (sizeH (decodeH (loadA w.heap.words r).fst).fst)).snd.fst (sizeH (decodeH (loadA w.heap.words r).fst).fst)).rep.kept) (Fa (by grind [Work.copy] : w.rep.filled =((w.place (sizeH (decodeH (loadA w.heap.words r).fst).fst)).fst.copy r (w.place (sizeH (decodeH (loadA w.heap.words r).fst).fst)).snd.fst (sizeH (decodeH (loadA w.heap.words r).fst).fst)).rep.filled) (Fa (by grind [Work.copy] : w.rep.freed =((w.place (sizeH (decodeH (loadA w.heap.words r).fst).fst)).fst.copy r (w.place (sizeH (decodeH (loadA w.heap.words r).fst).fst)).snd.fst (sizeH (decodeH (loadA w.heap.words r).fst).fst)).rep.freed) (Fa (by grind [Work.copy] : w.rep.cleared =((w.place (sizeH (decodeH (loadA w.heap.words r).fst).fst)).fst.copy r (w.place (sizeH (decodeH (loadA w.heap.words r).fst).fst)).snd.fst (sizeH (decodeH (loadA w.heap.words r).fst).fst)).rep.cleared) (Fa (by grind [Work.copy] : w.rep.steps =((w.place (sizeH (decodeH (loadA w.heap.words r).fst).fst)).fst.copy r (w.place (sizeH (decodeH (loadA w.heap.words r).fst).fst)).snd.fst (sizeH (decodeH (loadA w.heap.words r).fst).fst)).rep.steps) (Fa (by grind [Work.copy] : r =(w.place (sizeH (decodeH (loadA w.heap.words r).fst).fst)).snd.fst) (Fr (0 : Int) Fz))))))))))))))))))))
 ·obtain ⟨hc0pa,hc0pb⟩ := hc0p
  exact gF [] Tryz.func159 [] (Fh 77 [.call true (Sx.bool (Z1c w (ofA w.heap.conf r).fst)) [],.br false] (Fh 156 [.br false] (Fh 192 [.els (List.map wdv ((w.place (sizeH (decodeH (loadA w.heap.words r).fst).fst)).fst.queue ++ [(w.place (sizeH (decodeH (loadA w.heap.words r).fst).fst)).snd.fst]))] (Q0 (Ff 30 hc0 (Fc 36 (@Z0N w.old r (by omega)) (Ffb 37 (!decide (r ∈ w.old)) (Fc 44 (@Z1H w.heap.words r (by omega) ‹_›) (Fc 49 (@Z2G ((loadA w.heap.words r).fst) (by omega) (by omega)) (Fa ‹(Z0q (loadA w.heap.words r).fst).snd =false› (Fc 60 (@Z47 w.heap.conf r (by omega) (by omega)) (FlG 71 (!(ofA w.heap.conf r).snd.snd != 0) Page.dv w.heap.pages (Ffb 52 ((ofA w.heap.conf r).snd.snd != 0||decide ((↑w.heap.pages.length : Int)≤(ofA w.heap.conf r).fst)) (Fa (@Z1P w ((ofA w.heap.conf r).fst) (by omega) (by omega)) (Fa ‹Z1c w (ofA w.heap.conf r).fst =false› (Fe 86 Page.dv w.heap.pages ((ofA w.heap.conf r).fst) (Ffb 73 ((w.heap.pages.getD (ofA w.heap.conf r).fst.toNat default).kind == 2) (Fc 143 (@Z2J ((loadA w.heap.words r).fst) (by omega) (by omega)) (Fc 147 (@Z20 ((decodeH (loadA w.heap.words r).fst).fst) ‹_›) (Fc 151 (@Z8E w (sizeH (decodeH (loadA w.heap.words r).fst).fst) ‹_› ‹_›) (Ffb 89 (!(w.place (sizeH (decodeH (loadA w.heap.words r).fst).fst)).snd.snd) (Fc 165 (@Zhs ((w.place (sizeH (decodeH (loadA w.heap.words r).fst).fst)).fst.heap.words) ((w.place (sizeH (decodeH (loadA w.heap.words r).fst).fst)).snd.fst) r (sizeH (decodeH (loadA w.heap.words r).fst).fst) (by grind [Work.copy]) (by omega) ‹_›) (Fc 172 (@ZbM ((w.place (sizeH (decodeH (loadA w.heap.words r).fst).fst)).snd.fst) (by omega) (by omega)) (Fc 181 (@Z7e ((moveA (w.place (sizeH (decodeH (loadA w.heap.words r).fst).fst)).fst.heap.words (w.place (sizeH (decodeH (loadA w.heap.words r).fst).fst)).snd.fst r (sizeH (decodeH (loadA w.heap.words r).fst).fst)).fst) r (4 * (w.place (sizeH (decodeH (loadA w.heap.words r).fst).fst)).snd.fst + 2) (by grind [Work.copy]) ‹_›) (Fs 186 (List.map wdv []) (Fa (by grind [Work.copy] : (List.map wdv []).length + (List.map wdv (w.place (sizeH (decodeH (loadA w.heap.words r).fst).fst)).fst.queue).length≤2 ^ 30) (Fs 189 (List.map wdv (w.place (sizeH (decodeH (loadA w.heap.words r).fst).fst)).fst.queue) (Fs 191 (List.map wdv [(w.place (sizeH (decodeH (loadA w.heap.words r).fst).fst)).snd.fst]) (Fa (by grind [Work.copy] : (List.map wdv (w.place (sizeH (decodeH (loadA w.heap.words r).fst).fst)).fst.queue).length + (List.map wdv [(w.place (sizeH (decodeH (loadA w.heap.words r).fst).fst)).snd.fst]).length≤2 ^ 30) (Fa (by simp [Work.copy,List.map_take,List.map_drop,List.map_set,List.map_append,wdv,idv] : List.map wdv (w.place (sizeH (decodeH (loadA w.heap.words r).fst).fst)).fst.queue ++ List.map wdv [(w.place (sizeH (decodeH (loadA w.heap.words r).fst).fst)).snd.fst] =List.map wdv ((w.place (sizeH (decodeH (loadA w.heap.words r).fst).fst)).fst.queue ++ [(w.place (sizeH (decodeH (loadA w.heap.words r).fst).fst)).snd.fst])) (Fi 197 ((w.place (sizeH (decodeH (loadA w.heap.words r).fst).fst)).fst.rep.copied + 1) Fz)))))))))))))))))))))))))))))))
end
theorem Zj4 (w : Work) (r x : Int) (hs : w.heap.space = 0 ∨ w.heap.space = 1) (hl : w.heap.pages.length ≤ 1048576) (hx : 0 ≤ x) : CSpec Tryz.prog (blkF Tryz.f159 0) (Tg.st ⟨tm 202 [(1,u64 r),(2,.pt 8002 0 0),(4,.pt 8004 0 0),(5,u64 0),(6,int 0),(14,int (x + 1))],[(88094,.arr 56 4 ((w.heap.pages.set x.toNat ⟨(w.heap.pages.getD x.toNat default).kind,1 - w.heap.space,(w.heap.pages.getD x.toNat default).used,(w.heap.pages.getD x.toNat default).pins⟩).map Page.dv)),(8002,.box 176 [int w.heap.conf.pw,int w.heap.conf.pg,Z01 w.heap.words,.ow 88094,int w.heap.space,int w.heap.bump,Z01 w.old,Z1B w.taken,Z01 w.queue,int w.scanned,int w.rep.copied,int w.rep.kept,int w.rep.filled,int w.rep.freed,int w.rep.cleared,int w.rep.steps]),(8004,.box 176 [int 0,int 0,.d (.sl 0 []),.d (.sl 0 []),int 0,int 0,.d (.sl 0 []),.d (.sl 0 []),.d (.sl 0 []),int 0,int 0,int 0,int 0,int 0,int 0,int 0])],60⟩) .nrm (Tg.st ⟨tm 202 [(1,u64 r),(2,.pt 8002 0 0),(4,.pt 8004 0 0),(5,u64 0),(6,int 0)],[(88094,.arr 56 4 ((Z0G w.heap.pages x.toNat (Z0y w.heap.pages x.toNat) (1 - w.heap.space)).map Page.dv)),(8002,.box 176 [int w.heap.conf.pw,int w.heap.conf.pg,Z01 w.heap.words,.ow 88094,int w.heap.space,int w.heap.bump,Z01 w.old,Z1B w.taken,Z01 w.queue,int w.scanned,int w.rep.copied,int w.rep.kept,int w.rep.filled,int w.rep.freed,int w.rep.cleared,int w.rep.steps]),(8004,.box 176 [int 0,int 0,.d (.sl 0 []),.d (.sl 0 []),int 0,int 0,.d (.sl 0 []),.d (.sl 0 []),.d (.sl 0 []),int 0,int 0,int 0,int 0,int 0,int 0,int 0])],60⟩) := by
 have h := Z0d (S := fun k => (fwdL w r x k).st) (Z0y w.heap.pages x.toNat) (by kernel_rfl) (fun k hk => ZhI w r x k hs hl hx hk) (ZjI w r x hl hx)
 have hz := Zei (l := w.heap.pages) (i := x.toNat) (1 - w.heap.space)
 simp only [fwdL,hz,Zbk,Int.natCast_zero,Int.add_zero] at h
 exact h
section
variable (w : Work) (r : Int) (hw : WkOk w) (h0 : 0 ≤ r ∧ r ≤ 18446744073709551615) (c1 : r ≠ 0) (c2 : r ∉ w.queue) (c3 : r ∈ w.old) (c4 : (Z0q (loadA w.heap.words r).1).2 = false) (c5 : (ofA w.heap.conf r).2.2 = 0)
include hw h0 c1 c2 c3 c4 c5
theorem Zfg (c6 : Z1c w (ofA w.heap.conf r).1 = false) (c7 : (w.heap.pages.getD (Z16 w r) default).kind = 2) : GSpec Tryz.prog 159 [w.av,u64 r] false (.tu [((w.flip (Z16 w r)).keep r).av,u64 r,int 0]) [] := by
 have h1 := hw.mu
 have h2 := hw.ol
 have h3 := hw.wl
 have h4 := Z0S hw.words r
 have h5 := hw.pl
 have h6 := validB_iff.1 hw.conf
 have h7 := hw.tl
 have h8 := Z3B hw.conf c5
 have h9 := hw.sp
 have h10 := Zg8 hw (Z16 w r)
 have h12 : (⟨⟨w.heap.conf,w.heap.words,Z0G w.heap.pages (ofA w.heap.conf r).1.toNat (Z0y w.heap.pages (ofA w.heap.conf r).1.toNat) (1 - w.heap.space),w.heap.space,w.heap.bump⟩,w.old,w.taken,w.queue,w.scanned,w.rep⟩ : Work) = w.flip (Z16 w r) := rfl
 unfold Z16 at c7
 have Q0 {h_ c_ p_} (r_ : Fq h_ c_ p_) := FcG 29 (!r == 0) (fun hg => by (try simp only [bs] at hg); exact @Z0N w.queue r (by (try simp only [bs] at hg); omega)) r_
 rcases bb (r == 0 || decide (r ∈ w.queue)) with hc0 | hc0<;>have hc0p:=hc0<;>simp only [bs] at hc0p
 ·exact gF [] Tryz.func159 [false,false,false,false,true] (Q0 (Ft 30 hc0 (Fr w.heap.conf.pw (Fr w.heap.conf.pg (Fr (List.map wdv w.heap.words) (Fa (by refine congrArg _ ?_; grind [] : List.map Page.dv w.heap.pages =List.map Page.dv ((w.flip (Z16 w r)).keep r).heap.pages) (Fr w.heap.space (Fr w.heap.bump (Fr (List.map wdv w.old) (Fr (List.map idv w.taken) (Fa (by refine congrArg _ ?_; grind [] : List.map wdv w.queue =List.map wdv ((w.flip (Z16 w r)).keep r).queue) (Fr w.scanned (Fr w.rep.copied (Fa (by grind [] : w.rep.kept =((w.flip (Z16 w r)).keep r).rep.kept) (Fr w.rep.filled (Fr w.rep.freed (Fr w.rep.cleared (Fr w.rep.steps (Fr r (Fr (0 : Int) Fz))))))))))))))))))))
 ·obtain ⟨hc0pa,hc0pb⟩ := hc0p
  exact gF [] Tryz.func159 [] (Fh 73 [.br false] (Fh 77 [.call true (Sx.bool (Z1c w (ofA w.heap.conf r).fst)) [],.br false] (Fh 139 [.kill ((Work.mk (Heap.mk w.heap.conf w.heap.words (Z0G w.heap.pages (ofA w.heap.conf r).fst.toNat (Z0y w.heap.pages (ofA w.heap.conf r).fst.toNat) (1 - w.heap.space)) w.heap.space w.heap.bump) w.old w.taken w.queue w.scanned w.rep).keep r).av] (Q0 (Ff 30 hc0 (Fc 36 (@Z0N w.old r (by omega)) (Ffb 37 (!decide (r ∈ w.old)) (Fc 44 (@Z1H w.heap.words r (by omega) ‹_›) (Fc 49 (@Z2G ((loadA w.heap.words r).fst) (by omega) (by omega)) (Fa ‹(Z0q (loadA w.heap.words r).fst).snd =false› (Fc 60 (@Z47 w.heap.conf r (by omega) (by omega)) (FlG 71 (!(ofA w.heap.conf r).snd.snd != 0) Page.dv w.heap.pages (Ffb 52 ((ofA w.heap.conf r).snd.snd != 0||decide ((↑w.heap.pages.length : Int)≤(ofA w.heap.conf r).fst)) (Fa (@Z1P w ((ofA w.heap.conf r).fst) (by omega) (by omega)) (Fa ‹Z1c w (ofA w.heap.conf r).fst =false› (Fe 86 Page.dv w.heap.pages ((ofA w.heap.conf r).fst) (Ftb 89 ((w.heap.pages.getD (ofA w.heap.conf r).fst.toNat default).kind == 2) (Fs 90 (List.map Page.dv []) (Fa (by (simp [*]; omega) : (List.map Page.dv []).length + (List.map Page.dv w.heap.pages).length≤2 ^ 30) (Fs 94 (List.map Page.dv w.heap.pages) (Fi 104 (1 - w.heap.space) (Fm0 Page.dv w.heap.pages ((ofA w.heap.conf r).fst) ((ofA w.heap.conf r).fst.toNat) (FS 10106 Page.dv w.heap.pages ((ofA w.heap.conf r).fst.toNat) (Page.mk (w.heap.pages.getD (ofA w.heap.conf r).fst.toNat default).kind (1 - w.heap.space) (w.heap.pages.getD (ofA w.heap.conf r).fst.toNat default).used (w.heap.pages.getD (ofA w.heap.conf r).fst.toNat default).pins) ((w.heap.pages.getD (ofA w.heap.conf r).fst.toNat default).dv) (Fi 108 ((ofA w.heap.conf r).fst + 1) (Fu (@Zj4 w r ((ofA w.heap.conf r).fst) ‹_› (by omega) (by omega)) (Fa (@ZbD (Work.mk (Heap.mk w.heap.conf w.heap.words (Z0G w.heap.pages (ofA w.heap.conf r).fst.toNat (Z0y w.heap.pages (ofA w.heap.conf r).fst.toNat) (1 - w.heap.space)) w.heap.space w.heap.bump) w.old w.taken w.queue w.scanned w.rep) r ‹_›) Fz))))))))))))))))))))))))))
end
theorem Z3g (w : Work) (r : Int) (hw : WkOk w) (h0 : 0 ≤ r ∧ r ≤ 18446744073709551615) : GSpec Tryz.prog 159 [w.av,u64 r] false (.tu [(w.fwd r).1.av,u64 (w.fwd r).2.1,int (w.fwd r).2.2]) [] := by
 unfold Work.fwd
 by_cases c1 : r = 0 ∨ r ∈ w.queue
 ·rw [if_pos c1]
  exact ZfQ w r hw h0 c1
 ·rw [if_neg c1]
  have c1' : r ≠ 0 := fun h => c1 (Or.inl h)
  have c2' : r ∉ w.queue := fun h => c1 (Or.inr h)
  by_cases c3 : r ∈ w.old
  ·rw [if_neg (by simpa using c3)]
   by_cases c4 : (Z0q (loadA w.heap.words r).1).2 = true
   ·rw [if_pos c4]
    exact ZeX w r hw h0 c1' c2' c3 c4
   ·rw [if_neg c4]
    have c4' : (Z0q (loadA w.heap.words r).1).2 = false := by simpa using c4
    by_cases c5 : (ofA w.heap.conf r).2.2 = 0
    ·rw [if_neg (by simpa using c5)]
     by_cases c6 : Z1c w (ofA w.heap.conf r).1 = true
     ·rw [if_pos c6]
      exact Zg3 w r hw h0 c1' c2' c3 c4' c5 c6
     ·rw [if_neg c6]
      have c6' : Z1c w (ofA w.heap.conf r).1 = false := by simpa using c6
      by_cases c7 : (w.heap.pages.getD (Z16 w r) default).kind = 2
      ·rw [if_pos c7]
       exact Zfg w r hw h0 c1' c2' c3 c4' c5 c6' c7
      ·rw [if_neg c7]
       by_cases c8 : (w.place (sizeH (hdW w r))).2.2 = false
       ·rw [if_pos c8]
        exact ZgH w r hw h0 c1' c2' c3 c4' c5 c6' c7 c8
       ·rw [if_neg c8]
        exact Zfd w r hw h0 c1' c2' c3 c4' c5 c6' c7 (by simpa using c8)
    ·rw [if_pos c5]
     exact Zff w r hw h0 c1' c2' c3 c4' c5
  ·rw [if_pos c3]
   exact ZfE w r hw h0 c1' c2' c3
def Z1j (w : Work) (roots : List Int) : Nat → Work × List Int
 | 0 => (w,[])
 | k + 1 => (((Z1j w roots k).1.fwd (roots.getD k default)).1,(Z1j w roots k).2 ++ [((Z1j w roots k).1.fwd (roots.getD k default)).2.1])
def Z26 (w : Work) (roots : List Int) (k : Nat) : Int := ((Z1j w roots k).1.fwd (roots.getD k default)).2.2
def rootsF (w : Work) (roots : List Int) : Work × List Int × Int := match (List.range roots.length).find? (fun k => decide (Z26 w roots k ≠ 0)) with
 | none => ((Z1j w roots roots.length).1,(Z1j w roots roots.length).2,0)
 | some k => (noWork,[],Z26 w roots k)
def rtsL (w : Work) (roots out : List Int) (i : Nat) : Tg := ⟨tm 39 [(1,Z01 roots),(2,.pt 8002 0 0),(4,.pt 8004 0 0),(5,.d (.sl 0 [])),(6,int 0),(7,.ow 16007),(8,int i)],[(16007,.arr 39 1 (out.map wdv)),(8004,.box 176 [int 0,int 0,.d (.sl 0 []),.d (.sl 0 []),int 0,int 0,.d (.sl 0 []),.d (.sl 0 []),.d (.sl 0 []),int 0,int 0,int 0,int 0,int 0,int 0,int 0]),(8002,.box 176 w.cells)],60⟩
section
variable (w : Work) (roots out : List Int) (i : Nat) (hw : WkOk w) (hr : 0 ≤ roots.getD i default ∧ roots.getD i default ≤ 18446744073709551615) (hl : roots.length ≤ 1048576) (ho : out.length ≤ 1048576) (hi : i < roots.length)
include hw hr hl ho hi
theorem Zds (e : (w.fwd (roots.getD i default)).2.2 = 0) : CSpec Tryz.prog (rndF Tryz.f140 0) (rtsL w roots out i).st .nrm (rtsL (w.fwd (roots.getD i default)).1 roots (out ++ [(w.fwd (roots.getD i default)).2.1]) (i + 1)).st := by
 exact sF [(504036,16007)] [] (Fh 36 [.els (List.map wdv (out ++ [(w.fwd (roots.getD i default)).snd.fst]))] (Fl 14 wdv roots (Ftb 15 (decide ((↑i : Int) < (↑roots.length : Int))) (Fek 22 wdv roots (↑i) i (Fc 24 (@Z3g w (roots.getD i default) ‹_› ‹_›) (Ffb 29 ((w.fwd (roots.getD i default)).snd.snd != 0) (Fs 35 (List.map wdv [(w.fwd (roots.getD i default)).snd.fst]) (Fa (by (simp [*]; omega) : (List.map wdv out).length + (List.map wdv [(w.fwd (roots.getD i default)).snd.fst]).length≤2 ^ 30) (Fa (by simp [List.map_take,List.map_drop,List.map_set,List.map_append,wdv,idv] : List.map wdv out ++ List.map wdv [(w.fwd (roots.getD i default)).snd.fst] =List.map wdv (out ++ [(w.fwd (roots.getD i default)).snd.fst])) (Fx 17 i Fz))))))))))
theorem Zh4 (e : ¬ (w.fwd (roots.getD i default)).2.2 = 0) : CSpec Tryz.prog (rndF Tryz.f140 0) (rtsL w roots out i).st .ret (Tg.st ⟨tm 39 [(4,.pt 8004 0 0),(5,.d (.sl 0 [])),(6,int (w.fwd (roots.getD i default)).2.2)],[(8004,.box 176 [int 0,int 0,.d (.sl 0 []),.d (.sl 0 []),int 0,int 0,.d (.sl 0 []),.d (.sl 0 []),.d (.sl 0 []),int 0,int 0,int 0,int 0,int 0,int 0,int 0])],60⟩) := by
 exact sF [] [] (Fl 14 wdv roots (Ftb 15 (decide ((↑i : Int) < (↑roots.length : Int))) (Fek 22 wdv roots (↑i) i (Fc 24 (@Z3g w (roots.getD i default) ‹_› ‹_›) (Ftb 29 ((w.fwd (roots.getD i default)).snd.snd != 0) Fz)))))
end
theorem Zk0 (w : Work) (roots out : List Int) : CSpec Tryz.prog (rndF Tryz.f140 0) (rtsL w roots out roots.length).st (.ext 0) (Tg.st ⟨tm 39 [(2,.pt 8002 0 0),(4,.pt 8004 0 0),(7,.ow 16007)],[(16007,.arr 39 1 (out.map wdv)),(8004,.box 176 [int 0,int 0,.d (.sl 0 []),.d (.sl 0 []),int 0,int 0,.d (.sl 0 []),.d (.sl 0 []),.d (.sl 0 []),int 0,int 0,int 0,int 0,int 0,int 0,int 0]),(8002,.box 176 w.cells)],60⟩) := by
 exact sF [] [] (Fl 14 wdv roots (Ffb 15 (decide ((↑roots.length : Int) < (↑roots.length : Int))) Fz))
theorem Z3x (w : Work) (roots : List Int) : ∀ k,(Z1j w roots k).2.length = k
 | 0 => rfl
 | k + 1 => by simp [Z1j,Z3x w roots k]
theorem Z2N {w : Work} {roots : List Int} (hw : WkOk w) : ∀ k,(∀ j,j < k → Z26 w roots j = 0) → WkOk (Z1j w roots k).1 ∧ (∀ x ∈ (Z1j w roots k).2,0 ≤ x ∧ x ≤ 4294967296) ∧ (Z1j w roots k).1.scanned = w.scanned
 | 0,_ => ⟨hw,by simp [Z1j],rfl⟩
 | k + 1,h => by
  have ih := Z2N hw k (fun j hj => h j (by omega))
  have hf := ZeR ih.1 (roots.getD k default) (h k (by omega))
  refine ⟨hf.1, ?_, ?_⟩
  ·intro x hx
   simp only [Z1j,List.mem_append,List.mem_singleton] at hx
   rcases hx with hx | rfl
   ·exact ih.2.1 x hx
   ·exact ⟨hf.2.1,hf.2.2.1⟩
  ·show ((Z1j w roots k).1.fwd (roots.getD k default)).1.scanned = w.scanned
   rw [hf.2.2.2.2.1,ih.2.2]
section
variable (w : Work) (roots : List Int) (hw : WkOk w) (hr : ULe roots) (hl : roots.length ≤ 1048575)
include hw hr hl
theorem ZiC (hb : (List.range roots.length).find? (fun k => decide (Z26 w roots k ≠ 0)) = none) : CSpec Tryz.prog (blkF Tryz.f140 0) (Tg.st ⟨tm 39 [(1,Z01 roots),(2,.pt 8002 0 0),(4,.pt 8004 0 0),(5,.d (.sl 0 [])),(6,int 0),(7,.ow 16007),(8,int 0)],[(16007,.arr 39 1 []),(8004,.box 176 [int 0,int 0,.d (.sl 0 []),.d (.sl 0 []),int 0,int 0,.d (.sl 0 []),.d (.sl 0 []),.d (.sl 0 []),int 0,int 0,int 0,int 0,int 0,int 0,int 0]),(8002,.box 176 w.cells)],60⟩) .nrm (Tg.st ⟨tm 39 [(2,.pt 8002 0 0),(4,.pt 8004 0 0),(7,.ow 16007)],[(16007,.arr 39 1 ((Z1j w roots roots.length).2.map wdv)),(8004,.box 176 [int 0,int 0,.d (.sl 0 []),.d (.sl 0 []),int 0,int 0,.d (.sl 0 []),.d (.sl 0 []),.d (.sl 0 []),int 0,int 0,int 0,int 0,int 0,int 0,int 0]),(8002,.box 176 (Z1j w roots roots.length).1.cells)],60⟩) := by
 have h0 : ∀ j,j < roots.length → Z26 w roots j = 0 := fun j hj => by
  have := List.find?_eq_none.1 hb j (List.mem_range.2 hj)
  simpa using this
 exact Z0d (S := fun k => (rtsL (Z1j w roots k).1 roots (Z1j w roots k).2 k).st) roots.length (by kernel_rfl) (fun k hk => Zds _ roots _ k (Z2N hw k fun j hj => h0 j (by omega)).1 (Z4D hr k) (by omega) (by rw [Z3x]; omega) hk (h0 k hk)) (Zk0 _ roots _)
theorem Zi1 (i : Nat) (hb : (List.range roots.length).find? (fun k => decide (Z26 w roots k ≠ 0)) = some i) : CSpec Tryz.prog (blkF Tryz.f140 0) (Tg.st ⟨tm 39 [(1,Z01 roots),(2,.pt 8002 0 0),(4,.pt 8004 0 0),(5,.d (.sl 0 [])),(6,int 0),(7,.ow 16007),(8,int 0)],[(16007,.arr 39 1 []),(8004,.box 176 [int 0,int 0,.d (.sl 0 []),.d (.sl 0 []),int 0,int 0,.d (.sl 0 []),.d (.sl 0 []),.d (.sl 0 []),int 0,int 0,int 0,int 0,int 0,int 0,int 0]),(8002,.box 176 w.cells)],60⟩) .ret (Tg.st ⟨tm 39 [(4,.pt 8004 0 0),(5,.d (.sl 0 [])),(6,int (Z26 w roots i))],[(8004,.box 176 [int 0,int 0,.d (.sl 0 []),.d (.sl 0 []),int 0,int 0,.d (.sl 0 []),.d (.sl 0 []),.d (.sl 0 []),int 0,int 0,int 0,int 0,int 0,int 0,int 0])],60⟩) := by
 obtain ⟨h1,h2,h3⟩ := List.find?_range_eq_some.1 hb
 have h2 := List.mem_range.1 h2
 have h0 : ∀ j,j < i → Z26 w roots j = 0 := fun j hj => by simpa using h3 j hj
 exact Z0T (S := fun k => (rtsL (Z1j w roots k).1 roots (Z1j w roots k).2 k).st) i (by kernel_rfl) (fun k hk => Zds _ roots _ k (Z2N hw k fun j hj => h0 j (by omega)).1 (Z4D hr k) (by omega) (by rw [Z3x]; omega) (by omega) (h0 k hk)) (Zh4 _ roots _ i (Z2N hw i h0).1 (Z4D hr i) (by omega) (by rw [Z3x]; omega) h2 (of_decide_eq_true h1))
theorem Z4L : GSpec Tryz.prog 140 [w.av,Z01 roots] false (.tu [(rootsF w roots).1.av,Z01 (rootsF w roots).2.1,int (rootsF w roots).2.2]) [] := by
 cases hb : (List.range roots.length).find? (fun k => decide (Z26 w roots k ≠ 0)) with
 | none =>
  have e7 : rootsF w roots = ((Z1j w roots roots.length).1,(Z1j w roots roots.length).2,0) := by rw [rootsF,hb]
  rw [e7]
  exact gF [] Tryz.func140 [] (Fh 7 [.own] (Fu (@ZiC w roots ‹_› ‹_› ‹_› ‹_›) Fz))
 | some i =>
  have e7 : rootsF w roots = (noWork,[],Z26 w roots i) := by rw [rootsF,hb]
  rw [e7]
  exact gF [] Tryz.func140 [] (Fh 7 [.own] (Fu (@Zi1 w roots ‹_› ‹_› ‹_› i ‹_›) (Fnl (Fnl (Fnl (Fnl (Fnl (Fnl Fz))))))))
end
def Z1N (h : Header) : Nat → List Int
 | 0 => []
 | i + 1 => if Z0n h (i : Int) = true then Z1N h i ++ [(i : Int)] else Z1N h i
theorem Z6e (h : Header) : ∀ i,(Z1N h i).length ≤ i
 | 0 => Nat.le_refl _
 | i + 1 => by
  have := Z6e h i
  simp only [Z1N]
  split <;> simp <;> omega
def Z0f (h : Header) : List Int := if Z0i h = true then Z1N h h.length.toNat else []
def Zfb (h : Header) (i : Nat) : Tg := ⟨tm 23 [(1,.pt 8001 0 0),(3,.ow 16003),(4,int i)],[(16003,.arr 3 1 ((Z1N h i).map idv)),(8001,.box 34 [int h.kind,int h.length,u32 h.map])],60⟩
theorem ZeT (h : Header) (i : Nat) (hm : 0 ≤ h.map ∧ h.map ≤ 4294967295) (hv : Z0i h = true) (hb : h.length ≤ 255) (hi : i < h.length) : CSpec Tryz.prog (rndF Tryz.f171 0) (Zfb h i).st .nrm (Zfb h (i + 1)).st := by
 have hn := Z6e h i
 by_cases hp : Z0n h (i : Int) = true
 ·have e : Z1N h (i + 1) = Z1N h i ++ [(i : Int)] := by rw [Z1N,if_pos hp]
  exact sF [(496021,16003)] [false,false,false,false,false,true] (Fh 17 [.call true (Sx.bool (Z0n h (↑i : Int))) [],.br true] (Fh 21 [.els (List.map idv (Z1N h i ++ [(↑i : Int)]))] (FcG 11 (decide ((↑i : Int) < h.length)) (fun hg => by (try simp only [bs] at hg); exact @Z25 h (by (try simp only [bs] at hg); assumption)) (Ft 12 (by simp [*] : (decide ((↑i : Int) < h.length)&&Z0i h)=true) (Fa (@Z27 h ((↑i : Int)) ‹_›) (Fa ‹Z0n h (↑i : Int) =true› (Fs 20 (List.map idv [(↑i : Int)]) (Fa (by (simp [*]; omega) : (List.map idv (Z1N h i)).length + (List.map idv [(↑i : Int)]).length≤2 ^ 30) (Fa (by simp [List.map_take,List.map_drop,List.map_set,List.map_append,wdv,idv] : List.map idv (Z1N h i) ++ List.map idv [(↑i : Int)] =List.map idv (Z1N h i ++ [(↑i : Int)])) (Fx 14 i (Fr (3 : Int) (Fa (by refine congrArg _ ?_; rw [e] : List.map idv (Z1N h i ++ [(↑i : Int)]) =List.map idv (Z1N h (i + 1))) Fz))))))))))))
 ·have e : Z1N h (i + 1) = Z1N h i := by rw [Z1N,if_neg hp]
  have hp' : Z0n h (i : Int) = false := by simpa using hp
  exact sF [] [false,false,false,false,false,true] (Fh 17 [.call true (Sx.bool (Z0n h (↑i : Int))) [],.br false] (FcG 11 (decide ((↑i : Int) < h.length)) (fun hg => by (try simp only [bs] at hg); exact @Z25 h (by (try simp only [bs] at hg); assumption)) (Ft 12 (by simp [*] : (decide ((↑i : Int) < h.length)&&Z0i h)=true) (Fa (@Z27 h ((↑i : Int)) ‹_›) (Fa ‹Z0n h (↑i : Int) =false› (Fx 14 i (Fr (3 : Int) (Fa (by refine congrArg _ ?_; rw [e] : List.map idv (Z1N h i) =List.map idv (Z1N h (i + 1))) Fz))))))))
theorem ZeI (h : Header) (i : Nat) (hm : 0 ≤ h.map ∧ h.map ≤ 4294967295) (hi : h.length ≤ i ∨ Z0i h = false) : CSpec Tryz.prog (rndF Tryz.f171 0) (Zfb h i).st (.ext 0) (Tg.st ⟨tm 23 [(3,.ow 16003)],[(16003,.arr 3 1 ((Z1N h i).map idv))],60⟩) := by
 rcases hi with hi | hi
 ·exact sF [] [] (FcG 11 (decide ((↑i : Int) < h.length)) (fun hg => by (try simp only [bs] at hg); exact @Z25 h (by (try simp only [bs] at hg); assumption)) (Ffb 12 (decide ((↑i : Int) < h.length)&&Z0i h) Fz))
 ·exact sF [] [] (FcG 11 (decide ((↑i : Int) < h.length)) (fun hg => by (try simp only [bs] at hg); exact @Z25 h (by (try simp only [bs] at hg); assumption)) (Ff 12 (by simp [*] : (decide ((↑i : Int) < h.length)&&Z0i h)=false) Fz))
theorem Zi4 (h : Header) (hm : 0 ≤ h.map ∧ h.map ≤ 4294967295) : CSpec Tryz.prog (blkF Tryz.f171 0) (Tg.st ⟨tm 23 [(1,.pt 8001 0 0),(3,.ow 16003),(4,int 0)],[(16003,.arr 3 1 []),(8001,.box 34 [int h.kind,int h.length,u32 h.map])],60⟩) .nrm (Tg.st ⟨tm 23 [(3,.ow 16003)],[(16003,.arr 3 1 ((Z0f h).map idv))],60⟩) := by
 unfold Z0f
 by_cases hv : Z0i h = true
 ·rw [if_pos hv]
  have hb := validH_iff.1 hv
  exact Z0d (S := fun i => (Zfb h i).st) h.length.toNat (by kernel_rfl) (fun i hi => ZeT h i hm hv (by omega) (by omega)) (ZeI h _ hm (.inl (by omega)))
 ·rw [if_neg hv]
  exact Z0d (S := fun i => (Zfb h i).st) 0 (by kernel_rfl) (fun i hi => by omega) (ZeI h 0 hm (.inr (by simpa using hv)))
theorem Z6n (h : Header) (hm : 0 ≤ h.map ∧ h.map ≤ 4294967295) : GSpec Tryz.prog 171 [h.av] true (.d (.sl 1 ((Z0f h).map idv))) [] := by
 exact gF [] Tryz.func171 [] (Fh 3 [.own] (Fu (@Zi4 h ‹_›) (Fa (by exact Zhe _ : Z1m (List.map idv (Z0f h))) Fz)))
end Go.Proofs.YtjflpmnenhdeeaaGreat
