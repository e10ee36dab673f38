/-
 The statement ObjectInits: part 12.
 Conditions: none.
-/
import Derived.Test.YtpklpkmnhgedbaaGreatM11
set_option maxRecDepth 100000
set_option linter.all false
namespace Go.Proofs.YtpklpkmnhgedbaaGreat
open Go.Sx
theorem ref4NewA : GSpec Tryz.prog 58 [.ag [int 16,int 8]] true (.tu [.ag [int 16,int 8,.ow 0,.ow 1,int 0,int (-1)],int 0]) [.arr 29 1 ((List.replicate 128 0).map wdv),.arr 73 4 ((List.replicate 8 (⟨0,0,0,0⟩ : Page)).map Page.dv)] := by
 have h : validB ⟨16,8⟩ = true := by decide
 have ei : (8 : Int) * 16 = 128 := rfl
 exact gF [24014,24017] Tryz.func58 [] (Fh 14 [.els (List.map wdv (List.replicate (Int.toNat 128) 0))] (Fh 17 [.els (List.map Page.dv [Page.mk 0 0 0 0,Page.mk 0 0 0 0,Page.mk 0 0 0 0,Page.mk 0 0 0 0,Page.mk 0 0 0 0,Page.mk 0 0 0 0,Page.mk 0 0 0 0,Page.mk 0 0 0 0])] (Fc 5 (@refValidConf (Conf.mk 16 8)) (Fa (by decide +kernel : 0≤IntKind.i64.wrap ((8 :Int) * 16)∧IntKind.i64.wrap ((8 :Int) * 16)≤IntKind.i64.wrap ((8 :Int) * 16)∧IntKind.i64.wrap ((8 :Int) * 16) * ((↑(nat_lit 7) : Int) + 1)≤2 ^ 48) (Fr (List.map wdv (List.replicate (Int.toNat 128) 0)) (Fa (by decide +kernel : (0 :Int)≤(8 :Int)∧(8 :Int)≤(8 :Int)∧8 * ((↑(nat_lit 31) : Int) + 1)≤2 ^ 48) (Fr (List.replicate (Int.toNat 8) [dint 0,dint 0,dint 0,dint 0]) (Fa (by exact flat_wdv _ : FlatEls (List.map wdv (List.replicate (Int.toNat 128) 0))) (Fa (by exact flat_pages _ : FlatEls (List.map Page.dv [Page.mk 0 0 0 0,Page.mk 0 0 0 0,Page.mk 0 0 0 0,Page.mk 0 0 0 0,Page.mk 0 0 0 0,Page.mk 0 0 0 0,Page.mk 0 0 0 0,Page.mk 0 0 0 0])) Fz)))))))))
def fieldA (h : Heap) (a i : Int) : Int × Int := if (getH h a).2 = 0 then (if 0 ≤ i ∧ i < (getH h a).1.length then (a + 1 + i,0) else (0,2)) else (0,(getH h a).2)
theorem fieldA_ok {h : Heap} {a i : Int} (e : (fieldA h a i).2 = 0) : (getH h a).2 = 0 ∧ 0 ≤ i ∧ i < (getH h a).1.length ∧ (fieldA h a i).1 = a + 1 + i := by
 unfold fieldA at e ⊢
 split at e
 ·rename_i h1
  split at e
  ·rename_i h2
   rw [if_pos h1,if_pos h2]
   exact ⟨h1,h2.1,h2.2,rfl⟩
  ·simp at e
 ·rename_i h1
  exact absurd e h1
theorem objectFieldA (h : Heap) (a i : Int) (hw : WOk h.words) (h0 : 0 ≤ a ∧ a ≤ 18446744073709551615) : GSpec Tryz.prog 59 [h.av,u64 a,int i] true (.tu [u64 (fieldA h a i).1,int (fieldA h a i).2]) [] := by
 rcases bb ((getH h a).snd != 0) with hc0 | hc0<;>have hc0p:=hc0<;>simp only [bs] at hc0p
 ·exact gF [] Tryz.func59 [true] (Fh 16 [.br true] (Fc 13 (@objectGet h a ‹_› ‹_›) (Fa hc0 (Fa (by simp [fieldA, *] : 0 =(fieldA h a i).fst) (Fa (by simp [fieldA, *] : (getH h a).snd =(fieldA h a i).snd) Fz)))))
 ·have hf3 := getH_ok hc0p
  obtain ⟨hf3a,⟨hf3ba,⟨hf3bba,⟨hf3bbba,⟨hf3bbbba,⟨hf3bbbbba,⟨hf3bbbbbba,⟨hf3bbbbbbba,⟨hf3bbbbbbbba,⟨hf3bbbbbbbbba,hf3bbbbbbbbbb⟩⟩⟩⟩⟩⟩⟩⟩⟩⟩ := hf3
  rcases bb (decide (i < 0) || decide ((getH h a).fst.length ≤ i)) with hc5 | hc5<;>have hc5p:=hc5<;>simp only [bs] at hc5p
  ·exact gF [] Tryz.func59 [false,false,false,false,true] (Fh 16 [.br false] (Fh 20 [.br true] (Fc 13 (@objectGet h a ‹_› ‹_›) (Fa hc0 (Fa hc5 (Fa (by (simp only [fieldA]; (repeat' split) <;> first | rfl | omega | (exfalso; omega) | simp_all) : 0 =(fieldA h a i).fst) (Fa (by (simp only [fieldA]; (repeat' split) <;> first | rfl | omega | (exfalso; omega) | simp_all) : 2 =(fieldA h a i).snd) Fz)))))))
  ·obtain ⟨hc5pa,hc5pb⟩ := hc5p
   exact gF [] Tryz.func59 [false,false,false,false,true] (Fh 16 [.br false] (Fh 20 [.br false] (Fc 13 (@objectGet h a ‹_› ‹_›) (Fa hc0 (Fa hc5 (Fv 30 (a + 1) (Fv 32 i (Fv 33 (a + 1 + i) (Fa (by (simp only [fieldA]; (repeat' split) <;> first | rfl | omega | (exfalso; omega) | simp_all) : a + 1 + i =(fieldA h a i).fst) (Fa (by (simp only [fieldA]; (repeat' split) <;> first | rfl | omega | (exfalso; omega) | simp_all) : 0 =(fieldA h a i).snd) Fz))))))))))
theorem fieldA_no {h : Heap} {a i : Int} (e : ¬ (fieldA h a i).2 = 0) : fieldH h a i = (0,(fieldA h a i).2) ∧ setFieldH h a i = fun _ => (noHeap,(fieldA h a i).2) := by
 have k : fieldH h a i = (0,(fieldA h a i).2) := by
  unfold fieldA at e ⊢
  unfold fieldH
  split at e
  ·rename_i h1
   rw [if_pos h1,if_pos h1]
   split at e
   ·exact absurd rfl e
   ·rename_i h2
    rw [if_neg h2,if_neg h2]
  ·rename_i h1
   rw [if_neg h1,if_neg h1]
 refine ⟨k, ?_⟩
 funext v
 unfold setFieldH
 rw [k]
 simp only
 rw [if_neg e]
theorem fieldA_yes {h : Heap} {a i : Int} (e : (fieldA h a i).2 = 0) : fieldH h a i = loadA h.words (a + 1 + i) := by
 have k := fieldA_ok e
 unfold fieldH
 rw [if_pos k.1,if_pos ⟨k.2.1,k.2.2.1⟩]
theorem objectField (h : Heap) (a i : Int) (hw : WOk h.words) (h0 : 0 ≤ a ∧ a ≤ 18446744073709551615) : GSpec Tryz.prog 18 [h.av,u64 a,int i] true (.tu [u64 (fieldH h a i).1,int (fieldH h a i).2]) [] := by
 by_cases e : (fieldA h a i).2 = 0
 ·have k := fieldA_ok e
  have g := getH_ok k.1
  have po := proper_ok g.2.2.1
  rw [fieldA_yes e]
  exact gF [] Tryz.func18 [true] (Fc 14 (@objectFieldA h a i ‹_› ‹_›) (Ffb 18 ((fieldA h a i).snd != 0) (Fc 23 (@arenaLoad h.words ((fieldA h a i).fst) (by omega) (by omega)) (Fa (by simp only [bs, *,true_or,or_true,true_and,and_true,not_true_eq_false,not_false_eq_true,Bool.true_eq_false,Bool.false_eq_true] : (loadA h.words (fieldA h a i).fst).fst =(loadA h.words (a + 1 + i)).fst) (Fa (by simp only [bs, *,true_or,or_true,true_and,and_true,not_true_eq_false,not_false_eq_true,Bool.true_eq_false,Bool.false_eq_true] : (loadA h.words (fieldA h a i).fst).snd =(loadA h.words (a + 1 + i)).snd) Fz)))))
 ·rw [(fieldA_no e).1]
  exact gF [] Tryz.func18 [] (Fc 14 (@objectFieldA h a i ‹_› ‹_›) (Ftb 18 ((fieldA h a i).snd != 0) Fz))
def hAwake : Heap := (⟨⟨16,8⟩,((List.replicate 128 0).set 0 29).set 1 55,[⟨1,0,2,0⟩,⟨0,0,0,0⟩,⟨0,0,0,0⟩,⟨0,0,0,0⟩,⟨0,0,0,0⟩,⟨0,0,0,0⟩,⟨0,0,0,0⟩,⟨0,0,0,0⟩],0,-1⟩ : Heap)
theorem hAwake_facts : WOk hAwake.words ∧ getH hAwake 4096 = (⟨3,1,0⟩,0) ∧ fieldH hAwake 4096 0 = (55,0) := by
 refine ⟨?_, ?_, ?_⟩
 ·unfold WOk hAwake
  decide +kernel
 ·decide +kernel
 ·decide +kernel
theorem law5awake : GSpec Tryz.prog 17 [] true (bool true) [] := by
 obtain ⟨f1,f2,f3⟩ := hAwake_facts
 have g1 := congrArg (fun x => x.1.kind) f2
 have g2 := congrArg (fun x => x.1.length) f2
 have g3 := congrArg (fun x => x.2) f2
 have g4 := congrArg (fun x => x.1) f3
 have g5 := congrArg (fun x => x.2) f3
 unfold hAwake at f1 g1 g2 g3 g4 g5
 simp only at f1 g1 g2 g3 g4 g5
 exact gF [] Tryz.func17 [] (Fh 10015 [.els (List.map Page.dv [Page.mk 1 0 2 0,Page.mk 0 0 0 0,Page.mk 0 0 0 0,Page.mk 0 0 0 0,Page.mk 0 0 0 0,Page.mk 0 0 0 0,Page.mk 0 0 0 0,Page.mk 0 0 0 0])] (Fh 10020 [.els (List.map wdv ((List.replicate 128 0).set 0 29))] (Fh 10021 [.els (List.map wdv (((List.replicate 128 0).set 0 29).set 1 55))] (Fc 9 (@ref4NewA) (Fa (by simp [*] : (0 :Int)≤0∧Int.toNat 0 < (List.map Page.dv (List.replicate 8 (Page.mk 0 0 0 0))).length) (Fa (by simp [*] : Int.toNat 0 < (List.map Page.dv (List.replicate 8 (Page.mk 0 0 0 0))).length) (Fr ((List.map Page.dv (List.replicate 8 (Page.mk 0 0 0 0))).set (Int.toNat 0) [dint 1,dint 0,dint 2,dint 0]) (Fa (by simp [*] : (0 :Int)≤0∧Int.toNat 0 < (List.map wdv (List.replicate 128 0)).length) (Fa (by simp [*] : Int.toNat 0 < (List.map wdv (List.replicate 128 0)).length) (Fr (List.map wdv ((List.replicate 128 0).set 0 29)) (Fa (by simp [*] : (0 :Int)≤1∧Int.toNat 1 < (List.map wdv ((List.replicate 128 0).set 0 29)).length) (Fa (by simp [*] : Int.toNat 1 < (List.map wdv ((List.replicate 128 0).set 0 29)).length) (Fr (List.map wdv (((List.replicate 128 0).set 0 29).set 1 55)) (Fc 24 (@objectGet (Heap.mk (Conf.mk 16 8) (((List.replicate 128 0).set 0 29).set 1 55) [Page.mk 1 0 2 0,Page.mk 0 0 0 0,Page.mk 0 0 0 0,Page.mk 0 0 0 0,Page.mk 0 0 0 0,Page.mk 0 0 0 0,Page.mk 0 0 0 0,Page.mk 0 0 0 0] 0 (-1 : Int)) (4096) ‹_› (by omega)) (Fc 29 (@objectField (Heap.mk (Conf.mk 16 8) (((List.replicate 128 0).set 0 29).set 1 55) [Page.mk 1 0 2 0,Page.mk 0 0 0 0,Page.mk 0 0 0 0,Page.mk 0 0 0 0,Page.mk 0 0 0 0,Page.mk 0 0 0 0,Page.mk 0 0 0 0,Page.mk 0 0 0 0] 0 (-1 : Int)) (4096) (0) ‹_› (by omega)) Fz)))))))))))))))
structure HOk (h : Heap) : Prop where
 w : WOk h.words
 wl : h.words.length ≤ 1048576
 pl : h.pages.length ≤ 1048576
theorem nearF_ok (h : Heap) {a : Int} (h0 : 0 ≤ a ∧ a ≤ 18446744073709551615) : (nearF h a).length ≤ 5 ∧ ULe (nearF h a) := by
 unfold nearF
 split
 ·rename_i hc
  have hm1 := Int.emod_nonneg a (b := ((startsW h).1.length : Int)) (by omega)
  have hm2 := Int.emod_lt_of_pos a (b := ((startsW h).1.length : Int)) (by omega)
  have hr := startsW_range h _ (getD_mem_iff.2 ⟨(a % ((startsW h).1.length : Int)).toNat,by omega,rfl⟩)
  refine ⟨by simp,fun x hx => ?_⟩
  simp only [List.cons_append,List.nil_append,List.mem_cons,List.not_mem_nil,or_false] at hx
  omega
 ·refine ⟨by simp,fun x hx => ?_⟩
  simp only [List.append_nil,List.mem_cons,List.not_mem_nil,or_false] at hx
  omega
theorem wrapU_range (n : Int) : 0 ≤ IntKind.u64.wrap n ∧ IntKind.u64.wrap n ≤ 18446744073709551615 := by
 unfold IntKind.wrap
 simp only [IntKind.signed,IntKind.bits,Bool.false_and,Bool.false_eq_true,if_false]
 omega
theorem spV_range {w : WorldM} (hw : WOk w.heap.words) (t : Tape) (d : Int) : 0 ≤ spV w t d ∧ spV w t d ≤ 18446744073709551615 := by
 unfold spV
 split
 ·have h : ∀ x ∈ spList,0 ≤ x ∧ x ≤ 18446744073709551615 := by
   intro x hx
   simp only [spList,List.mem_cons,List.not_mem_nil,or_false] at hx
   omega
  exact getD_mem h _
 ·exact wrapU_range _
theorem spoil_ok {w : WorldM} (hm : MOk w 1000) (t : Tape) : HOk (w.spoil t).heap := by
 have a1 := area hm.hv
 have a2 := validB_iff.1 hm.hv
 have a3 := hm.L
 have a4 := hm.pl
 unfold WorldM.spoil spH
 simp only
 split
 ·refine ⟨fun x hx => ?_,by simp only [List.length_set]; omega,by simp only; omega⟩
  rcases List.mem_or_eq_of_mem_set hx with hx | rfl
  ·exact hm.words x hx
  ·exact spV_range hm.words _ _
 ·split
  ·exact ⟨hm.words,by simp only; omega,by simp only [List.length_set]; omega⟩
  ·split
   ·exact ⟨hm.words,by simp only; omega,by simp only; omega⟩
   ·split
    ·exact ⟨hm.words,by simp only; omega,by simp only; omega⟩
    ·split
     ·exact ⟨hm.words,by simp only; omega,by simp only; omega⟩
     ·split
      ·exact ⟨hm.words,by simp only; omega,by simp only [List.length_drop]; omega⟩
      ·exact ⟨hm.words,by simp only; omega,by simp only [List.length_map]; omega⟩
theorem heapsF_ok (raw : Heap) (tape odd : List Int) (hw : WOk raw.words) : (heapsF raw tape odd).length ≤ 3 ∧ ∀ h ∈ heapsF raw tape odd,HOk h := by
 have hm := makeF_ok tape
 have a1 := area hm.hv
 have a2 := validB_iff.1 hm.hv
 have a3 := hm.L
 have a4 := hm.pl
 have h1 : HOk (makeF tape).heap := ⟨hm.words,by omega,by omega⟩
 have h2 := spoil_ok hm ⟨odd,0⟩
 unfold heapsF
 split
 ·rename_i hc
  simp only [lightB,decide_eq_true_eq] at hc
  refine ⟨by simp,fun h hh => ?_⟩
  simp only [List.cons_append,List.nil_append,List.mem_cons,List.not_mem_nil,or_false] at hh
  rcases hh with rfl | rfl | rfl
  ·exact h1
  ·exact h2
  ·exact ⟨hw,by omega,by omega⟩
 ·refine ⟨by simp,fun h hh => ?_⟩
  simp only [List.append_nil,List.mem_cons,List.not_mem_nil,or_false] at hh
  rcases hh with rfl | rfl
  ·exact h1
  ·exact h2
theorem or_add {a v k : Nat} (ha : a < 2 ^ k) (hv : a + v * 2 ^ k < 18446744073709551616) : bits .or .u64 (a : Int) ((v * 2 ^ k : Nat) : Int) = ((a + v * 2 ^ k : Nat) : Int) := by
 rw [bits_or_u64_nat a (v * 2 ^ k) (by omega) (by omega),Nat.mul_comm v,Nat.or_comm,← Nat.two_pow_add_eq_or_of_lt ha,Nat.add_comm]
theorem andNot_zero {v n : Nat} (hn : n ≤ 64) (hv : v < 2 ^ n) : bits .andNot .u64 (v : Int) (2 ^ n - 1) = 0 := by
 have h64 : (2 : Nat) ^ n ≤ 2 ^ 64 := Nat.pow_le_pow_right (by decide) hn
 have hp : 0 < (2 : Nat) ^ n := Nat.two_pow_pos n
 have e : ((2 : Int) ^ n - 1) = ((2 ^ n - 1 : Nat) : Int) := by
  have : ((2 ^ n : Nat) : Int) = 2 ^ n := by simp
  omega
 rw [e]
 have h1 : (BitVec.ofInt 64 (v : Int)).toNat = v := by
  rw [BitVec.ofInt_natCast,BitVec.toNat_ofNat]; exact Nat.mod_eq_of_lt (by omega)
 have h2 : (BitVec.ofInt 64 ((2 ^ n - 1 : Nat) : Int)).toNat = 2 ^ n - 1 := by
  rw [BitVec.ofInt_natCast,BitVec.toNat_ofNat]; exact Nat.mod_eq_of_lt (by omega)
 show IntKind.u64.wrap ((BitVec.ofInt 64 (v : Int) &&& ~~~ BitVec.ofInt 64 ((2 ^ n - 1 : Nat) : Int)).toNat : Int) = _
 rw [BitVec.toNat_and,BitVec.toNat_not,h1,h2]
 have e2 : 2 ^ 64 - 1 - (2 ^ n - 1) = 2 ^ n * (2 ^ (64 - n) - 1) := by
  have : (2 : Nat) ^ 64 = 2 ^ n * 2 ^ (64 - n) := by rw [← Nat.pow_add]; congr 1; omega
  rw [Nat.mul_sub,Nat.mul_one,← this]; omega
 have e3 : v &&& (2 ^ 64 - 1 - (2 ^ n - 1)) = 0 := by
  rw [e2]
  apply Nat.eq_of_testBit_eq
  intro i
  rw [Nat.testBit_and,Nat.zero_testBit,Nat.testBit_two_pow_mul]
  by_cases hi : n ≤ i
  ·rw [Nat.testBit_lt_two_pow (Nat.lt_of_lt_of_le hv (Nat.pow_le_pow_right (by decide) hi)),Bool.false_and]
  ·simp [hi]
 rw [e3]
 decide
theorem bitsFits (v n : Int) (h0 : 0 ≤ v) (hn : 0 ≤ n ∧ n ≤ 64) (hv : v < 2 ^ n.toNat) : GSpec Tryz.prog 128 [u64 v,int n] true (bool true) [] := by
 have e : bits .andNot .u64 v (ones n) = 0 := by
  obtain ⟨a,rfl⟩ := Int.eq_ofNat_of_zero_le h0
  rw [ones,Nat.min_eq_left (by omega)]
  exact andNot_zero (by omega) (by exact_mod_cast hv)
 exact gF [] Tryz.func128 [true] (Fc 7 (@bitsOnes n) (Fb ((bits BinOp.andNot IntKind.u64 v (ones n) == 0)=true) Fz))
structure BField where
 width : Int
 value : Int
 deriving DecidableEq,Inhabited
def BField.dv (f : BField) : List DV := [.sc (.int .i64 f.width),.sc (.int .u64 f.value)]
def packL (k l m : Int) : List BField := [⟨2,1⟩,⟨2,k⟩,⟨12,l⟩,⟨32,m⟩]
def pk1 (k l m : Int) (i : Nat) : Tg := ⟨tm 55 [(0,.d (.sl 2 ((packL k l m).map BField.dv))),(2,u64 0),(3,int 0),(4,int ([64,62,60,48,16].getD i 0)),(11,.d (.sl 2 ((packL k l m).map BField.dv))),(12,int (packL k l m).length),(13,int i)],[],4⟩
theorem pk1Round (k l m : Int) (i : Nat) (hi : i < 4) : CSpec Tryz.prog (rndF Tryz.f105 0) (pk1 k l m i).st .nrm (pk1 k l m (i + 1)).st := by
 have eL : (packL k l m).length = 4 := rfl
 have e0 : (packL k l m).getD 0 default = ⟨2,1⟩ := rfl
 have e1 : (packL k l m).getD 1 default = ⟨2,k⟩ := rfl
 have e2 : (packL k l m).getD 2 default = ⟨12,l⟩ := rfl
 have e3 : (packL k l m).getD 3 default = ⟨32,m⟩ := rfl
 have h : i = 0 ∨ i = 1 ∨ i = 2 ∨ i = 3 := by omega
 rcases h with rfl | rfl | rfl | rfl
 ·exact sF [] [] (Fek 15 BField.dv (packL k l m) (↑0 : Int) 0 (Fg 29 (rfl : IntKind.i64.wrap ([64,62,60,48,16].getD 0 0 - ((packL k l m).getD 0 default).width) =64 - ((packL k l m).getD 0 default).width) Fz))
 ·exact sF [] [] (Fek 15 BField.dv (packL k l m) (↑1 : Int) 1 (Fg 29 (rfl : IntKind.i64.wrap ([64,62,60,48,16].getD 1 0 - ((packL k l m).getD 1 default).width) =62 - ((packL k l m).getD 1 default).width) Fz))
 ·exact sF [] [] (Fek 15 BField.dv (packL k l m) (↑2 : Int) 2 (Fg 29 (rfl : IntKind.i64.wrap ([64,62,60,48,16].getD 2 0 - ((packL k l m).getD 2 default).width) =60 - ((packL k l m).getD 2 default).width) Fz))
 ·exact sF [] [] (Fek 15 BField.dv (packL k l m) (↑3 : Int) 3 (Fg 29 (rfl : IntKind.i64.wrap ([64,62,60,48,16].getD 3 0 - ((packL k l m).getD 3 default).width) =48 - ((packL k l m).getD 3 default).width) Fz))
theorem pk1End (k l m : Int) : CSpec Tryz.prog (rndF Tryz.f105 0) (pk1 k l m 4).st (.ext 0) (Tg.st ⟨tm 55 [(0,.d (.sl 2 ((packL k l m).map BField.dv))),(2,u64 0),(3,int 0)],[],4⟩) := by
 have eL : (packL k l m).length = 4 := rfl
 exact sE [] [] [] [] (trivial)
theorem pk1Loop (k l m : Int) : CSpec Tryz.prog (blkF Tryz.f105 0) (Tg.st ⟨tm 55 [(0,.d (.sl 2 ((packL k l m).map BField.dv))),(2,u64 0),(3,int 0),(4,int 64),(11,.d (.sl 2 ((packL k l m).map BField.dv))),(12,int (packL k l m).length),(13,int 0)],[],4⟩) .nrm (Tg.st ⟨tm 55 [(0,.d (.sl 2 ((packL k l m).map BField.dv))),(2,u64 0),(3,int 0)],[],4⟩) :=
 loop_ext_of (S := fun i => (pk1 k l m i).st) 4 (by kernel_rfl) (fun i hi => pk1Round k l m i hi) (pk1End k l m)
def pkW (k l m : Int) (i : Nat) : Int := [0,1,1 + 4 * k,1 + 4 * k + 16 * l,1 + 4 * k + 16 * l + 65536 * m].getD i 0
def pk2 (k l m : Int) (i : Nat) : Tg := ⟨tm 55 [(2,u64 0),(3,int 0),(7,u64 (pkW k l m i)),(8,int ([0,2,4,16,48].getD i 0)),(31,.d (.sl 2 ((packL k l m).map BField.dv))),(32,int (packL k l m).length),(33,int i)],[],6⟩
theorem orI (n : Nat) {p a v : Int} (hp : p = ((2 ^ n : Nat) : Int)) (ha : 0 ≤ a) (hv : 0 ≤ v) (h1 : a < p) (h2 : a + v * p < 18446744073709551616) : bits .or .u64 a (IntKind.u64.wrap (v * p)) = a + v * p := by
 obtain ⟨x,rfl⟩ := Int.eq_ofNat_of_zero_le ha
 obtain ⟨y,rfl⟩ := Int.eq_ofNat_of_zero_le hv
 have hm : (y : Int) * p = ((y * 2 ^ n : Nat) : Int) := by rw [hp,Int.natCast_mul]
 rw [hm] at h2 ⊢
 rw [wrapU' (by omega) (by omega)]
 exact or_add (by omega) (by omega)
theorem pk2Round (k l m : Int) (i : Nat) (h1 : 0 ≤ k ∧ k ≤ 3) (h2 : 0 ≤ l ∧ l ≤ 255) (h3 : 0 ≤ m ∧ m ≤ 4294967295) (hi : i < 4) : CSpec Tryz.prog (rndF Tryz.f105 2) (pk2 k l m i).st .nrm (pk2 k l m (i + 1)).st := by
 have eL : (packL k l m).length = 4 := rfl
 have e0 : (packL k l m).getD 0 default = ⟨2,1⟩ := rfl
 have e1 : (packL k l m).getD 1 default = ⟨2,k⟩ := rfl
 have e2 : (packL k l m).getD 2 default = ⟨12,l⟩ := rfl
 have e3 : (packL k l m).getD 3 default = ⟨32,m⟩ := rfl
 have h : i = 0 ∨ i = 1 ∨ i = 2 ∨ i = 3 := by omega
 have f1 : bits .or .u64 (pkW k l m 1) (IntKind.u64.wrap (((packL k l m).getD 1 default).value * 4)) = pkW k l m (1 + 1) := (orI 2 (a := 1) (v := k) (by decide) (by omega) (by omega) (by omega) (by omega)).trans (by show _ = 1 + 4 * k; omega)
 have f2 : bits .or .u64 (pkW k l m 2) (IntKind.u64.wrap (((packL k l m).getD 2 default).value * 16)) = pkW k l m (2 + 1) := (orI 4 (a := 1 + 4 * k) (v := l) (by decide) (by omega) (by omega) (by omega) (by omega)).trans (by show _ = 1 + 4 * k + 16 * l; omega)
 have f3 : bits .or .u64 (pkW k l m 3) (IntKind.u64.wrap (((packL k l m).getD 3 default).value * 65536)) = pkW k l m (3 + 1) := (orI 16 (a := 1 + 4 * k + 16 * l) (v := m) (by decide) (by omega) (by omega) (by omega) (by omega)).trans (by show _ = 1 + 4 * k + 16 * l + 65536 * m; omega)
 rcases h with rfl | rfl | rfl | rfl
 ·refine stretchE [((35 : Nat),[Hint.el ((packL k l m).getD (0 : Nat) default).dv]),((41 : Nat),[Hint.call true (Sx.bool true) []]),((47 : Nat),[Hint.int (((packL k l m).getD (0 : Nat) default).value * (1 : Int))]),((52 : Nat),[Hint.int ((0 : Int) + ((packL k l m).getD (0 : Nat) default).width)])] [] [] [] (φ := ((0 : Int) ≤ (↑(0 : Nat) : Int) ∧ (List.map BField.dv (packL k l m))[(↑(0 : Nat) : Int).toNat]? = some ((packL k l m).getD (0 : Nat) default).dv) ∧ GSpec Tryz.prog 128 [u64 ((packL k l m).getD (0 : Nat) default).value,int ((packL k l m).getD (0 : Nat) default).width] true (Sx.bool true) [] ∧ IntKind.u64.wrap (((packL k l m).getD (0 : Nat) default).value * (2 : Int) ^ min ([(0 : Int),(2 : Int),(4 : Int),(16 : Int),(48 : Int)].getD (0 : Nat) (0 : Int)).toNat (64 : Nat)) = ((packL k l m).getD (0 : Nat) default).value * (1 : Int) ∧ (0 : Int) ≤ [(0 : Int),(2 : Int),(4 : Int),(16 : Int),(48 : Int)].getD (0 : Nat) (0 : Int) ∧ IntKind.i64.wrap ([(0 : Int),(2 : Int),(4 : Int),(16 : Int),(48 : Int)].getD (0 : Nat) (0 : Int) + ((packL k l m).getD (0 : Nat) default).width) = (0 : Int) + ((packL k l m).getD (0 : Nat) default).width) ?_ (by kernel_rfl) (by kernel_rfl) (by kernel_rfl)
  exact ⟨(by exact elI (by omega) (by omega) (by omega)),(@bitsFits (((packL k l m).getD (0 : Nat) default).value) (((packL k l m).getD (0 : Nat) default).width) (by grind [pkW]) (by grind [pkW]) (by grind [pkW])),rfl,(by simp [pkW, *]),rfl⟩
 ·refine stretchE [((35 : Nat),[Hint.el ((packL k l m).getD (1 : Nat) default).dv]),((41 : Nat),[Hint.call true (Sx.bool true) []]),((48 : Nat),[Hint.int (bits BinOp.or IntKind.u64 (pkW k l m (1 : Nat)) (IntKind.u64.wrap (((packL k l m).getD (1 : Nat) default).value * (4 : Int))))]),((52 : Nat),[Hint.int ((2 : Int) + ((packL k l m).getD (1 : Nat) default).width)])] [] [] [false,false,true] (φ := ((0 : Int) ≤ (↑(1 : Nat) : Int) ∧ (List.map BField.dv (packL k l m))[(↑(1 : Nat) : Int).toNat]? = some ((packL k l m).getD (1 : Nat) default).dv) ∧ GSpec Tryz.prog 128 [u64 ((packL k l m).getD (1 : Nat) default).value,int ((packL k l m).getD (1 : Nat) default).width] true (Sx.bool true) [] ∧ (0 : Int) ≤ [(0 : Int),(2 : Int),(4 : Int),(16 : Int),(48 : Int)].getD (1 : Nat) (0 : Int) ∧ bits BinOp.or IntKind.u64 (pkW k l m (1 : Nat)) (IntKind.u64.wrap (((packL k l m).getD (1 : Nat) default).value * (2 : Int) ^ min ([(0 : Int),(2 : Int),(4 : Int),(16 : Int),(48 : Int)].getD (1 : Nat) (0 : Int)).toNat (64 : Nat))) = bits BinOp.or IntKind.u64 (pkW k l m (1 : Nat)) (IntKind.u64.wrap (((packL k l m).getD (1 : Nat) default).value * (4 : Int))) ∧ IntKind.i64.wrap ([(0 : Int),(2 : Int),(4 : Int),(16 : Int),(48 : Int)].getD (1 : Nat) (0 : Int) + ((packL k l m).getD (1 : Nat) default).width) = (2 : Int) + ((packL k l m).getD (1 : Nat) default).width ∧ bits BinOp.or IntKind.u64 (pkW k l m (1 : Nat)) (IntKind.u64.wrap (((packL k l m).getD (1 : Nat) default).value * (4 : Int))) = pkW k l m ((1 : Nat) + (1 : Nat))) ?_ (by kernel_rfl) (by kernel_rfl) (by kernel_rfl)
  exact ⟨(by exact elI (by omega) (by omega) (by omega)),(@bitsFits (((packL k l m).getD (1 : Nat) default).value) (((packL k l m).getD (1 : Nat) default).width) (by simp only [bs, *,true_or,or_true,true_and,and_true,not_true_eq_false,not_false_eq_true,Bool.true_eq_false,Bool.false_eq_true]) (by grind [pkW]) (by grind [pkW])),(by simp [pkW, *]),rfl,rfl,‹_›⟩
 ·refine stretchE [((35 : Nat),[Hint.el ((packL k l m).getD (2 : Nat) default).dv]),((41 : Nat),[Hint.call true (Sx.bool true) []]),((48 : Nat),[Hint.int (bits BinOp.or IntKind.u64 (pkW k l m (2 : Nat)) (IntKind.u64.wrap (((packL k l m).getD (2 : Nat) default).value * (16 : Int))))]),((52 : Nat),[Hint.int ((4 : Int) + ((packL k l m).getD (2 : Nat) default).width)])] [] [] [false,false,true] (φ := ((0 : Int) ≤ (↑(2 : Nat) : Int) ∧ (List.map BField.dv (packL k l m))[(↑(2 : Nat) : Int).toNat]? = some ((packL k l m).getD (2 : Nat) default).dv) ∧ GSpec Tryz.prog 128 [u64 ((packL k l m).getD (2 : Nat) default).value,int ((packL k l m).getD (2 : Nat) default).width] true (Sx.bool true) [] ∧ (0 : Int) ≤ [(0 : Int),(2 : Int),(4 : Int),(16 : Int),(48 : Int)].getD (2 : Nat) (0 : Int) ∧ bits BinOp.or IntKind.u64 (pkW k l m (2 : Nat)) (IntKind.u64.wrap (((packL k l m).getD (2 : Nat) default).value * (2 : Int) ^ min ([(0 : Int),(2 : Int),(4 : Int),(16 : Int),(48 : Int)].getD (2 : Nat) (0 : Int)).toNat (64 : Nat))) = bits BinOp.or IntKind.u64 (pkW k l m (2 : Nat)) (IntKind.u64.wrap (((packL k l m).getD (2 : Nat) default).value * (16 : Int))) ∧ IntKind.i64.wrap ([(0 : Int),(2 : Int),(4 : Int),(16 : Int),(48 : Int)].getD (2 : Nat) (0 : Int) + ((packL k l m).getD (2 : Nat) default).width) = (4 : Int) + ((packL k l m).getD (2 : Nat) default).width ∧ bits BinOp.or IntKind.u64 (pkW k l m (2 : Nat)) (IntKind.u64.wrap (((packL k l m).getD (2 : Nat) default).value * (16 : Int))) = pkW k l m ((2 : Nat) + (1 : Nat))) ?_ (by kernel_rfl) (by kernel_rfl) (by kernel_rfl)
  exact ⟨(by exact elI (by omega) (by omega) (by omega)),(@bitsFits (((packL k l m).getD (2 : Nat) default).value) (((packL k l m).getD (2 : Nat) default).width) (by simp only [bs, *,true_or,or_true,true_and,and_true,not_true_eq_false,not_false_eq_true,Bool.true_eq_false,Bool.false_eq_true]) (by grind [pkW]) (by grind [pkW])),(by simp [pkW, *]),rfl,rfl,‹_›⟩
 ·refine stretchE [((35 : Nat),[Hint.el ((packL k l m).getD (3 : Nat) default).dv]),((41 : Nat),[Hint.call true (Sx.bool true) []]),((48 : Nat),[Hint.int (bits BinOp.or IntKind.u64 (pkW k l m (3 : Nat)) (IntKind.u64.wrap (((packL k l m).getD (3 : Nat) default).value * (65536 : Int))))]),((52 : Nat),[Hint.int ((16 : Int) + ((packL k l m).getD (3 : Nat) default).width)])] [] [] [false,false,true] (φ := ((0 : Int) ≤ (↑(3 : Nat) : Int) ∧ (List.map BField.dv (packL k l m))[(↑(3 : Nat) : Int).toNat]? = some ((packL k l m).getD (3 : Nat) default).dv) ∧ GSpec Tryz.prog 128 [u64 ((packL k l m).getD (3 : Nat) default).value,int ((packL k l m).getD (3 : Nat) default).width] true (Sx.bool true) [] ∧ (0 : Int) ≤ [(0 : Int),(2 : Int),(4 : Int),(16 : Int),(48 : Int)].getD (3 : Nat) (0 : Int) ∧ bits BinOp.or IntKind.u64 (pkW k l m (3 : Nat)) (IntKind.u64.wrap (((packL k l m).getD (3 : Nat) default).value * (2 : Int) ^ min ([(0 : Int),(2 : Int),(4 : Int),(16 : Int),(48 : Int)].getD (3 : Nat) (0 : Int)).toNat (64 : Nat))) = bits BinOp.or IntKind.u64 (pkW k l m (3 : Nat)) (IntKind.u64.wrap (((packL k l m).getD (3 : Nat) default).value * (65536 : Int))) ∧ IntKind.i64.wrap ([(0 : Int),(2 : Int),(4 : Int),(16 : Int),(48 : Int)].getD (3 : Nat) (0 : Int) + ((packL k l m).getD (3 : Nat) default).width) = (16 : Int) + ((packL k l m).getD (3 : Nat) default).width ∧ bits BinOp.or IntKind.u64 (pkW k l m (3 : Nat)) (IntKind.u64.wrap (((packL k l m).getD (3 : Nat) default).value * (65536 : Int))) = pkW k l m ((3 : Nat) + (1 : Nat))) ?_ (by kernel_rfl) (by kernel_rfl) (by kernel_rfl)
  exact ⟨(by exact elI (by omega) (by omega) (by omega)),(@bitsFits (((packL k l m).getD (3 : Nat) default).value) (((packL k l m).getD (3 : Nat) default).width) (by simp only [bs, *,true_or,or_true,true_and,and_true,not_true_eq_false,not_false_eq_true,Bool.true_eq_false,Bool.false_eq_true]) (by grind [pkW]) (by grind [pkW])),(by simp [pkW, *]),rfl,rfl,‹_›⟩
theorem pk2End (k l m : Int) : CSpec Tryz.prog (rndF Tryz.f105 2) (pk2 k l m 4).st (.ext 2) (Tg.st ⟨tm 55 [(2,u64 0),(3,int 0),(7,u64 (1 + 4 * k + 16 * l + 65536 * m))],[],6⟩) := by
 have eL : (packL k l m).length = 4 := rfl
 have ew : pkW k l m 4 = 1 + 4 * k + 16 * l + 65536 * m := rfl
 exact sE [] [] [] [] (trivial)
theorem pk2Loop (k l m : Int) (h1 : 0 ≤ k ∧ k ≤ 3) (h2 : 0 ≤ l ∧ l ≤ 255) (h3 : 0 ≤ m ∧ m ≤ 4294967295) : CSpec Tryz.prog (blkF Tryz.f105 2) (Tg.st ⟨tm 55 [(2,u64 0),(3,int 0),(7,u64 0),(8,int 0),(31,.d (.sl 2 ((packL k l m).map BField.dv))),(32,int (packL k l m).length),(33,int 0)],[],6⟩) .nrm (Tg.st ⟨tm 55 [(2,u64 0),(3,int 0),(7,u64 (1 + 4 * k + 16 * l + 65536 * m))],[],6⟩) :=
 loop_ext_of (S := fun i => (pk2 k l m i).st) 4 (by kernel_rfl) (fun i hi => pk2Round k l m i h1 h2 h3 hi) (pk2End k l m)
theorem bitsPack (k l m : Int) (h1 : 0 ≤ k ∧ k ≤ 3) (h2 : 0 ≤ l ∧ l ≤ 255) (h3 : 0 ≤ m ∧ m ≤ 4294967295) : GSpec Tryz.prog 105 [.d (.sl 2 ((packL k l m).map BField.dv))] true (.tu [u64 (1 + 4 * k + 16 * l + 65536 * m),int 0]) [] := by
 exact gF [] Tryz.func105 [] (Fg 12 (rfl : (↑(List.map BField.dv (packL k l m)).length : Int) =(↑(packL k l m).length : Int)) (Fu (@pk1Loop k l m) (Fg 32 (rfl : (↑(List.map BField.dv (packL k l m)).length : Int) =(↑(packL k l m).length : Int)) (Fu (@pk2Loop k l m ‹_› ‹_› ‹_›) Fz))))
theorem headerEncode (h : Header) (hm : 0 ≤ h.map ∧ h.map ≤ 4294967295) : GSpec Tryz.prog 69 [h.av] true (.tu [u64 (encodeH h).1,int (encodeH h).2]) [] := by
 rcases bb (!validH h) with hc0 | hc0<;>have hc0p:=hc0<;>simp only [bs] at hc0p
 ·exact gF [] Tryz.func69 [true] (Fc 5 (@headerValid h ‹_›) (Ft 6 hc0 (Fa (by simp [encodeH, *] : 0 =(encodeH h).fst) (Fa (by simp [encodeH, *] : 1 =(encodeH h).snd) Fz))))
 ·have hf3 := validH_iff.1 hc0p
  obtain ⟨hf3a,⟨hf3ba,⟨hf3bba,⟨hf3bbba,hf3bbbb⟩⟩⟩⟩ := hf3
  exact gF [] Tryz.func69 [true] (Fh 20 [.els (List.map BField.dv [BField.mk 2 1,BField.mk 2 h.kind,BField.mk 12 h.length,BField.mk 32 h.map])] (Fc 5 (@headerValid h ‹_›) (Ff 6 hc0 (Fv 10 h.kind (Fv 14 h.length (Fv 18 h.map (Fr (List.map BField.dv [BField.mk 2 1,BField.mk 2 h.kind,BField.mk 12 h.length,BField.mk 32 h.map]) (Fc 21 (@bitsPack h.kind h.length h.map (by omega) (by omega) ‹_›) (Fa (by simp [encodeH, *] : (1 :Int) + 4 * h.kind + 16 * h.length + 65536 * h.map =(encodeH h).fst) (Fa (by simp [encodeH, *] : 0 =(encodeH h).snd) Fz))))))))))
theorem map_ne {α β : Type} {f : α → β} {l : List α} (h : l ≠ []) : l.map f ≠ [] := by simpa using h
theorem cloneWordsN (ws : List Int) (hw : ws.length ≤ 1048576) (hne : ws ≠ []) : GSpec Tryz.prog 95 [wordsV ws] true (.ow 0) [.arr 29 1 (ws.map wdv)] := by
 exact gF [24007] Tryz.func95 [] (Fh 5 [.els (List.map wdv [])] (Fh 7 [.els (List.map wdv ws)] (Fa (by exact map_ne hne : List.map wdv ws ≠ []) (Fr (List.map wdv []) (Fa (by (simp [*]; omega) : (List.map wdv []).length + (List.map wdv ws).length≤2 ^ 30) (Fr (List.map wdv ws) (Fa (by exact flat_wdv _ : FlatEls (List.map wdv ws)) Fz)))))))
theorem clonePages (l : List Page) (hl : l.length ≤ 1048576) (hne : l ≠ []) : GSpec Tryz.prog 97 [pagesV l] true (pagesV l) [] := by
 exact gF [] Tryz.func97 [] (Fh 5 [.els (List.map Page.dv [])] (Fh 7 [.els (List.map Page.dv l)] (Fa (by exact map_ne hne : List.map Page.dv l ≠ []) (Fr (List.map Page.dv []) (Fa (by (simp [*]; omega) : (List.map Page.dv []).length + (List.map Page.dv l).length≤2 ^ 30) (Fr (List.map Page.dv l) (Fa (by exact flat_pages _ : FlatEls (List.map Page.dv l)) Fz)))))))
theorem ne_of_len {α : Type} {l : List α} (h : 0 < l.length) : l ≠ [] := by
 rintro rfl
 simp at h
theorem arenaWrite (ws l : List Int) (a : Int) (hw : ws.length ≤ 1048576) (hl : l.length ≤ 1048576) (h0 : 0 ≤ a ∧ a ≤ 18446744073709551615) (hn : 0 < l.length) : GSpec Tryz.prog 70 [wordsV ws,u64 a,wordsV l] true (.tu [wordsV (writeA ws a l).1,int (writeA ws a l).2]) [] := by
 by_cases h : 4096 ≤ a ∧ a - 4096 + l.length ≤ ws.length
 ·have e7 : writeA ws a l = (spl ws (a - 4096).toNat l,0) := by rw [writeA,if_pos h]
  have e1 : placeA ws a (l.length : Int) = (a - 4096,true) := by
   rw [placeA,if_pos (by omega)]
   simp; omega
  have e2 := congrArg (fun x => x.1) e1
  have e3 := congrArg (fun x => x.2) e1
  simp only at e2 e3
  have hne : ws ≠ [] := ne_of_len (by omega)
  have hs : spliceE (List.map wdv ws) (placeA ws a l.length).1.toNat (List.map wdv l) = List.map wdv (List.take (placeA ws a l.length).1.toNat ws ++ l ++ List.drop ((placeA ws a l.length).1.toNat + l.length) ws) := by simp [spliceE]
  rw [e7]
  exact gF [] Tryz.func70 [true] (Fh 27 [.els (List.map wdv (List.take (placeA ws a (↑l.length : Int)).fst.toNat ws ++ l ++ List.drop ((placeA ws a (↑l.length : Int)).fst.toNat + l.length) ws))] (Fl 15 wdv l (Fc 16 (@arenaPlace ws a ((↑l.length : Int)) ‹_› ‹_›) (Ffb 20 (!(placeA ws a (↑l.length : Int)).snd) (Fc 22 (@cloneWordsN ws ‹_› ‹_›) (Fa (by (simp only [List.length_map]; omega) : 0≤(placeA ws a (↑l.length : Int)).fst∧(placeA ws a (↑l.length : Int)).fst≤(↑(List.map wdv ws).length : Int)) (Fa (by (simp only [List.length_map]; omega) : (List.map wdv l).length≤(↑(List.map wdv ws).length : Int).toNat - (placeA ws a (↑l.length : Int)).fst.toNat) (Fa (by exact hs : spliceE (List.map wdv ws) (placeA ws a (↑l.length : Int)).fst.toNat (List.map wdv l) =List.map wdv (List.take (placeA ws a (↑l.length : Int)).fst.toNat ws ++ l ++ List.drop ((placeA ws a (↑l.length : Int)).fst.toNat + l.length) ws)) (Fa (by exact flat_wdv _ : FlatEls (List.map wdv (List.take (placeA ws a (↑l.length : Int)).fst.toNat ws ++ l ++ List.drop ((placeA ws a (↑l.length : Int)).fst.toNat + l.length) ws))) (Fa (by refine congrArg _ ?_; simp [spl, *] : List.map wdv (List.take (placeA ws a (↑l.length : Int)).fst.toNat ws ++ l ++ List.drop ((placeA ws a (↑l.length : Int)).fst.toNat + l.length) ws) =List.map wdv (spl ws (a - 4096).toNat l,0).fst) (Fr (0 : Int) Fz)))))))))))
 ·have e7 : writeA ws a l = ([],2) := by rw [writeA,if_neg h]
  have e3 : (placeA ws a (l.length : Int)).2 = false := by
   unfold placeA
   split
   ·simp; omega
   ·rfl
  rw [e7]
  exact gF [] Tryz.func70 [] (Fl 15 wdv l (Fc 16 (@arenaPlace ws a ((↑l.length : Int)) ‹_› ‹_›) (Ftb 20 (!(placeA ws a (↑l.length : Int)).snd) (Fnl Fz))))
theorem objectChanged0 (h : Heap) (ws : List Int) (e : Int) (hp : h.pages.length ≤ 1048576) (he : e = 0) (hne : h.pages ≠ []) : GSpec Tryz.prog 63 [h.av,wordsV ws,int e] false (.tu [Heap.av ⟨h.conf,ws,h.pages,h.space,h.bump⟩,int 0]) [] := by
 exact gF [] Tryz.func63 [] (Ffb 9 (e != 0) (Fc 15 (@clonePages h.pages ‹_› ‹_›) Fz))
theorem objectChangedE (h : Heap) (ws : List Int) (e : Int) (he : ¬ e = 0) : GSpec Tryz.prog 63 [h.av,wordsV ws,int e] false (.tu [noHeap.av,int e]) [] := by
 exact gF [] Tryz.func63 [] (Ftb 9 (e != 0) (Fnl (Fnl Fz)))
theorem cloneNil (c : Nat) : GSpec Tryz.prog 95 [.d (.sc (.slice none 0 c))] true (wordsV []) [] := by
 exact gF [] Tryz.func95 [] (Fnl Fz)
theorem cloneSome (p : Addr) (c : Nat) : GSpec Tryz.prog 95 [.d (.sc (.slice (some p) 0 c))] true (wordsV []) [] := by
 exact gF [] Tryz.func95 [] (Fh 5 [.els (List.map wdv [])] (Fh 7 [.els (List.map wdv [])] (Fr (List.map wdv []) (Fa (by simp [*] : (List.map wdv []).length + ([] : List (List DV)).length≤2 ^ 30) (Fr (List.map wdv []) (Fa (by exact flat_wdv _ : FlatEls (List.map wdv [])) Fz))))))
theorem cloneWordsS (ws : List Int) (hw : ws.length ≤ 1048576) (hne : ws ≠ []) : GSpec Tryz.prog 95 [wordsV ws] true (wordsV ws) [] := by
 exact gF [] Tryz.func95 [] (Fh 5 [.els (List.map wdv [])] (Fh 7 [.els (List.map wdv ws)] (Fa (by exact map_ne hne : List.map wdv ws ≠ []) (Fr (List.map wdv []) (Fa (by (simp [*]; omega) : (List.map wdv []).length + (List.map wdv ws).length≤2 ^ 30) (Fr (List.map wdv ws) (Fa (by exact flat_wdv _ : FlatEls (List.map wdv ws)) Fz)))))))
theorem cloneWords (ws : List Int) (hw : ws.length ≤ 1048576) : GSpec Tryz.prog 95 [wordsV ws] true (wordsV ws) [] := by
 by_cases hne : ws = []
 ·subst hne
  exact gspec_empty fun p c => match p with | none => cloneNil c | some p => cloneSome p c
 ·exact cloneWordsS ws hw hne
theorem arenaRead (ws : List Int) (a n : Int) (hw : ws.length ≤ 1048576) (h0 : 0 ≤ a ∧ a ≤ 18446744073709551615) : GSpec Tryz.prog 60 [wordsV ws,u64 a,int n] false (.tu [wordsV (readA ws a n).1,int (readA ws a n).2]) [] := by
 rcases bb (decide (n < 0)) with hc0 | hc0<;>have hc0p:=hc0<;>simp only [bs] at hc0p
 ·exact gF [] Tryz.func60 [true] (Ft 11 hc0 (Fnl (Fa (by simp [readA, *] : [] =List.map wdv (readA ws a n).fst) (Fa (by simp [readA, *] : 1 =(readA ws a n).snd) Fz))))
 ·have Q0 {h c p} (r : Fq h c p) := Ff 11 hc0 (Fc 16 (@arenaPlace ws a n ‹_› ‹_›) r)
  rcases bb (!(placeA ws a n).snd) with hc9 | hc9<;>have hc9p:=hc9<;>simp only [bs] at hc9p
  ·have hf12 := placeA_no hc9p
   exact gF [] Tryz.func60 [true] (Q0 (Ft 20 hc9 (Fnl (Fa (by (simp only [readA]; (repeat' split) <;> first | rfl | omega | (exfalso; omega) | simp_all) : [] =List.map wdv (readA ws a n).fst) (Fa (by (simp only [readA]; (repeat' split) <;> first | rfl | omega | (exfalso; omega) | simp_all) : 2 =(readA ws a n).snd) Fz)))))
  ·have hf14 := placeA_ok hc9p
   obtain ⟨hf14a,⟨hf14ba,⟨hf14bba,hf14bbb⟩⟩⟩ := hf14
   exact gF [] Tryz.func60 [true] (Fh 26 [.els (List.map wdv (List.take (((placeA ws a n).fst + n).toNat - (placeA ws a n).fst.toNat) (List.drop (placeA ws a n).fst.toNat ws)))] (Q0 (Ff 20 hc9 (Fi 25 ((placeA ws a n).fst + n) (Fa (by (simp only [List.length_map]; omega) : 0≤(placeA ws a n).fst∧(placeA ws a n).fst≤(placeA ws a n).fst + n∧(placeA ws a n).fst + n≤(↑(List.map wdv ws).length : Int)) (Fa (by simp [readA,List.map_take,List.map_drop,List.map_set,List.map_append,wdv,idv] : List.take (((placeA ws a n).fst + n).toNat - (placeA ws a n).fst.toNat) (List.drop (placeA ws a n).fst.toNat (List.map wdv ws)) =List.map wdv (List.take (((placeA ws a n).fst + n).toNat - (placeA ws a n).fst.toNat) (List.drop (placeA ws a n).fst.toNat ws))) (Fc 27 (@cloneWords (List.take (((placeA ws a n).fst + n).toNat - (placeA ws a n).fst.toNat) (List.drop (placeA ws a n).fst.toNat ws)) (by (simp [readA, *]; omega))) (Fa (by refine congrArg _ ?_; (simp [readA, *]; omega) : List.map wdv (List.take (((placeA ws a n).fst + n).toNat - (placeA ws a n).fst.toNat) (List.drop (placeA ws a n).fst.toNat ws)) =List.map wdv (readA ws a n).fst) (Fa (by simp [readA, *] : 0 =(readA ws a n).snd) Fz)))))))))
theorem objectInit (h : Heap) (a : Int) (hd : Header) (hw : WOk h.words) (h0 : 0 ≤ a ∧ a ≤ 18446744073709551615) (hm : 0 ≤ hd.map ∧ hd.map ≤ 4294967295) : GSpec Tryz.prog 29 [h.av,u64 a,hd.av] false (.tu [(initH h a hd).1.av,int (initH h a hd).2]) [] := by
 by_cases hp : properB h = true ∧ (encodeH hd).2 = 0
 ·have ok := encodeH_ok hp.2
  have hz : sizeH hd = hd.length + 1 := by rw [sizeH,if_pos ok.1]
  have po := proper_ok hp.1
  have hp1 := hp.1
  have hp2 := hp.2
  have es : (List.replicate (sizeH hd).toNat 0).set 0 (encodeH hd).1 = objW hd := by
   rw [hz,objW,show (hd.length + 1).toNat = hd.length.toNat + 1 from by omega,List.replicate_succ,List.set_cons_zero]
  have el : ((List.replicate (sizeH hd).toNat 0).set 0 (encodeH hd).1).length = hd.length.toNat + 1 := by rw [es]; simp [objW]
  have hne : h.pages ≠ [] := ne_of_len (by omega)
  by_cases e : (writeA h.words a ((List.replicate (sizeH hd).toNat 0).set 0 (encodeH hd).1)).2 = 0
  ·have e7 : initH h a hd = ({ h with words := (writeA h.words a ((List.replicate (sizeH hd).toNat 0).set 0 (encodeH hd).1)).1 },0) := by
    rw [es] at e ⊢
    rw [initH,if_pos ⟨hp.1,ok.1⟩,if_pos e]
   rw [e7]
   exact gF [] Tryz.func29 [] (Fh 21 [.call true (Sx.bool (properB h)) []] (Fh 27 [.els (List.map wdv (List.replicate (sizeH hd).toNat 0))] (Fh 10030 [.els (List.map wdv ((List.replicate (sizeH hd).toNat 0).set 0 (encodeH hd).fst))] (Fc 14 (@headerEncode hd ‹_›) (Fa ((fun hg => by (try simp only [bs] at hg); exact @pageProper h) : (!(encodeH hd).snd != 0) =true→GSpec Tryz.prog 49 [h.av] true (Sx.bool (properB h)) []) (Ff 23 (by simp only [bs, *,true_or,or_true,true_and,and_true,not_true_eq_false,not_false_eq_true,Bool.true_eq_false,Bool.false_eq_true] : ((encodeH hd).snd != 0||!properB h)=false) (Fc 26 (@headerSize hd ‹_›) (Fb (0≤sizeH hd∧sizeH hd≤sizeH hd∧sizeH hd * ((↑(nat_lit 7) : Int) + 1)≤2 ^ 48) (Fa (by simp [List.map_take,List.map_drop,List.map_set,List.map_append,wdv,idv] : List.replicate (sizeH hd).toNat [du64 0] =List.map wdv (List.replicate (sizeH hd).toNat 0)) (Fa (by (simp [*]; omega) : (0 :Int)≤0∧Int.toNat 0 < (List.map wdv (List.replicate (sizeH hd).toNat 0)).length) (Fa (by (simp [*]; omega) : Int.toNat 0 < (List.map wdv (List.replicate (sizeH hd).toNat 0)).length) (Fa (by simp [List.map_take,List.map_drop,List.map_set,List.map_append,wdv,idv] : (List.map wdv (List.replicate (sizeH hd).toNat 0)).set (Int.toNat 0) [du64 (encodeH hd).fst] =List.map wdv ((List.replicate (sizeH hd).toNat 0).set 0 (encodeH hd).fst)) (Fc 36 (@arenaWrite h.words ((List.replicate (sizeH hd).toNat 0).set 0 (encodeH hd).fst) a (by omega) (by omega) ‹_› (by omega)) (Fc 42 (@objectChanged0 h ((writeA h.words a ((List.replicate (sizeH hd).toNat 0).set 0 (encodeH hd).fst)).fst) ((writeA h.words a ((List.replicate (sizeH hd).toNat 0).set 0 (encodeH hd).fst)).snd) (by omega) ‹_› ‹_›) Fz))))))))))))))
  ·have e7 : initH h a hd = (noHeap,(writeA h.words a ((List.replicate (sizeH hd).toNat 0).set 0 (encodeH hd).1)).2) := by
    rw [es] at e ⊢
    rw [initH,if_pos ⟨hp.1,ok.1⟩,if_neg e]
   rw [e7]
   exact gF [] Tryz.func29 [] (Fh 21 [.call true (Sx.bool (properB h)) []] (Fh 27 [.els (List.map wdv (List.replicate (sizeH hd).toNat 0))] (Fh 10030 [.els (List.map wdv ((List.replicate (sizeH hd).toNat 0).set 0 (encodeH hd).fst))] (Fc 14 (@headerEncode hd ‹_›) (Fa ((fun hg => by (try simp only [bs] at hg); exact @pageProper h) : (!(encodeH hd).snd != 0) =true→GSpec Tryz.prog 49 [h.av] true (Sx.bool (properB h)) []) (Ff 23 (by simp only [bs, *,true_or,or_true,true_and,and_true,not_true_eq_false,not_false_eq_true,Bool.true_eq_false,Bool.false_eq_true] : ((encodeH hd).snd != 0||!properB h)=false) (Fc 26 (@headerSize hd ‹_›) (Fb (0≤sizeH hd∧sizeH hd≤sizeH hd∧sizeH hd * ((↑(nat_lit 7) : Int) + 1)≤2 ^ 48) (Fa (by simp [noHeap,List.map_take,List.map_drop,List.map_set,List.map_append,wdv,idv] : List.replicate (sizeH hd).toNat [du64 0] =List.map wdv (List.replicate (sizeH hd).toNat 0)) (Fa (by (simp [noHeap, *]; omega) : (0 :Int)≤0∧Int.toNat 0 < (List.map wdv (List.replicate (sizeH hd).toNat 0)).length) (Fa (by (simp [noHeap, *]; omega) : Int.toNat 0 < (List.map wdv (List.replicate (sizeH hd).toNat 0)).length) (Fa (by simp [noHeap,List.map_take,List.map_drop,List.map_set,List.map_append,wdv,idv] : (List.map wdv (List.replicate (sizeH hd).toNat 0)).set (Int.toNat 0) [du64 (encodeH hd).fst] =List.map wdv ((List.replicate (sizeH hd).toNat 0).set 0 (encodeH hd).fst)) (Fc 36 (@arenaWrite h.words ((List.replicate (sizeH hd).toNat 0).set 0 (encodeH hd).fst) a (by omega) (by omega) ‹_› (by omega)) (Fc 42 (@objectChangedE h ((writeA h.words a ((List.replicate (sizeH hd).toNat 0).set 0 (encodeH hd).fst)).fst) ((writeA h.words a ((List.replicate (sizeH hd).toNat 0).set 0 (encodeH hd).fst)).snd) ‹_›) Fz))))))))))))))
 ·have e7 : initH h a hd = (noHeap,1) := initH_bad (by
   by_cases q : properB h = true
   ·exact .inr fun q2 => hp ⟨q,q2⟩
   ·exact .inl (by simpa using q))
  rw [e7]
  rcases bb ((encodeH hd).snd != 0 || !properB h) with hc0 | hc0<;>have hc0p:=hc0<;>simp only [bs] at hc0p
  ·exact gF [] Tryz.func29 [] (Fh 21 [.call true (Sx.bool (properB h)) []] (Fc 14 (@headerEncode hd ‹_›) (Fa ((fun hg => by (try simp only [bs] at hg); exact @pageProper h) : (!(encodeH hd).snd != 0) =true→GSpec Tryz.prog 49 [h.av] true (Sx.bool (properB h)) []) (Ft 23 hc0 (Fnl (Fnl Fz))))))
  ·obtain ⟨hc0pa,hc0pb⟩ := hc0p
   exact gF [] Tryz.func29 [false,false,false,true] (Fh 21 [.call true (Sx.bool (properB h)) []] (Fh 27 [.els (List.map wdv (List.replicate (sizeH hd).toNat 0))] (Fh 10030 [.els (List.map wdv ((List.replicate (sizeH hd).toNat 0).set 0 (encodeH hd).fst))] (Fc 14 (@headerEncode hd ‹_›) (Fa ((fun hg => by (try simp only [bs] at hg); exact @pageProper h) : (!(encodeH hd).snd != 0) =true→GSpec Tryz.prog 49 [h.av] true (Sx.bool (properB h)) []) (Ff 23 hc0 (Fc 26 (@headerSize hd ‹_›) (Fa (by (simp only [noHeap]; (repeat' split) <;> first | rfl | omega | (exfalso; omega) | simp_all) : 0≤sizeH hd∧sizeH hd≤sizeH hd∧sizeH hd * ((↑(nat_lit 7) : Int) + 1)≤2 ^ 48) (Fa (by simp [noHeap,List.map_take,List.map_drop,List.map_set,List.map_append,wdv,idv] : List.replicate (sizeH hd).toNat [du64 0] =List.map wdv (List.replicate (sizeH hd).toNat 0)) (Fa (by grind [noHeap] : (0 :Int)≤0∧Int.toNat 0 < (List.map wdv (List.replicate (sizeH hd).toNat 0)).length) (Fa (by grind [noHeap] : Int.toNat 0 < (List.map wdv (List.replicate (sizeH hd).toNat 0)).length) (Fa (by simp [noHeap,List.map_take,List.map_drop,List.map_set,List.map_append,wdv,idv] : (List.map wdv (List.replicate (sizeH hd).toNat 0)).set (Int.toNat 0) [du64 (encodeH hd).fst] =List.map wdv ((List.replicate (sizeH hd).toNat 0).set 0 (encodeH hd).fst)) (Fc 36 (@arenaWrite h.words ((List.replicate (sizeH hd).toNat 0).set 0 (encodeH hd).fst) a (by grind [noHeap]) (by grind [noHeap]) ‹_› (by grind [noHeap])) (Fc 42 (@objectChanged0 h ((writeA h.words a ((List.replicate (sizeH hd).toNat 0).set 0 (encodeH hd).fst)).fst) ((writeA h.words a ((List.replicate (sizeH hd).toNat 0).set 0 (encodeH hd).fst)).snd) (by grind [noHeap]) (by grind [noHeap]) (by grind [noHeap])) (Fa (by (simp only [noHeap]; (repeat' split) <;> first | rfl | omega | (exfalso; omega) | simp_all) : (Heap.mk h.conf (writeA h.words a ((List.replicate (sizeH hd).toNat 0).set 0 (encodeH hd).fst)).fst h.pages h.space h.bump).conf.pw =0) (Fa (by (simp only [noHeap]; (repeat' split) <;> first | rfl | omega | (exfalso; omega) | simp_all) : (Heap.mk h.conf (writeA h.words a ((List.replicate (sizeH hd).toNat 0).set 0 (encodeH hd).fst)).fst h.pages h.space h.bump).conf.pg =0) (Fa (by refine congrArg _ ?_; (simp only [noHeap]; (repeat' split) <;> first | rfl | omega | (exfalso; omega) | simp_all) : List.map wdv (Heap.mk h.conf (writeA h.words a ((List.replicate (sizeH hd).toNat 0).set 0 (encodeH hd).fst)).fst h.pages h.space h.bump).words =List.map wdv (noHeap,1).fst.words) (Fa (by refine congrArg _ ?_; (simp only [noHeap]; (repeat' split) <;> first | rfl | omega | (exfalso; omega) | simp_all) : List.map Page.dv (Heap.mk h.conf (writeA h.words a ((List.replicate (sizeH hd).toNat 0).set 0 (encodeH hd).fst)).fst h.pages h.space h.bump).pages =List.map Page.dv (noHeap,1).fst.pages) (Fa (by (simp only [noHeap]; (repeat' split) <;> first | rfl | omega | (exfalso; omega) | simp_all) : (Heap.mk h.conf (writeA h.words a ((List.replicate (sizeH hd).toNat 0).set 0 (encodeH hd).fst)).fst h.pages h.space h.bump).space =0) (Fa (by (simp only [noHeap]; (repeat' split) <;> first | rfl | omega | (exfalso; omega) | simp_all) : (Heap.mk h.conf (writeA h.words a ((List.replicate (sizeH hd).toNat 0).set 0 (encodeH hd).fst)).fst h.pages h.space h.bump).bump =0) (Fa (by grind [noHeap] : (0 :Int) =1) Fz)))))))))))))))))))))
theorem initH_len (h : Heap) (a : Int) (hd : Header) : (initH h a hd).1.words.length ≤ h.words.length ∧ (initH h a hd).1.pages.length ≤ h.pages.length := by
 unfold initH
 split
 ·split
  ·refine ⟨?_,Nat.le_refl _⟩
   simp only
   unfold writeA
   split
   ·rw [spl_len (by omega)]; exact Nat.le_refl _
   ·simp
  ·simp [noHeap]
 ·simp [noHeap]
def initB (hd : Header) : Blk := .box 35 [int hd.kind,int hd.length,u32 hd.map]
def initsL (l : List Heap) (a : Int) (hd : Header) (i : Nat) : Tg := ⟨tm 62 [(3,u64 a),(9,.pt 8009 0 0),(10,bool false),(22,.d (.sl 6 (l.map Heap.dvs))),(23,int l.length),(24,int i)],[(8009,initB hd)],60⟩
def initsI (l : List Heap) (a : Int) (hd : Header) (i : Nat) (h : Heap) (ns : List Int) (k : Nat) : Tg := ⟨tm 62 [(3,u64 a),(9,.pt 8009 0 0),(10,bool false),(12,.pt 488012 0 0),(22,.d (.sl 6 (l.map Heap.dvs))),(23,int l.length),(24,int i),(30,wordsV ns),(31,int ns.length),(32,int k)],[(488012,.box 27 h.cells),(8009,initB hd)],64⟩
theorem initsIRound (l : List Heap) (a : Int) (hd : Header) (i : Nat) (h : Heap) (ns : List Int) (k : Nat) (hh : HOk h) (hm : 0 ≤ hd.map ∧ hd.map ≤ 4294967295) (hn : ns.length ≤ 5) (hr : 0 ≤ ns.getD k default ∧ ns.getD k default ≤ 18446744073709551615) (hk : k < ns.length) : CSpec Tryz.prog (rndF Tryz.f7 2) (initsI l a hd i h ns k).st .nrm (initsI l a hd i h ns (k + 1)).st := by
 have hw := hh.w
 have hl1 := hh.wl
 have hl2 := hh.pl
 have hs := initH_len h (ns.getD k default) hd
 exact sF [] [] (Fh 56 [.call true (Sx.bool (decide ((initH h (ns.getD k default) hd).fst =(initH h (ns.getD k default) hd).fst))) []] (Ftb 33 (decide ((↑k : Int) < (↑ns.length : Int))) (Fek 34 wdv ns (↑k) k (Fc 40 (@objectInit h (ns.getD k default) hd ‹_› ‹_› ‹_›) (Fc 47 (@ref5Init h (ns.getD k default) hd ‹_› ‹_› ‹_›) (Fa ((fun hg => by (try simp only [bs] at hg); exact @refSame ((initH h (ns.getD k default) hd).fst) ((initH h (ns.getD k default) hd).fst) (by (try simp only [bs] at hg); omega) (by (try simp only [bs] at hg); omega)) : (!(initH h (ns.getD k default) hd).snd != (initH h (ns.getD k default) hd).snd) =true→GSpec Tryz.prog 27 [(initH h (ns.getD k default) hd).fst.av,(initH h (ns.getD k default) hd).fst.av] true (Sx.bool (decide ((initH h (ns.getD k default) hd).fst =(initH h (ns.getD k default) hd).fst))) []) (Ff 58 (by simp only [bs, *,true_or,or_true,true_and,and_true,not_true_eq_false,not_false_eq_true,Bool.true_eq_false,Bool.false_eq_true] : ((initH h (ns.getD k default) hd).snd != (initH h (ns.getD k default) hd).snd||!decide ((initH h (ns.getD k default) hd).fst =(initH h (ns.getD k default) hd).fst))=false) (Fg 59 (by exact wrapI2 rfl (by omega) (by omega) : IntKind.i64.wrap ((↑k : Int) + 1) =(↑(k + 1) : Int)) Fz))))))))
theorem initsIEnd (l : List Heap) (a : Int) (hd : Header) (i : Nat) (h : Heap) (ns : List Int) : CSpec Tryz.prog (rndF Tryz.f7 2) (initsI l a hd i h ns ns.length).st (.ext 2) (Tg.st ⟨tm 62 [(3,u64 a),(9,.pt 8009 0 0),(10,bool false),(22,.d (.sl 6 (l.map Heap.dvs))),(23,int l.length),(24,int i)],[(8009,initB hd)],64⟩) := by
 exact sF [] [] (Ffb 33 (decide ((↑ns.length : Int) < (↑ns.length : Int))) Fz)
theorem initsILoop (l : List Heap) (a : Int) (hd : Header) (i : Nat) (h : Heap) (ns : List Int) (hh : HOk h) (hm : 0 ≤ hd.map ∧ hd.map ≤ 4294967295) (hn : ns.length ≤ 5) (hr : ULe ns) : CSpec Tryz.prog (blkF Tryz.f7 2) (Tg.st ⟨tm 62 [(3,u64 a),(9,.pt 8009 0 0),(10,bool false),(12,.pt 488012 0 0),(22,.d (.sl 6 (l.map Heap.dvs))),(23,int l.length),(24,int i),(30,wordsV ns),(31,int ns.length),(32,int 0)],[(488012,.box 27 h.cells),(8009,initB hd)],64⟩) .nrm (Tg.st ⟨tm 62 [(3,u64 a),(9,.pt 8009 0 0),(10,bool false),(22,.d (.sl 6 (l.map Heap.dvs))),(23,int l.length),(24,int i)],[(8009,initB hd)],64⟩) :=
 loop_ext_of (S := fun k => (initsI l a hd i h ns k).st) ns.length (by kernel_rfl) (fun k hk => initsIRound l a hd i h ns k hh hm hn (getD_mem hr k) hk) (initsIEnd l a hd i h ns)
theorem initsRound (l : List Heap) (a : Int) (hd : Header) (i : Nat) (hh : HOk (l.getD i default)) (hl : l.length ≤ 3) (h0 : 0 ≤ a ∧ a ≤ 18446744073709551615) (hm : 0 ≤ hd.map ∧ hd.map ≤ 4294967295) (hi : i < l.length) : CSpec Tryz.prog (rndF Tryz.f7 0) (initsL l a hd i).st .nrm (initsL l a hd (i + 1)).st := by
 have hw := hh.w
 have hn := nearF_ok (l.getD i default) h0
 have hn1 := hn.1
 have hn2 := hn.2
 exact sF [] [] (Fh 26 [.el (l.getD i default).dvs] (Ftb 25 (decide ((↑i : Int) < (↑l.length : Int))) (Fa (by exact elI (by omega) (by omega) (by omega) : 0≤(↑i : Int)∧(List.map Heap.dvs l)[(↑i : Int).toNat]? = some (l.getD i default).dvs) (Fc 30 (@law5near (l.getD i default) a ‹_› ‹_›) (Fl 31 wdv (nearF (l.getD i default) a) (Fu (@initsILoop l a hd i (l.getD i default) (nearF (l.getD i default) a) ‹_› ‹_› ‹_› ‹_›) (Fg 60 (by exact wrapI2 rfl (by omega) (by omega) : IntKind.i64.wrap ((↑i : Int) + 1) =(↑(i + 1) : Int)) Fz)))))))
theorem initsEnd (l : List Heap) (a : Int) (hd : Header) : CSpec Tryz.prog (rndF Tryz.f7 0) (initsL l a hd l.length).st (.ext 0) (Tg.st ⟨tm 62 [(10,bool false)],[],60⟩) := by
 exact sF [] [] (Ffb 25 (decide ((↑l.length : Int) < (↑l.length : Int))) Fz)
theorem initsLoop (l : List Heap) (a : Int) (hd : Header) (hh : ∀ h ∈ l,HOk h) (hl : l.length ≤ 3) (h0 : 0 ≤ a ∧ a ≤ 18446744073709551615) (hm : 0 ≤ hd.map ∧ hd.map ≤ 4294967295) : CSpec Tryz.prog (blkF Tryz.f7 0) (Tg.st ⟨tm 62 [(3,u64 a),(9,.pt 8009 0 0),(10,bool false),(22,.d (.sl 6 (l.map Heap.dvs))),(23,int l.length),(24,int 0)],[(8009,initB hd)],60⟩) .nrm (Tg.st ⟨tm 62 [(10,bool false)],[],60⟩) :=
 loop_ext_of (S := fun i => (initsL l a hd i).st) l.length (by kernel_rfl) (fun i hi => initsRound l a hd i (hh _ (by rw [List.getD_eq_getElem?_getD,List.getElem?_eq_getElem hi]; exact List.getElem_mem hi)) hl h0 hm hi) (initsEnd l a hd)
theorem objInits (raw : Heap) (tape odd : List Int) (a : Int) (hd : Header) (hw : WOk raw.words) (h1 : tape.length ≤ 140737488355328) (h2 : odd.length ≤ 140737488355328) (h0 : 0 ≤ a ∧ a ≤ 18446744073709551615) (hm : 0 ≤ hd.map ∧ hd.map ≤ 4294967295) : GSpec Tryz.prog 7 [raw.av,intsV tape,intsV odd,u64 a,hd.av] true (bool true) [] := by
 obtain ⟨k1,k2⟩ := heapsF_ok raw tape odd hw
 exact gF [] Tryz.func7 [] (Fc 22 (@law5heaps raw tape odd ‹_› ‹_›) (Fl 23 Heap.dvs (heapsF raw tape odd) (Fu (@initsLoop (heapsF raw tape odd) a hd ‹_› ‹_› ‹_› ‹_›) (Fc 61 (@law5awake) Fz))))
end Go.Proofs.YtpklpkmnhgedbaaGreat
namespace Go.Proofs.YtpklpkmnhgedbaaGreat
open Go.Sx Go.RowKit
theorem objectInits_lifted (os : Os) (started : os.Started) (H : Type) (enc : TypeId × Value → H) :
  ReturnsInHanded {} Tryz.checked os 7 .any (Rows.objectInitsSpec.pre6 enc Tryz.prog Tryz.f7 Rows.objectInitsRow.domain false) (Rows.objectInitsSpec.post enc Tryz.prog Tryz.f7 false true false false) := by
 refine law_of_gspec (C := Tryz.checked) (tb := 4) 5 own0 started (by kernel_rfl) Tryz.func7
  (ChangeSpec.witness6 (enc := enc) (C := Tryz.checked) false ⟨#[],#[.agg #[.int .i64 0,.int .i64 0,.slice none 0 0,.slice none 0 0,.int .i64 0,.int .i64 0],.slice none 0 0,.slice none 0 0,.int .u64 0,.agg #[.int .i64 0,.int .i64 0,.int .u32 0]],[]⟩ 8 (by kernel_rfl) (by kernel_rfl) (by kernel_rfl) (by kernel_rfl))
  laidOut0 (by kernel_rfl) (by kernel_rfl) (by kernel_rfl) (by kernel_rfl) rfl (fun ds hd => ?_) (fun ls hl h => ?_)
 ·match ds,hd with
  | [a,b,c,d,p],_ => rfl
 ·match ls,hl with
  | [a,b,c,d,p],_ =>
   obtain ⟨x,rfl,hx⟩ := shp_heap (n := 1) (h 0 27 a (by kernel_rfl) rfl)
   obtain ⟨tape,rfl,ht⟩ := shp_ints (n := 3) (h 1 28 b (by kernel_rfl) rfl)
   obtain ⟨odd,rfl,ho⟩ := shp_ints (n := 3) (h 2 28 c (by kernel_rfl) rfl)
   obtain ⟨y,rfl,hy⟩ := shp_u64 (n := 4) (h 3 29 d (by kernel_rfl) rfl)
   obtain ⟨hd,rfl,hm⟩ := shp_header (n := 3) (h 4 35 p (by kernel_rfl) rfl)
   have e : zipAv Tryz.prog Tryz.f7.params.toList [heapD x,[.sl 1 (tape.map idv)],[.sl 1 (odd.map idv)],[du64 y],headerD hd] = [x.av,intsV tape,intsV odd,u64 y,hd.av] := by kernel_rfl
   exact ⟨true,e ▸ objInits x tape odd y hd hx ht ho (range_u64 hy) hm⟩
theorem objectInits_holds : Rows.ObjectInitsSaid :=
 OpenClaim.holds_of_wide 7 Tryz.f7 rfl rfl rfl rfl rfl rfl rfl ⟨rfl,rfl,rfl,rfl,rfl⟩ rfl rfl rfl rfl rfl (by kernel_rfl) Tryz.func7 (by kernel_rfl)
  (of_decide_eq_true (by kernel_rfl)) (by unfold Func.isWrapper; first | (rw [if_pos (by decide +kernel)]; kernel_rfl) | (rw [if_neg (by decide +kernel)]; exact ⟨rfl,rfl⟩))
  (fun os started H enc _ => objectInits_lifted os started H enc)
end Go.Proofs.YtpklpkmnhgedbaaGreat
