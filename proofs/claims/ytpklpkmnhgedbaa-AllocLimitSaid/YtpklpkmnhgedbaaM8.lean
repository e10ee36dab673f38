/-
 The statement AllocLimit: part 8.
 Conditions: none.
-/
import Derived.Test.YtpklpkmnhgedbaaM7
set_option maxRecDepth 100000
set_option linter.all false
namespace Go.Proofs.Ytpklpkmnhgedbaa
open Go.Sx
def lims (c : Conf) (hd : Header) : Nat → Heap
 | 0 => newHeap c
 | i + 1 => (new7 (lims c hd i) hd).1
theorem limsOk {c : Conf} {hd : Header} (hm : 0 ≤ hd.map ∧ hd.map ≤ 4294967295) (hv : validB c = true) (ha : asksH c hd = true) : ∀ i : Nat,(i : Int) ≤ mostF c (sizeH hd) → LimI c hd i (lims c hd i)
 | 0,_ => limStart hd hv
 | i + 1,hi => (limStep hm ha (limsOk hm hv ha i (by omega)) (by omega)).2.2
def limL (c : Conf) (n M : Int) (i : Nat) : Tg := ⟨tm 97 [(1,int n),(2,.pt 8002 0 0),(4,bool false),(5,.pt 16005 0 0),(7,int M),(9,int i)],[(16005,.box 32 (lims c ⟨3,n,0⟩ i).cells),(8002,.box 23 [int c.pw,int c.pg])],60⟩
theorem limRound (c : Conf) (n M : Int) (i : Nat) (hv : validB c = true) (ha : asksH c ⟨3,n,0⟩ = true) (hM : M = mostF c (n + 1)) (hM2 : M ≤ 1000000) (hi : (i : Int) < M) : CSpec Try.prog (rndF Try.f4 0) (limL c n M i).st .nrm (limL c n M (i + 1)).st := by
 have sz : sizeH ⟨3,n,0⟩ = n + 1 := by rw [sizeH,if_pos (asksH_ok ha).1]
 have hL := limsOk (hd := ⟨3,n,0⟩) (by simp) hv ha i (by rw [sz]; omega)
 have hw := hL.w
 obtain ⟨e0,e1,_⟩ := limStep (by simp) ha hL (by rw [sz]; omega)
 have hb := validB_iff.1 hv
 have hpl : (new7 (lims c ⟨3,n,0⟩ i) ⟨3,n,0⟩).1.pages.length ≤ 1048576 := by
  have q := proper_ok (limsOk (hd := ⟨3,n,0⟩) (by simp) hv ha (i + 1) (by rw [sz]; omega)).pr
  show (lims c ⟨3,n,0⟩ (i + 1)).pages.length ≤ 1048576
  omega
 have ei1 : c.pg.tdiv 4 = c.pg / 4 := tdivI (by omega)
 exact sF [] [] (Fh 77 [.call true (int (↑(inUse (new7 (lims c (Header.mk 3 n 0) i) (Header.mk 3 n 0)).fst.pages) : Int)) []] (Fh 80 [.int (c.pg / 4)] (Ftb 61 (decide ((↑i : Int) < M)) (Fc 67 (@law7words n) (Fc 68 (@allocNew (lims c (Header.mk 3 n 0) i) (Header.mk 3 n 0) ‹_› (by (simp only [bs]; omega))) (Fa ((fun hg => by (try simp only [bs] at hg); exact @refInUse ((new7 (lims c (Header.mk 3 n 0) i) (Header.mk 3 n 0)).fst.pages) (by (try simp only [bs] at hg); assumption)) : (!(new7 (lims c (Header.mk 3 n 0) i) (Header.mk 3 n 0)).snd.snd != 0) =true→GSpec Try.prog 13 [pagesV (new7 (lims c (Header.mk 3 n 0) i) (Header.mk 3 n 0)).fst.pages] true (int (↑(inUse (new7 (lims c (Header.mk 3 n 0) i) (Header.mk 3 n 0)).fst.pages) : Int)) []) (Fa (by intro hg; (try simp only [bs] at hg); rw [wrapI' (by omega) (by omega)]; omega : (!(new7 (lims c (Header.mk 3 n 0) i) (Header.mk 3 n 0)).snd.snd != 0) =true→IntKind.i64.wrap (c.pg.tdiv 4) =c.pg / 4) (Fa (by intro hg; (try simp only [bs] at hg); omega : (!(new7 (lims c (Header.mk 3 n 0) i) (Header.mk 3 n 0)).snd.snd != 0) =true→(4 :Int) =0→False) (Ffb 82 ((new7 (lims c (Header.mk 3 n 0) i) (Header.mk 3 n 0)).snd.snd != 0||decide (c.pg / 4 < (↑(inUse (new7 (lims c (Header.mk 3 n 0) i) (Header.mk 3 n 0)).fst.pages) : Int))) (Fg 63 (by exact wrapI2 rfl (by omega) (by omega) : IntKind.i64.wrap ((↑i : Int) + 1) =(↑(i + 1) : Int)) Fz))))))))))
theorem limLast (c : Conf) (n M : Int) (hv : validB c = true) (ha : asksH c ⟨3,n,0⟩ = true) (hM : M = mostF c (n + 1)) (h0 : 0 ≤ M) : CSpec Try.prog (rndF Try.f4 0) (limL c n M M.toNat).st (.ext 0) (Tg.st ⟨tm 97 [(1,int n),(4,bool false),(5,.pt 16005 0 0)],[(16005,.box 32 (lims c ⟨3,n,0⟩ (mostF c (n + 1)).toNat).cells)],60⟩) := by
 subst hM
 exact sF [] [] (Ffb 61 (decide ((↑(mostF c (n + 1)).toNat : Int) < mostF c (n + 1))) Fz)
theorem limLoop (c : Conf) (n M : Int) (hv : validB c = true) (ha : asksH c ⟨3,n,0⟩ = true) (hM : M = mostF c (n + 1)) (h0 : 0 ≤ M) (hM2 : M ≤ 1000000) : CSpec Try.prog (blkF Try.f4 0) (Tg.st ⟨tm 97 [(1,int n),(2,.pt 8002 0 0),(4,bool false),(5,.pt 16005 0 0),(7,int M),(9,int 0)],[(16005,.box 32 (newHeap c).cells),(8002,.box 23 [int c.pw,int c.pg])],60⟩) .nrm (Tg.st ⟨tm 97 [(1,int n),(4,bool false),(5,.pt 16005 0 0)],[(16005,.box 32 (lims c ⟨3,n,0⟩ (mostF c (n + 1)).toNat).cells)],60⟩) :=
 loop_ext_of (S := fun i => (limL c n M i).st) M.toNat (by kernel_rfl) (fun i hi => limRound c n M i hv ha hM hM2 (by omega)) (limLast c n M hv ha hM h0)
theorem lawLimitNo (c : Conf) (n : Int) (hc : ¬ validB c = true ∨ n < 0 ∨ 63 < n ∨ asksH c ⟨3,n,0⟩ = false) : GSpec Try.prog 4 [c.av,int n] true (bool true) [] := by
 by_cases hv : validB c = true
 ·by_cases hn : n < 0 ∨ 63 < n
  ·exact gF [] Try.func4 [] (Fh 34 [.call true (Header.mk 3 n 0).av []] (Fh 35 [.call true (Sx.bool (asksH c (Header.mk 3 n 0))) []] (Fc 18 (@refNew_ok c ‹_›) (Fa ((fun hg => by (try simp only [bs] at hg); exact @law7words n) : (!((0 :Int) != 0||decide (n < 0)||decide (63 < n))) =true→GSpec Try.prog 10 [int n] true (Header.mk 3 n 0).av []) (Fa ((fun hg => by (try simp only [bs] at hg); exact @allocAsks c (Header.mk 3 n 0) (by (try simp only [bs] at hg); omega)) : (!((0 :Int) != 0||decide (n < 0)||decide (63 < n))) =true→GSpec Try.prog 7 [c.av,(Header.mk 3 n 0).av] true (Sx.bool (asksH c (Header.mk 3 n 0))) []) (Ftb 37 (decide (n < 0)||decide (63 < n)||!asksH c (Header.mk 3 n 0)) (Fc 38 (@law7awake) Fz)))))))
  ·have ha : asksH c ⟨3,n,0⟩ = false := by
    rcases hc with q | q | q | q
    ·exact absurd hv q
    ·omega
    ·omega
    ·exact q
   exact gF [] Try.func4 [] (Fh 34 [.call true (Header.mk 3 n 0).av []] (Fh 35 [.call true (Sx.bool (asksH c (Header.mk 3 n 0))) []] (Fc 18 (@refNew_ok c ‹_›) (Fa ((fun hg => by (try simp only [bs] at hg); exact @law7words n) : (!((0 :Int) != 0||decide (n < 0)||decide (63 < n))) =true→GSpec Try.prog 10 [int n] true (Header.mk 3 n 0).av []) (Fa ((fun hg => by (try simp only [bs] at hg); exact @allocAsks c (Header.mk 3 n 0) (by (try simp only [bs] at hg); (simp only [bs]; omega))) : (!((0 :Int) != 0||decide (n < 0)||decide (63 < n))) =true→GSpec Try.prog 7 [c.av,(Header.mk 3 n 0).av] true (Sx.bool (asksH c (Header.mk 3 n 0))) []) (Ft 37 (by simp only [bs, *,true_or,or_true,true_and,and_true,not_true_eq_false,not_false_eq_true,Bool.true_eq_false,Bool.false_eq_true] : (decide (n < 0)||decide (63 < n)||!asksH c (Header.mk 3 n 0))=true) (Fc 38 (@law7awake) Fz)))))))
 ·exact gF [] Try.func4 [] (Fh 34 [.call true (Header.mk 3 n 0).av []] (Fh 35 [.call true (Sx.bool (asksH c (Header.mk 3 n 0))) []] (Fc 18 (@refNew_bad c ‹_›) (Fa ((fun hg => by (try simp only [bs] at hg); exact @law7words n) : (!((1 :Int) != 0||decide (n < 0)||decide (63 < n))) =true→GSpec Try.prog 10 [int n] true (Header.mk 3 n 0).av []) (Fa ((fun hg => by (try simp only [bs] at hg); exact @allocAsks c (Header.mk 3 n 0) (by (try simp only [bs] at hg); omega)) : (!((1 :Int) != 0||decide (n < 0)||decide (63 < n))) =true→GSpec Try.prog 7 [c.av,(Header.mk 3 n 0).av] true (Sx.bool (asksH c (Header.mk 3 n 0))) []) (Fc 38 (@law7awake) Fz))))))
theorem lawLimitYes (c : Conf) (n : Int) (hv : validB c = true) (h0 : 0 ≤ n) (h1 : n ≤ 63) (ha : asksH c ⟨3,n,0⟩ = true) : GSpec Try.prog 4 [c.av,int n] true (bool true) [] := by
 have hb := validB_iff.1 hv
 have sz : sizeH ⟨3,n,0⟩ = n + 1 := by rw [sizeH,if_pos (asksH_ok ha).1]
 have hr := need_range c (n + 1)
 have ei1 : c.pg.tdiv 4 = c.pg / 4 := tdivI (by omega)
 have ei2 : c.pw.tdiv (n + 1) = c.pw / (n + 1) := tdivI (by omega)
 have ei3 : (c.pg / 4).tdiv (need c (n + 1)) = c.pg / 4 / need c (n + 1) := tdivI (by omega)
 have d1 : 0 ≤ c.pw / (n + 1) ∧ c.pw / (n + 1) ≤ 64 := ⟨Int.ediv_nonneg (by omega) (by omega),Int.le_trans (Int.ediv_le_self _ (by omega)) (by omega)⟩
 have d2 : 0 ≤ c.pg / 4 * (c.pw / (n + 1)) ∧ c.pg / 4 * (c.pw / (n + 1)) ≤ 16 * 64 := ⟨Int.mul_nonneg (by omega) (by omega),Int.mul_le_mul (by omega) d1.2 d1.1 (by omega)⟩
 have d3 : 0 < need c (n + 1) → 0 ≤ c.pg / 4 / need c (n + 1) ∧ c.pg / 4 / need c (n + 1) ≤ 16 := fun q => ⟨Int.ediv_nonneg (by omega) (by omega),Int.le_trans (Int.ediv_le_self _ (by omega)) (by omega)⟩
 have m0 : 0 ≤ mostF c (n + 1) := by
  unfold mostF
  split
  ·exact (d3 ‹_›).1
  ·exact d2.1
 have hL := limsOk (hd := ⟨3,n,0⟩) (by simp) hv ha (mostF c (n + 1)).toNat (by rw [sz]; omega)
 have hw := hL.w
 have e3 := limEnd (hd := ⟨3,n,0⟩) ha hL (by rw [sz]; omega)
 by_cases hk : 0 < need c (n + 1)
 ·have m1 : mostF c (n + 1) = c.pg / 4 / need c (n + 1) := by rw [mostF,if_pos hk]
  have d4 := d3 hk
  exact gF [] Try.func4 [false,false,false,false,false,false,false,false,false,false,false,false,false,false,false,false,false,false,false,true] (Fh 35 [.call true (Sx.bool (asksH c (Header.mk 3 n 0))) []] (Fh 87 [.call true (Header.mk 3 n 0).av []] (Fc 18 (@refNew_ok c ‹_›) (Fa ((fun hg => by (try simp only [bs] at hg); exact @law7words n) : (!((0 :Int) != 0||decide (n < 0)||decide (63 < n))) =true→GSpec Try.prog 10 [int n] true (Header.mk 3 n 0).av []) (Fa ((fun hg => by (try simp only [bs] at hg); exact @allocAsks c (Header.mk 3 n 0) (by (try simp only [bs] at hg); (simp only [bs]; omega))) : (!((0 :Int) != 0||decide (n < 0)||decide (63 < n))) =true→GSpec Try.prog 7 [c.av,(Header.mk 3 n 0).av] true (Sx.bool (asksH c (Header.mk 3 n 0))) []) (Ff 37 (by simp [m1, *] : (decide (n < 0)||decide (63 < n)||!asksH c (Header.mk 3 n 0))=false) (Fg 41 (by rw [wrapI' (by omega) (by omega)]; omega : IntKind.i64.wrap (c.pg.tdiv 4) =c.pg / 4) (Fa (by decide : (4 :Int) ≠ 0) (Fi 45 (n + 1) (Fg 46 (by rw [wrapI' (by omega) (by omega)]; omega : IntKind.i64.wrap (c.pw.tdiv (n + 1)) =c.pw / (n + 1)) (Fo (n + (1 :Int) ≠ 0) (Fi 47 (c.pg / 4 * (c.pw / (n + 1))) (Fi 50 (n + 1) (Fc 51 (@refNeed c (n + 1)) (Ftb 53 (decide (0 < need c (n + 1))) (Fg 56 (by rw [wrapI' (by omega) (by omega)]; omega : IntKind.i64.wrap (c.pg.tdiv 4) =c.pg / 4) (Fa (by decide : (4 :Int) ≠ 0) (Fg 58 (by rw [wrapI' (by omega) (by omega)]; omega : IntKind.i64.wrap ((c.pg / 4).tdiv (need c (n + 1))) =c.pg / 4 / need c (n + 1)) (Fo (need c (n + 1) ≠ 0) (Fu (@limLoop c n (c.pg / 4 / need c (n + 1)) ‹_› ‹_› (by omega) (by omega) (by omega)) (Fc 34 (@law7words n) (Fc 88 (@allocNew (lims c (Header.mk 3 n 0) (mostF c (n + 1)).toNat) (Header.mk 3 n 0) ‹_› (by (simp only [bs]; omega))) (Fc 92 (@law7awake) (Fb (((new7 (lims c (Header.mk 3 n 0) (mostF c (n + 1)).toNat) (Header.mk 3 n 0)).snd.snd == 3)=true) Fz))))))))))))))))))))))))
 ·have m1 : mostF c (n + 1) = c.pg / 4 * (c.pw / (n + 1)) := by rw [mostF,if_neg hk]
  exact gF [] Try.func4 [false,false,false,false,false,false,false,false,false,false,false,false,false,false,false,false,false,false,false,true] (Fh 35 [.call true (Sx.bool (asksH c (Header.mk 3 n 0))) []] (Fh 87 [.call true (Header.mk 3 n 0).av []] (Fc 18 (@refNew_ok c ‹_›) (Fa ((fun hg => by (try simp only [bs] at hg); exact @law7words n) : (!((0 :Int) != 0||decide (n < 0)||decide (63 < n))) =true→GSpec Try.prog 10 [int n] true (Header.mk 3 n 0).av []) (Fa ((fun hg => by (try simp only [bs] at hg); exact @allocAsks c (Header.mk 3 n 0) (by (try simp only [bs] at hg); (simp only [bs]; omega))) : (!((0 :Int) != 0||decide (n < 0)||decide (63 < n))) =true→GSpec Try.prog 7 [c.av,(Header.mk 3 n 0).av] true (Sx.bool (asksH c (Header.mk 3 n 0))) []) (Ff 37 (by simp [m1, *] : (decide (n < 0)||decide (63 < n)||!asksH c (Header.mk 3 n 0))=false) (Fg 41 (by rw [wrapI' (by omega) (by omega)]; omega : IntKind.i64.wrap (c.pg.tdiv 4) =c.pg / 4) (Fa (by decide : (4 :Int) ≠ 0) (Fi 45 (n + 1) (Fg 46 (by rw [wrapI' (by omega) (by omega)]; omega : IntKind.i64.wrap (c.pw.tdiv (n + 1)) =c.pw / (n + 1)) (Fo (n + (1 :Int) ≠ 0) (Fi 47 (c.pg / 4 * (c.pw / (n + 1))) (Fi 50 (n + 1) (Fc 51 (@refNeed c (n + 1)) (Ffb 53 (decide (0 < need c (n + 1))) (Fu (@limLoop c n (c.pg / 4 * (c.pw / (n + 1))) ‹_› ‹_› (by omega) (by omega) (by omega)) (Fc 34 (@law7words n) (Fc 88 (@allocNew (lims c (Header.mk 3 n 0) (mostF c (n + 1)).toNat) (Header.mk 3 n 0) ‹_› (by (simp only [bs]; omega))) (Fc 92 (@law7awake) (Fb (((new7 (lims c (Header.mk 3 n 0) (mostF c (n + 1)).toNat) (Header.mk 3 n 0)).snd.snd == 3)=true) Fz))))))))))))))))))))
theorem lawLimit (c : Conf) (n : Int) : GSpec Try.prog 4 [c.av,int n] true (bool true) [] := by
 by_cases hc : validB c = true ∧ 0 ≤ n ∧ n ≤ 63 ∧ asksH c ⟨3,n,0⟩ = true
 ·exact lawLimitYes c n hc.1 hc.2.1 hc.2.2.1 hc.2.2.2
 ·refine lawLimitNo c n ?_
  by_cases q1 : validB c = true
  ·by_cases q2 : n < 0
   ·exact .inr (.inl q2)
   ·by_cases q3 : 63 < n
    ·exact .inr (.inr (.inl q3))
    ·refine .inr (.inr (.inr ?_))
     simpa using fun q => hc ⟨q1,by omega,by omega,q⟩
  ·exact .inl q1
end Go.Proofs.Ytpklpkmnhgedbaa
namespace Go.Proofs.Ytpklpkmnhgedbaa
open Go.Sx Go.RowKit
theorem allocLimit_lifted (os : Os) (started : os.Started) (H : Type) (enc : TypeId × Value → H) :
  ReturnsInHanded {} Try.checked os 4 .any (Rows.allocLimitSpec.pre6 enc Try.prog Try.f4 Rows.allocLimitRow.domain false) (Rows.allocLimitSpec.post enc Try.prog Try.f4 false true false false) := by
 refine law_of_gspec (C := Try.checked) (tb := 4) 5 own0 started (by kernel_rfl) Try.func4
  (ChangeSpec.witness6 (enc := enc) (C := Try.checked) false ⟨#[],#[.agg #[.int .i64 0,.int .i64 0],.int .i64 0],[]⟩ 8 (by kernel_rfl) (by kernel_rfl) (by kernel_rfl) (by kernel_rfl))
  laidOut0 (by kernel_rfl) (by kernel_rfl) (by kernel_rfl) (by kernel_rfl) rfl (fun ds hd => ?_) (fun ls hl h => ?_)
 ·match ds,hd with
  | [a,b],_ => rfl
 ·match ls,hl with
  | [b,p],_ =>
   obtain ⟨c,rfl⟩ := shp_conf (n := 3) (h 0 23 b (by kernel_rfl) rfl)
   obtain ⟨z,rfl,_⟩ := shp_int (n := 4) (h 1 3 p (by kernel_rfl) rfl)
   have e : zipAv Try.prog Try.f4.params.toList [[dint c.pw,dint c.pg],[dint z]] = [c.av,int z] := by kernel_rfl
   exact ⟨true,e ▸ lawLimit c z⟩
theorem allocLimit_holds : Rows.AllocLimitSaid :=
 OpenClaim.holds_of_wide 4 Try.f4 rfl rfl rfl rfl rfl rfl rfl ⟨rfl,rfl,rfl,rfl,rfl⟩ rfl rfl rfl rfl rfl (by kernel_rfl) Try.func4 (by kernel_rfl)
  (of_decide_eq_true (by kernel_rfl)) (by unfold Func.isWrapper; first | (rw [if_pos (by decide +kernel)]; kernel_rfl) | (rw [if_neg (by decide +kernel)]; exact ⟨rfl,rfl⟩))
  (fun os started H enc _ => allocLimit_lifted os started H enc)
end Go.Proofs.Ytpklpkmnhgedbaa
