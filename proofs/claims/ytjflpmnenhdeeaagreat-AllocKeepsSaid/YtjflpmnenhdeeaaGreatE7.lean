/-
 The statement AllocKeeps: part 7.
 Conditions: none.
-/
import Derived.Laws.Bits64b
import Derived.WalkSmall
import Derived.Test.YtjflpmnenhdeeaaGreatE6
set_option maxRecDepth 100000
set_option maxHeartbeats 2000000
set_option linter.all false
namespace Go.Proofs.YtjflpmnenhdeeaaGreat
open Go.Sx
def ones (n : Int) : Int := 2 ^ (min n.toNat 64) - 1
structure Header where
 kind : Int
 length : Int
 map : Int
 deriving DecidableEq,Inhabited
def u32 (n : Int) : AV := .d (.sc (.int .u32 n))
def Header.av (h : Header) : AV := .ag [int h.kind,int h.length,u32 h.map]
theorem or_one (k : Nat) (h : k < 64) : bits .or .u64 (IntKind.u64.wrap ((2 ^ k - 1) * 2 ^ min (Int.toNat 1) 64)) 1 = 2 ^ (k + 1) - 1 := by
 have : k ∈ List.range 64 := List.mem_range.2 h
 revert k
 decide +kernel
def Zcz (m : Nat) (i : Nat) : Tg := ⟨tm 14 [(2,u64 0),(3,u64 (2 ^ i - 1)),(6,int m),(7,int i)],[],20⟩
theorem Zgu (m i : Nat) (hm : m ≤ 64) (hi : i < m) : CSpec Tryz.prog (rndF Tryz.f111 0) (Zcz m i).st .nrm (Zcz m (i + 1)).st := by
 have ho := or_one i (by omega)
 exact sF [] [false,true] (Ftb 8 (decide ((↑i : Int) < (↑m : Int))) (Fo ((0 :Int)≤1) (Fg 12 (by exact wrapI' (by omega) (by omega) : IntKind.i64.wrap ((↑i : Int) + 1) =(↑(i + 1) : Int)) (Fa (by exact ho : bits BinOp.or IntKind.u64 (IntKind.u64.wrap ((2 ^ i - 1) * 2 ^ min (Int.toNat 1) 64)) (1 :Int) =2 ^ (i + 1) - 1) Fz))))
theorem Zj9 (m : Nat) : CSpec Tryz.prog (rndF Tryz.f111 0) (Zcz m m).st (.ext 0) (Tg.st ⟨tm 14 [(3,u64 (2 ^ m - 1))],[],60⟩) := by
 exact sF [] [] (Ffb 8 (decide ((↑m : Int) < (↑m : Int))) Fz)
theorem Zia (m : Nat) (hm : m ≤ 64) : CSpec Tryz.prog (blkF Tryz.f111 0) (Zcz m 0).st .nrm (Tg.st ⟨tm 14 [(3,u64 (2 ^ m - 1))],[],60⟩) :=
 Z0d (S := fun i => (Zcz m i).st) m (by kernel_rfl) (fun i hi => Zgu m i hm hi) (Zj9 m)
theorem Zdj (n : Int) : GSpec Tryz.prog 111 [int n] true (u64 (ones n)) [] := by
 have ei : min (max n 0) 64 = ((min n.toNat 64 : Nat) : Int) := by omega
 exact gF [] Tryz.func111 [] (Fgo 5 (if 0 > n then 0 else n) (max n 0) (Fgo 6 (if 64 < max n 0 then 64 else max n 0) (↑(min n.toNat 64) : Int) (Fu (@Zia (min n.toNat 64) (by omega)) Fz)))
def Z0i (h : Header) : Bool := decide (0 ≤ h.kind ∧ h.kind ≤ 3 ∧ 0 ≤ h.length ∧ h.length ≤ 255 ∧ (if h.kind = 1 then h.length ≤ 32 ∧ h.map < 2 ^ h.length.toNat else h.map = 0))
def sizeH (h : Header) : Int := if Z0i h = true then h.length + 1 else 0
def Z19 : Header := ⟨0,0,0⟩
def Z06 (h : Header) : Int × Int := if Z0i h = true then (1 + 4 * h.kind + 16 * h.length + 65536 * h.map,0) else (0,1)
def Z3S (w : Int) : Header := ⟨w / 4 % 4,w / 16 % 4096,w / 65536 % 4294967296⟩
def decodeH (w : Int) : Header × Bool := if (Z06 (Z3S w)).2 = 0 ∧ (Z06 (Z3S w)).1 = w then (Z3S w,true) else (Z19,false)
def Z0n (h : Header) (i : Int) : Bool := Z0i h && decide (0 ≤ i) && decide (i < h.length) && (h.kind == 2 || (h.kind == 1 && (h.map / 2 ^ i.toNat % 2 == 1)))
theorem validH_iff {h : Header} : Z0i h = true ↔ 0 ≤ h.kind ∧ h.kind ≤ 3 ∧ 0 ≤ h.length ∧ h.length ≤ 255 ∧ (if h.kind = 1 then h.length ≤ 32 ∧ h.map < 2 ^ h.length.toNat else h.map = 0) := by simp [Z0i]
theorem ZjP {n : Int} (h1 : n ≤ 32) : (1 : Int) ≤ 2 ^ n.toNat ∧ (2 : Int) ^ n.toNat ≤ 4294967296 := by
 have : n.toNat ≤ 32 := by omega
 generalize n.toNat = k at this
 have hk : k ∈ List.range 33 := List.mem_range.2 (by omega)
 revert k
 decide +kernel
theorem Zj8 {n : Int} (h1 : n ≤ 32) : IntKind.u64.wrap (1 * 2 ^ min n.toNat 64) = 2 ^ n.toNat := by
 have := ZjP h1
 rw [Nat.min_eq_left (by omega),Int.one_mul]
 exact wrapU' (by omega) (by omega)
theorem Z90 {h : Header} (hv : Z0i h = true) (hm : 0 ≤ h.map) (hm2 : h.map ≤ 4294967295) : 0 ≤ h.kind ∧ h.kind ≤ 3 ∧ 0 ≤ h.length ∧ h.length ≤ 255 ∧ 0 ≤ h.map ∧ h.map ≤ 4294967295 := by
 have := validH_iff.1 hv
 omega
theorem Z25 (h : Header) (hm : 0 ≤ h.map ∧ h.map ≤ 4294967295) : GSpec Tryz.prog 52 [h.av] true (bool (Z0i h)) [] := by
 have hs : h.length ≤ 32 → IntKind.u64.wrap (1 * 2 ^ min h.length.toNat 64) = 2 ^ h.length.toNat := Zj8
 rcases bb (decide (h.kind < 0) || decide (3 < h.kind) || decide (h.length < 0) || decide (255 < h.length)) with hc0 | hc0<;>have hc0p:=hc0<;>simp only [bs] at hc0p
 ·exact gF [] Tryz.func52 [false,false,false,false,false,false,false,false,false,true] (Ft 20 hc0 (Fa (by (simp [Z0i, *]; omega) : false =Z0i h) Fz))
 ·obtain ⟨⟨⟨hc0paaa,hc0paab⟩,hc0pab⟩,hc0pb⟩ := hc0p
  rcases bb (h.kind != 1) with hc1 | hc1<;>have hc1p:=hc1<;>simp only [bs] at hc1p
  ·exact gF [] Tryz.func52 [false,false,false,false,false,false,false,false,false,true] (Ff 20 hc0 (Ft 23 hc1 (Fa (by grind [Z0i] : (h.map == 0) =Z0i h) Fz)))
  ·exact gF [] Tryz.func52 [false,false,false,false,false,false,false,false,false,false,false,false,false,false,false,false,false,true] (Fh 33 [.int h.map] (Fh 36 [.int h.length] (Ff 20 hc0 (Ff 23 hc1 (Fa (by intro hg; try simp only [bs] at hg; exact wrapU2 rfl (by omega) (by omega) : decide (h.length≤32) =true→IntKind.u64.wrap h.map =h.map) (Fa (by intro hg; try simp only [bs] at hg; exact wrapU2 rfl (by omega) (by omega) : decide (h.length≤32) =true→IntKind.u64.wrap h.length =h.length) (Fa (by intro hg; try simp only [bs] at hg; omega : decide (h.length≤32) =true→0≤h.length) (Fa (by grind [Z0i] : (decide (h.length≤32)&&decide (h.map < IntKind.u64.wrap ((1 :Int) * 2 ^ min h.length.toNat 64))) =Z0i h) Fz))))))))
theorem Z20 (h : Header) (hm : 0 ≤ h.map ∧ h.map ≤ 4294967295) : GSpec Tryz.prog 20 [h.av] true (int (sizeH h)) [] := by
 rcases bb (!Z0i h) with hc0 | hc0<;>have hc0p:=hc0<;>simp only [bs] at hc0p
 ·exact gF [] Tryz.func20 [true] (Fc 4 (@Z25 h ‹_›) (Ft 5 hc0 (Fa (by simp [sizeH, *] : 0 =sizeH h) Fz)))
 ·have hf3 := validH_iff.1 hc0p
  exact gF [] Tryz.func20 [true] (Fc 4 (@Z25 h ‹_›) (Ff 5 hc0 (Fi 8 (h.length + 1) (Fa (by simp [sizeH, *] : h.length + 1 =sizeH h) Fz))))
theorem Z33 (h : Header) (hm : 0 ≤ h.map ∧ h.map ≤ 4294967295) : GSpec Tryz.prog 89 [h.av] true (.tu [u64 (Z06 h).1,int (Z06 h).2]) [] := by
 rcases bb (!Z0i h) with hc0 | hc0<;>have hc0p:=hc0<;>simp only [bs] at hc0p
 ·exact gF [] Tryz.func89 [true] (Fc 5 (@Z25 h ‹_›) (Ft 6 hc0 (Fa (by simp [Z06, *] : 0 =(Z06 h).1) (Fa (by simp [Z06, *] : 1 =(Z06 h).2) Fz))))
 ·have hf3 := validH_iff.1 hc0p
  exact gF [] Tryz.func89 [true] (Fc 5 (@Z25 h ‹_›) (Ff 6 hc0 (Fv 9 h.kind (Fv 10 (4 * h.kind) (Fv 11 ((1 :Int) + 4 * h.kind) (Fv 14 h.length (Fv 15 (16 * h.length) (Fv 16 ((1 :Int) + 4 * h.kind + 16 * h.length) (Fv 19 h.map (Fg 20 (by exact wrapU2 rfl (by omega) (by omega) : IntKind.u64.wrap (h.map * 2 ^ min (Int.toNat 16) 64) =h.map * 65536) (Fo ((0 :Int)≤16) (Fv 21 ((1 :Int) + 4 * h.kind + 16 * h.length + h.map * 65536) (Fa (by (simp [Z06, *]; omega) : (1 :Int) + 4 * h.kind + 16 * h.length + h.map * 65536 =(Z06 h).1) (Fa (by simp [Z06, *] : 0 =(Z06 h).2) Fz))))))))))))))
theorem Zaz (w : Int) (h0 : 0 ≤ w) : 0 ≤ (Z3S w).map ∧ (Z3S w).map ≤ 4294967295 := by
 simp only [Z3S]; omega
theorem Z2J (w : Int) (h0 : 0 ≤ w) (h1 : w ≤ 18446744073709551615) : GSpec Tryz.prog 51 [u64 w] true (.tu [(decodeH w).1.av,bool (decodeH w).2]) [] := by
 have hm := Zaz w h0
 have Q0 {h_ c_ p_} (r_ : Fq h_ c_ p_) := Fg 8 (by exact Z9y rfl (by decide) : w.fdiv (2 ^ min (Int.toNat 2) 64) =w / 4) (Fo ((0 :Int)≤2) (Fg 9 (by exact Z6I 2 (by decide) (by decide) (by omega) (by omega) : bits BinOp.and IntKind.u64 (w / 4) 3 =w / 4 % 4) (Fi 10 (w / 4 % 4) (Fg 12 (by exact Z9y rfl (by decide) : w.fdiv (2 ^ min (Int.toNat 4) 64) =w / 16) (Fo ((0 :Int)≤4) (Fg 13 (by exact Z6I 12 (by decide) (by decide) (by omega) (by omega) : bits BinOp.and IntKind.u64 (w / 16) 4095 =w / 16 % 4096) (Fi 14 (w / 16 % 4096) (Fg 16 (by exact Z9y rfl (by decide) : w.fdiv (2 ^ min (Int.toNat 16) 64) =w / 65536) (Fo ((0 :Int)≤16) (Fg 17 (rfl : IntKind.u32.wrap (w / 65536) =w / 65536 % 4294967296) (Fc 21 (@Z33 (Header.mk (w / 4 % 4) (w / 16 % 4096) (w / 65536 % 4294967296)) ‹_›) r_)))))))))))
 rcases bb ((Z06 (Header.mk (w / 4 % 4) (w / 16 % 4096) (w / 65536 % 4294967296))).2 != 0 || (Z06 (Header.mk (w / 4 % 4) (w / 16 % 4096) (w / 65536 % 4294967296))).1 != w) with hc0 | hc0<;>have hc0p:=hc0<;>simp only [bs] at hc0p
 ·exact gF [] Tryz.func51 [false,false,false,true] (Q0 (Ft 30 hc0 (Fa (by grind [decodeH,Z3S,Z19] : 0 =(decodeH w).1.kind) (Fa (by grind [decodeH,Z3S,Z19] : 0 =(decodeH w).1.length) (Fa (by grind [decodeH,Z3S,Z19] : 0 =(decodeH w).1.map) (Fa (by grind [decodeH,Z3S,Z19] : false =(decodeH w).2) Fz))))))
 ·obtain ⟨hc0pa,hc0pb⟩ := hc0p
  exact gF [] Tryz.func51 [false,false,false,true] (Q0 (Ff 30 hc0 (Fa (by simp [decodeH,Z3S,Z19, *] : w / 4 % 4 =(decodeH w).1.kind) (Fa (by simp [decodeH,Z3S,Z19, *] : w / 16 % 4096 =(decodeH w).1.length) (Fa (by simp [decodeH,Z3S,Z19, *] : w / 65536 % 4294967296 =(decodeH w).1.map) (Fa (by simp [decodeH,Z3S,Z19, *] : true =(decodeH w).2) Fz))))))
theorem ZjG (h : Header) (i : Int) (hm : 0 ≤ h.map ∧ h.map ≤ 4294967295) (hv : Z0i h = true) (h0 : 0 ≤ i) (h1 : i < h.length) :
  (h.kind == 2 || h.kind == 1 && bits BinOp.and IntKind.u32 (h.map.fdiv (2 ^ min i.toNat 32)) 1 == 1) = Z0n h i := by
 have hv' := validH_iff.1 hv
 by_cases hk : h.kind = 1
 ·have hl : h.length ≤ 32 := by simp [hk] at hv'; omega
  have hp : (0 : Int) ≤ 2 ^ i.toNat := Int.pow_nonneg (by decide)
  rw [Nat.min_eq_left (by omega),Int.fdiv_eq_ediv_of_nonneg _ hp]
  have h2 : 0 ≤ h.map / 2 ^ i.toNat := Int.ediv_nonneg hm.1 hp
  have h3 : h.map / 2 ^ i.toNat ≤ h.map := Int.ediv_le_self _ hm.1
  have := ZdS 1 (by decide) (x := h.map / 2 ^ i.toNat) (m := 1) (by decide) h2 (by omega)
  rw [this]
  simp [Z0n,hv,h0,h1,hk]
 ·have : (h.kind == 1) = false := by simp [hk]
  simp [Z0n,hv,h0,h1,this]
theorem Z27 (h : Header) (i : Int) (hm : 0 ≤ h.map ∧ h.map ≤ 4294967295) : GSpec Tryz.prog 103 [h.av,int i] true (bool (Z0n h i)) [] := by
 rcases bb (!Z0i h || decide (i < 0) || decide (h.length ≤ i)) with hc0 | hc0<;>have hc0p:=hc0<;>simp only [bs] at hc0p
 ·exact gF [] Tryz.func103 [false,false,false,false,false,false,true] (Fc 6 (@Z25 h ‹_›) (Ft 17 hc0 (Fa (by grind [Z0n] : false =Z0n h i) Fz)))
 ·obtain ⟨⟨hc0paa,hc0pab⟩,hc0pb⟩ := hc0p
  have hf3 := validH_iff.1 hc0paa
  exact gF [] Tryz.func103 [false,false,false,false,false,false,false,false,false,false,false,false,false,false,false,false,false,false,true] (Fh 29 [.int i] (Fc 6 (@Z25 h ‹_›) (Ff 17 hc0 (Fa (by intro hg; try simp only [bs] at hg; exact wrapU2 rfl (by omega) (by omega) : (!h.kind == 2&&h.kind == 1) =true→IntKind.u64.wrap i =i) (Fa (by intro hg; try simp only [bs] at hg; omega : (!h.kind == 2&&h.kind == 1) =true→0≤i) (Fa (by exact ZjG h i hm ‹_› (by omega) (by omega) : (h.kind == 2||h.kind == 1&&bits BinOp.and IntKind.u32 (h.map.fdiv (2 ^ min i.toNat 32)) (1 :Int) == 1) =Z0n h i) Fz))))))
def spl {α : Type} (ws : List α) (i : Nat) (l : List α) : List α := ws.take i ++ l ++ ws.drop (i + l.length)
def Z09 (ws : List Int) (a n : Int) : Int × Bool := if 4096 ≤ a ∧ a ≤ 4096 + ws.length then (a - 4096,decide (n ≤ ws.length - (a - 4096))) else (0,false)
def Z1l (ws : List Int) (a : Int) : Int × Int := if 4096 ≤ a ∧ a < 4096 + ws.length then (a - 4096,0) else (0,2)
def loadA (ws : List Int) (a : Int) : Int × Int := if 4096 ≤ a ∧ a < 4096 + ws.length then (ws.getD (a - 4096).toNat 0,0) else (0,2)
def Z15 (ws : List Int) (a n : Int) : List Int × Int := if n < 0 then ([],1) else if 4096 ≤ a ∧ a - 4096 + n ≤ ws.length then ((ws.drop (a - 4096).toNat).take n.toNat,0) else ([],2)
def Z0b (ws : List Int) (a : Int) (l : List Int) : List Int × Int := if 4096 ≤ a ∧ a - 4096 + l.length ≤ ws.length then (spl ws (a - 4096).toNat l,0) else ([],2)
def Z0F (ws : List Int) (a v : Int) : List Int × Int := Z0b ws a [v]
def moveA (ws : List Int) (a b n : Int) : List Int × Int := if (Z15 ws b n).2 ≠ 0 then ([],(Z15 ws b n).2) else Z0b ws a (Z15 ws b n).1
theorem ZbH (ws : List Int) (a n : Int) : (Z15 ws a n).1.length ≤ ws.length := by
 unfold Z15
 split
 ·simp
 ·split
  ·simp; omega
  ·simp
theorem Zbx {ws : List Int} {a n : Int} (h : (Z09 ws a n).2 = true) : (Z09 ws a n).1 = a - 4096 ∧ 4096 ≤ a ∧ a ≤ 4096 + ws.length ∧ a - 4096 + n ≤ ws.length := by
 unfold Z09 at h ⊢
 split at h
 ·rename_i hc; rw [if_pos hc]; simp at h; simp; omega
 ·simp at h
theorem ZbF {ws : List Int} {a n : Int} (h : (Z09 ws a n).2 = false) : ¬ (4096 ≤ a ∧ a ≤ 4096 + ws.length ∧ a - 4096 + n ≤ ws.length) := by
 unfold Z09 at h
 split at h
 ·simp at h; omega
 ·omega
theorem Zgc {ws : List Int} {a : Int} (h : (Z1l ws a).2 = 0) : (Z1l ws a).1 = a - 4096 ∧ 4096 ≤ a ∧ a < 4096 + ws.length := by
 unfold Z1l at h ⊢
 split at h
 ·rename_i hc; rw [if_pos hc]; exact ⟨rfl,hc⟩
 ·simp at h
theorem ZgD {ws : List Int} {a : Int} (h : ¬ (Z1l ws a).2 = 0) : ¬ (4096 ≤ a ∧ a < 4096 + ws.length) ∧ (Z1l ws a).2 = 2 := by
 unfold Z1l at h ⊢
 split at h
 ·simp at h
 ·rename_i hc; rw [if_neg hc]; exact ⟨hc,rfl⟩
theorem Z4F (ws : List Int) (a n : Int) (hw : ws.length ≤ 1048576) (h0 : 0 ≤ a ∧ a ≤ 18446744073709551615) : GSpec Tryz.prog 83 [Z01 ws,u64 a,int n] true (.tu [int (Z09 ws a n).1,bool (Z09 ws a n).2]) [] := by
 have Q0 {h_ c_ p_} (r_ : Fq h_ c_ p_) := FlG 14 (!decide (a < 4096)) wdv ws (FvG 15 (!decide (a < 4096)) (↑ws.length) (FvG 16 (!decide (a < 4096)) (4096 + (↑ws.length : Int)) r_))
 rcases bb (decide (a < 4096) || decide (4096 + (↑ws.length : Int) < a)) with hc0 | hc0<;>have hc0p:=hc0<;>simp only [bs] at hc0p
 ·exact gF [] Tryz.func83 [false,false,false,false,false,false,true] (Q0 (Ft 18 hc0 (Fa (by (simp only [Z09]; (repeat' split) <;> first | rfl | omega | (exfalso; omega) | simp_all) : 0 =(Z09 ws a n).fst) (Fa (by (simp only [Z09]; (repeat' split) <;> first | rfl | omega | (exfalso; omega) | simp_all) : false =(Z09 ws a n).snd) Fz))))
 ·obtain ⟨hc0pa,hc0pb⟩ := hc0p
  exact gF [] Tryz.func83 [false,false,false,false,false,false,true] (Q0 (Ff 18 hc0 (Fv 20 (a - 4096) (Fi 21 (a - 4096) (Fl 25 wdv ws (Fi 27 ((↑ws.length : Int) - (a - 4096)) (Fa (by (simp only [Z09]; (repeat' split) <;> first | rfl | omega | (exfalso; omega) | simp_all) : a - 4096 =(Z09 ws a n).fst) (Fa (by (simp only [Z09]; (repeat' split) <;> first | rfl | omega | (exfalso; omega) | simp_all) : decide (n≤(↑ws.length : Int) - (a - 4096)) =(Z09 ws a n).snd) Fz))))))))
theorem Zbw (ws : List Int) (a : Int) (hw : ws.length ≤ 1048576) (h0 : 0 ≤ a ∧ a ≤ 18446744073709551615) : GSpec Tryz.prog 88 [Z01 ws,u64 a] true (.tu [int (Z1l ws a).1,int (Z1l ws a).2]) [] := by
 have Q0 {h_ c_ p_} (r_ : Fq h_ c_ p_) := Fc 11 (@Z4F ws a (1) ‹_› ‹_›) r_
 rcases bb (!(Z09 ws a 1).snd) with hc0 | hc0<;>have hc0p:=hc0<;>simp only [bs] at hc0p
 ·exact gF [] Tryz.func88 [true] (Q0 (Ft 15 hc0 (Fa (by grind [Z09,Z1l] : 0 =(Z1l ws a).fst) (Fa (by grind [Z09,Z1l] : 2 =(Z1l ws a).snd) Fz))))
 ·exact gF [] Tryz.func88 [true] (Q0 (Ff 15 hc0 (Fa (by grind [Z09,Z1l] : (Z09 ws a 1).fst =(Z1l ws a).fst) (Fa (by grind [Z09,Z1l] : 0 =(Z1l ws a).snd) Fz))))
theorem Z1H (ws : List Int) (a : Int) (hw : ws.length ≤ 1048576) (h0 : 0 ≤ a ∧ a ≤ 18446744073709551615) : GSpec Tryz.prog 50 [Z01 ws,u64 a] true (.tu [u64 (loadA ws a).1,int (loadA ws a).2]) [] := by
 have Q0 {h_ c_ p_} (r_ : Fq h_ c_ p_) := Fc 11 (@Zbw ws a ‹_› ‹_›) r_
 rcases bb ((Z1l ws a).snd != 0) with hc0 | hc0<;>have hc0p:=hc0<;>simp only [bs] at hc0p
 ·have hf3 := ZgD hc0p
  obtain ⟨hf3a,hf3b⟩ := hf3
  exact gF [] Tryz.func50 [true] (Q0 (Ft 15 hc0 (Fa (by simp [loadA, *] : 0 =(loadA ws a).fst) (Fa (by simp [loadA, *] : (Z1l ws a).snd =(loadA ws a).snd) Fz))))
 ·have hf5 := Zgc hc0p
  obtain ⟨hf5a,⟨hf5ba,hf5bb⟩⟩ := hf5
  exact gF [] Tryz.func50 [true] (Q0 (Ff 15 hc0 (Fe 19 wdv ws ((Z1l ws a).fst) (Fa (by simp [loadA, *] : ws.getD (Z1l ws a).fst.toNat default =(loadA ws a).fst) (Fa (by simp [loadA, *] : 0 =(loadA ws a).snd) Fz)))))
theorem Z9f (ws : List Int) (a n : Int) (hw : ws.length ≤ 1048576) (h0 : 0 ≤ a ∧ a ≤ 18446744073709551615) : GSpec Tryz.prog 45 [Z01 ws,u64 a,int n] true (.tu [Z01 (Z15 ws a n).1,int (Z15 ws a n).2]) [] := by
 rcases bb (decide (n < 0)) with hc0 | hc0<;>have hc0p:=hc0<;>simp only [bs] at hc0p
 ·exact gF [] Tryz.func45 [true] (Ft 11 hc0 (Fnl (Fa (by simp [Z15, *] : [] =List.map wdv (Z15 ws a n).fst) (Fa (by simp [Z15, *] : 1 =(Z15 ws a n).snd) Fz))))
 ·have Q0 {h_ c_ p_} (r_ : Fq h_ c_ p_) := Ff 11 hc0 (Fc 16 (@Z4F ws a n ‹_› ‹_›) r_)
  rcases bb (!(Z09 ws a n).snd) with hc9 | hc9<;>have hc9p:=hc9<;>simp only [bs] at hc9p
  ·have hf12 := ZbF hc9p
   exact gF [] Tryz.func45 [true] (Q0 (Ft 20 hc9 (Fnl (Fa (by (simp only [Z15]; (repeat' split) <;> first | rfl | omega | (exfalso; omega) | simp_all) : [] =List.map wdv (Z15 ws a n).fst) (Fa (by (simp only [Z15]; (repeat' split) <;> first | rfl | omega | (exfalso; omega) | simp_all) : 2 =(Z15 ws a n).snd) Fz)))))
  ·have hf14 := Zbx hc9p
   obtain ⟨hf14a,⟨hf14ba,⟨hf14bba,hf14bbb⟩⟩⟩ := hf14
   exact gF [] Tryz.func45 [true] (Fh 28 [.els (List.map wdv (List.take (((Z09 ws a n).fst + n).toNat - (Z09 ws a n).fst.toNat) (List.drop (Z09 ws a n).fst.toNat ws)))] (Q0 (Ff 20 hc9 (Fs 21 (List.map wdv []) (Fi 26 ((Z09 ws a n).fst + n) (Fa (by (simp only [List.length_map]; omega) : 0≤(Z09 ws a n).fst∧(Z09 ws a n).fst≤(Z09 ws a n).fst + n∧(Z09 ws a n).fst + n≤(↑(List.map wdv ws).length : Int)) (Fa (by simp [Z15,List.map_take,List.map_drop,List.map_set,List.map_append,wdv,idv] : List.take (((Z09 ws a n).fst + n).toNat - (Z09 ws a n).fst.toNat) (List.drop (Z09 ws a n).fst.toNat (List.map wdv ws)) =List.map wdv (List.take (((Z09 ws a n).fst + n).toNat - (Z09 ws a n).fst.toNat) (List.drop (Z09 ws a n).fst.toNat ws))) (Fa (by (simp [Z15, *]; omega) : (List.map wdv []).length + (List.map wdv (List.take (((Z09 ws a n).fst + n).toNat - (Z09 ws a n).fst.toNat) (List.drop (Z09 ws a n).fst.toNat ws))).length≤2 ^ 30) (Fs 27 (List.map wdv (List.take (((Z09 ws a n).fst + n).toNat - (Z09 ws a n).fst.toNat) (List.drop (Z09 ws a n).fst.toNat ws))) (Fa (by exact Z5U _ : Z1m (List.map wdv (List.take (((Z09 ws a n).fst + n).toNat - (Z09 ws a n).fst.toNat) (List.drop (Z09 ws a n).fst.toNat ws)))) (Fa (by refine congrArg _ ?_; (simp [Z15, *]; omega) : List.map wdv (List.take (((Z09 ws a n).fst + n).toNat - (Z09 ws a n).fst.toNat) (List.drop (Z09 ws a n).fst.toNat ws)) =List.map wdv (Z15 ws a n).fst) (Fa (by simp [Z15, *] : 0 =(Z15 ws a n).snd) Fz))))))))))))
def wr {α : Type} (ws l : List α) (i k : Nat) : List α := ws.take i ++ l.take k ++ ws.drop (i + k)
theorem Z7K {α : Type} (ws l : List α) (i : Nat) : wr ws l i 0 = ws := by simp [wr]
theorem Zal {α : Type} (ws l : List α) (i : Nat) : wr ws l i l.length = spl ws i l := by simp [wr,spl]
theorem Z4x {α : Type} {ws l : List α} {i k : Nat} (h : i + l.length ≤ ws.length) (hk : k ≤ l.length) : (wr ws l i k).length = ws.length := by
 simp [wr]; omega
theorem Z3n {α : Type} {ws l : List α} {i : Nat} (h : i + l.length ≤ ws.length) : (spl ws i l).length = ws.length := by
 rw [← Zal]; exact Z4x h (Nat.le_refl _)
theorem Z8U {α : Type} {ws l : List α} {i k : Nat} (h : i + l.length ≤ ws.length) (hk : k ≤ l.length) (j : Nat) : (wr ws l i k)[j]? = if j < i then ws[j]? else if j < i + k then l[j - i]? else ws[j]? := by
 have e : (l.take k).length = k := by simp; omega
 have := Z1X (l := ws) (xs := l.take k) (o := i) (by omega) j
 rw [e] at this
 rw [wr,this]
 split
 ·rfl
 ·split
  ·rw [List.getElem?_take_of_lt (by omega)]
  ·rfl
theorem Z9r {α : Type} {ws l : List α} {i k : Nat} (h : i + l.length ≤ ws.length) (hk : k < l.length) (d : α) : (wr ws l i k).set (i + k) (l.getD k d) = wr ws l i (k + 1) := by
 apply List.ext_getElem?
 intro j
 have hl := Z4x h (Nat.le_of_lt hk)
 rw [List.getElem?_set,Z8U h (by omega),Z8U h (by omega),hl]
 by_cases hj : i + k = j
 ·subst hj
  rw [if_pos rfl,if_pos (by omega),if_neg (by omega),if_pos (by omega)]
  simp [List.getD,hk]
 ·rw [if_neg hj]
  by_cases h1 : j < i
  ·rw [if_pos h1,if_pos h1]
  ·rw [if_neg h1,if_neg h1]
   by_cases h2 : j < i + k
   ·rw [if_pos h2,if_pos (by omega)]
   ·rw [if_neg h2,if_neg (by omega)]
def Z6S (ws l : List Int) (i : Int) (k : Nat) : Tg := ⟨tm 41 [(2,Z01 l),(8,int i),(10,.ow 32024),(11,int k)],[(32024,.arr 39 1 ((wr ws l i.toNat k).map wdv))],60⟩
theorem Zcg (ws l : List Int) (i : Int) (k : Nat) (hw : ws.length ≤ 1048576) (hi : 0 ≤ i) (h : i.toNat + l.length ≤ ws.length) (hk : k < l.length) : CSpec Tryz.prog (rndF Tryz.f158 0) (Z6S ws l i k).st .nrm (Z6S ws l i (k + 1)).st := by
 have hs := Z9r h hk default
 have hn := Z4x h (Nat.le_of_lt hk)
 have ei : i + k = ((i.toNat + k : Nat) : Int) := by omega
 exact sF [] [false,false,false,false,true] (Fh 10039 [.els (List.map wdv ((wr ws l i.toNat k).set (↑(i.toNat + k) : Int).toNat (l.getD k default)))] (Fl 27 wdv l (Ftb 28 (decide ((↑k : Int) < (↑l.length : Int))) (Fg 34 (by rw [wrapI' (by omega) (by omega)]; omega : IntKind.i64.wrap (i + (↑k : Int)) =(↑(i.toNat + k) : Int)) (Fek 37 wdv l (↑k) k (Fa (by (simp only [List.length_map]; omega) : 0≤(↑(i.toNat + k) : Int)∧(↑(i.toNat + k) : Int).toNat < (List.map wdv (wr ws l i.toNat k)).length) (Fa (by (simp only [List.length_map]; omega) : (↑(i.toNat + k) : Int).toNat < (List.map wdv (wr ws l i.toNat k)).length) (Fa (by simp [List.map_take,List.map_drop,List.map_set,List.map_append,wdv,idv] : (List.map wdv (wr ws l i.toNat k)).set (↑(i.toNat + k) : Int).toNat [du64 (l.getD k default)] =List.map wdv ((wr ws l i.toNat k).set (↑(i.toNat + k) : Int).toNat (l.getD k default))) (Fx 30 k (Fr (39 : Int) (Fa (by refine congrArg _ ?_; exact hs : List.map wdv ((wr ws l i.toNat k).set (↑(i.toNat + k) : Int).toNat (l.getD k default)) =List.map wdv (wr ws l i.toNat (k + 1))) Fz)))))))))))
theorem Zg6 (ws l : List Int) (i : Int) : CSpec Tryz.prog (rndF Tryz.f158 0) (Z6S ws l i l.length).st (.ext 0) (Tg.st ⟨tm 41 [(10,.ow 32024)],[(32024,.arr 39 1 ((spl ws i.toNat l).map wdv))],60⟩) := by
 have hs := Zal ws l i.toNat
 exact sF [] [false,true] (Fl 27 wdv l (Ffb 28 (decide ((↑l.length : Int) < (↑l.length : Int))) (Fr (39 : Int) (Fa (by refine congrArg _ ?_; assumption : List.map wdv (wr ws l i.toNat l.length) =List.map wdv (spl ws i.toNat l)) Fz))))
theorem Zeh (ws l : List Int) (i : Int) (hw : ws.length ≤ 1048576) (hi : 0 ≤ i) (h : i.toNat + l.length ≤ ws.length) : CSpec Tryz.prog (blkF Tryz.f158 0) (Tg.st ⟨tm 41 [(2,Z01 l),(8,int i),(10,.ow 32024),(11,int 0)],[(32024,.arr 39 1 (ws.map wdv))],60⟩) .nrm (Tg.st ⟨tm 41 [(10,.ow 32024)],[(32024,.arr 39 1 ((spl ws i.toNat l).map wdv))],60⟩) := by
 have := Z0d (S := fun k => (Z6S ws l i k).st) l.length (by kernel_rfl) (fun k hk => Zcg ws l i k hw hi h hk) (Zg6 ws l i)
 simp only [Z6S,Z7K] at this
 exact this
theorem Z4i (ws l : List Int) (a : Int) (hw : ws.length ≤ 1048576) (h0 : 0 ≤ a ∧ a ≤ 18446744073709551615) (hl : l.length ≤ 1048576) : GSpec Tryz.prog 158 [Z01 ws,u64 a,Z01 l] true (.tu [Z01 (Z0b ws a l).1,int (Z0b ws a l).2]) [] := by
 have Q0 {h_ c_ p_} (r_ : Fq h_ c_ p_) := Fl 16 wdv l (Fc 17 (@Z4F ws a ((↑l.length : Int)) ‹_› ‹_›) r_)
 rcases bb (!(Z09 ws a (↑l.length : Int)).snd) with hc0 | hc0<;>have hc0p:=hc0<;>simp only [bs] at hc0p
 ·have hf3 := ZbF hc0p
  exact gF [] Tryz.func158 [true] (Q0 (Ft 21 hc0 (Fnl (Fa (by (simp only [Z0b]; (repeat' split) <;> first | rfl | omega | (exfalso; omega) | simp_all) : [] =List.map wdv (Z0b ws a l).fst) (Fa (by (simp only [Z0b]; (repeat' split) <;> first | rfl | omega | (exfalso; omega) | simp_all) : 2 =(Z0b ws a l).snd) Fz)))))
 ·have hf5 := Zbx hc0p
  obtain ⟨hf5a,⟨hf5ba,⟨hf5bba,hf5bbb⟩⟩⟩ := hf5
  exact gF [] Tryz.func158 [false,false,false,false,false,true] (Q0 (Ff 21 hc0 (Fs 22 (List.map wdv []) (Fa (by (simp [Z0b, *]; omega) : (List.map wdv []).length + (List.map wdv ws).length≤2 ^ 30) (Fs 24 (List.map wdv ws) (Fu (@Zeh ws l ((Z09 ws a (↑l.length : Int)).fst) ‹_› (by omega) (by omega)) (Fa (by exact Z5U _ : Z1m (List.map wdv (spl ws (Z09 ws a (↑l.length : Int)).fst.toNat l))) (Fa (by refine congrArg _ ?_; simp [Z0b, *] : List.map wdv (spl ws (Z09 ws a (↑l.length : Int)).fst.toNat l) =List.map wdv (Z0b ws a l).fst) (Fa (by simp [Z0b, *] : 0 =(Z0b ws a l).snd) Fz)))))))))
theorem Z7e (ws : List Int) (a v : Int) (hw : ws.length ≤ 1048576) (h0 : 0 ≤ a ∧ a ≤ 18446744073709551615) : GSpec Tryz.prog 137 [Z01 ws,u64 a,u64 v] false (.tu [Z01 (Z0F ws a v).1,int (Z0F ws a v).2]) [] := by
 exact gF [] Tryz.func137 [] (Fs 11 (List.map wdv [v]) (Fc 12 (@Z4i ws ([v]) a ‹_› ‹_› (by simp [Z0F, *])) Fz))
theorem Zhs (ws : List Int) (a b n : Int) (hw : ws.length ≤ 1048576) (h0 : 0 ≤ a ∧ a ≤ 18446744073709551615) (h1 : 0 ≤ b ∧ b ≤ 18446744073709551615) : GSpec Tryz.prog 169 [Z01 ws,u64 a,u64 b,int n] false (.tu [Z01 (moveA ws a b n).1,int (moveA ws a b n).2]) [] := by
 have hr := ZbH ws b n
 have Q0 {h_ c_ p_} (r_ : Fq h_ c_ p_) := Fc 16 (@Z9f ws b n ‹_› ‹_›) r_
 rcases bb ((Z15 ws b n).snd != 0) with hc0 | hc0<;>have hc0p:=hc0<;>simp only [bs] at hc0p
 ·exact gF [] Tryz.func169 [true] (Q0 (Ft 20 hc0 (Fnl (Fa (by simp [moveA, *] : [] =List.map wdv (moveA ws a b n).fst) (Fa (by simp [moveA, *] : (Z15 ws b n).snd =(moveA ws a b n).snd) Fz)))))
 ·exact gF [] Tryz.func169 [true] (Q0 (Ff 20 hc0 (Fc 25 (@Z4i ws ((Z15 ws b n).fst) a ‹_› ‹_› (by omega)) (Fa (by refine congrArg _ ?_; simp [moveA, *] : List.map wdv (Z0b ws a (Z15 ws b n).fst).fst =List.map wdv (moveA ws a b n).fst) (Fa (by simp [moveA, *] : (Z0b ws a (Z15 ws b n).fst).snd =(moveA ws a b n).snd) Fz)))))
theorem Z2L (n : Int) : GSpec Tryz.prog 84 [int n] true (bool (decide (0 ≤ n) && decide (n ≤ 2147483647))) [] := by
 exact gF [] Tryz.func84 [] Fz
def Z13 (sp : Int) : List Page → Nat
 | [] => 0
 | p :: r => if p.kind = 3 ∧ p.space = sp then Z13 sp r + 1 else 0
theorem Z4O (sp : Int) : ∀ l,Z13 sp l ≤ l.length
 | [] => Nat.le_refl _
 | p :: r => by
  have := Z4O sp r
  simp only [Z13,List.length_cons]
  split <;> omega
theorem drop_at {l : List Page} {k : Nat} (h : k < l.length) : l.drop k = l.getD k default :: l.drop (k + 1) := by
 rw [List.drop_eq_getElem_cons h]
 simp [List.getD,h]
def Zd7 (l : List Page) (sp : Int) (n k : Nat) : Tg := ⟨tm 37 [(0,Z0o l),(2,int sp),(7,int n),(8,int k)],[],60⟩
theorem ZeE (l : List Page) (hl : l.length ≤ 1048576) (sp : Int) (n k : Nat) (hn : n ≤ k) (hk : k < l.length) (h : (l.getD k default).kind = 3 ∧ (l.getD k default).space = sp) : CSpec Tryz.prog (rndF Tryz.f86 0) (Zd7 l sp n k).st .nrm (Zd7 l sp (n + 1) (k + 1)).st := by
 exact sF [] [] (Fl 13 Page.dv l (FeG 18 (decide ((↑k : Int) < (↑l.length : Int))) Page.dv l (↑k) k (FeG 26 (decide ((↑k : Int) < (↑l.length : Int))&&(l.getD k default).kind == 3) Page.dv l (↑k) k (Ftb 31 (decide ((↑k : Int) < (↑l.length : Int))&&(l.getD k default).kind == 3&&(l.getD k default).space == sp) (Fx 35 n (Fx 33 k Fz))))))
theorem ZdH (l : List Page) (hl : l.length ≤ 1048576) (sp : Int) (n k : Nat) (h : k < l.length → ¬ ((l.getD k default).kind = 3 ∧ (l.getD k default).space = sp)) : CSpec Tryz.prog (rndF Tryz.f86 0) (Zd7 l sp n k).st (.ext 0) (Tg.st ⟨tm 37 [(7,int n)],[],60⟩) := by
 exact sF [] [] (Fl 13 Page.dv l (FeG 18 (decide ((↑k : Int) < (↑l.length : Int))) Page.dv l (↑k) k (FeG 26 (decide ((↑k : Int) < (↑l.length : Int))&&(l.getD k default).kind == 3) Page.dv l (↑k) k (Ffb 31 (decide ((↑k : Int) < (↑l.length : Int))&&(l.getD k default).kind == 3&&(l.getD k default).space == sp) Fz))))
theorem Zjj (l : List Page) (hl : l.length ≤ 1048576) (sp : Int) : ∀ (m n k : Nat),l.length - k = m → n ≤ k → LSpec Tryz.prog Tryz.f86 0 (Zd7 l sp n k).st (.ext 0) (Tg.st ⟨tm 37 [(7,int ((n + Z13 sp (l.drop k) : Nat) : Int))],[],60⟩) := by
 intro m
 induction m with
 | zero =>
  intro n k hm hn
  have e : l.drop k = [] := List.drop_eq_nil_of_le (by omega)
  rw [e]
  exact .endx (ZdH l hl sp n k (fun h => by omega))
 | succ m ih =>
  intro n k hm hn
  rw [drop_at (by omega),Z13]
  by_cases h : (l.getD k default).kind = 3 ∧ (l.getD k default).space = sp
  ·rw [if_pos h]
   have := ih (n + 1) (k + 1) (by omega) (by omega)
   rw [show n + 1 + Z13 sp (l.drop (k + 1)) = n + (Z13 sp (l.drop (k + 1)) + 1) from by omega] at this
   exact .next (ZeE l hl sp n k hn (by omega) h) this
  ·rw [if_neg h]
   exact .endx (ZdH l hl sp n k (fun _ => h))
theorem Zf9 (l : List Page) (sp : Int) (k : Nat) (hl : l.length ≤ 1048576) : CSpec Tryz.prog (blkF Tryz.f86 0) (Tg.st ⟨tm 37 [(0,Z0o l),(2,int sp),(7,int 0),(8,int k)],[],60⟩) .nrm (Tg.st ⟨tm 37 [(7,int (Z13 sp (l.drop k)))],[],60⟩) := by
 have := (Zjj l hl sp _ 0 k rfl (by omega)).ext (by kernel_rfl)
 rw [Nat.zero_add] at this
 exact this
theorem ZaR (l : List Page) (i : Nat) (sp : Int) (hl : l.length ≤ 1048576) (hi : i < l.length) : GSpec Tryz.prog 86 [Z0o l,int i,int sp] true (int (Z13 sp (l.drop (i + 1)))) [] := by
 exact gF [] Tryz.func86 [] (Fx 10 i (Fu (@Zf9 l sp (i + 1) ‹_›) Fz))
def rchk (c : Conf) (l : List Page) (i : Nat) (due : Int) : Prop :=
 ((l.getD i default).kind = 3 ↔ 0 < due) ∧ 0 ≤ (l.getD i default).space ∧ (l.getD i default).space ≤ 1 ∧ 0 ≤ (l.getD i default).pins ∧ (l.getD i default).pins ≤ 2147483647 ∧
 0 ≤ (l.getD i default).kind ∧ (l.getD i default).kind ≤ 3 ∧
 ((l.getD i default).kind = 0 → (l.getD i default).space = 0 ∧ (l.getD i default).used = 0 ∧ (l.getD i default).pins = 0) ∧
 ((l.getD i default).kind = 1 → 0 ≤ (l.getD i default).used ∧ (l.getD i default).used ≤ c.pw) ∧
 ((l.getD i default).kind = 2 → 1 ≤ need c (l.getD i default).used ∧ need c (l.getD i default).used - 1 ≤ Z13 (l.getD i default).space (l.drop (i + 1))) ∧
 ((l.getD i default).kind = 3 → (l.getD i default).used = 0 ∧ (l.getD i default).pins = 0)
def rdue (c : Conf) (l : List Page) (i : Nat) (due : Int) : Int := if (l.getD i default).kind = 2 then need c (l.getD i default).used - 1 else max 0 (due - 1)
def Z8C (h : Heap) (i : Nat) (due : Int) : Tg := ⟨tm 157 [(1,.pt 8001 0 0),(2,bool false),(3,int due),(4,int i)],[(8001,.box 28 h.cells)],60⟩
theorem Z1I (c : Conf) (n : Int) : -1 ≤ need c n ∧ need c n ≤ 5 := by
 unfold need
 split
 ·rename_i h
  have := validB_iff.1 h.1
  split
  ·omega
  ·have h1 : 0 ≤ (n + c.pw - 1) / c.pw := Int.ediv_nonneg (by omega) (by omega)
   have h2 : (n + c.pw - 1) / c.pw < 6 := Int.ediv_lt_of_lt_mul (by omega) (by omega)
   omega
 ·omega
theorem Z8B (h : Heap) (i : Nat) (due : Int) (hl : h.pages.length ≤ 1048576) (hi : i < h.pages.length) (hd : 0 ≤ due ∧ due ≤ 5) (hc : rchk h.conf h.pages i due) : CSpec Tryz.prog (rndF Tryz.f46 0) (Z8C h i due).st .nrm (Z8C h (i + 1) (rdue h.conf h.pages i due)).st := by
 have hn := Z1I h.conf (h.pages.getD i default).used
 have ht := Z4O (h.pages.getD i default).space (h.pages.drop (i + 1))
 rw [List.length_drop] at ht
 unfold rchk at hc
 have Q0 {h_ c_ p_} (r_ : Fq h_ c_ p_) := Fl 72 Page.dv h.pages (Ftb 73 (decide ((↑i : Int) < (↑h.pages.length : Int))) (Fek 79 Page.dv h.pages (↑i) i (FcG 100 (!(!((h.pages.getD i default).kind == 3) == decide (0 < due)||decide ((h.pages.getD i default).space < 0)||decide (1 < (h.pages.getD i default).space))) (fun hg => by (try simp only [bs] at hg); exact @Z2L ((h.pages.getD i default).pins)) (Ffb 102 (!((h.pages.getD i default).kind == 3) == decide (0 < due)||decide ((h.pages.getD i default).space < 0)||decide (1 < (h.pages.getD i default).space)||!(decide (0≤(h.pages.getD i default).pins)&&decide ((h.pages.getD i default).pins≤2147483647))) r_))))
 rcases bb ((h.pages.getD i default).kind == 0) with hc0 | hc0<;>have hc0p:=hc0<;>simp only [bs] at hc0p
 ·exact sF [] [false,false,false,false,false,false,false,false,false,false,false,false,true] (Fh 105 [.br true] (Q0 (Fa hc0 (Ffb 109 (!((h.pages.getD i default).kind == 0&&((h.pages.getD i default).space == 0&&((h.pages.getD i default).used == 0&&(h.pages.getD i default).pins == 0)))) (Fi 155 (due - 1) (Fgo 156 (if due - 1 > 0 then due - 1 else 0) (max 0 (due - 1)) (Fx 75 i (Fa (by grind [rdue] : max 0 (due - 1) =rdue h.conf h.pages i due) Fz))))))))
 ·rcases bb ((h.pages.getD i default).kind == 1) with hc1 | hc1<;>have hc1p:=hc1<;>simp only [bs] at hc1p
  ·exact sF [] [false,false,false,false,false,false,false,false,false,false,false,false,false,false,false,false,false,false,true] (Fh 110 [.br true] (Fh 122 [.br false] (Q0 (Fa hc0 (Fa hc1 (Ffb 105 (decide ((h.pages.getD i default).used < 0)||decide (h.conf.pw < (h.pages.getD i default).used)) (Fi 155 (due - 1) (Fgo 156 (if due - 1 > 0 then due - 1 else 0) (max 0 (due - 1)) (Fx 75 i (Fa (by grind [rdue] : max 0 (due - 1) =rdue h.conf h.pages i due) Fz))))))))))
  ·rcases bb ((h.pages.getD i default).kind == 2) with hc2 | hc2<;>have hc2p:=hc2<;>simp only [bs] at hc2p
   ·exact sF [] [false,false,false,false,false,false,false,false,false,false,false,false,false,false,false,false,false,false,false,false,false,true] (Fh 110 [.br false] (Fh 123 [.br true] (Fh 142 [.br false] (Q0 (Fa hc0 (Fa hc1 (Fa hc2 (Fc 129 (@Z3V h.conf ((h.pages.getD i default).used)) (FcG 138 (!decide (need h.conf (h.pages.getD i default).used < 1)) (fun hg => by (try simp only [bs] at hg); exact @ZaR h.pages i ((h.pages.getD i default).space) (by (try simp only [bs] at hg); assumption) (by (try simp only [bs] at hg); assumption)) (FiG 140 (!decide (need h.conf (h.pages.getD i default).used < 1)) (need h.conf (h.pages.getD i default).used - 1) (Ffb 105 (decide (need h.conf (h.pages.getD i default).used < 1)||decide ((↑(Z13 (h.pages.getD i default).space (List.drop (i + 1) h.pages)) : Int) < need h.conf (h.pages.getD i default).used - 1)) (Fi 155 (need h.conf (h.pages.getD i default).used - 1) (Fgo 156 (if need h.conf (h.pages.getD i default).used - 1 > 0 then need h.conf (h.pages.getD i default).used - 1 else 0) (max 0 (need h.conf (h.pages.getD i default).used - 1)) (Fx 75 i (Fa (by grind [rdue] : max 0 (need h.conf (h.pages.getD i default).used - 1) =rdue h.conf h.pages i due) Fz)))))))))))))))
   ·exact sF [] [false,false,false,false,false,false,false,false,false,false,false,false,false,false,false,true] (Fh 110 [.br false] (Fh 123 [.br false] (Fh 144 [.br true] (Fh 153 [.br false] (Q0 (Fa hc0 (Fa hc1 (Fa hc2 (Fb (((h.pages.getD i default).kind == 3)=true) (Ffb 105 ((h.pages.getD i default).used != 0||(h.pages.getD i default).pins != 0) (Fi 155 (due - 1) (Fgo 156 (if due - 1 > 0 then due - 1 else 0) (max 0 (due - 1)) (Fx 75 i (Fa (by grind [rdue] : max 0 (due - 1) =rdue h.conf h.pages i due) Fz))))))))))))))
theorem Zi0 (h : Heap) (i : Nat) (due : Int) (hl : h.pages.length ≤ 1048576) (hi : i < h.pages.length) (hd : 0 ≤ due ∧ due ≤ 5) (hc : ¬ rchk h.conf h.pages i due) : CSpec Tryz.prog (rndF Tryz.f46 0) (Z8C h i due).st .ret (Tg.st ⟨tm 157 [(2,bool false)],[],60⟩) := by
 have hn := Z1I h.conf (h.pages.getD i default).used
 have ht := Z4O (h.pages.getD i default).space (h.pages.drop (i + 1))
 rw [List.length_drop] at ht
 unfold rchk at hc
 have Q0 {h_ c_ p_} (r_ : Fq h_ c_ p_) := Fl 72 Page.dv h.pages (Ftb 73 (decide ((↑i : Int) < (↑h.pages.length : Int))) (Fek 79 Page.dv h.pages (↑i) i (FcG 100 (!(!((h.pages.getD i default).kind == 3) == decide (0 < due)||decide ((h.pages.getD i default).space < 0)||decide (1 < (h.pages.getD i default).space))) (fun hg => by (try simp only [bs] at hg); exact @Z2L ((h.pages.getD i default).pins)) r_)))
 rcases bb (!((h.pages.getD i default).kind == 3) == decide (0 < due) || decide ((h.pages.getD i default).space < 0) || decide (1 < (h.pages.getD i default).space) || !(decide (0 ≤ (h.pages.getD i default).pins) && decide ((h.pages.getD i default).pins ≤ 2147483647))) with hc0 | hc0<;>have hc0p:=hc0<;>simp only [bs] at hc0p
 ·exact sF [] [] (Q0 (Ft 102 hc0 Fz))
 ·obtain ⟨⟨⟨hc0paaa,hc0paab⟩,hc0pab⟩,⟨hc0pba,hc0pbb⟩⟩ := hc0p
  rcases bb ((h.pages.getD i default).kind == 0) with hc1 | hc1<;>have hc1p:=hc1<;>simp only [bs] at hc1p
  ·exact sF [] [] (Fh 109 [.br true] (Q0 (Ff 102 hc0 (Fa hc1 (Ftb 105 (!((h.pages.getD i default).kind == 0&&((h.pages.getD i default).space == 0&&((h.pages.getD i default).used == 0&&(h.pages.getD i default).pins == 0)))) Fz)))))
  ·rcases bb ((h.pages.getD i default).kind == 1) with hc2 | hc2<;>have hc2p:=hc2<;>simp only [bs] at hc2p
   ·exact sF [] [] (Fh 105 [.br false] (Fh 122 [.br true] (Q0 (Ff 102 hc0 (Fa hc1 (Fa hc2 (Ftb 110 (decide ((h.pages.getD i default).used < 0)||decide (h.conf.pw < (h.pages.getD i default).used)) Fz)))))))
   ·rcases bb ((h.pages.getD i default).kind == 2) with hc3 | hc3<;>have hc3p:=hc3<;>simp only [bs] at hc3p
    ·exact sF [] [] (Fh 105 [.br false] (Fh 110 [.br false] (Fh 142 [.br true] (Q0 (Ff 102 hc0 (Fa hc1 (Fa hc2 (Fa hc3 (Fc 129 (@Z3V h.conf ((h.pages.getD i default).used)) (FcG 138 (!decide (need h.conf (h.pages.getD i default).used < 1)) (fun hg => by (try simp only [bs] at hg); exact @ZaR h.pages i ((h.pages.getD i default).space) (by (try simp only [bs] at hg); assumption) (by (try simp only [bs] at hg); assumption)) (FiG 140 (!decide (need h.conf (h.pages.getD i default).used < 1)) (need h.conf (h.pages.getD i default).used - 1) (Ftb 123 (decide (need h.conf (h.pages.getD i default).used < 1)||decide ((↑(Z13 (h.pages.getD i default).space (List.drop (i + 1) h.pages)) : Int) < need h.conf (h.pages.getD i default).used - 1)) Fz))))))))))))
    ·rcases bb ((h.pages.getD i default).kind == 3) with hc4 | hc4<;>have hc4p:=hc4<;>simp only [bs] at hc4p
     ·exact sF [] [] (Fh 105 [.br false] (Fh 110 [.br false] (Fh 123 [.br false] (Fh 153 [.br true] (Q0 (Ff 102 hc0 (Fa hc1 (Fa hc2 (Fa hc3 (Fa hc4 (Ftb 144 ((h.pages.getD i default).used != 0||(h.pages.getD i default).pins != 0) Fz)))))))))))
     ·exact sF [] [] (Fh 105 [.br false] (Fh 110 [.br false] (Fh 123 [.br false] (Fh 144 [.br false] (Q0 (Ff 102 hc0 (Fa hc1 (Fa hc2 (Fa hc3 (Fa hc4 Fz))))))))))
theorem ZcP (h : Heap) (due : Int) : CSpec Tryz.prog (rndF Tryz.f46 0) (Z8C h h.pages.length due).st (.ext 0) (Tg.st ⟨tm 157 [],[],60⟩) := by
 exact sF [] [] (Fl 72 Page.dv h.pages (Ffb 73 (decide ((↑h.pages.length : Int) < (↑h.pages.length : Int))) Fz))
instance (c : Conf) (l : List Page) (i : Nat) (due : Int) : Decidable (rchk c l i due) := by unfold rchk; infer_instance
def rpB (c : Conf) (l : List Page) : Nat → Nat → Int → Bool
 | 0,_,_ => true
 | f + 1,i,due => if i < l.length then decide (rchk c l i due) && rpB c l f (i + 1) (rdue c l i due) else true
theorem Zhg {c : Conf} {l : List Page} {f i : Nat} {due : Int} (h : l.length ≤ i) : rpB c l f i due = true := by
 cases f with
 | zero => rfl
 | succ f => rw [rpB,if_neg (by omega)]
theorem Z9o {c : Conf} {l : List Page} {f i : Nat} {due : Int} (h : i < l.length) (hf : l.length ≤ i + f) : rpB c l f i due = (decide (rchk c l i due) && rpB c l (f - 1) (i + 1) (rdue c l i due)) := by
 cases f with
 | zero => omega
 | succ f => rw [rpB,if_pos h]; rfl
theorem Z5k {c : Conf} {l : List Page} {f i : Nat} (h : i < l.length) (hf : l.length ≤ i + f) : Z2g c l f i = (if Z1g c l i = 0 then false else Z2g c l (f - 1) (i + Z1g c l i)) := by
 cases f with
 | zero => omega
 | succ f => rw [Z2g,if_pos h]; rfl
theorem Zcr {c : Conf} {l : List Page} : ∀ {m f g i : Nat},l.length - i ≤ m → l.length ≤ i + f → l.length ≤ i + g → Z2g c l f i = Z2g c l g i := by
 intro m
 induction m with
 | zero =>
  intro f g i hm hf hg
  have e : ∀ f,Z2g c l f i = true := by
   intro f
   cases f with
   | zero => rw [Z2g,decide_eq_true (by omega)]
   | succ f => rw [Z2g,if_neg (by omega)]
  rw [e,e]
 | succ m ih =>
  intro f g i hm hf hg
  by_cases h : i < l.length
  ·rw [Z5k h hf,Z5k h hg]
   by_cases h0 : Z1g c l i = 0
   ·rw [if_pos h0,if_pos h0]
   ·rw [if_neg h0,if_neg h0]
    exact ih (by omega) (by omega) (by omega)
  ·exact ih (by omega) hf hg
theorem getD_at {l : List Page} {i : Nat} (h : i < l.length) : l[i]? = some (l.getD i default) := by
 simp [List.getD,h]
theorem Zgj {c : Conf} {l : List Page} {sp : Int} (hsp : sp = 0 ∨ sp = 1) (q : Page) (hq : q.space = sp) : ∀ (d f i : Nat),d ≤ Z13 sp (l.drop i) → i + d ≤ l.length → l.length ≤ i + f →
  rpB c l f i d = (Z51 q ((l.drop i).take d) && rpB c l (f - d) (i + d) 0) := by
 intro d
 induction d with
 | zero => intro f i _ _ _; simp [Z51]
 | succ d ih =>
  intro f i h1 h2 hf
  have hi : i < l.length := by omega
  rw [drop_at hi,Z13] at h1
  by_cases hk : (l.getD i default).kind = 3 ∧ (l.getD i default).space = sp
  ·rw [if_pos hk] at h1
   have hd : rdue c l i ((d + 1 : Nat) : Int) = (d : Int) := by
    unfold rdue; rw [if_neg (by omega)]; omega
   rw [Z9o hi hf,hd,ih (f - 1) (i + 1) (by omega) (by omega) (by omega),drop_at hi,List.take_succ_cons,show f - 1 - d = f - (d + 1) from by omega,show i + 1 + d = i + (d + 1) from by omega]
   have e : decide (rchk c l i ((d + 1 : Nat) : Int)) = Z4Y (l.getD i default) q := by
    rw [Bool.eq_iff_iff]
    simp only [decide_eq_true_eq,Z4Y]
    unfold rchk
    generalize l.getD i default = p at hk
    obtain ⟨a,b,u,v⟩ := p
    simp only [Page.mk.injEq] at hk ⊢
    omega
   rw [e]
   simp [Z51,Bool.and_assoc]
  ·rw [if_neg hk] at h1; omega
theorem Z43 {sp : Int} {q : Page} (hq : q.space = sp) : ∀ {l : List Page} {d : Nat},Z51 q (l.take d) = true → d ≤ l.length → d ≤ Z13 sp l
 | _,0,_,_ => Nat.zero_le _
 | [],d + 1,_,h => by simp at h
 | p :: l,d + 1,h,hl => by
  simp only [Z51,List.take_succ_cons,List.all_cons,Bool.and_eq_true] at h
  have h1 := h.1
  simp only [Z4Y,decide_eq_true_eq] at h1
  have := Z43 (sp := sp) hq (l := l) (d := d) h.2 (by simpa using hl)
  rw [Z13,if_pos (by rw [h1]; exact ⟨rfl,hq⟩)]
  omega
theorem ZeL {c : Conf} {l : List Page} : ∀ {m f i : Nat},l.length - i ≤ m → l.length ≤ i + f → rpB c l f i 0 = Z2g c l f i := by
 intro m
 induction m with
 | zero =>
  intro f i hm hf
  rw [Zhg (by omega)]
  cases f with
  | zero => rw [Z2g,decide_eq_true (by omega)]
  | succ f => rw [Z2g,if_neg (by omega)]
 | succ m ih =>
  intro f i hm hf
  by_cases hi : i < l.length
  rotate_left
  ·exact ih (by omega) hf
  have hp := getD_at hi
  rw [Z9o hi hf,Z5k hi hf]
  generalize hpe : l.getD i default = p at hp
  have hone : ∀ (b : Bool),rdue c l i 0 = 0 → decide (rchk c l i 0) = b → Z1g c l i = (if b = true then 1 else 0) → (decide (rchk c l i 0) && rpB c l (f - 1) (i + 1) (rdue c l i 0)) = (if Z1g c l i = 0 then false else Z2g c l (f - 1) (i + Z1g c l i)) := by
   intro b h1 h2 h3
   rw [h1,h2,h3,ih (by omega) (by omega)]
   cases b <;> simp
  by_cases hk2 : p.kind = 2
  rotate_left
  ·have hd : rdue c l i 0 = 0 := by unfold rdue; rw [hpe,if_neg hk2]; omega
   by_cases hk0 : p.kind = 0
   ·refine hone (Z4s p) hd ?_ (by rw [Z1g,hp]; simp only [hk0,if_true])
    rw [Bool.eq_iff_iff]
    simp only [decide_eq_true_eq,Z4s]
    unfold rchk
    rw [hpe]
    obtain ⟨a,b,u,v⟩ := p
    simp only [Page.mk.injEq] at hk0 hk2 ⊢
    omega
   ·by_cases hk1 : p.kind = 1
    ·refine hone (Z4d p c) hd ?_ (by rw [Z1g,hp]; simp [hk1])
     rw [Bool.eq_iff_iff]
     simp only [decide_eq_true_eq,Z4d,Z1t,Z38,Bool.and_eq_true,Bool.or_eq_true,beq_iff_eq]
     unfold rchk
     rw [hpe]
     omega
    ·refine hone false hd ?_ (by rw [Z1g,hp]; simp [hk0,hk1,hk2])
     simp only [decide_eq_false_iff_not]
     unfold rchk
     rw [hpe]
     omega
  ·have hd : rdue c l i 0 = need c p.used - 1 := by unfold rdue; rw [hpe,if_pos hk2]
   have hrc : rchk c l i 0 ↔ Z2i p c = true ∧ need c p.used - 1 ≤ Z13 p.space (l.drop (i + 1)) := by
    simp only [Z2i,Z1t,Z38,Bool.and_eq_true,Bool.or_eq_true,beq_iff_eq,decide_eq_true_eq]
    unfold rchk
    rw [hpe]
    omega
   have hsp : Z1g c l i = (if Z2i p c = true then (if (need c p.used).toNat ≤ l.length - i ∧ Z51 p ((l.drop (i + 1)).take ((need c p.used).toNat - 1)) = true then (need c p.used).toNat else 0) else 0) := by
    rw [Z1g,hp]; simp [hk2]
   by_cases hl : Z2i p c = true
   ·have hn : 1 ≤ need c p.used ∧ (p.space = 0 ∨ p.space = 1) := by
     simp only [Z2i,Z1t,Z38,Bool.and_eq_true,Bool.or_eq_true,beq_iff_eq,decide_eq_true_eq] at hl
     omega
    have htl := Z4O p.space (l.drop (i + 1))
    rw [List.length_drop] at htl
    rw [hsp,if_pos hl,hd]
    by_cases ht : need c p.used - 1 ≤ Z13 p.space (l.drop (i + 1))
    ·rw [decide_eq_true (hrc.2 ⟨hl,ht⟩),Bool.true_and]
     have e : need c p.used - 1 = (((need c p.used).toNat - 1 : Nat) : Int) := by omega
     rw [e,Zgj hn.2 p rfl _ _ _ (by omega) (by omega) (by omega)]
     have hfit : (need c p.used).toNat ≤ l.length - i := by omega
     cases htb : Z51 p ((l.drop (i + 1)).take ((need c p.used).toNat - 1)) with
     | false => simp
     | true =>
      simp only [hfit,and_self,if_true]
      rw [if_neg (by omega),Bool.true_and,ih (by omega) (by omega),show i + 1 + ((need c p.used).toNat - 1) = i + (need c p.used).toNat from by omega]
      exact Zcr (m := l.length) (by omega) (by omega) (by omega)
    ·rw [decide_eq_false (fun h => ht (hrc.1 h).2),Bool.false_and]
     have hno : ¬ ((need c p.used).toNat ≤ l.length - i ∧ Z51 p ((l.drop (i + 1)).take ((need c p.used).toNat - 1)) = true) := by
      intro h
      have := Z43 (sp := p.space) (q := p) rfl h.2 (by rw [List.length_drop]; omega)
      omega
     rw [if_neg hno]
     simp
   ·rw [hsp,if_neg hl,decide_eq_false (fun h => hl (hrc.1 h).1)]
    simp
theorem Z8S {c : Conf} {l : List Page} {i : Nat} {due : Int} (hd : 0 ≤ due ∧ due ≤ 5) (hc : rchk c l i due) : 0 ≤ rdue c l i due ∧ rdue c l i due ≤ 5 := by
 have := Z1I c (l.getD i default).used
 unfold rchk at hc
 unfold rdue
 split <;> omega
theorem Zjc (h : Heap) (hl : h.pages.length ≤ 1048576) : ∀ (f i : Nat) (due : Int),i ≤ h.pages.length → h.pages.length ≤ i + f → 0 ≤ due ∧ due ≤ 5 → rpB h.conf h.pages f i due = true → LSpec Tryz.prog Tryz.f46 0 (Z8C h i due).st (.ext 0) (Tg.st ⟨tm 157 [],[],60⟩) := by
 intro f
 induction f with
 | zero =>
  intro i due hi hf hd hr
  have : i = h.pages.length := by omega
  subst this
  exact .endx (ZcP h due)
 | succ f ih =>
  intro i due hi hf hd hr
  by_cases he : i < h.pages.length
  ·rw [rpB,if_pos he,Bool.and_eq_true] at hr
   have hc := of_decide_eq_true hr.1
   exact .next (Z8B h i due hl he hd hc) (ih (i + 1) _ (by omega) (by omega) (Z8S hd hc) hr.2)
  ·have : i = h.pages.length := by omega
   subst this
   exact .endx (ZcP h due)
theorem Ze1 (h : Heap) (hl : h.pages.length ≤ 1048576) : ∀ (f i : Nat) (due : Int),0 ≤ due ∧ due ≤ 5 → rpB h.conf h.pages f i due = false → LSpec Tryz.prog Tryz.f46 0 (Z8C h i due).st .ret (Tg.st ⟨tm 157 [(2,bool false)],[],60⟩) := by
 intro f
 induction f with
 | zero => intro i due hd hr; cases hr
 | succ f ih =>
  intro i due hd hr
  by_cases he : i < h.pages.length
  ·rw [rpB,if_pos he] at hr
   by_cases hc : rchk h.conf h.pages i due
   ·rw [decide_eq_true hc,Bool.true_and] at hr
    exact .next (Z8B h i due hl he hd hc) (ih (i + 1) _ (Z8S hd hc) hr)
   ·exact .endr (Zi0 h i due hl he hd hc)
  ·rw [rpB,if_neg he] at hr; cases hr
theorem Zgq (h : Heap) (hl : h.pages.length ≤ 1048576) (hr : rpB h.conf h.pages h.pages.length 0 0 = true) : CSpec Tryz.prog (blkF Tryz.f46 0) (Tg.st ⟨tm 157 [(1,.pt 8001 0 0),(2,bool false),(3,int 0),(4,int 0)],[(8001,.box 28 h.cells)],60⟩) .nrm (Tg.st ⟨tm 157 [],[],60⟩) :=
 (Zjc h hl _ 0 0 (by omega) (by omega) (by omega) hr).ext (by kernel_rfl)
theorem Zah (h : Heap) (hl : h.pages.length ≤ 1048576) (hr : rpB h.conf h.pages h.pages.length 0 0 = false) : CSpec Tryz.prog (blkF Tryz.f46 0) (Tg.st ⟨tm 157 [(1,.pt 8001 0 0),(2,bool false),(3,int 0),(4,int 0)],[(8001,.box 28 h.cells)],60⟩) .ret (Tg.st ⟨tm 157 [(2,bool false)],[],60⟩) :=
 (Ze1 h hl _ 0 0 (by omega) hr).ret (by kernel_rfl)
theorem Z5i (l : List Page) (i : Int) : Z17 l i = l.getD i.toNat default := by
 rw [Z17,List.getD_eq_getElem?_getD]; rfl
theorem properB_iff {h : Heap} : Z02 h = true ↔ Z07 h.conf = true ∧ (h.words.length : Int) = h.conf.pw * h.conf.pg ∧ (h.pages.length : Int) = h.conf.pg ∧ (h.space = 0 ∨ h.space = 1) ∧
  (h.bump = -1 ∨ (0 ≤ h.bump ∧ h.bump < h.pages.length ∧ (h.pages.getD h.bump.toNat default).kind = 1)) ∧ rpB h.conf h.pages h.pages.length 0 0 = true := by
 rw [ZeL (m := h.pages.length) (by omega) (by omega)]
 simp only [Z02,Bool.and_eq_true,shapeB_iff,ZfT,Bool.or_eq_true,beq_iff_eq,decide_eq_true_eq,Z5i]
 constructor
 ·rintro ⟨⟨h1,h2,h3,h4⟩,h5,h6⟩
  exact ⟨h1,h2,h3,h4,by omega,h6⟩
 ·rintro ⟨h1,h2,h3,h4,h5,h6⟩
  exact ⟨⟨h1,h2,h3,h4⟩,by omega,h6⟩
theorem Z0m (h : Heap) : GSpec Tryz.prog 46 [h.av] true (bool (Z02 h)) [] := by
  by_cases hv : Z07 h.conf = true
  · have ha := area hv
    rw [Int.mul_comm] at ha
    have hv' := validB_iff.1 hv
    have ei : h.conf.pg * h.conf.pw = h.conf.pw * h.conf.pg := Int.mul_comm _ _
    cases hs : rpB h.conf h.pages h.pages.length 0 0 with
    | true => rcases Bool.eq_false_or_eq_true (!Z07 h.conf || (↑h.words.length : Int) != h.conf.pw * h.conf.pg || (↑h.pages.length : Int) != h.conf.pg || decide (h.space < (0 : Int)) || decide ((1 : Int) < h.space)) with hc0 | hc0
              · have hc0p := hc0
                simp only [bs] at hc0p
                exact gF [] Tryz.func46 [false,false,false,false,false,false,false,false,false,false,false,false,false,false,false,false,false,false,false,false,false,false,false,false,true] (Fh 21 [.int (h.conf.pw * h.conf.pg)] (Fc 9 (@Z0w h.conf) (FlG 14 (!!Z07 h.conf) wdv h.words (Fa (by intro hg; (try simp only [bs] at hg); rw [wrapI' (by omega) (by omega)]; omega : (!!Z07 h.conf) =true→IntKind.i64.wrap (h.conf.pg * h.conf.pw) =h.conf.pw * h.conf.pg) (FlG 27 (!(!Z07 h.conf||(↑h.words.length : Int) != h.conf.pw * h.conf.pg)) Page.dv h.pages (Ft 42 ‹(!Z07 h.conf||(↑h.words.length : Int) != h.conf.pw * h.conf.pg||(↑h.pages.length : Int) != h.conf.pg||decide (h.space < 0)||decide (1 < h.space)) =true› (Fa (by exact (Bool.eq_false_iff.2 (fun hh => by obtain ⟨q1,q2,q3,q4,q5,q6⟩ := properB_iff.1 hh; simp [hv] at hc0p; omega)).symm : false =Z02 h) Fz)))))))
              · have hc0p := hc0
                simp only [bs] at hc0p
                obtain ⟨⟨⟨⟨hc0paaaa,hc0paaab⟩,hc0paab⟩,hc0pab⟩,hc0pb⟩ := hc0p
                have Q0 {h_ c_ p_} (r_ : Fq h_ c_ p_) := Fc 9 (@Z0w h.conf) (FlG 14 (!!Z07 h.conf) wdv h.words (Fa (by intro hg; (try simp only [bs] at hg); rw [wrapI' (by omega) (by omega)]; omega : (!!Z07 h.conf) =true→IntKind.i64.wrap (h.conf.pg * h.conf.pw) =h.conf.pw * h.conf.pg) (FlG 27 (!(!Z07 h.conf||(↑h.words.length : Int) != h.conf.pw * h.conf.pg)) Page.dv h.pages (Ff 42 ‹(!Z07 h.conf||(↑h.words.length : Int) != h.conf.pw * h.conf.pg||(↑h.pages.length : Int) != h.conf.pg||decide (h.space < 0)||decide (1 < h.space)) =false› (FlG 55 (h.bump != (-1 : Int)&&!decide (h.bump < 0)) Page.dv h.pages (FeG 63 (h.bump != (-1 : Int)&&!(decide (h.bump < 0)||decide ((↑h.pages.length : Int)≤h.bump))) Page.dv h.pages h.bump h.bump.toNat r_))))))
                rcases bb (h.bump != (-1 : Int) && (decide (h.bump < 0) || decide ((↑h.pages.length : Int) ≤ h.bump) || (h.pages.getD h.bump.toNat default).kind != 1)) with hc1 | hc1<;>have hc1p:=hc1<;>simp only [bs] at hc1p
                · obtain ⟨hc1pa,hc1pb⟩ := hc1p
                  exact gF [] Tryz.func46 [false,false,false,false,false,false,false,false,false,false,false,false,false,false,false,false,false,false,false,false,false,false,false,false,false,false,false,false,false,false,false,false,false,false,false,false,false,false,false,false,false,false,false,false,false,true] (Fh 21 [.int (h.conf.pw * h.conf.pg)] (Q0 (Ft 68 hc1 (Fa (by exact (Bool.eq_false_iff.2 (fun hh => by obtain ⟨q1,q2,q3,q4,q5,q6⟩ := properB_iff.1 hh; omega)).symm : false =Z02 h) Fz))))
                · exact gF [] Tryz.func46 [false,false,false,false,false,false,false,false,false,false,false,false,false,false,false,false,false,false,false,false,false,false,false,false,false,false,false,false,false,false,false,false,false,false,false,false,false,false,false,false,false,false,false,false,false,false,false,false,false,false,true] (Fh 21 [.int (h.conf.pw * h.conf.pg)] (Q0 (Ff 68 hc1 (Fu (@Zgq h (by omega) ‹_›) (Fa (by exact (properB_iff.2 ⟨hv,by omega,by omega,by omega,by omega,hs⟩).symm : true = Z02 h) Fz)))))
    | false => rcases Bool.eq_false_or_eq_true (!Z07 h.conf || (↑h.words.length : Int) != h.conf.pw * h.conf.pg || (↑h.pages.length : Int) != h.conf.pg || decide (h.space < (0 : Int)) || decide ((1 : Int) < h.space)) with hc0 | hc0
               · have hc0p := hc0
                 simp only [bs] at hc0p
                 exact gF [] Tryz.func46 [false,false,false,false,false,false,false,false,false,false,false,false,false,false,false,false,false,false,false,false,false,false,false,false,true] (Fh 21 [.int (h.conf.pw * h.conf.pg)] (Fc 9 (@Z0w h.conf) (FlG 14 (!!Z07 h.conf) wdv h.words (Fa (by intro hg; (try simp only [bs] at hg); rw [wrapI' (by omega) (by omega)]; omega : (!!Z07 h.conf) =true→IntKind.i64.wrap (h.conf.pg * h.conf.pw) =h.conf.pw * h.conf.pg) (FlG 27 (!(!Z07 h.conf||(↑h.words.length : Int) != h.conf.pw * h.conf.pg)) Page.dv h.pages (Ft 42 ‹(!Z07 h.conf||(↑h.words.length : Int) != h.conf.pw * h.conf.pg||(↑h.pages.length : Int) != h.conf.pg||decide (h.space < 0)||decide (1 < h.space)) =true› (Fa (by exact (Bool.eq_false_iff.2 (fun hh => by obtain ⟨q1,q2,q3,q4,q5,q6⟩ := properB_iff.1 hh; simp [hv] at hc0p; omega)).symm : false =Z02 h) Fz)))))))
               · have hc0p := hc0
                 simp only [bs] at hc0p
                 obtain ⟨⟨⟨⟨hc0paaaa,hc0paaab⟩,hc0paab⟩,hc0pab⟩,hc0pb⟩ := hc0p
                 have Q1 {h_ c_ p_} (r_ : Fq h_ c_ p_) := Fc 9 (@Z0w h.conf) (FlG 14 (!!Z07 h.conf) wdv h.words (Fa (by intro hg; (try simp only [bs] at hg); rw [wrapI' (by omega) (by omega)]; omega : (!!Z07 h.conf) =true→IntKind.i64.wrap (h.conf.pg * h.conf.pw) =h.conf.pw * h.conf.pg) (FlG 27 (!(!Z07 h.conf||(↑h.words.length : Int) != h.conf.pw * h.conf.pg)) Page.dv h.pages (Ff 42 ‹(!Z07 h.conf||(↑h.words.length : Int) != h.conf.pw * h.conf.pg||(↑h.pages.length : Int) != h.conf.pg||decide (h.space < 0)||decide (1 < h.space)) =false› (FlG 55 (h.bump != (-1 : Int)&&!decide (h.bump < 0)) Page.dv h.pages (FeG 63 (h.bump != (-1 : Int)&&!(decide (h.bump < 0)||decide ((↑h.pages.length : Int)≤h.bump))) Page.dv h.pages h.bump h.bump.toNat r_))))))
                 rcases bb (h.bump != (-1 : Int) && (decide (h.bump < 0) || decide ((↑h.pages.length : Int) ≤ h.bump) || (h.pages.getD h.bump.toNat default).kind != 1)) with hc1 | hc1<;>have hc1p:=hc1<;>simp only [bs] at hc1p
                 · obtain ⟨hc1pa,hc1pb⟩ := hc1p
                   exact gF [] Tryz.func46 [false,false,false,false,false,false,false,false,false,false,false,false,false,false,false,false,false,false,false,false,false,false,false,false,false,false,false,false,false,false,false,false,false,false,false,false,false,false,false,false,false,false,false,false,false,true] (Fh 21 [.int (h.conf.pw * h.conf.pg)] (Q1 (Ft 68 hc1 (Fa (by exact (Bool.eq_false_iff.2 (fun hh => by obtain ⟨q1,q2,q3,q4,q5,q6⟩ := properB_iff.1 hh; omega)).symm : false =Z02 h) Fz))))
                 · exact gF [] Tryz.func46 [false,false,false,false,false,false,false,false,false,false,false,false,false,false,false,false,false,false,false,false,false,false,false,false,false,false,false,false,false,false,false,false,false,false,false,false,false,false,false,false,false,false,false,false,false,false,false,false,false,false,true] (Fh 21 [.int (h.conf.pw * h.conf.pg)] (Q1 (Ff 68 hc1 (Fu (@Zah h (by omega) ‹_›) (Fa (by exact (Bool.eq_false_iff.2 (fun hh => by have q := (properB_iff.1 hh).2.2.2.2.2; rw [hs] at q; cases q)).symm : false = Z02 h) Fz)))))
  · have hf : Z07 h.conf = false := by simpa using hv
    exact gF [] Tryz.func46 [false,false,false,false,false,false,false,false,false,false,false,false,false,false,false,false,false,false,false,false,false,false,false,false,true] (Fc 9 (@Z0w h.conf) (FlG 14 (!!Z07 h.conf) wdv h.words (FlG 27 (!(!Z07 h.conf||(↑h.words.length : Int) != IntKind.i64.wrap (h.conf.pg * h.conf.pw))) Page.dv h.pages (Ft 42 (by simp [*] : (!Z07 h.conf||(↑h.words.length : Int) != IntKind.i64.wrap (h.conf.pg * h.conf.pw)||(↑h.pages.length : Int) != h.conf.pg||decide (h.space < 0)||decide (1 < h.space))=true) (Fa (by exact (Bool.eq_false_iff.2 (fun hh => hv (properB_iff.1 hh).1)).symm : false =Z02 h) Fz)))))
def WOk (ws : List Int) : Prop := ∀ w ∈ ws,0 ≤ w ∧ w ≤ 18446744073709551615
theorem ZiQ {ws : List Int} (h : WOk ws) (i : Nat) : 0 ≤ ws.getD i 0 ∧ ws.getD i 0 ≤ 18446744073709551615 := by
 rw [List.getD_eq_getElem?_getD]
 cases e : ws[i]? with
 | none => simp
 | some x => exact h x (List.mem_of_getElem? e)
theorem Z0S {ws : List Int} (h : WOk ws) (a : Int) : 0 ≤ (loadA ws a).1 ∧ (loadA ws a).1 ≤ 18446744073709551615 := by
 unfold loadA
 split
 ·exact ZiQ h _
 ·simp
theorem Z2k (w : Int) (h : 0 ≤ w) : 0 ≤ (decodeH w).1.map ∧ (decodeH w).1.map ≤ 4294967295 := by
 unfold decodeH
 split
 ·exact Zaz w h
 ·simp [Z19]
theorem Z08 {h : Heap} (hp : Z02 h = true) : Z07 h.conf = true ∧ 16 ≤ h.conf.pw ∧ h.conf.pw ≤ 64 ∧ 8 ≤ h.conf.pg ∧ h.conf.pg ≤ 64 ∧ (h.words.length : Int) = h.conf.pw * h.conf.pg ∧ h.words.length ≤ 4096 ∧ (h.pages.length : Int) = h.conf.pg ∧ (h.space = 0 ∨ h.space = 1) := by
 simp only [Z02,Bool.and_eq_true] at hp
 obtain ⟨h1,h2,h3,h4⟩ := shapeB_iff.1 hp.1
 have hv := validB_iff.1 h1
 have := area h1
 exact ⟨h1,hv.1,hv.2.1,hv.2.2.2.1,hv.2.2.2.2,h2,by omega,h3,h4⟩
theorem Z3B {c : Conf} {a : Int} (hv : Z07 c = true) (h : (ofA c a).2.2 = 0) : 0 ≤ (ofA c a).1 ∧ (ofA c a).1 < c.pg ∧ 0 ≤ (ofA c a).2.1 ∧ (ofA c a).2.1 < c.pw ∧ 4096 ≤ a ∧ a < 4096 + c.pw * c.pg ∧ a = 4096 + ((ofA c a).1 * c.pw + (ofA c a).2.1) := by
 have hb := validB_iff.1 hv
 unfold ofA at h ⊢
 rw [if_pos hv] at h ⊢
 split at h
 ·rename_i hc
  rw [if_pos hc]
  simp only
  have h1 : 0 ≤ (a - 4096) / c.pw := Int.ediv_nonneg (by omega) (by omega)
  have h2 : (a - 4096) / c.pw < c.pg := Int.ediv_lt_of_lt_mul (by omega) (by rw [Int.mul_comm]; omega)
  have h3 := Int.emod_nonneg (a - 4096) (b := c.pw) (by omega)
  have h4 := Int.emod_lt_of_pos (a - 4096) (b := c.pw) (by omega)
  have h5 := Int.mul_ediv_add_emod (a - 4096) c.pw
  refine ⟨h1,h2,h3,h4,hc.1,hc.2, ?_⟩
  rw [Int.mul_comm] at h5
  omega
 ·simp at h
def atH (h : Heap) (a : Int) : Header × Int :=
 if Z02 h = true then
  (if (ofA h.conf a).2.2 = 0 then
   (if ((h.pages.getD (ofA h.conf a).1.toNat default).kind = 1 ∨ (h.pages.getD (ofA h.conf a).1.toNat default).kind = 2) ∧ (ofA h.conf a).2.1 < (h.pages.getD (ofA h.conf a).1.toNat default).used ∧ (decodeH (loadA h.words a).1).2 = true then
    (if ((h.pages.getD (ofA h.conf a).1.toNat default).kind = 1 ∧ (h.pages.getD (ofA h.conf a).1.toNat default).used < (ofA h.conf a).2.1 + sizeH (decodeH (loadA h.words a).1).1) ∨
      ((h.pages.getD (ofA h.conf a).1.toNat default).kind = 2 ∧ ((ofA h.conf a).2.1 ≠ 0 ∨ sizeH (decodeH (loadA h.words a).1).1 ≠ (h.pages.getD (ofA h.conf a).1.toNat default).used)) then (Z19,19)
     else ((decodeH (loadA h.words a).1).1,0))
    else (Z19,19))
   else (Z19,2))
 else (Z19,1)
theorem Z3e (h : Header) : 0 ≤ sizeH h ∧ sizeH h ≤ 256 := by
 unfold sizeH
 split
 ·have := validH_iff.1 ‹_›; omega
 ·omega
theorem Z4m (h : Heap) (a : Int) (hw : WOk h.words) (h0 : 0 ≤ a ∧ a ≤ 18446744073709551615) : GSpec Tryz.prog 19 [h.av,u64 a] true (.tu [(atH h a).1.av,int (atH h a).2]) [] := by
 have hr := Z0S hw a
 have hd := Z2k (loadA h.words a).1 hr.1
 have hs := Z3e (decodeH (loadA h.words a).1).1
 rcases bb (!Z02 h) with hc0 | hc0<;>have hc0p:=hc0<;>simp only [bs] at hc0p
 ·exact gF [] Tryz.func19 [true] (Fc 16 (@Z0m h) (Ft 17 hc0 (Fa (by simp [atH,Z19, *] : 0 =(atH h a).fst.kind) (Fa (by simp [atH,Z19, *] : 0 =(atH h a).fst.length) (Fa (by simp [atH,Z19, *] : 0 =(atH h a).fst.map) (Fa (by simp [atH,Z19, *] : 1 =(atH h a).snd) Fz))))))
 ·have hf5 := Z08 hc0p
  obtain ⟨hf5a,⟨hf5ba,⟨hf5bba,⟨hf5bbba,⟨hf5bbbba,⟨hf5bbbbba,⟨hf5bbbbbba,⟨hf5bbbbbbba,hf5bbbbbbbb⟩⟩⟩⟩⟩⟩⟩⟩ := hf5
  have Q0 {h_ c_ p_} (r_ : Fq h_ c_ p_) := Fc 16 (@Z0m h) (Ff 17 hc0 (Fc 23 (@Z47 h.conf a (by omega) (by omega)) r_))
  rcases bb ((ofA h.conf a).snd.snd != 0) with hc18 | hc18<;>have hc18p:=hc18<;>simp only [bs] at hc18p
  ·exact gF [] Tryz.func19 [true] (Q0 (Ft 28 hc18 (Fa (by simp [atH,Z19, *] : 0 =(atH h a).fst.kind) (Fa (by simp [atH,Z19, *] : 0 =(atH h a).fst.length) (Fa (by simp [atH,Z19, *] : 0 =(atH h a).fst.map) (Fa (by simp [atH,Z19, *] : 2 =(atH h a).snd) Fz))))))
  ·have hf25 := Z3B ‹_› hc18p
   obtain ⟨hf25a,⟨hf25ba,⟨hf25bba,⟨hf25bbba,⟨hf25bbbba,⟨hf25bbbbba,hf25bbbbbb⟩⟩⟩⟩⟩⟩ := hf25
   have Q1 {h_ c_ p_} (r_ : Fq h_ c_ p_) := Q0 (Ff 28 hc18 (Fe 33 Page.dv h.pages ((ofA h.conf a).fst) (Fc 39 (@Z1H h.words a (by omega) ‹_›) (Fc 44 (@Z2J ((loadA h.words a).fst) (by omega) (by omega)) r_))))
   rcases bb ((h.pages.getD (ofA h.conf a).fst.toNat default).kind != 1 && (h.pages.getD (ofA h.conf a).fst.toNat default).kind != 2 || decide ((h.pages.getD (ofA h.conf a).fst.toNat default).used ≤ (ofA h.conf a).snd.fst) || !(decodeH (loadA h.words a).fst).snd) with hc27 | hc27<;>have hc27p:=hc27<;>simp only [bs] at hc27p
   ·exact gF [] Tryz.func19 [false,false,false,false,false,false,false,false,false,true] (Q1 (Ft 64 hc27 (Fa (by grind [atH,Z19] : 0 =(atH h a).fst.kind) (Fa (by grind [atH,Z19] : 0 =(atH h a).fst.length) (Fa (by grind [atH,Z19] : 0 =(atH h a).fst.map) (Fa (by grind [atH,Z19] : 19 =(atH h a).snd) Fz))))))
   ·obtain ⟨⟨hc27paa,hc27pab⟩,hc27pb⟩ := hc27p
    have Q2 {h_ c_ p_} (r_ : Fq h_ c_ p_) := Q1 (Ff 64 hc27 (Fc 67 (@Z20 ((decodeH (loadA h.words a).fst).fst) ‹_›) (FiG 74 ((h.pages.getD (ofA h.conf a).fst.toNat default).kind == 1) ((ofA h.conf a).snd.fst + sizeH (decodeH (loadA h.words a).fst).fst) r_)))
    rcases bb ((h.pages.getD (ofA h.conf a).fst.toNat default).kind == 1 && decide ((h.pages.getD (ofA h.conf a).fst.toNat default).used < (ofA h.conf a).snd.fst + sizeH (decodeH (loadA h.words a).fst).fst) || (h.pages.getD (ofA h.conf a).fst.toNat default).kind == 2 && ((ofA h.conf a).snd.fst != 0 || sizeH (decodeH (loadA h.words a).fst).fst != (h.pages.getD (ofA h.conf a).fst.toNat default).used)) with hc40 | hc40<;>have hc40p:=hc40<;>simp only [bs] at hc40p
    ·exact gF [] Tryz.func19 [false,false,false,false,false,false,false,false,false,false,false,false,false,false,false,false,false,false,false,false,false,false,false,false,false,false,false,false,true] (Q2 (Ft 93 hc40 (Fa (by grind [atH,Z19] : 0 =(atH h a).fst.kind) (Fa (by grind [atH,Z19] : 0 =(atH h a).fst.length) (Fa (by grind [atH,Z19] : 0 =(atH h a).fst.map) (Fa (by grind [atH,Z19] : 19 =(atH h a).snd) Fz))))))
    ·obtain ⟨hc40pa,hc40pb⟩ := hc40p
     exact gF [] Tryz.func19 [false,false,false,false,false,false,false,false,false,false,false,false,false,false,false,false,false,false,false,false,false,false,false,false,false,false,false,false,true] (Q2 (Ff 93 hc40 (Fa (by grind [atH,Z19] : (decodeH (loadA h.words a).fst).fst.kind =(atH h a).fst.kind) (Fa (by grind [atH,Z19] : (decodeH (loadA h.words a).fst).fst.length =(atH h a).fst.length) (Fa (by grind [atH,Z19] : (decodeH (loadA h.words a).fst).fst.map =(atH h a).fst.map) (Fa (by grind [atH,Z19] : 0 =(atH h a).snd) Fz))))))
abbrev aP (h : Heap) (a : Int) : Page := h.pages.getD (ofA h.conf a).fst.toNat default
end Go.Proofs.YtjflpmnenhdeeaaGreat
namespace Go.Proofs.YtjflpmnenhdeeaaGreat
open Go.Sx Go.RowKit
theorem ZcJ {n : Nat} {l : List DV} (h : shp Tryz.prog (n + 2) 22 l) : ∃ m : List Int,l = [.sl 1 (m.map idv)] ∧ m.length ≤ 140737488355328 := by
 have e : shp Tryz.prog (n + 2) 22 l = (∃ els : List (List DV),l = [.sl 1 els] ∧ els.length ≤ 140737488355328 ∧ ∀ x ∈ els,shp Tryz.prog (n + 1) 3 x) := by kernel_rfl
 rw [e] at h
 obtain ⟨els,rfl,h1,h2⟩ := h
 obtain ⟨m,rfl⟩ := Z8w (f := idv) fun x hx => by
  obtain ⟨v,rfl,_⟩ := Zjd (h2 x hx)
  exact ⟨v,rfl⟩
 exact ⟨m,rfl,by simpa using h1⟩
end Go.Proofs.YtjflpmnenhdeeaaGreat
namespace Go.Proofs.YtjflpmnenhdeeaaGreat
open Go.Sx
theorem Z8D {w : Int} (h : (decodeH w).2 = true) : Z0i (decodeH w).1 = true := by
 unfold decodeH at h ⊢
 split at h
 ·rename_i hc
  rw [if_pos hc]
  have := hc.1
  unfold Z06 at this
  split at this
  ·assumption
  ·simp at this
 ·cases h
theorem ZcI {h : Heap} {a : Int} (e : (atH h a).2 = 0) : Z02 h = true ∧ (ofA h.conf a).2.2 = 0 ∧ 4096 ≤ a ∧ a < 8192 ∧ Z0i (atH h a).1 = true ∧ 0 ≤ (atH h a).1.kind ∧ (atH h a).1.kind ≤ 3 ∧ 0 ≤ (atH h a).1.length ∧ (atH h a).1.length ≤ 255 := by
 have key : Z02 h = true ∧ (ofA h.conf a).2.2 = 0 ∧ Z0i (atH h a).1 = true := by
  unfold atH at e ⊢
  split at e
  ·rename_i h1
   split at e
   ·rename_i h2
    split at e
    ·rename_i h3
     split at e
     ·simp at e
     ·rename_i h4
      rw [if_pos h1,if_pos h2,if_pos h3,if_neg h4]
      exact ⟨h1,h2,Z8D h3.2.2⟩
    ·simp at e
   ·simp at e
  ·simp at e
 obtain ⟨k1,k2,k3⟩ := key
 have p := Z08 k1
 have o := Z3B p.1 k2
 have v := validH_iff.1 k3
 have ar := area p.1
 exact ⟨k1,k2,o.2.2.2.2.1,by omega,k3,v.1,v.2.1,v.2.2.1,v.2.2.2.1⟩
theorem Z66 {h : Heap} (hw : WOk h.words) (a : Int) : 0 ≤ (atH h a).1.map ∧ (atH h a).1.map ≤ 4294967295 := by
 have hr := Z0S hw a
 have hd := Z2k (loadA h.words a).1 hr.1
 unfold atH
 repeat' split
 all_goals first | exact hd | simp [Z19]
def getH (h : Heap) (a : Int) : Header × Int := if Z02 h = true then (if a = 0 then (Z19,5) else if (atH h a).2 = 0 ∧ (atH h a).1.kind = 0 then (Z19,4) else atH h a) else (Z19,1)
theorem Z9s {h : Heap} (hw : WOk h.words) (a : Int) : 0 ≤ (getH h a).1.map ∧ (getH h a).1.map ≤ 4294967295 := by
 have := Z66 hw a
 unfold getH
 repeat' split
 all_goals first | exact this | simp [Z19]
theorem Z3T {h : Heap} {a : Int} (e : (getH h a).2 = 0) : getH h a = atH h a ∧ (atH h a).2 = 0 ∧ Z02 h = true ∧ (ofA h.conf a).2.2 = 0 ∧ 4096 ≤ a ∧ a < 8192 ∧ Z0i (getH h a).1 = true ∧ 1 ≤ (getH h a).1.kind ∧ (getH h a).1.kind ≤ 3 ∧ 0 ≤ (getH h a).1.length ∧ (getH h a).1.length ≤ 255 := by
 have key : getH h a = atH h a ∧ (atH h a).2 = 0 ∧ (atH h a).1.kind ≠ 0 := by
  unfold getH at e ⊢
  split at e
  ·rename_i h1
   split at e
   ·simp at e
   ·rename_i h2
    split at e
    ·simp at e
    ·rename_i h3
     rw [if_pos h1,if_neg h2,if_neg h3]
     exact ⟨rfl,e,fun h => h3 ⟨e,h⟩⟩
  ·simp at e
 obtain ⟨k1,k2,k3⟩ := key
 have k := ZcI k2
 rw [k1]
 exact ⟨rfl,k2,k.1,k.2.1,k.2.2.1,k.2.2.2.1,k.2.2.2.2.1,by omega,k.2.2.2.2.2.2.1,k.2.2.2.2.2.2.2.1,k.2.2.2.2.2.2.2.2⟩
theorem Z2U (h : Heap) (a : Int) (hw : WOk h.words) (h0 : 0 ≤ a ∧ a ≤ 18446744073709551615) : GSpec Tryz.prog 16 [h.av,u64 a] true (.tu [(getH h a).1.av,int (getH h a).2]) [] := by
 rcases bb (!Z02 h) with hc0 | hc0<;>have hc0p:=hc0<;>simp only [bs] at hc0p
 ·exact gF [] Tryz.func16 [true] (Fc 9 (@Z0m h) (Ft 10 hc0 (Fa (by simp [getH,Z19, *] : 0 =(getH h a).fst.kind) (Fa (by simp [getH,Z19, *] : 0 =(getH h a).fst.length) (Fa (by simp [getH,Z19, *] : 0 =(getH h a).fst.map) (Fa (by simp [getH,Z19, *] : 1 =(getH h a).snd) Fz))))))
 ·rcases bb (a == 0) with hc1 | hc1<;>have hc1p:=hc1<;>simp only [bs] at hc1p
  ·exact gF [] Tryz.func16 [true] (Fc 9 (@Z0m h) (Ff 10 hc0 (Ft 13 hc1 (Fa (by simp [getH,Z19, *] : 0 =(getH h a).fst.kind) (Fa (by simp [getH,Z19, *] : 0 =(getH h a).fst.length) (Fa (by simp [getH,Z19, *] : 0 =(getH h a).fst.map) (Fa (by simp [getH,Z19, *] : 5 =(getH h a).snd) Fz)))))))
  ·have Q0 {h_ c_ p_} (r_ : Fq h_ c_ p_) := Fc 9 (@Z0m h) (Ff 10 hc0 (Ff 13 hc1 (Fc 18 (@Z4m h a ‹_› ‹_›) r_)))
   rcases bb ((atH h a).snd == 0 && (atH h a).fst.kind == 0) with hc2 | hc2<;>have hc2p:=hc2<;>simp only [bs] at hc2p
   ·obtain ⟨hc2pa,hc2pb⟩ := hc2p
    exact gF [] Tryz.func16 [false,false,false,true] (Q0 (Ft 27 hc2 (Fa (by simp [getH,Z19, *] : 0 =(getH h a).fst.kind) (Fa (by simp [getH,Z19, *] : 0 =(getH h a).fst.length) (Fa (by simp [getH,Z19, *] : 0 =(getH h a).fst.map) (Fa (by simp [getH,Z19, *] : 4 =(getH h a).snd) Fz))))))
   ·exact gF [] Tryz.func16 [false,false,false,true] (Q0 (Ff 27 hc2 (Fa (by grind [getH,Z19] : (atH h a).fst.kind =(getH h a).fst.kind) (Fa (by grind [getH,Z19] : (atH h a).fst.length =(getH h a).fst.length) (Fa (by grind [getH,Z19] : (atH h a).fst.map =(getH h a).fst.map) (Fa (by grind [getH,Z19] : (atH h a).snd =(getH h a).snd) Fz))))))
def Z1p (h : Heap) (a i : Int) : Int × Int := if (getH h a).2 = 0 then (if 0 ≤ i ∧ i < (getH h a).1.length then loadA h.words (a + 1 + i) else (0,2)) else (0,(getH h a).2)
theorem Zar (h : Heap) (a i : Int) (hw : WOk h.words) (h0 : 0 ≤ a ∧ a ≤ 18446744073709551615) : GSpec Tryz.prog 136 [h.av,u64 a,int i] true (.tu [u64 (Z1p h a i).1,int (Z1p h a i).2]) [] := by
 have Q0 {h_ c_ p_} (r_ : Fq h_ c_ p_) := Fc 13 (@Z2U h a ‹_› ‹_›) r_
 rcases bb ((getH h a).snd != 0) with hc0 | hc0<;>have hc0p:=hc0<;>simp only [bs] at hc0p
 ·exact gF [] Tryz.func136 [true] (Q0 (Ft 17 hc0 (Fa (by simp [Z1p, *] : 0 =(Z1p h a i).fst) (Fa (by simp [Z1p, *] : (getH h a).snd =(Z1p h a i).snd) Fz))))
 ·have hf5 := Z3T hc0p
  obtain ⟨hf5a,⟨hf5ba,⟨hf5bba,⟨hf5bbba,⟨hf5bbbba,⟨hf5bbbbba,⟨hf5bbbbbba,⟨hf5bbbbbbba,⟨hf5bbbbbbbba,⟨hf5bbbbbbbbba,hf5bbbbbbbbbb⟩⟩⟩⟩⟩⟩⟩⟩⟩⟩ := hf5
  have hf11 := Z08 hf5bba
  obtain ⟨hf11a,⟨hf11ba,⟨hf11bba,⟨hf11bbba,⟨hf11bbbba,⟨hf11bbbbba,⟨hf11bbbbbba,⟨hf11bbbbbbba,hf11bbbbbbbb⟩⟩⟩⟩⟩⟩⟩⟩ := hf11
  rcases bb (decide (i < 0) || decide ((getH h a).fst.length ≤ i)) with hc20 | hc20<;>have hc20p:=hc20<;>simp only [bs] at hc20p
  ·exact gF [] Tryz.func136 [false,false,false,false,true] (Q0 (Ff 17 hc0 (Ft 26 hc20 (Fa (by grind [Z1p] : 0 =(Z1p h a i).fst) (Fa (by grind [Z1p] : 2 =(Z1p h a i).snd) Fz)))))
  ·obtain ⟨hc20pa,hc20pb⟩ := hc20p
   exact gF [] Tryz.func136 [false,false,false,false,true] (Q0 (Ff 17 hc0 (Ff 26 hc20 (Fv 30 (a + 1) (Fv 32 i (Fv 33 (a + 1 + i) (Fc 34 (@Z1H h.words (a + 1 + i) (by omega) (by omega)) (Fa (by grind [Z1p] : (loadA h.words (a + 1 + i)).fst =(Z1p h a i).fst) (Fa (by grind [Z1p] : (loadA h.words (a + 1 + i)).snd =(Z1p h a i).snd) Fz)))))))))
theorem ZgB {h : Heap} {a i : Int} (e : (Z1p h a i).2 = 0) : (getH h a).2 = 0 ∧ 0 ≤ i ∧ i < (getH h a).1.length := by
 unfold Z1p at e
 split at e
 ·split at e
  ·exact ⟨‹_›,‹_›⟩
  ·simp at e
 ·exact absurd e ‹_›
def Z0c (h : Heap) (a i v : Int) : Heap × Int := if (Z1p h a i).2 = 0 then ({ h with words := (Z0F h.words (a + 1 + i) v).1 },0) else (noHeap,(Z1p h a i).2)
theorem Z6m (h : Heap) (a i v : Int) (hw : WOk h.words) (h0 : 0 ≤ a ∧ a ≤ 18446744073709551615) : GSpec Tryz.prog 104 [h.av,u64 a,int i,u64 v] false (.tu [(Z0c h a i v).1.av,int (Z0c h a i v).2]) [] := by
 have Q0 {h_ c_ p_} (r_ : Fq h_ c_ p_) := Fc 16 (@Zar h a i ‹_› ‹_›) r_
 rcases bb ((Z1p h a i).snd != 0) with hc0 | hc0<;>have hc0p:=hc0<;>simp only [bs] at hc0p
 ·exact gF [] Tryz.func104 [true] (Q0 (Ft 20 hc0 (Fnl (Fnl (Fa (by simp [Z0c,noHeap, *] : 0 =(Z0c h a i v).fst.conf.pw) (Fa (by simp [Z0c,noHeap, *] : 0 =(Z0c h a i v).fst.conf.pg) (Fa (by simp [Z0c,noHeap, *] : [] =List.map wdv (Z0c h a i v).fst.words) (Fa (by simp [Z0c,noHeap, *] : [] =List.map Page.dv (Z0c h a i v).fst.pages) (Fa (by simp [Z0c,noHeap, *] : 0 =(Z0c h a i v).fst.space) (Fa (by simp [Z0c,noHeap, *] : 0 =(Z0c h a i v).fst.bump) (Fa (by simp [Z0c,noHeap, *] : (Z1p h a i).snd =(Z0c h a i v).snd) Fz)))))))))))
 ·have hf7 := ZgB hc0p
  obtain ⟨hf7a,⟨hf7ba,hf7bb⟩⟩ := hf7
  have hf11 := Z3T hf7a
  obtain ⟨hf11a,⟨hf11ba,⟨hf11bba,⟨hf11bbba,⟨hf11bbbba,⟨hf11bbbbba,⟨hf11bbbbbba,⟨hf11bbbbbbba,⟨hf11bbbbbbbba,⟨hf11bbbbbbbbba,hf11bbbbbbbbbb⟩⟩⟩⟩⟩⟩⟩⟩⟩⟩ := hf11
  have hf21 := Z08 hf11bba
  obtain ⟨hf21a,⟨hf21ba,⟨hf21bba,⟨hf21bbba,⟨hf21bbbba,⟨hf21bbbbba,⟨hf21bbbbbba,⟨hf21bbbbbbba,hf21bbbbbbbb⟩⟩⟩⟩⟩⟩⟩⟩ := hf21
  exact gF [] Tryz.func104 [true] (Q0 (Ff 20 hc0 (Fv 27 (a + 1) (Fv 29 i (Fv 30 (a + 1 + i) (Fc 32 (@Z7e h.words (a + 1 + i) v (by omega) (by omega)) (Fa (by simp [Z0c,noHeap, *] : h.conf.pw =(Z0c h a i v).fst.conf.pw) (Fa (by simp [Z0c,noHeap, *] : h.conf.pg =(Z0c h a i v).fst.conf.pg) (Fa (by refine congrArg _ ?_; simp [Z0c,noHeap, *] : List.map wdv (Z0F h.words (a + 1 + i) v).fst =List.map wdv (Z0c h a i v).fst.words) (Fa (by refine congrArg _ ?_; simp [Z0c,noHeap, *] : List.map Page.dv h.pages =List.map Page.dv (Z0c h a i v).fst.pages) (Fa (by simp [Z0c,noHeap, *] : h.space =(Z0c h a i v).fst.space) (Fa (by simp [Z0c,noHeap, *] : h.bump =(Z0c h a i v).fst.bump) (Fa (by simp [Z0c,noHeap, *] : 0 =(Z0c h a i v).snd) Fz)))))))))))))
def Z0e (h : Heap) (a : Int) : List Int × Int := if (getH h a).2 = 0 then Z15 h.words (a + 1) (getH h a).1.length else ([],(getH h a).2)
theorem Z3A (h : Heap) (a : Int) (hw : WOk h.words) (h0 : 0 ≤ a ∧ a ≤ 18446744073709551615) : GSpec Tryz.prog 15 [h.av,u64 a] false (.tu [Z01 (Z0e h a).1,int (Z0e h a).2]) [] := by
 have Q0 {h_ c_ p_} (r_ : Fq h_ c_ p_) := Fc 11 (@Z2U h a ‹_› ‹_›) r_
 rcases bb ((getH h a).snd != 0) with hc0 | hc0<;>have hc0p:=hc0<;>simp only [bs] at hc0p
 ·exact gF [] Tryz.func15 [true] (Q0 (Ft 15 hc0 (Fnl (Fa (by simp [Z0e, *] : [] =List.map wdv (Z0e h a).fst) (Fa (by simp [Z0e, *] : (getH h a).snd =(Z0e h a).snd) Fz)))))
 ·have hf5 := Z3T hc0p
  obtain ⟨hf5a,⟨hf5ba,⟨hf5bba,⟨hf5bbba,⟨hf5bbbba,⟨hf5bbbbba,⟨hf5bbbbbba,⟨hf5bbbbbbba,⟨hf5bbbbbbbba,⟨hf5bbbbbbbbba,hf5bbbbbbbbbb⟩⟩⟩⟩⟩⟩⟩⟩⟩⟩ := hf5
  have hf11 := Z08 hf5bba
  obtain ⟨hf11a,⟨hf11ba,⟨hf11bba,⟨hf11bbba,⟨hf11bbbba,⟨hf11bbbbba,⟨hf11bbbbbba,⟨hf11bbbbbbba,hf11bbbbbbbb⟩⟩⟩⟩⟩⟩⟩⟩ := hf11
  exact gF [] Tryz.func15 [true] (Q0 (Ff 15 hc0 (Fv 20 (a + 1) (Fc 23 (@Z9f h.words (a + 1) ((getH h a).fst.length) (by omega) (by omega)) (Fa (by refine congrArg _ ?_; simp [Z0e, *] : List.map wdv (Z15 h.words (a + 1) (getH h a).fst.length).fst =List.map wdv (Z0e h a).fst) (Fa (by simp [Z0e, *] : (Z15 h.words (a + 1) (getH h a).fst.length).snd =(Z0e h a).snd) Fz))))))
def objW (hd : Header) : List Int := (Z06 hd).1 :: List.replicate hd.length.toNat 0
def Z0u (h : Heap) (a : Int) (hd : Header) : Heap × Int := if Z02 h = true ∧ Z0i hd = true then (if (Z0b h.words a (objW hd)).2 = 0 then ({ h with words := (Z0b h.words a (objW hd)).1 },0) else (noHeap,(Z0b h.words a (objW hd)).2)) else (noHeap,1)
theorem Z8n {hd : Header} (h : (Z06 hd).2 = 0) : Z0i hd = true ∧ 0 ≤ hd.length ∧ hd.length ≤ 255 := by
 unfold Z06 at h
 split at h
 ·rename_i hv
  have := validH_iff.1 hv
  exact ⟨hv,this.2.2.1,this.2.2.2.1⟩
 ·simp at h
theorem ZbQ {hd : Header} (h : Z0i hd = true) : (Z06 hd).2 = 0 := by simp [Z06,h]
theorem Zae {h : Heap} {a : Int} {hd : Header} (e : Z02 h = false ∨ ¬ (Z06 hd).2 = 0) : Z0u h a hd = (noHeap,1) := by
 unfold Z0u
 rw [if_neg]
 rintro ⟨h1,h2⟩
 rcases e with e | e
 ·rw [h1] at e; cases e
 ·exact e (ZbQ h2)
theorem Zd0 (h : Heap) (a : Int) (hd : Header) (hw : WOk h.words) (h0 : 0 ≤ a ∧ a ≤ 18446744073709551615) (hm : 0 ≤ hd.map ∧ hd.map ≤ 4294967295) : GSpec Tryz.prog 135 [h.av,u64 a,hd.av] false (.tu [(Z0u h a hd).1.av,int (Z0u h a hd).2]) [] := by
 have Q0 {h_ c_ p_} (r_ : Fq h_ c_ p_) := Fc 13 (@Z33 hd ‹_›) (Fc 17 (@Z0m h) r_)
 rcases bb (!Z02 h || (Z06 hd).snd != 0) with hc0 | hc0<;>have hc0p:=hc0<;>simp only [bs] at hc0p
 ·have hf5 := Zae (a := a) hc0p
  exact gF [] Tryz.func135 [false,false,true] (Q0 (Ft 22 hc0 (Fnl (Fnl (Fa (by grind [Z0u,noHeap,objW] : 0 =(Z0u h a hd).fst.conf.pw) (Fa (by grind [Z0u,noHeap,objW] : 0 =(Z0u h a hd).fst.conf.pg) (Fa (by grind [Z0u,noHeap,objW] : [] =List.map wdv (Z0u h a hd).fst.words) (Fa (by grind [Z0u,noHeap,objW] : [] =List.map Page.dv (Z0u h a hd).fst.pages) (Fa (by grind [Z0u,noHeap,objW] : 0 =(Z0u h a hd).fst.space) (Fa (by grind [Z0u,noHeap,objW] : 0 =(Z0u h a hd).fst.bump) (Fa (by grind [Z0u,noHeap,objW] : 1 =(Z0u h a hd).snd) Fz)))))))))))
 ·obtain ⟨hc0pa,hc0pb⟩ := hc0p
  have hf7 := Z08 hc0pa
  obtain ⟨hf7a,⟨hf7ba,⟨hf7bba,⟨hf7bbba,⟨hf7bbbba,⟨hf7bbbbba,⟨hf7bbbbbba,⟨hf7bbbbbbba,hf7bbbbbbbb⟩⟩⟩⟩⟩⟩⟩⟩ := hf7
  have hf11 := Z8n hc0pb
  obtain ⟨hf11a,⟨hf11ba,hf11bb⟩⟩ := hf11
  have Q1 {h_ c_ p_} (r_ : Fq h_ c_ p_) := Q0 (Ff 22 hc0 (Fs 29 (List.map wdv [(Z06 hd).fst]) (Fa (by (simp [Z0u,noHeap,objW, *]; omega) : 0≤hd.length∧(↑(List.map wdv [(Z06 hd).fst]).length : Int) + hd.length≤2 ^ 30) (Fa (by simp [Z0u,noHeap,objW,List.map_take,List.map_drop,List.map_set,List.map_append,wdv,idv] : List.map wdv [(Z06 hd).fst] ++ List.replicate hd.length.toNat [du64 0] =List.map wdv ([(Z06 hd).fst] ++ List.replicate hd.length.toNat 0)) (Fc 33 (@Z4i h.words ([(Z06 hd).fst] ++ List.replicate hd.length.toNat 0) a (by omega) ‹_› (by (simp [Z0u,noHeap,objW, *]; omega))) r_)))))
  rcases bb ((Z0b h.words a ([(Z06 hd).fst] ++ List.replicate hd.length.toNat 0)).snd != 0) with hc37 | hc37<;>have hc37p:=hc37<;>simp only [bs] at hc37p
  ·exact gF [] Tryz.func135 [false,false,true] (Fh 32 [.els (List.map wdv ([(Z06 hd).fst] ++ List.replicate hd.length.toNat 0))] (Q1 (Ft 37 hc37 (Fnl (Fnl (Fa (by grind [Z0u,noHeap,objW] : 0 =(Z0u h a hd).fst.conf.pw) (Fa (by grind [Z0u,noHeap,objW] : 0 =(Z0u h a hd).fst.conf.pg) (Fa (by grind [Z0u,noHeap,objW] : [] =List.map wdv (Z0u h a hd).fst.words) (Fa (by grind [Z0u,noHeap,objW] : [] =List.map Page.dv (Z0u h a hd).fst.pages) (Fa (by grind [Z0u,noHeap,objW] : 0 =(Z0u h a hd).fst.space) (Fa (by grind [Z0u,noHeap,objW] : 0 =(Z0u h a hd).fst.bump) (Fa (by grind [Z0u,noHeap,objW] : (Z0b h.words a ([(Z06 hd).fst] ++ List.replicate hd.length.toNat 0)).snd =(Z0u h a hd).snd) Fz))))))))))))
  ·exact gF [] Tryz.func135 [false,false,true] (Fh 32 [.els (List.map wdv ([(Z06 hd).fst] ++ List.replicate hd.length.toNat 0))] (Q1 (Ff 37 hc37 (Fa (by grind [Z0u,noHeap,objW] : h.conf.pw =(Z0u h a hd).fst.conf.pw) (Fa (by grind [Z0u,noHeap,objW] : h.conf.pg =(Z0u h a hd).fst.conf.pg) (Fa (by refine congrArg _ ?_; grind [Z0u,noHeap,objW] : List.map wdv (Z0b h.words a ([(Z06 hd).fst] ++ List.replicate hd.length.toNat 0)).fst =List.map wdv (Z0u h a hd).fst.words) (Fa (by refine congrArg _ ?_; grind [Z0u,noHeap,objW] : List.map Page.dv h.pages =List.map Page.dv (Z0u h a hd).fst.pages) (Fa (by grind [Z0u,noHeap,objW] : h.space =(Z0u h a hd).fst.space) (Fa (by grind [Z0u,noHeap,objW] : h.bump =(Z0u h a hd).fst.bump) (Fa (by grind [Z0u,noHeap,objW] : 0 =(Z0u h a hd).snd) Fz))))))))))
def Z4z (l : List Page) (i k : Nat) : Bool := (List.range k).all fun j => (l.getD (i + j) default).kind == 0
theorem freeK_iff {l : List Page} {i k : Nat} : Z4z l i k = true ↔ ∀ j,j < k → (l.getD (i + j) default).kind = 0 := by
 simp [Z4z]
def tookP (l : List Page) (i k : Nat) (p q : Page) : List Page := (wr l (List.replicate k q) i k).set i p
def Z2f (l : List Page) (i : Int) (k : Int) (p q : Page) : List Page × Int := if 0 ≤ i ∧ i < l.length ∧ k ≤ l.length - i then (if Z4z l i.toNat k.toNat = true then (tookP l i.toNat k.toNat p q,0) else ([],20)) else ([],2)
theorem Z2c (l : List Page) : Z1m (l.map Page.dv) := by
 intro e he x hx
 obtain ⟨y,_,rfl⟩ := List.mem_map.1 he
 simp [Page.dv] at hx
 rcases hx with rfl | rfl | rfl | rfl <;> exact ⟨_,rfl⟩
theorem Z8Y {α : Type} {l m : List α} {i j : Nat} {d : α} (h : l[i]? = m[j]?) : l.getD i d = m.getD j d := by
 rw [List.getD_eq_getElem?_getD,List.getD_eq_getElem?_getD,h]
def Zbs (l : List Page) (i : Int) (k : Int) (p q : Page) (n : Nat) : Tg := ⟨tm 57 [(1,int i),(2,int k),(8,.pt 8008 0 0),(9,.pt 8009 0 0),(10,.d (.sl 0 [])),(11,int 0),(12,.ow 24032),(13,int n)],
 [(24032,.arr 56 4 ((wr l (List.replicate k.toNat q) i.toNat n).map Page.dv)),(8008,.box 56 [int p.kind,int p.space,int p.used,int p.pins]),(8009,.box 56 [int q.kind,int q.space,int q.used,int q.pins])],60⟩
section
variable (l : List Page) (i : Int) (k : Int) (p q : Page) (n : Nat) (hl : l.length ≤ 1048576) (hi : 0 ≤ i) (hk0 : 0 ≤ k) (hk : i.toNat + k.toNat ≤ l.length)
include hl hi hk0 hk
theorem Ziv (hn : n < k.toNat) : (wr l (List.replicate k.toNat q) i.toNat n).getD (i.toNat + n) default = l.getD (i.toNat + n) default := by
 refine Z8Y ?_
 rw [Z8U (by simpa using hk) (by simp; omega),if_neg (by omega),if_neg (by omega)]
theorem Zb6 (hn : n < k.toNat) (hf : (l.getD (i.toNat + n) default).kind = 0) : CSpec Tryz.prog (rndF Tryz.f166 0) (Zbs l i k p q n).st .nrm (Zbs l i k p q (n + 1)).st := by
 have hlen := Z4x (ws := l) (l := List.replicate k.toNat q) (i := i.toNat) (k := n) (by simpa using hk) (by simp; omega)
 have ha := Ziv l i k q n hl hi hk0 hk hn
 have hs := Z9r (ws := l) (l := List.replicate k.toNat q) (i := i.toNat) (k := n) (by simpa using hk) (by simp; omega) default
 have hd : (List.replicate k.toNat q).getD n default = q := by simp [List.getD,hn]
 rw [hd] at hs
 have ei : i + n = ((i.toNat + n : Nat) : Int) := by omega
 rw [← ha] at hf
 rcases bb (((wr l (List.replicate k.toNat q) i.toNat n).getD (↑(i.toNat + n) : Int).toNat default).kind != 0) with hc0 | hc0<;>have hc0p:=hc0<;>simp only [bs] at hc0p
 ·contradiction
 ·exact sF [] [false,false,false,false,false,false,false,false,true] (Fh 10051 [.els (List.map Page.dv ((wr l (List.replicate k.toNat q) i.toNat n).set (↑(i.toNat + n) : Int).toNat q))] (Ftb 35 (decide ((↑n : Int) < k)) (Fg 41 (by rw [wrapI' (by omega) (by omega)]; omega : IntKind.i64.wrap (i + (↑n : Int)) =(↑(i.toNat + n) : Int)) (Fm 44 Page.dv (wr l (List.replicate k.toNat q) i.toNat n) (↑(i.toNat + n) : Int) ((↑(i.toNat + n) : Int).toNat) (Ff 45 hc0 (Fg 49 (by rw [wrapI' (by omega) (by omega)]; omega : IntKind.i64.wrap (i + (↑n : Int)) =(↑(i.toNat + n) : Int)) (Fa (by (simp only [List.length_map]; omega) : 0≤(↑(i.toNat + n) : Int)∧(↑(i.toNat + n) : Int).toNat < (List.map Page.dv (wr l (List.replicate k.toNat q) i.toNat n)).length) (Fa (by (simp only [List.length_map]; omega) : (↑(i.toNat + n) : Int).toNat < (List.map Page.dv (wr l (List.replicate k.toNat q) i.toNat n)).length) (Fa (by rw [List.map_set]; rfl : (List.map Page.dv (wr l (List.replicate k.toNat q) i.toNat n)).set (↑(i.toNat + n) : Int).toNat [dint q.kind,dint q.space,dint q.used,dint q.pins] =List.map Page.dv ((wr l (List.replicate k.toNat q) i.toNat n).set (↑(i.toNat + n) : Int).toNat q)) (Fx 37 n (Fr (56 : Int) (Fa (by refine congrArg _ ?_; exact hs : List.map Page.dv ((wr l (List.replicate k.toNat q) i.toNat n).set (↑(i.toNat + n) : Int).toNat q) =List.map Page.dv (wr l (List.replicate k.toNat q) i.toNat (n + 1))) Fz))))))))))))
theorem ZiS (hn : n < k.toNat) (hf : ¬ (l.getD (i.toNat + n) default).kind = 0) : CSpec Tryz.prog (rndF Tryz.f166 0) (Zbs l i k p q n).st .ret (Tg.st ⟨tm 57 [(10,.d (.sl 0 [])),(11,int 20)],[],60⟩) := by
 have hlen := Z4x (ws := l) (l := List.replicate k.toNat q) (i := i.toNat) (k := n) (by simpa using hk) (by simp; omega)
 have ha := Ziv l i k q n hl hi hk0 hk hn
 have ei : i + n = ((i.toNat + n : Nat) : Int) := by omega
 rw [← ha] at hf
 rcases bb (((wr l (List.replicate k.toNat q) i.toNat n).getD (↑(i.toNat + n) : Int).toNat default).kind != 0) with hc0 | hc0<;>have hc0p:=hc0<;>simp only [bs] at hc0p
 ·exact sF [] [] (Ftb 35 (decide ((↑n : Int) < k)) (Fg 41 (by rw [wrapI' (by omega) (by omega)]; omega : IntKind.i64.wrap (i + (↑n : Int)) =(↑(i.toNat + n) : Int)) (Fm 44 Page.dv (wr l (List.replicate k.toNat q) i.toNat n) (↑(i.toNat + n) : Int) ((↑(i.toNat + n) : Int).toNat) (Ft 45 hc0 Fz))))
 ·contradiction
omit hl hi hk in
theorem Zjb : CSpec Tryz.prog (rndF Tryz.f166 0) (Zbs l i k p q k.toNat).st (.ext 0) (Tg.st ⟨tm 57 [(1,int i),(8,.pt 8008 0 0),(12,.ow 24032)],[(24032,.arr 56 4 ((wr l (List.replicate k.toNat q) i.toNat k.toNat).map Page.dv)),(8008,.box 56 [int p.kind,int p.space,int p.used,int p.pins])],60⟩) := by
 exact sF [] [] (Ffb 35 (decide ((↑k.toNat : Int) < k)) Fz)
theorem Zdc (hf : Z4z l i.toNat k.toNat = true) : CSpec Tryz.prog (blkF Tryz.f166 0) (Tg.st ⟨tm 57 [(1,int i),(2,int k),(8,.pt 8008 0 0),(9,.pt 8009 0 0),(10,.d (.sl 0 [])),(11,int 0),(12,.ow 24032),(13,int 0)],
 [(24032,.arr 56 4 (l.map Page.dv)),(8008,.box 56 [int p.kind,int p.space,int p.used,int p.pins]),(8009,.box 56 [int q.kind,int q.space,int q.used,int q.pins])],60⟩) .nrm
 (Tg.st ⟨tm 57 [(1,int i),(8,.pt 8008 0 0),(12,.ow 24032)],[(24032,.arr 56 4 ((wr l (List.replicate k.toNat q) i.toNat k.toNat).map Page.dv)),(8008,.box 56 [int p.kind,int p.space,int p.used,int p.pins])],60⟩) := by
 have := Z0d (S := fun n => (Zbs l i k p q n).st) k.toNat (by kernel_rfl) (fun n hn => Zb6 l i k p q n hl hi hk0 hk hn (freeK_iff.1 hf n hn)) (Zjb l i k p q hk0)
 simp only [Zbs,Z7K] at this
 exact this
theorem Zc6 (hf : Z4z l i.toNat k.toNat = false) : CSpec Tryz.prog (blkF Tryz.f166 0) (Tg.st ⟨tm 57 [(1,int i),(2,int k),(8,.pt 8008 0 0),(9,.pt 8009 0 0),(10,.d (.sl 0 [])),(11,int 0),(12,.ow 24032),(13,int 0)],
 [(24032,.arr 56 4 (l.map Page.dv)),(8008,.box 56 [int p.kind,int p.space,int p.used,int p.pins]),(8009,.box 56 [int q.kind,int q.space,int q.used,int q.pins])],60⟩) .ret
 (Tg.st ⟨tm 57 [(10,.d (.sl 0 [])),(11,int 20)],[],60⟩) := by
 obtain ⟨n,x,h1,h2,h3⟩ := Z4f hf
 have hn : n < k.toNat := by have := (List.getElem?_eq_some_iff.1 h1).1; simpa using this
 have hx : x = n := by simp [List.getElem?_range,hn] at h1; exact h1.symm
 subst hx
 have := Z0T (S := fun n => (Zbs l i k p q n).st) x (by kernel_rfl) (fun m hm => ?_) (ZiS l i k p q x hl hi hk0 hk hn (by simpa using h2))
 ·simp only [Zbs,Z7K] at this
  exact this
 ·obtain ⟨y,h4,h5⟩ := h3 m hm
  have hy : y = m := by simp [List.getElem?_range,show m < k.toNat from by omega] at h4; exact h4.symm
  subst hy
  exact Zb6 l i k p q y hl hi hk0 hk (by omega) (by simpa using h5)
end
theorem ZgU (l : List Page) (i : Int) (k : Int) (p q : Page) (hl : l.length ≤ 1048576) (hk : 1 ≤ k ∧ k ≤ 5) : GSpec Tryz.prog 166 [Z0o l,int i,int k,p.av,q.av] true (.tu [Z0o (Z2f l i k p q).1,int (Z2f l i k p q).2]) [] := by
  cases hf : Z4z l i.toNat k.toNat with
  | true =>
    have hw : i.toNat + k.toNat ≤ l.length → (wr l (List.replicate k.toNat q) i.toNat k.toNat).length = l.length := fun h => Z4x (by simpa using h) (by simp)
    rcases bb (decide (i < 0) || decide ((↑l.length : Int) ≤ i) || decide ((↑l.length : Int) - i < k)) with hc0 | hc0<;>have hc0p:=hc0<;>simp only [bs] at hc0p
    · exact gF [] Tryz.func166 [false,false,false,false,false,false,false,false,false,false,true] (FlG 19 (!decide (i < 0)) Page.dv l (FlG 25 (!(decide (i < 0) || decide ((↑l.length : Int) ≤ i))) Page.dv l (FiG 27 (!(decide (i < 0) || decide ((↑l.length : Int) ≤ i))) ((↑l.length : Int) - i) (Ft 29 hc0 (Fnl (Fa (by (simp only [Z2f,hf,tookP]; (repeat' split) <;> first | rfl | omega | (exfalso; omega) | simp_all) : [] = List.map Page.dv (Z2f l i k p q).fst) (Fa (by (simp only [Z2f,hf,tookP]; (repeat' split) <;> first | rfl | omega | (exfalso; omega) | simp_all) : 2 = (Z2f l i k p q).snd) Fz)))))))
    · obtain ⟨⟨hc0paa,hc0pab⟩,hc0pb⟩ := hc0p
      exact gF [] Tryz.func166 [false,false,false,false,false,false,false,false,false,false,false,false,false,false,false,false,false,false,false,false,false,true] (Fh 10055 [.els (List.map Page.dv ((wr l (List.replicate k.toNat q) i.toNat k.toNat).set i.toNat p))] (FlG 19 (!decide (i < 0)) Page.dv l (FlG 25 (!(decide (i < 0)||decide ((↑l.length : Int)≤i))) Page.dv l (FiG 27 (!(decide (i < 0)||decide ((↑l.length : Int)≤i))) ((↑l.length : Int) - i) (Ff 29 hc0 (Fs 30 (List.map Page.dv []) (Fa (by (simp [Z2f,hf,tookP, *]; omega) : (List.map Page.dv []).length + (List.map Page.dv l).length≤2 ^ 30) (Fs 32 (List.map Page.dv l) (Fu (@Zdc l i k p q ‹_› (by omega) (by omega) (by omega) ‹_›) (Fa (by (simp only [List.length_map]; omega) : 0≤i∧i.toNat < (List.map Page.dv (wr l (List.replicate k.toNat q) i.toNat k.toNat)).length) (Fa (by (simp only [List.length_map]; omega) : i.toNat < (List.map Page.dv (wr l (List.replicate k.toNat q) i.toNat k.toNat)).length) (Fa (by rw [List.map_set]; rfl : (List.map Page.dv (wr l (List.replicate k.toNat q) i.toNat k.toNat)).set i.toNat [dint p.kind,dint p.space,dint p.used,dint p.pins] =List.map Page.dv ((wr l (List.replicate k.toNat q) i.toNat k.toNat).set i.toNat p)) (Fa (by exact Z2c _ : Z1m (List.map Page.dv ((wr l (List.replicate k.toNat q) i.toNat k.toNat).set i.toNat p))) (Fa (by refine congrArg _ ?_; (simp only [Z2f,hf,tookP]; (repeat' split) <;> first | rfl | omega | (exfalso; omega) | simp_all) : List.map Page.dv ((wr l (List.replicate k.toNat q) i.toNat k.toNat).set i.toNat p) =List.map Page.dv (Z2f l i k p q).fst) (Fa (by (simp only [Z2f,hf,tookP]; (repeat' split) <;> first | rfl | omega | (exfalso; omega) | simp_all) : 0 =(Z2f l i k p q).snd) Fz)))))))))))))))
  | false => rcases Bool.eq_false_or_eq_true (decide (i < (0 : Int)) || decide ((↑l.length : Int) ≤ i) || decide ((↑l.length : Int) - i < k)) with hc0 | hc0
             · have hc0p := hc0
               simp only [bs] at hc0p
               exact gF [] Tryz.func166 [false,false,false,false,false,false,false,false,false,false,true] (FlG 19 (!decide (i < 0)) Page.dv l (FlG 25 (!(decide (i < 0)||decide ((↑l.length : Int)≤i))) Page.dv l (FiG 27 (!(decide (i < 0)||decide ((↑l.length : Int)≤i))) ((↑l.length : Int) - i) (Ft 29 ‹(decide (i < 0)||decide ((↑l.length : Int)≤i)||decide ((↑l.length : Int) - i < k)) =true› (Fnl (Fa (by (simp only [Z2f,hf]; (repeat' split) <;> first | rfl | omega | (exfalso; omega) | simp_all) : [] =List.map Page.dv (Z2f l i k p q).fst) (Fa (by (simp only [Z2f,hf]; (repeat' split) <;> first | rfl | omega | (exfalso; omega) | simp_all) : 2 =(Z2f l i k p q).snd) Fz)))))))
             · have hc0p := hc0
               simp only [bs] at hc0p
               obtain ⟨⟨hc0paa,hc0pab⟩,hc0pb⟩ := hc0p
               exact gF [] Tryz.func166 [false,false,false,false,false,false,false,false,false,false,false,false,false,false,false,false,false,false,false,false,false,true] (FlG 19 (!decide (i < 0)) Page.dv l (FlG 25 (!(decide (i < 0)||decide ((↑l.length : Int)≤i))) Page.dv l (FiG 27 (!(decide (i < 0)||decide ((↑l.length : Int)≤i))) ((↑l.length : Int) - i) (Ff 29 ‹(decide (i < 0)||decide ((↑l.length : Int)≤i)||decide ((↑l.length : Int) - i < k)) =false› (Fs 30 (List.map Page.dv []) (Fa (by (simp [Z2f,hf, *]; omega) : (List.map Page.dv []).length + (List.map Page.dv l).length≤2 ^ 30) (Fs 32 (List.map Page.dv l) (Fu (@Zc6 l i k p q ‹_› (by omega) (by omega) (by omega) ‹_›) (Fnl (Fa (by (simp only [Z2f,hf]; (repeat' split) <;> first | rfl | omega | (exfalso; omega) | simp_all) : [] =List.map Page.dv (Z2f l i k p q).fst) (Fa (by (simp only [Z2f,hf]; (repeat' split) <;> first | rfl | omega | (exfalso; omega) | simp_all) : 20 =(Z2f l i k p q).snd) Fz)))))))))))
theorem Zf0 (l : List Page) (i : Int) (k : Int) (p q : Page) (hl : l.length ≤ 1048576) (hk : 1 ≤ k ∧ k ≤ 5) (hi : 0 ≤ i ∧ i + k ≤ l.length) (hf : Z4z l i.toNat k.toNat = true) : GSpec Tryz.prog 166 [Z0o l,int i,int k,p.av,q.av] true (.tu [.ow 0,int 0]) [.arr 56 4 ((tookP l i.toNat k.toNat p q).map Page.dv)] := by
 have hw : (wr l (List.replicate k.toNat q) i.toNat k.toNat).length = l.length := Z4x (by simp; omega) (by simp)
 exact gF [24032] Tryz.func166 [] (Fh 10055 [.els (List.map Page.dv ((wr l (List.replicate k.toNat q) i.toNat k.toNat).set i.toNat p))] (FlG 19 (!decide (i < 0)) Page.dv l (FlG 25 (!(decide (i < 0)||decide ((↑l.length : Int)≤i))) Page.dv l (FiG 27 (!(decide (i < 0)||decide ((↑l.length : Int)≤i))) ((↑l.length : Int) - i) (Ffb 29 (decide (i < 0)||decide ((↑l.length : Int)≤i)||decide ((↑l.length : Int) - i < k)) (Fs 30 (List.map Page.dv []) (Fa (by (simp [tookP, *]; omega) : (List.map Page.dv []).length + (List.map Page.dv l).length≤2 ^ 30) (Fs 32 (List.map Page.dv l) (Fu (@Zdc l i k p q ‹_› (by omega) (by omega) (by omega) ‹_›) (Fa (by (simp only [List.length_map]; omega) : 0≤i∧i.toNat < (List.map Page.dv (wr l (List.replicate k.toNat q) i.toNat k.toNat)).length) (Fa (by (simp only [List.length_map]; omega) : i.toNat < (List.map Page.dv (wr l (List.replicate k.toNat q) i.toNat k.toNat)).length) (Fa (by rw [List.map_set]; rfl : (List.map Page.dv (wr l (List.replicate k.toNat q) i.toNat k.toNat)).set i.toNat [dint p.kind,dint p.space,dint p.used,dint p.pins] =List.map Page.dv ((wr l (List.replicate k.toNat q) i.toNat k.toNat).set i.toNat p)) (Fa (by exact Z2c _ : Z1m (List.map Page.dv ((wr l (List.replicate k.toNat q) i.toNat k.toNat).set i.toNat p))) Fz)))))))))))))
def Zio (l : List Page) (i sp : Int) : List Page × Int := if 0 ≤ sp ∧ sp ≤ 1 then Z2f l i 1 ⟨1,sp,0,0⟩ ⟨0,0,0,0⟩ else ([],1)
def Z1M (c : Conf) (l : List Page) (i sp n : Int) : List Page × Int := if 1 ≤ need c n ∧ 0 ≤ sp ∧ sp ≤ 1 then Z2f l i (need c n) ⟨2,sp,n,0⟩ ⟨3,sp,0,0⟩ else ([],1)
theorem Zgs (c : Conf) (l : List Page) (i sp n : Int) (hl : l.length ≤ 1048576) : GSpec Tryz.prog 157 [c.av,Z0o l,int i,int sp,int n] false (.tu [Z0o (Z1M c l i sp n).1,int (Z1M c l i sp n).2]) [] := by
 have hn := Z1I c n
 rcases bb (decide (need c n < 1) || decide (sp < 0) || decide (1 < sp)) with hc0 | hc0<;>have hc0p:=hc0<;>simp only [bs] at hc0p
 ·exact gF [] Tryz.func157 [false,false,false,false,true] (Fc 15 (@Z3V c n) (Ft 25 hc0 (Fnl (Fa (by (simp only [Z1M]; (repeat' split) <;> first | rfl | omega | (exfalso; omega) | simp_all) : [] =List.map Page.dv (Z1M c l i sp n).fst) (Fa (by (simp only [Z1M]; (repeat' split) <;> first | rfl | omega | (exfalso; omega) | simp_all) : 1 =(Z1M c l i sp n).snd) Fz)))))
 ·obtain ⟨⟨hc0paa,hc0pab⟩,hc0pb⟩ := hc0p
  exact gF [] Tryz.func157 [false,false,false,false,true] (Fc 15 (@Z3V c n) (Ff 25 hc0 (Fc 34 (@ZgU l i (need c n) (Page.mk 2 sp n 0) (Page.mk 3 sp 0 0) ‹_› (by omega)) (Fa (by refine congrArg _ ?_; (simp only [Z1M]; (repeat' split) <;> first | rfl | omega | (exfalso; omega) | simp_all) : List.map Page.dv (Z2f l i (need c n) (Page.mk 2 sp n 0) (Page.mk 3 sp 0 0)).fst =List.map Page.dv (Z1M c l i sp n).fst) (Fa (by (simp only [Z1M]; (repeat' split) <;> first | rfl | omega | (exfalso; omega) | simp_all) : (Z2f l i (need c n) (Page.mk 2 sp n 0) (Page.mk 3 sp 0 0)).snd =(Z1M c l i sp n).snd) Fz)))))
theorem Z8H (l : List Page) (i sp : Int) (hl : l.length ≤ 1048576) (hs : 0 ≤ sp ∧ sp ≤ 1) (hi : 0 ≤ i ∧ i + 1 ≤ l.length) (hf : Z4z l i.toNat 1 = true) : GSpec Tryz.prog 156 [Z0o l,int i,int sp] true (.tu [.ow 0,int 0]) [.arr 56 4 ((tookP l i.toNat 1 ⟨1,sp,0,0⟩ ⟨0,0,0,0⟩).map Page.dv)] := by
 exact gF [25019] Tryz.func156 [] (Ffb 13 (decide (sp < 0)||decide (1 < sp)) (Fc 19 (@Zf0 l i (1) (Page.mk 1 sp 0 0) (Page.mk 0 0 0 0) ‹_› (by omega) ‹_› ‹_›) (Fa (by exact Z2c _ : Z1m (List.map Page.dv (tookP l i.toNat (Int.toNat 1) (Page.mk 1 sp 0 0) (Page.mk 0 0 0 0)))) Fz)))
structure Run where
 frm : Int
 len : Int
 deriving DecidableEq,Inhabited
def Run.dv (r : Run) : List DV := [dint r.frm,dint r.len]
def Z5N (l : List Run) : AV := .d (.sl 2 (l.map Run.dv))
def Z0p (out : List Run) : Run := out.getLast?.getD ⟨0,0⟩
def Z30 (out : List Run) (i : Int) (p : Page) : List Run :=
 if p.kind = 0 then (if out ≠ [] ∧ (Z0p out).frm + (Z0p out).len = i then out.dropLast ++ [⟨(Z0p out).frm,(Z0p out).len + 1⟩] else out ++ [⟨i,1⟩]) else out
def Z05 (l : List Page) : Nat → List Run
 | 0 => []
 | i + 1 => Z30 (Z05 l i) i (Z17 l i)
theorem Z1Y {out : List Run} (h : out ≠ []) : out[out.length - 1]? = some (Z0p out) := by
 rw [← List.getLast?_eq_getElem?,Z0p,List.getLast?_eq_some_getLast h]
 rfl
theorem Z2h (l : List Page) : ∀ i,(Z05 l i).length ≤ i ∧ ∀ r ∈ Z05 l i,0 ≤ r.frm ∧ 1 ≤ r.len ∧ r.frm + r.len ≤ i
 | 0 => ⟨by simp [Z05],by simp [Z05]⟩
 | i + 1 => by
  obtain ⟨h1,h2⟩ := Z2h l i
  simp only [Z05,Z30]
  split
  ·split
   ·rename_i hc
    have hl := h2 _ (List.mem_of_getElem? (Z1Y hc.1))
    have hp : 0 < (Z05 l i).length := List.length_pos_iff.2 hc.1
    refine ⟨by simp; omega,fun r hr => ?_⟩
    rcases List.mem_append.1 hr with hr | hr
    ·have := h2 r (List.dropLast_subset _ hr)
     omega
    ·simp at hr; subst hr; simp only; omega
   ·refine ⟨by simp; omega,fun r hr => ?_⟩
    rcases List.mem_append.1 hr with hr | hr
    ·have := h2 r hr; omega
    ·simp at hr; subst hr; simp only; omega
  ·refine ⟨by omega,fun r hr => ?_⟩
   have := h2 r hr
   omega
theorem ZdC {out : List Run} {i : Nat} {r : Run} (h : out[i]? = some r) : (out.map Run.dv)[i]? = some r.dv := by simp [h]
theorem Zdn {out : List Run} (h : out ≠ []) (r : Run) : (out.map Run.dv).set (out.length - 1) r.dv = (out.dropLast ++ [r]).map Run.dv := by
 obtain ⟨a,b,rfl⟩ : ∃ a b,out = a ++ [b] := ⟨out.dropLast,out.getLast h,(List.dropLast_concat_getLast h).symm⟩
 simp
def Z5H (l : List Page) (i : Nat) : Tg := ⟨tm 54 [(3,.ow 16003),(7,Z0o l),(8,int l.length),(9,int i)],[(16003,.arr 187 2 ((Z05 l i).map Run.dv))],20⟩
theorem Z7X (l : List Page) (hl : l.length ≤ 1048576) (i : Nat) (p : Page) (hp : l[i]? = some p) (hk : p.kind ≠ 0) : CSpec Tryz.prog (rndF Tryz.f146 0) (Z5H l i).st .nrm (Z5H l (i + 1)).st := by
 have hi : i < l.length := (List.getElem?_eq_some_iff.1 hp).1
 obtain ⟨o1,o2⟩ := Z2h l i
 have e : Z5H l (i + 1) = ⟨tm 54 [(3,.ow 16003),(7,Z0o l),(8,int l.length),(9,int ((i + 1 : Nat) : Int))],[(16003,.arr 187 2 ((Z05 l i).map Run.dv))],20⟩ := by
  have hpa : Z17 l i = p := by simp [Z17,hp]
  rw [Z5H,Z05,Z30,hpa,if_neg hk]
 rw [e]
 refine Z40 [(10,[.br true]),(12,[.el p.dv]),(15,[.int (Z05 l i).length]),(16,[.int ((Z05 l i).length - 1 : Int)]),(25,[.br true]),(52,[.int ((i + 1 : Nat) : Int)])] [] [] (φ := decide ((↑i : Int) < (↑l.length : Int)) = true ∧ true = true ∧ ((0 : Int) ≤ (↑i : Int) ∧ (List.map Page.dv l)[(↑i : Int).toNat]? = some p.dv) ∧ (↑(List.map Run.dv (Z05 l i)).length : Int) = (↑(Z05 l i).length : Int) ∧ IntKind.i64.wrap ((↑(Z05 l i).length : Int) - (1 : Int)) = (↑(Z05 l i).length : Int) - (1 : Int) ∧ (p.kind != (0 : Int)) = true ∧ IntKind.i64.wrap ((↑i : Int) + (1 : Int)) = (↑(i + (1 : Nat)) : Int)) ?_ (by kernel_rfl) (by kernel_rfl) (by kernel_rfl)
 exact ⟨decide_eq_true (by omega),rfl,⟨by omega,Z1a hp⟩,by rw [List.length_map],Z0X (by omega) (by omega),by simp [hk],Z0X (by omega) (by omega)⟩
theorem Z7U (l : List Page) (hl : l.length ≤ 1048576) (i : Nat) (p : Page) (hp : l[i]? = some p) (hk : p.kind = 0) (ho : Z05 l i ≠ []) (hm : (Z0p (Z05 l i)).frm + (Z0p (Z05 l i)).len = i) : CSpec Tryz.prog (rndF Tryz.f146 0) (Z5H l i).st .nrm (Z5H l (i + 1)).st := by
 have hi : i < l.length := (List.getElem?_eq_some_iff.1 hp).1
 obtain ⟨o1,o2⟩ := Z2h l i
 have hlast := o2 _ (List.mem_of_getElem? (Z1Y ho))
 have hpos : 0 < (Z05 l i).length := List.length_pos_iff.2 ho
 have e : Z05 l (i + 1) = (Z05 l i).dropLast ++ [⟨(Z0p (Z05 l i)).frm,(Z0p (Z05 l i)).len + 1⟩] := by
  have hpa : Z17 l i = p := by simp [Z17,hp]
  rw [Z05,Z30,hpa,if_pos hk,if_pos ⟨ho,hm⟩]
 refine Z40 [(10,[.br true]),(12,[.el p.dv]),(15,[.int (Z05 l i).length]),(16,[.int ((Z05 l i).length - 1 : Int)]),(25,[.br false]),(34,[.el (Z0p (Z05 l i)).dv]),(39,[.el (Z0p (Z05 l i)).dv]),(40,[.int i]),(43,[.br true]),(48,[.el (Z0p (Z05 l i)).dv]),(49,[.int ((Z0p (Z05 l i)).len + 1)]),(10051,[.el (Z0p (Z05 l i)).dv,.els ((Z05 l (i + 1)).map Run.dv)]),(52,[.int ((i + 1 : Nat) : Int)])] [] [] (φ := decide ((↑i : Int) < (↑l.length : Int)) = true ∧ true = true ∧ ((0 : Int) ≤ (↑i : Int) ∧ (List.map Page.dv l)[(↑i : Int).toNat]? = some p.dv) ∧ (↑(List.map Run.dv (Z05 l i)).length : Int) = (↑(Z05 l i).length : Int) ∧ IntKind.i64.wrap ((↑(Z05 l i).length : Int) - (1 : Int)) = (↑(Z05 l i).length : Int) - (1 : Int) ∧ (p.kind != (0 : Int)) = false ∧ (decide ((0 : Int) ≤ (↑(Z05 l i).length : Int) - (1 : Int)) = true → (0 : Int) ≤ (↑(Z05 l i).length : Int) - (1 : Int) ∧ ((↑(Z05 l i).length : Int) - (1 : Int)).toNat < (List.map Run.dv (Z05 l i)).length) ∧ (decide ((0 : Int) ≤ (↑(Z05 l i).length : Int) - (1 : Int)) = true → (List.map Run.dv (Z05 l i))[((↑(Z05 l i).length : Int) - (1 : Int)).toNat]? = some (Z0p (Z05 l i)).dv) ∧ (decide ((0 : Int) ≤ (↑(Z05 l i).length : Int) - (1 : Int)) = true → (0 : Int) ≤ (↑(Z05 l i).length : Int) - (1 : Int) ∧ ((↑(Z05 l i).length : Int) - (1 : Int)).toNat < (List.map Run.dv (Z05 l i)).length) ∧ (decide ((0 : Int) ≤ (↑(Z05 l i).length : Int) - (1 : Int)) = true → (List.map Run.dv (Z05 l i))[((↑(Z05 l i).length : Int) - (1 : Int)).toNat]? = some (Z0p (Z05 l i)).dv) ∧ (decide ((0 : Int) ≤ (↑(Z05 l i).length : Int) - (1 : Int)) = true → IntKind.i64.wrap ((Z0p (Z05 l i)).frm + (Z0p (Z05 l i)).len) = (↑i : Int)) ∧ (decide ((0 : Int) ≤ (↑(Z05 l i).length : Int) - (1 : Int)) && (↑i : Int) == (↑i : Int)) = true ∧ ((0 : Int) ≤ (↑(Z05 l i).length : Int) - (1 : Int) ∧ ((↑(Z05 l i).length : Int) - (1 : Int)).toNat < (List.map Run.dv (Z05 l i)).length) ∧ (List.map Run.dv (Z05 l i))[((↑(Z05 l i).length : Int) - (1 : Int)).toNat]? = some (Z0p (Z05 l i)).dv ∧ IntKind.i64.wrap ((Z0p (Z05 l i)).len + (1 : Int)) = (Z0p (Z05 l i)).len + (1 : Int) ∧ ((0 : Int) ≤ (↑(Z05 l i).length : Int) - (1 : Int) ∧ ((↑(Z05 l i).length : Int) - (1 : Int)).toNat < (List.map Run.dv (Z05 l i)).length) ∧ (List.map Run.dv (Z05 l i))[((↑(Z05 l i).length : Int) - (1 : Int)).toNat]? = some (Z0p (Z05 l i)).dv ∧ (List.map Run.dv (Z05 l i)).set ((↑(Z05 l i).length : Int) - (1 : Int)).toNat (Z1C (Z0p (Z05 l i)).dv ((0 : Nat) + #[Field.mk "From" (3 : Nat) (0 : Nat) false "" "" (0 : Nat),Field.mk "Len" (3 : Nat) (1 : Nat) false "" "" (8 : Nat)][(1 : Nat)].3) [dint ((Z0p (Z05 l i)).len + (1 : Int))]) = List.map Run.dv (Z05 l (i + (1 : Nat))) ∧ IntKind.i64.wrap ((↑i : Int) + (1 : Int)) = (↑(i + (1 : Nat)) : Int)) ?_ (by kernel_rfl) (by kernel_rfl) (by kernel_rfl)
 have hidx : 0 ≤ ((Z05 l i).length : Int) - 1 ∧ (((Z05 l i).length : Int) - 1).toNat < (List.map Run.dv (Z05 l i)).length := by rw [List.length_map]; omega
 have hat : (List.map Run.dv (Z05 l i))[(((Z05 l i).length : Int) - 1).toNat]? = some (Z0p (Z05 l i)).dv := by
  rw [show (((Z05 l i).length : Int) - 1).toNat = (Z05 l i).length - 1 from by omega]
  exact ZdC (Z1Y ho)
 refine ⟨decide_eq_true (by omega),rfl,⟨by omega,Z1a hp⟩,by rw [List.length_map],Z0X (by omega) (by omega),by simp [hk],fun _ => hidx,fun _ => hat,fun _ => hidx,fun _ => hat,fun _ => by rw [hm]; exact Z0X (by omega) (by omega),by simp; omega,hidx,hat,Z0X (by omega) (by omega),hidx,hat, ?_,Z0X (by omega) (by omega)⟩
 rw [e,← Zdn ho,show (((Z05 l i).length : Int) - 1).toNat = (Z05 l i).length - 1 from by omega]
 rfl
theorem Z9W (l : List Page) (hl : l.length ≤ 1048576) (i : Nat) (p : Page) (hp : l[i]? = some p) (hk : p.kind = 0) (ho : ¬ (Z05 l i ≠ [] ∧ (Z0p (Z05 l i)).frm + (Z0p (Z05 l i)).len = i)) : CSpec Tryz.prog (rndF Tryz.f146 0) (Z5H l i).st .nrm (Z5H l (i + 1)).st := by
 have hi : i < l.length := (List.getElem?_eq_some_iff.1 hp).1
 obtain ⟨o1,o2⟩ := Z2h l i
 have e : Z05 l (i + 1) = Z05 l i ++ [⟨i,1⟩] := by
  have hpa : Z17 l i = p := by simp [Z17,hp]
  rw [Z05,Z30,hpa,if_pos hk,if_neg ho]
 refine Z40 [(10,[.br true]),(12,[.el p.dv]),(15,[.int (Z05 l i).length]),(16,[.int ((Z05 l i).length - 1 : Int)]),(25,[.br false]),(34,[.el (Z0p (Z05 l i)).dv]),(39,[.el (Z0p (Z05 l i)).dv]),(43,[.br false]),(21,[.els ((Z05 l (i + 1)).map Run.dv)]),(52,[.int ((i + 1 : Nat) : Int)])] [] [(200021,16003)] (φ := decide ((↑i : Int) < (↑l.length : Int)) = true ∧ true = true ∧ ((0 : Int) ≤ (↑i : Int) ∧ (List.map Page.dv l)[(↑i : Int).toNat]? = some p.dv) ∧ (↑(List.map Run.dv (Z05 l i)).length : Int) = (↑(Z05 l i).length : Int) ∧ IntKind.i64.wrap ((↑(Z05 l i).length : Int) - (1 : Int)) = (↑(Z05 l i).length : Int) - (1 : Int) ∧ (p.kind != (0 : Int)) = false ∧ (decide ((0 : Int) ≤ (↑(Z05 l i).length : Int) - (1 : Int)) = true → (0 : Int) ≤ (↑(Z05 l i).length : Int) - (1 : Int) ∧ ((↑(Z05 l i).length : Int) - (1 : Int)).toNat < (List.map Run.dv (Z05 l i)).length) ∧ (decide ((0 : Int) ≤ (↑(Z05 l i).length : Int) - (1 : Int)) = true → (List.map Run.dv (Z05 l i))[((↑(Z05 l i).length : Int) - (1 : Int)).toNat]? = some (Z0p (Z05 l i)).dv) ∧ (decide ((0 : Int) ≤ (↑(Z05 l i).length : Int) - (1 : Int)) = true → (0 : Int) ≤ (↑(Z05 l i).length : Int) - (1 : Int) ∧ ((↑(Z05 l i).length : Int) - (1 : Int)).toNat < (List.map Run.dv (Z05 l i)).length) ∧ (decide ((0 : Int) ≤ (↑(Z05 l i).length : Int) - (1 : Int)) = true → (List.map Run.dv (Z05 l i))[((↑(Z05 l i).length : Int) - (1 : Int)).toNat]? = some (Z0p (Z05 l i)).dv) ∧ (decide ((0 : Int) ≤ (↑(Z05 l i).length : Int) - (1 : Int)) && IntKind.i64.wrap ((Z0p (Z05 l i)).frm + (Z0p (Z05 l i)).len) == (↑i : Int)) = false ∧ (List.map Run.dv (Z05 l i)).length + ((List.replicate (1 : Nat) [dint (0 : Int),dint (0 : Int)]).set (0 : Nat) [dint (↑i : Int),dint (1 : Int)]).length ≤ (2 : Nat) ^ (30 : Nat) ∧ List.map Run.dv (Z05 l i) ++ (List.replicate (1 : Nat) [dint (0 : Int),dint (0 : Int)]).set (0 : Nat) [dint (↑i : Int),dint (1 : Int)] = List.map Run.dv (Z05 l (i + (1 : Nat))) ∧ IntKind.i64.wrap ((↑i : Int) + (1 : Int)) = (↑(i + (1 : Nat)) : Int)) ?_ (by kernel_rfl) (by kernel_rfl) (by kernel_rfl)
 have hne : decide (0 ≤ ((Z05 l i).length : Int) - 1) = true → Z05 l i ≠ [] := by
  intro hd h0
  rw [h0] at hd
  simp at hd
 have hidx : decide (0 ≤ ((Z05 l i).length : Int) - 1) = true → 0 ≤ ((Z05 l i).length : Int) - 1 ∧ (((Z05 l i).length : Int) - 1).toNat < (List.map Run.dv (Z05 l i)).length := by
  intro hd
  have := of_decide_eq_true hd
  rw [List.length_map]; omega
 have hat : decide (0 ≤ ((Z05 l i).length : Int) - 1) = true → (List.map Run.dv (Z05 l i))[(((Z05 l i).length : Int) - 1).toNat]? = some (Z0p (Z05 l i)).dv := by
  intro hd
  rw [show (((Z05 l i).length : Int) - 1).toNat = (Z05 l i).length - 1 from by omega]
  exact ZdC (Z1Y (hne hd))
 refine ⟨decide_eq_true (by omega),rfl,⟨by omega,Z1a hp⟩,by rw [List.length_map],Z0X (by omega) (by omega),by simp [hk],hidx,hat,hidx,hat, ?_,by rw [List.length_map]; simp; omega,by rw [e]; simp [Run.dv],Z0X (by omega) (by omega)⟩
 cases hd : decide (0 ≤ ((Z05 l i).length : Int) - 1) with
 | false => simp
 | true =>
  have h1 := hne hd
  have hlast := o2 _ (List.mem_of_getElem? (Z1Y h1))
  rw [Z0X (by omega) (by omega)]
  simp
  intro hh
  exact ho ⟨h1,hh⟩
theorem Zf2 (l : List Page) (hl : l.length ≤ 1048576) (i : Nat) (hi : i < l.length) : CSpec Tryz.prog (rndF Tryz.f146 0) (Z5H l i).st .nrm (Z5H l (i + 1)).st := by
 have hp := List.getElem?_eq_getElem hi
 by_cases hk : l[i].kind = 0
 ·by_cases ho : Z05 l i ≠ [] ∧ (Z0p (Z05 l i)).frm + (Z0p (Z05 l i)).len = i
  ·exact Z7U l hl i _ hp hk ho.1 ho.2
  ·exact Z9W l hl i _ hp hk ho
 ·exact Z7X l hl i _ hp hk
theorem Zja (l : List Page) : CSpec Tryz.prog (rndF Tryz.f146 0) (Z5H l l.length).st (.ext 0) (Tg.st ⟨tm 54 [(3,.ow 16003)],[(16003,.arr 187 2 ((Z05 l l.length).map Run.dv))],60⟩) := by
 refine Z1v [(10,[.br false])] [] (φ := decide ((↑l.length : Int) < (↑l.length : Int)) = false ∧ false = false) ?_ (by kernel_rfl) (by kernel_rfl) (by kernel_rfl)
 exact ⟨decide_eq_false (by omega),rfl⟩
def runs (l : List Page) : List Run := Z05 l l.length
theorem Zdv (l : List Page) (hl : l.length ≤ 1048576) : GSpec Tryz.prog 146 [Z0o l] false (Z5N (runs l)) [] := by
 refine Z0j [(3,[.own]),(8,[.int l.length])] [(0,Z5H l 0,.nrm,⟨tm 54 [(3,.ow 16003)],[(16003,.arr 187 2 ((Z05 l l.length).map Run.dv))],60⟩)] [] (by decide) Tryz.func146 (φ := (↑(List.map Page.dv l).length : Int) = (↑l.length : Int) ∧ CSpec Tryz.prog (blkF Tryz.f146 (0 : Nat)) (Z5H l (0 : Nat)).st Ex.nrm (Tg.mk (tm (54 : Nat) [((3 : Nat),AV.ow (16003 : Nat))]) [((16003 : Nat),Blk.arr 187 (2 : Nat) (List.map Run.dv (Z05 l l.length)))] (60 : Nat)).st) ?_ (by kernel_rfl) (by kernel_rfl)
 exact ⟨by rw [List.length_map],Z0d (S := fun i => (Z5H l i).st) l.length (by kernel_rfl) (fun i hi => Zf2 l hl i hi) (Zja l)⟩
def Z3h (l : List Page) (i : Nat) : Tg := ⟨tm 54 [(0,Z0o l),(3,.ow 16003),(4,int i)],[(16003,.arr 187 2 ((Z05 l i).map Run.dv))],20⟩
theorem Z7a (l : List Page) (hl : l.length ≤ 1048576) (i : Nat) (p : Page) (hp : l[i]? = some p) (hk : p.kind ≠ 0) : CSpec Tryz.prog (rndF Tryz.f165 0) (Z3h l i).st .nrm (Z3h l (i + 1)).st := by
 have hi : i < l.length := (List.getElem?_eq_some_iff.1 hp).1
 have e : Z3h l (i + 1) = ⟨tm 54 [(0,Z0o l),(3,.ow 16003),(4,int ((i + 1 : Nat) : Int))],[(16003,.arr 187 2 ((Z05 l i).map Run.dv))],20⟩ := by
  have hpa : Z17 l i = p := by simp [Z17,hp]
  rw [Z3h,Z05,Z30,hpa,if_neg hk]
 rw [e]
 refine Z40 [(8,[.int l.length]),(9,[.br true]),(14,[.el p.dv]),(17,[.br true]),(11,[.int ((i + 1 : Nat) : Int)])] [] [] (φ := (↑(List.map Page.dv l).length : Int) = (↑l.length : Int) ∧ decide ((↑i : Int) < (↑l.length : Int)) = true ∧ true = true ∧ ((0 : Int) ≤ (↑i : Int) ∧ (List.map Page.dv l)[(↑i : Int).toNat]? = some p.dv) ∧ (p.kind != (0 : Int)) = true ∧ true = true ∧ IntKind.i64.wrap ((↑i : Int) + (1 : Int)) = (↑(i + (1 : Nat)) : Int)) ?_ (by kernel_rfl) (by kernel_rfl) (by kernel_rfl)
 exact ⟨by rw [List.length_map],decide_eq_true (by omega),rfl,⟨by omega,Z1a hp⟩,by simp [hk],rfl,Z0X (by omega) (by omega)⟩
theorem Z7h (l : List Page) (hl : l.length ≤ 1048576) (i : Nat) (p : Page) (hp : l[i]? = some p) (hk : p.kind = 0) (ho : Z05 l i ≠ []) (hm : (Z0p (Z05 l i)).frm + (Z0p (Z05 l i)).len = i) : CSpec Tryz.prog (rndF Tryz.f165 0) (Z3h l i).st .nrm (Z3h l (i + 1)).st := by
 have hi : i < l.length := (List.getElem?_eq_some_iff.1 hp).1
 obtain ⟨o1,o2⟩ := Z2h l i
 have hlast := o2 _ (List.mem_of_getElem? (Z1Y ho))
 have hpos : 0 < (Z05 l i).length := List.length_pos_iff.2 ho
 have e : Z05 l (i + 1) = (Z05 l i).dropLast ++ [⟨(Z0p (Z05 l i)).frm,(Z0p (Z05 l i)).len + 1⟩] := by
  have hpa : Z17 l i = p := by simp [Z17,hp]
  rw [Z05,Z30,hpa,if_pos hk,if_pos ⟨ho,hm⟩]
 have hidx : 0 ≤ ((Z05 l i).length : Int) - 1 ∧ (((Z05 l i).length : Int) - 1).toNat < (List.map Run.dv (Z05 l i)).length := by rw [List.length_map]; omega
 have hat : (List.map Run.dv (Z05 l i))[(((Z05 l i).length : Int) - 1).toNat]? = some (Z0p (Z05 l i)).dv := by
  rw [show (((Z05 l i).length : Int) - 1).toNat = (Z05 l i).length - 1 from by omega]
  exact ZdC (Z1Y ho)
 have hset : (List.map Run.dv (Z05 l i)).set (((Z05 l i).length : Int) - 1).toNat [dint (Z0p (Z05 l i)).frm,dint ((Z0p (Z05 l i)).len + 1)] = List.map Run.dv (Z05 l (i + 1)) := by
  rw [e,← Zdn ho,show (((Z05 l i).length : Int) - 1).toNat = (Z05 l i).length - 1 from by omega]
  rfl
 have hw : IntKind.i64.wrap (((Z05 l i).length : Int) - 1) = ((Z05 l i).length : Int) - 1 := Z0X (by omega) (by omega)
 refine Z40 [(8,[.int l.length]),(9,[.br true]),(14,[.el p.dv]),(17,[.br false]),(19,[.int (Z05 l i).length]),(25,[.int ((Z05 l i).length - 1 : Int)]),(28,[.el (Z0p (Z05 l i)).dv]),(31,[.int ((Z05 l i).length - 1 : Int)]),(34,[.el (Z0p (Z05 l i)).dv]),(35,[.int i]),(38,[.br true]),(41,[.int ((Z05 l i).length - 1 : Int)]),(44,[.el (Z0p (Z05 l i)).dv]),(45,[.int ((Z0p (Z05 l i)).len + 1)]),(10047,[.el (Z0p (Z05 l i)).dv,.els ((Z05 l (i + 1)).map Run.dv)]),(11,[.int ((i + 1 : Nat) : Int)])] [] [] (φ := (↑(List.map Page.dv l).length : Int) = (↑l.length : Int) ∧ decide ((↑i : Int) < (↑l.length : Int)) = true ∧ true = true ∧ ((0 : Int) ≤ (↑i : Int) ∧ (List.map Page.dv l)[(↑i : Int).toNat]? = some p.dv) ∧ (p.kind != (0 : Int)) = false ∧ false = false ∧ (↑(List.map Run.dv (Z05 l i)).length : Int) = (↑(Z05 l i).length : Int) ∧ (decide ((0 : Int) < (↑(Z05 l i).length : Int)) = true → IntKind.i64.wrap ((↑(Z05 l i).length : Int) - (1 : Int)) = (↑(Z05 l i).length : Int) - (1 : Int)) ∧ (decide ((0 : Int) < (↑(Z05 l i).length : Int)) = true → (0 : Int) ≤ (↑(Z05 l i).length : Int) - (1 : Int) ∧ ((↑(Z05 l i).length : Int) - (1 : Int)).toNat < (List.map Run.dv (Z05 l i)).length) ∧ (decide ((0 : Int) < (↑(Z05 l i).length : Int)) = true → (List.map Run.dv (Z05 l i))[((↑(Z05 l i).length : Int) - (1 : Int)).toNat]? = some (Z0p (Z05 l i)).dv) ∧ (decide ((0 : Int) < (↑(Z05 l i).length : Int)) = true → IntKind.i64.wrap ((↑(Z05 l i).length : Int) - (1 : Int)) = (↑(Z05 l i).length : Int) - (1 : Int)) ∧ (decide ((0 : Int) < (↑(Z05 l i).length : Int)) = true → (0 : Int) ≤ (↑(Z05 l i).length : Int) - (1 : Int) ∧ ((↑(Z05 l i).length : Int) - (1 : Int)).toNat < (List.map Run.dv (Z05 l i)).length) ∧ (decide ((0 : Int) < (↑(Z05 l i).length : Int)) = true → (List.map Run.dv (Z05 l i))[((↑(Z05 l i).length : Int) - (1 : Int)).toNat]? = some (Z0p (Z05 l i)).dv) ∧ (decide ((0 : Int) < (↑(Z05 l i).length : Int)) = true → IntKind.i64.wrap ((Z0p (Z05 l i)).frm + (Z0p (Z05 l i)).len) = (↑i : Int)) ∧ (decide ((0 : Int) < (↑(Z05 l i).length : Int)) && (↑i : Int) == (↑i : Int)) = true ∧ true = true ∧ IntKind.i64.wrap ((↑(Z05 l i).length : Int) - (1 : Int)) = (↑(Z05 l i).length : Int) - (1 : Int) ∧ ((0 : Int) ≤ (↑(Z05 l i).length : Int) - (1 : Int) ∧ ((↑(Z05 l i).length : Int) - (1 : Int)).toNat < (List.map Run.dv (Z05 l i)).length) ∧ (List.map Run.dv (Z05 l i))[((↑(Z05 l i).length : Int) - (1 : Int)).toNat]? = some (Z0p (Z05 l i)).dv ∧ IntKind.i64.wrap ((Z0p (Z05 l i)).len + (1 : Int)) = (Z0p (Z05 l i)).len + (1 : Int) ∧ ((0 : Int) ≤ (↑(Z05 l i).length : Int) - (1 : Int) ∧ ((↑(Z05 l i).length : Int) - (1 : Int)).toNat < (List.map Run.dv (Z05 l i)).length) ∧ (List.map Run.dv (Z05 l i))[((↑(Z05 l i).length : Int) - (1 : Int)).toNat]? = some (Z0p (Z05 l i)).dv ∧ (List.map Run.dv (Z05 l i)).set ((↑(Z05 l i).length : Int) - (1 : Int)).toNat (Z1C (Z0p (Z05 l i)).dv ((0 : Nat) + #[Field.mk "From" (3 : Nat) (0 : Nat) false "" "" (0 : Nat),Field.mk "Len" (3 : Nat) (1 : Nat) false "" "" (8 : Nat)][(1 : Nat)].3) [dint ((Z0p (Z05 l i)).len + (1 : Int))]) = List.map Run.dv (Z05 l (i + (1 : Nat))) ∧ IntKind.i64.wrap ((↑i : Int) + (1 : Int)) = (↑(i + (1 : Nat)) : Int)) ?_ (by kernel_rfl) (by kernel_rfl) (by kernel_rfl)
 exact ⟨by rw [List.length_map],decide_eq_true (by omega),rfl,⟨by omega,Z1a hp⟩,by simp [hk],rfl,by rw [List.length_map],fun _ => hw,fun _ => hidx,fun _ => hat,fun _ => hw,fun _ => hidx,fun _ => hat,fun _ => by rw [hm]; exact Z0X (by omega) (by omega),by simp; omega,rfl,hw,hidx,hat,Z0X (by omega) (by omega),hidx,hat,hset,Z0X (by omega) (by omega)⟩
theorem Z88 (l : List Page) (hl : l.length ≤ 1048576) (i : Nat) (p : Page) (hp : l[i]? = some p) (hk : p.kind = 0) (ho : ¬ (Z05 l i ≠ [] ∧ (Z0p (Z05 l i)).frm + (Z0p (Z05 l i)).len = i)) : CSpec Tryz.prog (rndF Tryz.f165 0) (Z3h l i).st .nrm (Z3h l (i + 1)).st := by
 have hi : i < l.length := (List.getElem?_eq_some_iff.1 hp).1
 obtain ⟨o1,o2⟩ := Z2h l i
 have e : Z05 l (i + 1) = Z05 l i ++ [⟨i,1⟩] := by
  have hpa : Z17 l i = p := by simp [Z17,hp]
  rw [Z05,Z30,hpa,if_pos hk,if_neg ho]
 have hne : decide (0 < ((Z05 l i).length : Int)) = true → Z05 l i ≠ [] := by
  intro hd h0
  rw [h0] at hd
  simp at hd
 have hidx : decide (0 < ((Z05 l i).length : Int)) = true → 0 ≤ ((Z05 l i).length : Int) - 1 ∧ (((Z05 l i).length : Int) - 1).toNat < (List.map Run.dv (Z05 l i)).length := by
  intro hd
  have := of_decide_eq_true hd
  rw [List.length_map]; omega
 have hat : decide (0 < ((Z05 l i).length : Int)) = true → (List.map Run.dv (Z05 l i))[(((Z05 l i).length : Int) - 1).toNat]? = some (Z0p (Z05 l i)).dv := by
  intro hd
  rw [show (((Z05 l i).length : Int) - 1).toNat = (Z05 l i).length - 1 from by omega]
  exact ZdC (Z1Y (hne hd))
 have hw : IntKind.i64.wrap (((Z05 l i).length : Int) - 1) = ((Z05 l i).length : Int) - 1 := Z0X (by omega) (by omega)
 refine Z40 [(8,[.int l.length]),(9,[.br true]),(14,[.el p.dv]),(17,[.br false]),(19,[.int (Z05 l i).length]),(25,[.int ((Z05 l i).length - 1 : Int)]),(28,[.el (Z0p (Z05 l i)).dv]),(31,[.int ((Z05 l i).length - 1 : Int)]),(34,[.el (Z0p (Z05 l i)).dv]),(38,[.br false]),(52,[.els ((Z05 l (i + 1)).map Run.dv)]),(11,[.int ((i + 1 : Nat) : Int)])] [] [(192052,16003)] (φ := (↑(List.map Page.dv l).length : Int) = (↑l.length : Int) ∧ decide ((↑i : Int) < (↑l.length : Int)) = true ∧ true = true ∧ ((0 : Int) ≤ (↑i : Int) ∧ (List.map Page.dv l)[(↑i : Int).toNat]? = some p.dv) ∧ (p.kind != (0 : Int)) = false ∧ false = false ∧ (↑(List.map Run.dv (Z05 l i)).length : Int) = (↑(Z05 l i).length : Int) ∧ (decide ((0 : Int) < (↑(Z05 l i).length : Int)) = true → IntKind.i64.wrap ((↑(Z05 l i).length : Int) - (1 : Int)) = (↑(Z05 l i).length : Int) - (1 : Int)) ∧ (decide ((0 : Int) < (↑(Z05 l i).length : Int)) = true → (0 : Int) ≤ (↑(Z05 l i).length : Int) - (1 : Int) ∧ ((↑(Z05 l i).length : Int) - (1 : Int)).toNat < (List.map Run.dv (Z05 l i)).length) ∧ (decide ((0 : Int) < (↑(Z05 l i).length : Int)) = true → (List.map Run.dv (Z05 l i))[((↑(Z05 l i).length : Int) - (1 : Int)).toNat]? = some (Z0p (Z05 l i)).dv) ∧ (decide ((0 : Int) < (↑(Z05 l i).length : Int)) = true → IntKind.i64.wrap ((↑(Z05 l i).length : Int) - (1 : Int)) = (↑(Z05 l i).length : Int) - (1 : Int)) ∧ (decide ((0 : Int) < (↑(Z05 l i).length : Int)) = true → (0 : Int) ≤ (↑(Z05 l i).length : Int) - (1 : Int) ∧ ((↑(Z05 l i).length : Int) - (1 : Int)).toNat < (List.map Run.dv (Z05 l i)).length) ∧ (decide ((0 : Int) < (↑(Z05 l i).length : Int)) = true → (List.map Run.dv (Z05 l i))[((↑(Z05 l i).length : Int) - (1 : Int)).toNat]? = some (Z0p (Z05 l i)).dv) ∧ (decide ((0 : Int) < (↑(Z05 l i).length : Int)) && IntKind.i64.wrap ((Z0p (Z05 l i)).frm + (Z0p (Z05 l i)).len) == (↑i : Int)) = false ∧ false = false ∧ (List.map Run.dv (Z05 l i)).length + ((List.replicate (1 : Nat) [dint (0 : Int),dint (0 : Int)]).set (0 : Nat) [dint (↑i : Int),dint (1 : Int)]).length ≤ (2 : Nat) ^ (30 : Nat) ∧ List.map Run.dv (Z05 l i) ++ (List.replicate (1 : Nat) [dint (0 : Int),dint (0 : Int)]).set (0 : Nat) [dint (↑i : Int),dint (1 : Int)] = List.map Run.dv (Z05 l (i + (1 : Nat))) ∧ IntKind.i64.wrap ((↑i : Int) + (1 : Int)) = (↑(i + (1 : Nat)) : Int)) ?_ (by kernel_rfl) (by kernel_rfl) (by kernel_rfl)
 refine ⟨by rw [List.length_map],decide_eq_true (by omega),rfl,⟨by omega,Z1a hp⟩,by simp [hk],rfl,by rw [List.length_map],fun _ => hw,hidx,hat,fun _ => hw,hidx,hat, ?_,rfl,by rw [List.length_map]; simp; omega,by rw [e]; simp [Run.dv],Z0X (by omega) (by omega)⟩
 cases hd : decide (0 < ((Z05 l i).length : Int)) with
 | false => simp
 | true =>
  have h1 := hne hd
  have hlast := o2 _ (List.mem_of_getElem? (Z1Y h1))
  rw [Z0X (by omega) (by omega)]
  simp
  intro hh
  exact ho ⟨h1,hh⟩
theorem Zex (l : List Page) (hl : l.length ≤ 1048576) (i : Nat) (hi : i < l.length) : CSpec Tryz.prog (rndF Tryz.f165 0) (Z3h l i).st .nrm (Z3h l (i + 1)).st := by
 have hp := List.getElem?_eq_getElem hi
 by_cases hk : l[i].kind = 0
 ·by_cases ho : Z05 l i ≠ [] ∧ (Z0p (Z05 l i)).frm + (Z0p (Z05 l i)).len = i
  ·exact Z7h l hl i _ hp hk ho.1 ho.2
  ·exact Z88 l hl i _ hp hk ho
 ·exact Z7a l hl i _ hp hk
theorem Zi2 (l : List Page) : CSpec Tryz.prog (rndF Tryz.f165 0) (Z3h l l.length).st (.ext 0) (Tg.st ⟨tm 54 [(3,.ow 16003)],[(16003,.arr 187 2 ((Z05 l l.length).map Run.dv))],60⟩) := by
 refine Z1v [(8,[.int l.length]),(9,[.br false])] [] (φ := (↑(List.map Page.dv l).length : Int) = (↑l.length : Int) ∧ decide ((↑l.length : Int) < (↑l.length : Int)) = false ∧ false = false) ?_ (by kernel_rfl) (by kernel_rfl) (by kernel_rfl)
 exact ⟨by rw [List.length_map],decide_eq_false (by omega),rfl⟩
theorem Zc4 (l : List Page) (hl : l.length ≤ 1048576) : GSpec Tryz.prog 165 [Z0o l] false (Z5N (runs l)) [] := by
 refine Z0j [(3,[.own])] [(0,Z3h l 0,.nrm,⟨tm 54 [(3,.ow 16003)],[(16003,.arr 187 2 ((Z05 l l.length).map Run.dv))],60⟩)] [] (by decide) Tryz.func165 (φ := CSpec Tryz.prog (blkF Tryz.f165 (0 : Nat)) (Z3h l (0 : Nat)).st Ex.nrm (Tg.mk (tm (54 : Nat) [((3 : Nat),AV.ow (16003 : Nat))]) [((16003 : Nat),Blk.arr 187 (2 : Nat) (List.map Run.dv (Z05 l l.length)))] (60 : Nat)).st) ?_ (by kernel_rfl) (by kernel_rfl)
 exact Z0d (S := fun i => (Z3h l i).st) l.length (by kernel_rfl) (fun i hi => Zex l hl i hi) (Zi2 l)
theorem Z6X {l : List Run} {i : Nat} {p : Run} (h : l[i]? = some p) : (l.map Run.dv)[((i : Nat) : Int).toNat]? = some p.dv := by simp [h]
def Z1F (l : List Page) : Nat → Nat
 | 0 => 0
 | i + 1 => Z1F l i + (if (Z17 l i).kind = 0 then 0 else 1)
theorem Z5F (l : List Page) : ∀ i,Z1F l i ≤ i
 | 0 => Nat.le_refl _
 | i + 1 => by
  have := Z5F l i
  simp only [Z1F]
  split <;> omega
def Z0H (l : List Page) : Nat := Z1F l l.length
def Z6l (l : List Page) (i : Nat) : Tg := ⟨tm 19 [(3,int (Z1F l i)),(6,Z0o l),(7,int l.length),(8,int i)],[],20⟩
theorem ZdP (l : List Page) (hl : l.length ≤ 1048576) (i : Nat) (hi : i < l.length) : CSpec Tryz.prog (rndF Tryz.f92 0) (Z6l l i).st .nrm (Z6l l (i + 1)).st := by
 have hp := List.getElem?_eq_getElem hi
 have hle := Z5F l i
 have hpa : Z17 l i = l[i] := by simp [Z17,hp]
 by_cases hk : l[i].kind = 0
 ·have e : Z1F l (i + 1) = Z1F l i := by rw [Z1F,hpa,if_pos hk]; rfl
  rw [show Z6l l (i + 1) = ⟨tm 19 [(3,int (Z1F l i)),(6,Z0o l),(7,int l.length),(8,int ((i + 1 : Nat) : Int))],[],20⟩ from by rw [Z6l,e]]
  refine Z1v [(9,[.br true]),(10,[.el l[i].dv]),(14,[.br false]),(17,[.int ((i + 1 : Nat) : Int)])] [] (φ := decide ((↑i : Int) < (↑l.length : Int)) = true ∧ true = true ∧ ((0 : Int) ≤ (↑i : Int) ∧ (List.map Page.dv l)[(↑i : Int).toNat]? = some (l.get (Fin.mk i hi)).dv) ∧ ((l.get (Fin.mk i hi)).kind != (0 : Int)) = false ∧ false = false ∧ IntKind.i64.wrap ((↑i : Int) + (1 : Int)) = (↑(i + (1 : Nat)) : Int)) ?_ (by kernel_rfl) (by kernel_rfl) (by kernel_rfl)
  exact ⟨decide_eq_true (by omega),rfl,⟨by omega,Z1a hp⟩,by simp [hk],rfl,Z0X (by omega) (by omega)⟩
 ·have e : Z1F l (i + 1) = Z1F l i + 1 := by rw [Z1F,hpa,if_neg hk]
  refine Z1v [(9,[.br true]),(10,[.el l[i].dv]),(14,[.br true]),(16,[.int (Z1F l (i + 1))]),(17,[.int ((i + 1 : Nat) : Int)])] [] (φ := decide ((↑i : Int) < (↑l.length : Int)) = true ∧ true = true ∧ ((0 : Int) ≤ (↑i : Int) ∧ (List.map Page.dv l)[(↑i : Int).toNat]? = some (l.get (Fin.mk i hi)).dv) ∧ ((l.get (Fin.mk i hi)).kind != (0 : Int)) = true ∧ true = true ∧ IntKind.i64.wrap ((↑(Z1F l i) : Int) + (1 : Int)) = (↑(Z1F l (i + (1 : Nat))) : Int) ∧ IntKind.i64.wrap ((↑i : Int) + (1 : Int)) = (↑(i + (1 : Nat)) : Int)) ?_ (by kernel_rfl) (by kernel_rfl) (by kernel_rfl)
  exact ⟨decide_eq_true (by omega),rfl,⟨by omega,Z1a hp⟩,by simp [hk],rfl,by rw [e]; exact Z0X (by omega) (by omega),Z0X (by omega) (by omega)⟩
theorem ZgP (l : List Page) : CSpec Tryz.prog (rndF Tryz.f92 0) (Z6l l l.length).st (.ext 0) (Tg.st ⟨tm 19 [(3,int (Z0H l))],[],60⟩) := by
 refine Z1v [(9,[.br false])] [] (φ := decide ((↑l.length : Int) < (↑l.length : Int)) = false ∧ false = false) ?_ (by kernel_rfl) (by kernel_rfl) (by kernel_rfl)
 exact ⟨decide_eq_false (by omega),rfl⟩
theorem Z2Q (l : List Page) (hl : l.length ≤ 1048576) : GSpec Tryz.prog 92 [Z0o l] true (int (Z0H l)) [] := by
 refine Z0j [(7,[.int l.length])] [(0,Z6l l 0,.nrm,⟨tm 19 [(3,int (Z0H l))],[],60⟩)] [] (by decide) Tryz.func92 (φ := (↑(List.map Page.dv l).length : Int) = (↑l.length : Int) ∧ CSpec Tryz.prog (blkF Tryz.f92 (0 : Nat)) (Z6l l (0 : Nat)).st Ex.nrm (Tg.mk (tm (19 : Nat) [((3 : Nat),int (↑(Z0H l) : Int))]) [] (60 : Nat)).st) ?_ (by kernel_rfl) (by kernel_rfl)
 exact ⟨by rw [List.length_map],Z0d (S := fun i => (Z6l l i).st) l.length (by kernel_rfl) (fun i hi => ZdP l hl i hi) (ZgP l)⟩
def Z4g (l : List Page) (i : Nat) : Tg := ⟨tm 20 [(0,Z0o l),(3,int (Z1F l i)),(4,int i)],[],20⟩
theorem Zck (l : List Page) (hl : l.length ≤ 1048576) (i : Nat) (hi : i < l.length) : CSpec Tryz.prog (rndF Tryz.f154 0) (Z4g l i).st .nrm (Z4g l (i + 1)).st := by
 have hp := List.getElem?_eq_getElem hi
 have hle := Z5F l i
 have hpa : Z17 l i = l[i] := by simp [Z17,hp]
 by_cases hk : l[i].kind = 0
 ·have e : Z1F l (i + 1) = Z1F l i := by rw [Z1F,hpa,if_pos hk]; rfl
  rw [show Z4g l (i + 1) = ⟨tm 20 [(0,Z0o l),(3,int (Z1F l i)),(4,int ((i + 1 : Nat) : Int))],[],20⟩ from by rw [Z4g,e]]
  refine Z1v [(7,[.int l.length]),(8,[.br true]),(13,[.el l[i].dv]),(16,[.br false]),(10,[.int ((i + 1 : Nat) : Int)])] [] (φ := (↑(List.map Page.dv l).length : Int) = (↑l.length : Int) ∧ decide ((↑i : Int) < (↑l.length : Int)) = true ∧ true = true ∧ ((0 : Int) ≤ (↑i : Int) ∧ (List.map Page.dv l)[(↑i : Int).toNat]? = some (l.get (Fin.mk i hi)).dv) ∧ ((l.get (Fin.mk i hi)).kind != (0 : Int)) = false ∧ false = false ∧ IntKind.i64.wrap ((↑i : Int) + (1 : Int)) = (↑(i + (1 : Nat)) : Int)) ?_ (by kernel_rfl) (by kernel_rfl) (by kernel_rfl)
  exact ⟨by rw [List.length_map],decide_eq_true (by omega),rfl,⟨by omega,Z1a hp⟩,by simp [hk],rfl,Z0X (by omega) (by omega)⟩
 ·have e : Z1F l (i + 1) = Z1F l i + 1 := by rw [Z1F,hpa,if_neg hk]
  refine Z1v [(7,[.int l.length]),(8,[.br true]),(13,[.el l[i].dv]),(16,[.br true]),(18,[.int (Z1F l (i + 1))]),(10,[.int ((i + 1 : Nat) : Int)])] [] (φ := (↑(List.map Page.dv l).length : Int) = (↑l.length : Int) ∧ decide ((↑i : Int) < (↑l.length : Int)) = true ∧ true = true ∧ ((0 : Int) ≤ (↑i : Int) ∧ (List.map Page.dv l)[(↑i : Int).toNat]? = some (l.get (Fin.mk i hi)).dv) ∧ ((l.get (Fin.mk i hi)).kind != (0 : Int)) = true ∧ true = true ∧ IntKind.i64.wrap ((↑(Z1F l i) : Int) + (1 : Int)) = (↑(Z1F l (i + (1 : Nat))) : Int) ∧ IntKind.i64.wrap ((↑i : Int) + (1 : Int)) = (↑(i + (1 : Nat)) : Int)) ?_ (by kernel_rfl) (by kernel_rfl) (by kernel_rfl)
  exact ⟨by rw [List.length_map],decide_eq_true (by omega),rfl,⟨by omega,Z1a hp⟩,by simp [hk],rfl,by rw [e]; exact Z0X (by omega) (by omega),Z0X (by omega) (by omega)⟩
theorem Zfj (l : List Page) : CSpec Tryz.prog (rndF Tryz.f154 0) (Z4g l l.length).st (.ext 0) (Tg.st ⟨tm 20 [(3,int (Z0H l))],[],60⟩) := by
 refine Z1v [(7,[.int l.length]),(8,[.br false])] [] (φ := (↑(List.map Page.dv l).length : Int) = (↑l.length : Int) ∧ decide ((↑l.length : Int) < (↑l.length : Int)) = false ∧ false = false) ?_ (by kernel_rfl) (by kernel_rfl) (by kernel_rfl)
 exact ⟨by rw [List.length_map],decide_eq_false (by omega),rfl⟩
theorem Z5p (l : List Page) (hl : l.length ≤ 1048576) : GSpec Tryz.prog 154 [Z0o l] true (int (Z0H l)) [] := by
 refine Z0j [] [(0,Z4g l 0,.nrm,⟨tm 20 [(3,int (Z0H l))],[],60⟩)] [] (by decide) Tryz.func154 (φ := CSpec Tryz.prog (blkF Tryz.f154 (0 : Nat)) (Z4g l (0 : Nat)).st Ex.nrm (Tg.mk (tm (20 : Nat) [((3 : Nat),int (↑(Z0H l) : Int))]) [] (60 : Nat)).st) ?_ (by kernel_rfl) (by kernel_rfl)
 exact Z0d (S := fun i => (Z4g l i).st) l.length (by kernel_rfl) (fun i hi => Zck l hl i hi) (Zfj l)
def Z2v : List Run → Int → Int
 | [],_ => -1
 | r :: l,k => if k ≤ r.len then r.frm else Z2v l k
def first (l : List Page) (k : Int) : Int := if k < 1 then -1 else Z2v (runs l) k
theorem Z48 : ∀ {l : List Run} {k : Int},(l.all fun r => decide (r.len < k)) = true → Z2v l k = -1
 | [],_,_ => rfl
 | r :: l,k,h => by
  simp only [List.all_cons,Bool.and_eq_true,decide_eq_true_eq] at h
  rw [Z2v,if_neg (by omega),Z48 h.2]
theorem Z49 : ∀ {l : List Run} {k : Int} {j : Nat} {r : Run},l[j]? = some r → k ≤ r.len → (∀ i : Nat,i < j → ∃ y,l[i]? = some y ∧ decide (y.len < k) = true) → Z2v l k = r.frm
 | [],_,_,_,h,_,_ => by simp at h
 | x :: l,k,0,r,h,hr,_ => by
  simp at h; subst h
  rw [Z2v,if_pos hr]
 | x :: l,k,j + 1,r,h,hr,hb => by
  obtain ⟨y,h1,h2⟩ := hb 0 (by omega)
  simp at h1 h2; subst h1
  rw [Z2v,if_neg (by omega)]
  exact Z49 (by simpa using h) hr fun i hi => by
   obtain ⟨z,h3,h4⟩ := hb (i + 1) (by omega)
   exact ⟨z,by simpa using h3,h4⟩
theorem Zd9 {l : List Page} : (runs l).length ≤ l.length := (Z2h l l.length).1
def Z55 (rs : List Run) (k : Int) (i : Nat) : Tg := ⟨tm 23 [(1,int k),(4,int 0),(10,Z5N rs),(11,int rs.length),(12,int i)],[],20⟩
theorem Z8p (rs : List Run) (k : Int) (i : Nat) (r : Run) (hl : rs.length ≤ 1048576) (hr : rs[i]? = some r) (hk : r.len < k) : CSpec Tryz.prog (rndF Tryz.f114 0) (Z55 rs k i).st .nrm (Z55 rs k (i + 1)).st := by
 have hi : i < rs.length := (List.getElem?_eq_some_iff.1 hr).1
 refine Z1v [(13,[.br true]),(14,[.el r.dv]),(19,[.br false]),(22,[.int ((i + 1 : Nat) : Int)])] [] (φ := decide ((↑i : Int) < (↑rs.length : Int)) = true ∧ true = true ∧ ((0 : Int) ≤ (↑i : Int) ∧ (List.map Run.dv rs)[(↑i : Int).toNat]? = some r.dv) ∧ decide (k ≤ r.len) = false ∧ false = false ∧ IntKind.i64.wrap ((↑i : Int) + (1 : Int)) = (↑(i + (1 : Nat)) : Int)) ?_ (by kernel_rfl) (by kernel_rfl) (by kernel_rfl)
 exact ⟨decide_eq_true (by omega),rfl,⟨by omega,Z6X hr⟩,decide_eq_false (by omega),rfl,Z0X (by omega) (by omega)⟩
theorem ZdN (rs : List Run) (k : Int) (i : Nat) (r : Run) (hr : rs[i]? = some r) (hk : k ≤ r.len) : CSpec Tryz.prog (rndF Tryz.f114 0) (Z55 rs k i).st .ret (Tg.st ⟨tm 23 [(4,int r.frm)],[],60⟩) := by
 have hi : i < rs.length := (List.getElem?_eq_some_iff.1 hr).1
 refine Z1v [(13,[.br true]),(14,[.el r.dv]),(19,[.br true])] [] (φ := decide ((↑i : Int) < (↑rs.length : Int)) = true ∧ true = true ∧ ((0 : Int) ≤ (↑i : Int) ∧ (List.map Run.dv rs)[(↑i : Int).toNat]? = some r.dv) ∧ decide (k ≤ r.len) = true ∧ true = true) ?_ (by kernel_rfl) (by kernel_rfl) (by kernel_rfl)
 exact ⟨decide_eq_true (by omega),rfl,⟨by omega,Z6X hr⟩,decide_eq_true (by omega),rfl⟩
theorem Zh2 (rs : List Run) (k : Int) : CSpec Tryz.prog (rndF Tryz.f114 0) (Z55 rs k rs.length).st (.ext 0) (Tg.st ⟨tm 23 [],[],60⟩) := by
 refine Z1v [(13,[.br false])] [] (φ := decide ((↑rs.length : Int) < (↑rs.length : Int)) = false ∧ false = false) ?_ (by kernel_rfl) (by kernel_rfl) (by kernel_rfl)
 exact ⟨decide_eq_false (by omega),rfl⟩
theorem Z3r (l : List Page) (k : Int) (hl : l.length ≤ 1048576) : GSpec Tryz.prog 114 [Z0o l,int k] true (int (first l k)) [] := by
 by_cases hk : k < 1
 ·rw [first,if_pos hk]
  refine Z0j [(8,[.br true])] [] [] (by decide) Tryz.func114 (φ := decide (k < (1 : Int)) = true ∧ true = true) ?_ (by kernel_rfl) (by kernel_rfl)
  exact ⟨decide_eq_true hk,rfl⟩
 ·rw [first,if_neg hk]
  have hrl := Zd9 (l := l)
  cases ha : (runs l).all fun r => decide (r.len < k) with
  | true =>
   rw [Z48 ha]
   refine Z0j [(8,[.br false]),(10,[.call false (Z5N (runs l)) []]),(11,[.int (runs l).length])] [(0,Z55 (runs l) k 0,.nrm,⟨tm 23 [],[],60⟩)] [] (by decide) Tryz.func114 (φ := decide (k < (1 : Int)) = false ∧ false = false ∧ GSpec Tryz.prog 146 [AV.d (DV.sl (4 : Nat) (List.map Page.dv l))] false (Z5N (runs l)) [] ∧ (↑(List.map Run.dv (runs l)).length : Int) = (↑(runs l).length : Int) ∧ CSpec Tryz.prog (blkF Tryz.f114 (0 : Nat)) (Z55 (runs l) k (0 : Nat)).st Ex.nrm (Tg.mk (tm (23 : Nat) []) [] (60 : Nat)).st) ?_ (by kernel_rfl) (by kernel_rfl)
   refine ⟨decide_eq_false hk,rfl,Zdv l hl,by rw [List.length_map],Z0d (S := fun i => (Z55 (runs l) k i).st) (runs l).length (by kernel_rfl) (fun i hi => ?_) (Zh2 _ _)⟩
   have := List.all_eq_true.1 ha _ (List.getElem_mem hi)
   exact Z8p _ k i _ (by omega) (List.getElem?_eq_getElem hi) (by simpa using this)
  | false =>
   obtain ⟨j,r,h1,h2,h3⟩ := Z4f ha
   have hr : k ≤ r.len := by simpa using h2
   rw [Z49 h1 hr h3]
   refine Z0j [(8,[.br false]),(10,[.call false (Z5N (runs l)) []]),(11,[.int (runs l).length])] [(0,Z55 (runs l) k 0,.ret,⟨tm 23 [(4,int r.frm)],[],60⟩)] [] (by decide) Tryz.func114 (φ := decide (k < (1 : Int)) = false ∧ false = false ∧ GSpec Tryz.prog 146 [AV.d (DV.sl (4 : Nat) (List.map Page.dv l))] false (Z5N (runs l)) [] ∧ (↑(List.map Run.dv (runs l)).length : Int) = (↑(runs l).length : Int) ∧ CSpec Tryz.prog (blkF Tryz.f114 (0 : Nat)) (Z55 (runs l) k (0 : Nat)).st Ex.ret (Tg.mk (tm (23 : Nat) [((4 : Nat),int r.frm)]) [] (60 : Nat)).st) ?_ (by kernel_rfl) (by kernel_rfl)
   refine ⟨decide_eq_false hk,rfl,Zdv l hl,by rw [List.length_map],Z0T (S := fun i => (Z55 (runs l) k i).st) j (by kernel_rfl) (fun i hi => ?_) (ZdN _ k j r h1 hr)⟩
   obtain ⟨y,h4,h5⟩ := h3 i hi
   exact Z8p _ k i y (by omega) h4 (by simpa using h5)
def Z2I (rs : List Run) (k : Int) (i : Nat) : Tg := ⟨tm 31 [(1,int k),(4,int 0),(5,Z5N rs),(6,int i)],[],20⟩
theorem Z5h (rs : List Run) (k : Int) (i : Nat) (r : Run) (hl : rs.length ≤ 1048576) (hr : rs[i]? = some r) (hk : k < 1 ∨ r.len < k) : CSpec Tryz.prog (rndF Tryz.f155 0) (Z2I rs k i).st .nrm (Z2I rs k (i + 1)).st := by
 have hi : i < rs.length := (List.getElem?_eq_some_iff.1 hr).1
 refine Z1v [(11,[.int rs.length]),(12,[.br true]),(20,[.el r.dv]),(25,[.br false]),(14,[.int ((i + 1 : Nat) : Int)])] [] (φ := (↑(List.map Run.dv rs).length : Int) = (↑rs.length : Int) ∧ decide ((↑i : Int) < (↑rs.length : Int)) = true ∧ true = true ∧ (decide ((1 : Int) ≤ k) = true → (0 : Int) ≤ (↑i : Int) ∧ (List.map Run.dv rs)[(↑i : Int).toNat]? = some r.dv) ∧ (decide ((1 : Int) ≤ k) && decide (k ≤ r.len)) = false ∧ false = false ∧ IntKind.i64.wrap ((↑i : Int) + (1 : Int)) = (↑(i + (1 : Nat)) : Int)) ?_ (by kernel_rfl) (by kernel_rfl) (by kernel_rfl)
 exact ⟨by rw [List.length_map],decide_eq_true (by omega),rfl,fun _ => ⟨by omega,Z6X hr⟩,by simp; omega,rfl,Z0X (by omega) (by omega)⟩
theorem Zc1 (rs : List Run) (k : Int) (i : Nat) (r : Run) (hr : rs[i]? = some r) (hk1 : 1 ≤ k) (hk : k ≤ r.len) : CSpec Tryz.prog (rndF Tryz.f155 0) (Z2I rs k i).st .ret (Tg.st ⟨tm 31 [(4,int r.frm)],[],60⟩) := by
 have hi : i < rs.length := (List.getElem?_eq_some_iff.1 hr).1
 refine Z1v [(11,[.int rs.length]),(12,[.br true]),(20,[.el r.dv]),(25,[.br true]),(28,[.el r.dv])] [] (φ := (↑(List.map Run.dv rs).length : Int) = (↑rs.length : Int) ∧ decide ((↑i : Int) < (↑rs.length : Int)) = true ∧ true = true ∧ (decide ((1 : Int) ≤ k) = true → (0 : Int) ≤ (↑i : Int) ∧ (List.map Run.dv rs)[(↑i : Int).toNat]? = some r.dv) ∧ (decide ((1 : Int) ≤ k) && decide (k ≤ r.len)) = true ∧ true = true ∧ (0 : Int) ≤ (↑i : Int) ∧ (List.map Run.dv rs)[(↑i : Int).toNat]? = some r.dv) ?_ (by kernel_rfl) (by kernel_rfl) (by kernel_rfl)
 exact ⟨by rw [List.length_map],decide_eq_true (by omega),rfl,fun _ => ⟨by omega,Z6X hr⟩,by simp; omega,rfl,⟨by omega,Z6X hr⟩⟩
theorem ZaC (rs : List Run) (k : Int) : CSpec Tryz.prog (rndF Tryz.f155 0) (Z2I rs k rs.length).st (.ext 0) (Tg.st ⟨tm 31 [],[],60⟩) := by
 refine Z1v [(11,[.int rs.length]),(12,[.br false])] [] (φ := (↑(List.map Run.dv rs).length : Int) = (↑rs.length : Int) ∧ decide ((↑rs.length : Int) < (↑rs.length : Int)) = false ∧ false = false) ?_ (by kernel_rfl) (by kernel_rfl) (by kernel_rfl)
 exact ⟨by rw [List.length_map],decide_eq_false (by omega),rfl⟩
theorem Z4E (l : List Page) (k : Int) (hl : l.length ≤ 1048576) : GSpec Tryz.prog 155 [Z0o l,int k] true (int (first l k)) [] := by
 have hrl := Zd9 (l := l)
 by_cases hk : k < 1
 ·rw [first,if_pos hk]
  refine Z0j [(8,[.call false (Z5N (runs l)) []])] [(0,Z2I (runs l) k 0,.nrm,⟨tm 31 [],[],60⟩)] [] (by decide) Tryz.func155 (φ := GSpec Tryz.prog 165 [AV.d (DV.sl (4 : Nat) (List.map Page.dv l))] false (Z5N (runs l)) [] ∧ CSpec Tryz.prog (blkF Tryz.f155 (0 : Nat)) (Z2I (runs l) k (0 : Nat)).st Ex.nrm (Tg.mk (tm (31 : Nat) []) [] (60 : Nat)).st) ?_ (by kernel_rfl) (by kernel_rfl)
  exact ⟨Zc4 l hl,Z0d (S := fun i => (Z2I (runs l) k i).st) (runs l).length (by kernel_rfl) (fun i hi => Z5h _ k i _ (by omega) (List.getElem?_eq_getElem hi) (.inl hk)) (ZaC _ _)⟩
 ·rw [first,if_neg hk]
  cases ha : (runs l).all fun r => decide (r.len < k) with
  | true =>
   rw [Z48 ha]
   refine Z0j [(8,[.call false (Z5N (runs l)) []])] [(0,Z2I (runs l) k 0,.nrm,⟨tm 31 [],[],60⟩)] [] (by decide) Tryz.func155 (φ := GSpec Tryz.prog 165 [AV.d (DV.sl (4 : Nat) (List.map Page.dv l))] false (Z5N (runs l)) [] ∧ CSpec Tryz.prog (blkF Tryz.f155 (0 : Nat)) (Z2I (runs l) k (0 : Nat)).st Ex.nrm (Tg.mk (tm (31 : Nat) []) [] (60 : Nat)).st) ?_ (by kernel_rfl) (by kernel_rfl)
   refine ⟨Zc4 l hl,Z0d (S := fun i => (Z2I (runs l) k i).st) (runs l).length (by kernel_rfl) (fun i hi => ?_) (ZaC _ _)⟩
   have := List.all_eq_true.1 ha _ (List.getElem_mem hi)
   exact Z5h _ k i _ (by omega) (List.getElem?_eq_getElem hi) (.inr (by simpa using this))
  | false =>
   obtain ⟨j,r,h1,h2,h3⟩ := Z4f ha
   have hr : k ≤ r.len := by simpa using h2
   rw [Z49 h1 hr h3]
   refine Z0j [(8,[.call false (Z5N (runs l)) []])] [(0,Z2I (runs l) k 0,.ret,⟨tm 31 [(4,int r.frm)],[],60⟩)] [] (by decide) Tryz.func155 (φ := GSpec Tryz.prog 165 [AV.d (DV.sl (4 : Nat) (List.map Page.dv l))] false (Z5N (runs l)) [] ∧ CSpec Tryz.prog (blkF Tryz.f155 (0 : Nat)) (Z2I (runs l) k (0 : Nat)).st Ex.ret (Tg.mk (tm (31 : Nat) [((4 : Nat),int r.frm)]) [] (60 : Nat)).st) ?_ (by kernel_rfl) (by kernel_rfl)
   refine ⟨Zc4 l hl,Z0T (S := fun i => (Z2I (runs l) k i).st) j (by kernel_rfl) (fun i hi => ?_) (Zc1 _ k j r h1 (by omega) hr)⟩
   obtain ⟨y,h4,h5⟩ := h3 i hi
   exact Z5h _ k i y (by omega) h4 (.inr (by simpa using h5))
theorem Z6Y (l : List Page) : ∀ i,∀ r ∈ Z05 l i,∀ j : Int,r.frm ≤ j → j < r.frm + r.len → (l.getD j.toNat default).kind = 0
 | 0 => by simp [Z05]
 | i + 1 => by
  have ih := Z6Y l i
  have ok := (Z2h l i).2
  intro r hr j h1 h2
  simp only [Z05,Z30] at hr
  have hpa : Z17 l i = l.getD i default := by rw [Z5i]; simp
  split at hr
  ·rename_i hk
   rw [hpa] at hk
   split at hr
   ·rename_i hc
    have hmem := List.mem_of_getElem? (Z1Y hc.1)
    rcases List.mem_append.1 hr with hr | hr
    ·exact ih r (List.dropLast_subset _ hr) j h1 h2
    ·simp at hr; subst hr
     simp only at h1 h2
     by_cases hj : j = i
     ·subst hj; simpa using hk
     ·exact ih _ hmem j h1 (by omega)
   ·rcases List.mem_append.1 hr with hr | hr
    ·exact ih r hr j h1 h2
    ·simp at hr; subst hr
     simp only at h1 h2
     have : j = i := by omega
     subst this; simpa using hk
  ·exact ih r hr j h1 h2
theorem Z6U : ∀ {l : List Run} {k : Int},0 ≤ Z2v l k → ∃ r ∈ l,Z2v l k = r.frm ∧ k ≤ r.len
 | [],_,h => by simp [Z2v] at h
 | r :: l,k,h => by
  rw [Z2v] at h ⊢
  split
  ·exact ⟨r,by simp,rfl,‹_›⟩
  ·rename_i hk
   rw [if_neg hk] at h
   obtain ⟨x,hx,h1,h2⟩ := Z6U h
   exact ⟨x,by simp [hx],h1,h2⟩
theorem Z18 {l : List Page} {k : Int} (h : 0 ≤ first l k) : 1 ≤ k ∧ first l k + k ≤ l.length ∧ Z4z l (first l k).toNat k.toNat = true := by
 unfold first at h ⊢
 split at h
 ·omega
 ·rename_i hk
  rw [if_neg hk]
  obtain ⟨r,hr,h1,h2⟩ := Z6U h
  have ok := (Z2h l l.length).2 r hr
  rw [h1] at h ⊢
  refine ⟨by omega,by omega,freeK_iff.2 fun j hj => ?_⟩
  have := Z6Y l l.length r hr (r.frm + j) (by omega) (by omega)
  rwa [show (r.frm + (j : Int)).toNat = r.frm.toNat + j from by omega] at this
theorem Z5g (l : List Page) (k : Int) : -1 ≤ first l k ∧ first l k ≤ l.length := by
 by_cases h : 0 ≤ first l k
 ·have := Z18 h; omega
 ·unfold first at h ⊢
  split
  ·omega
  ·rename_i hk
   rw [if_neg hk] at h
   have : ∀ m : List Run,(∀ r ∈ m,0 ≤ r.frm) → -1 ≤ Z2v m k := by
    intro m
    induction m with
    | nil => intro _; simp [Z2v]
    | cons r m ih =>
     intro hm
     rw [Z2v]
     split
     ·have := hm r (by simp); omega
     ·exact ih fun x hx => hm x (by simp [hx])
   have := this (runs l) fun r hr => ((Z2h l l.length).2 r hr).1
   omega
theorem Zgi {c : Conf} {l : List Page} : ∀ {f i : Nat} {due : Int},0 ≤ due → rpB c l f i due = true → l.length ≤ i + f → ∀ j,i ≤ j → j < l.length → ∃ d,0 ≤ d ∧ rchk c l j d := by
 intro f
 induction f with
 | zero => intro i due _ _ hl j h1 h2; omega
 | succ f ih =>
  intro i due hd hr hl j h1 h2
  rw [rpB,if_pos (by omega),Bool.and_eq_true] at hr
  have hc := of_decide_eq_true hr.1
  by_cases hj : j = i
  ·subst hj; exact ⟨due,hd,hc⟩
  ·refine ih ?_ hr.2 (by omega) j (by omega) h2
   unfold rdue
   split
   ·rename_i hk
    have := hc.2.2.2.2.2.2.2.2.2.1 hk
    omega
   ·omega
theorem Z0D {h : Heap} (hp : Z02 h = true) {j : Nat} (hj : j < h.pages.length) : 0 ≤ (h.pages.getD j default).space ∧ (h.pages.getD j default).space ≤ 1 ∧ 0 ≤ (h.pages.getD j default).pins ∧ (h.pages.getD j default).pins ≤ 2147483647 ∧
  0 ≤ (h.pages.getD j default).kind ∧ (h.pages.getD j default).kind ≤ 3 ∧ 0 ≤ (h.pages.getD j default).used ∧ (h.pages.getD j default).used ≤ 256 ∧ ((h.pages.getD j default).kind = 1 → (h.pages.getD j default).used ≤ h.conf.pw) := by
 have hi := properB_iff.1 hp
 have hv := validB_iff.1 hi.1
 obtain ⟨d,_,hc⟩ := Zgi (by omega) hi.2.2.2.2.2 (by omega) j (by omega) hj
 unfold rchk at hc
 have hu : (h.pages.getD j default).kind = 2 → 1 ≤ (h.pages.getD j default).used ∧ (h.pages.getD j default).used ≤ 256 := by
  intro hk
  have hn := (hc.2.2.2.2.2.2.2.2.2.1 hk).1
  unfold need at hn
  split at hn
  ·omega
  ·omega
 omega
theorem Z6s (l : List Page) : Z0H l ≤ l.length := Z5F l l.length
abbrev tP (l : List Page) (s : Int) : List Page := tookP l (first l 1).toNat 1 (Page.mk 1 s 0 0) (Page.mk 0 0 0 0)
def Z1b (c : Conf) (hd : Header) : Bool := Z0i hd && decide (hd.kind ≠ 0) && decide (need c (sizeH hd) ≠ -1)
theorem Z4H (c : Conf) (hd : Header) (hm : 0 ≤ hd.map ∧ hd.map ≤ 4294967295) : GSpec Tryz.prog 132 [c.av,hd.av] true (bool (Z1b c hd)) [] := by
 refine gspec_ofE [((6 : Nat),[Hint.call true (Sx.bool (Z0i hd)) []]),((15 : Nat),[Hint.call true (int (sizeH hd)) []]),((16 : Nat),[Hint.call true (int (need c (sizeH hd))) []])] [] [] (by decide) Tryz.func132 [false,false,false,false,false,false,false,false,true] (φ := GSpec Tryz.prog 52 [hd.av] true (Sx.bool (Z0i hd)) [] ∧ ((Z0i hd && hd.kind != (0 : Int)) = true → GSpec Tryz.prog 20 [hd.av] true (int (sizeH hd)) []) ∧ ((Z0i hd && hd.kind != (0 : Int)) = true → GSpec Tryz.prog 85 [c.av,int (sizeH hd)] true (int (need c (sizeH hd))) []) ∧ (Z0i hd && hd.kind != (0 : Int) && need c (sizeH hd) != (-1 : Int)) = Z1b c hd) ?_ (by kernel_rfl) (by kernel_rfl)
 exact ⟨(@Z25 (hd) ‹_›),(fun hg => by (try simp only [bs] at hg); exact @Z20 (hd) (by (try simp only [bs] at hg); assumption)),(fun hg => by (try simp only [bs] at hg); exact @Z3V (c) (sizeH hd)),(by grind [Z1b])⟩
def Z1w (l : List Page) (i : Nat) (n : Int) : List Page := l.set i ⟨(l.getD i default).kind,(l.getD i default).space,(l.getD i default).used + n,(l.getD i default).pins⟩
def Z2C (h : Heap) (n : Int) : Prop := 0 ≤ h.bump ∧ (h.pages.getD h.bump.toNat default).space = h.space ∧ (h.pages.getD h.bump.toNat default).used + n ≤ h.conf.pw ∧ (Z0H h.pages : Int) ≤ Z0M h.conf
instance (h : Heap) (n : Int) : Decidable (Z2C h n) := by unfold Z2C; infer_instance
def Z2r (h : Heap) : List Page := (Zio h.pages (first h.pages 1) h.space).1
def Z0a (h : Heap) (n : Int) : Heap × Int × Bool :=
 if Z2C h n then (⟨h.conf,h.words,Z1w h.pages h.bump.toNat n,h.space,h.bump⟩,4096 + h.bump * h.conf.pw + (h.pages.getD h.bump.toNat default).used,true)
 else if 0 ≤ first h.pages 1 ∧ (Z0H h.pages : Int) < Z0M h.conf then
  (⟨h.conf,h.words,Z1w (Z2r h) (first h.pages 1).toNat n,h.space,first h.pages 1⟩,4096 + first h.pages 1 * h.conf.pw + ((Z2r h).getD (first h.pages 1).toNat default).used,true)
 else (noHeap,0,false)
theorem Z5w {l : List Page} {i k : Nat} {p q : Page} (h : i + k ≤ l.length) : (tookP l i k p q).length = l.length := by
 rw [tookP,List.length_set]
 exact Z4x (by simpa using h) (by simp)
theorem Z24 {h : Heap} (hs : h.space = 0 ∨ h.space = 1) (hf : 0 ≤ first h.pages 1) : Z2r h = tookP h.pages (first h.pages 1).toNat 1 ⟨1,h.space,0,0⟩ ⟨0,0,0,0⟩ ∧ (Z2r h).length = h.pages.length ∧ (first h.pages 1) < h.pages.length ∧
  ((Z2r h).getD (first h.pages 1).toNat default) = ⟨1,h.space,0,0⟩ := by
 obtain ⟨_,h1,h2⟩ := Z18 hf
 have e : Z2r h = tookP h.pages (first h.pages 1).toNat 1 ⟨1,h.space,0,0⟩ ⟨0,0,0,0⟩ := by
  rw [Z2r,Zio,if_pos (by omega),Z2f,if_pos (by omega),if_pos h2]
  rfl
 have hl : (Z2r h).length = h.pages.length := by rw [e]; exact Z5w (by omega)
 refine ⟨e,hl,by omega, ?_⟩
 rw [e,tookP,List.getD_eq_getElem?_getD,List.getElem?_set,if_pos rfl,if_pos (by rw [Z4x (by simp; omega) (by simp)]; omega)]
 rfl
theorem Z3Q {c : Conf} (hv : Z07 c = true) : 2 ≤ Z0M c ∧ Z0M c ≤ 16 := by
 have := validB_iff.1 hv
 rw [Z0M,if_pos hv,Z3M (by omega)]
 omega
theorem Z2y {c : Conf} {i : Int} (hv : Z07 c = true) (h0 : 0 ≤ i) (h1 : i < c.pg) : 0 ≤ i * c.pw ∧ i * c.pw + c.pw ≤ 4096 := by
 have hb := validB_iff.1 hv
 have ha := area hv
 have h2 : 0 ≤ i * c.pw := Int.mul_nonneg h0 (by omega)
 have h3 : (i + 1) * c.pw ≤ c.pg * c.pw := Int.mul_le_mul_of_nonneg_right (by omega) (by omega)
 rw [Int.add_mul,Int.one_mul,Int.mul_comm c.pg] at h3
 omega
theorem Z5v (h : Heap) (n : Int) (hp : Z02 h = true) (hn : 1 ≤ n ∧ n ≤ 256) : GSpec Tryz.prog 133 [h.av,int n] false (.tu [(Z0a h n).1.av,u64 (Z0a h n).2.1,bool (Z0a h n).2.2]) [] := by
 have po := Z08 hp
 obtain ⟨o1,o2,o3,o4,o5,o6,o7,o8,o9⟩ := po
 have hb := (properB_iff.1 hp).2.2.2.2.1
 have hpg := fun hj => Z0D hp (j := h.bump.toNat) hj
 have hr := Z5g h.pages 1
 have hfo := fun hf => Z24 (h := h) o9 hf
 have hiu := Z6s h.pages
 have hli := Z3Q o1
 have hm1 : 0 ≤ h.bump → 0 ≤ h.bump * h.conf.pw ∧ h.bump * h.conf.pw + h.conf.pw ≤ 4096 := fun h0 => Z2y o1 h0 (by omega)
 have hm2 : 0 ≤ first h.pages 1 → 0 ≤ first h.pages 1 * h.conf.pw ∧ first h.pages 1 * h.conf.pw + h.conf.pw ≤ 4096 := fun h0 => Z2y o1 h0 (by have := hfo h0; omega)
 by_cases hf : Z2C h n
 ·have e7 : Z0a h n = (⟨h.conf,h.words,Z1w h.pages h.bump.toNat n,h.space,h.bump⟩,4096 + h.bump * h.conf.pw + (h.pages.getD h.bump.toNat default).used,true) := by rw [Z0a,if_pos hf]
  unfold Z2C at hf
  rw [e7]
  exact gF [] Tryz.func133 [false,false,false,false,false,false,false,false,false,false,false,false,false,false,false,false,false,false,false,false,false,false,false,false,false] (Fs 11 (List.map Page.dv []) (Fa (by (simp [*]; omega) : (List.map Page.dv []).length + (List.map Page.dv h.pages).length≤2 ^ 30) (Fs 14 (List.map Page.dv h.pages) (Fc 18 (@Z5x h.conf) (Fc 21 (@Z5p h.pages (by omega)) (FmG 32 (!decide (h.bump < 0)) Page.dv h.pages h.bump h.bump.toNat (FmG 43 (!(decide (h.bump < 0)||(h.pages.getD h.bump.toNat default).space != h.space)) Page.dv h.pages h.bump h.bump.toNat (FiG 45 (!(decide (h.bump < 0)||(h.pages.getD h.bump.toNat default).space != h.space)) ((h.pages.getD h.bump.toNat default).used + n) (Ffb 55 (decide (h.bump < 0)||(h.pages.getD h.bump.toNat default).space != h.space||decide (h.conf.pw < (h.pages.getD h.bump.toNat default).used + n)||decide (Z0M h.conf < (↑(Z0H h.pages) : Int))) (Fi 83 (h.bump * h.conf.pw) (Fi 84 (4096 + h.bump * h.conf.pw) (Fm 90 Page.dv h.pages h.bump h.bump.toNat (Fi 91 (4096 + h.bump * h.conf.pw + (h.pages.getD h.bump.toNat default).used) (Fv 92 (4096 + h.bump * h.conf.pw + (h.pages.getD h.bump.toNat default).used) (Fm 101 Page.dv h.pages h.bump h.bump.toNat (Fi 103 ((h.pages.getD h.bump.toNat default).used + n) (Fm0 Page.dv h.pages h.bump h.bump.toNat (FS 10105 Page.dv h.pages h.bump.toNat (Page.mk (h.pages.getD h.bump.toNat default).kind (h.pages.getD h.bump.toNat default).space ((h.pages.getD h.bump.toNat default).used + n) (h.pages.getD h.bump.toNat default).pins) ((h.pages.getD h.bump.toNat default).dv) Fz))))))))))))))))))
 ·by_cases hg : 0 ≤ first h.pages 1 ∧ (Z0H h.pages : Int) < Z0M h.conf
  ·have e7 : Z0a h n = (⟨h.conf,h.words,Z1w (Z2r h) (first h.pages 1).toNat n,h.space,first h.pages 1⟩,4096 + first h.pages 1 * h.conf.pw + ((Z2r h).getD (first h.pages 1).toNat default).used,true) := by rw [Z0a,if_neg hf,if_pos hg]
   obtain ⟨q1,q2,q3,q4⟩ := hfo hg.1
   obtain ⟨r1,r2,r3⟩ := Z18 hg.1
   have r4 : Z4z h.pages (first h.pages 1).toNat 1 = true := r3
   rw [q1] at e7 q2 q4
   have q6 := congrArg Page.used q4
   simp only at q6
   unfold Z2C at hf
   rw [e7]
   exact gF [] Tryz.func133 [false,false,false,false,false,false,false,false,false,false,false,false,false,false,false,false,false,false,false,false,false,false,false,false,false,false,false,false] (Fh 90 [.el ((tookP h.pages (first h.pages 1).toNat 1 (Page.mk 1 h.space 0 0) (Page.mk 0 0 0 0)).getD (first h.pages 1).toNat default).dv] (Fh 101 [.el ((tookP h.pages (first h.pages 1).toNat 1 (Page.mk 1 h.space 0 0) (Page.mk 0 0 0 0)).getD (first h.pages 1).toNat default).dv] (Fs 11 (List.map Page.dv []) (Fa (by (simp [*]; omega) : (List.map Page.dv []).length + (List.map Page.dv h.pages).length≤2 ^ 30) (Fs 14 (List.map Page.dv h.pages) (Fc 18 (@Z5x h.conf) (Fc 21 (@Z5p h.pages (by omega)) (FmG 32 (!decide (h.bump < 0)) Page.dv h.pages h.bump h.bump.toNat (FmG 43 (!(decide (h.bump < 0)||(h.pages.getD h.bump.toNat default).space != h.space)) Page.dv h.pages h.bump h.bump.toNat (FiG 45 (!(decide (h.bump < 0)||(h.pages.getD h.bump.toNat default).space != h.space)) ((h.pages.getD h.bump.toNat default).used + n) (Ftb 55 (decide (h.bump < 0)||(h.pages.getD h.bump.toNat default).space != h.space||decide (h.conf.pw < (h.pages.getD h.bump.toNat default).used + n)||decide (Z0M h.conf < (↑(Z0H h.pages) : Int))) (Fc 58 (@Z4E h.pages (1) (by omega)) (Ffb 65 (decide (first h.pages (1 :Int) < 0)||decide (Z0M h.conf≤(↑(Z0H h.pages) : Int))) (Fc 73 (@Z8H h.pages (first h.pages 1) h.space (by omega) (by omega) (by omega) ‹_›) (Fi 83 (first h.pages 1 * h.conf.pw) (Fi 84 (4096 + first h.pages 1 * h.conf.pw) (Fa (by (simp [*]; omega) : 0≤first h.pages 1∧(first h.pages 1).toNat < (List.map Page.dv (tookP h.pages (first h.pages 1).toNat 1 (Page.mk 1 h.space 0 0) (Page.mk 0 0 0 0))).length) (Fa (by grind [] : (List.map Page.dv (tookP h.pages (first h.pages 1).toNat 1 (Page.mk 1 h.space 0 0) (Page.mk 0 0 0 0)))[(first h.pages 1).toNat]? = some ((tookP h.pages (first h.pages 1).toNat 1 (Page.mk 1 h.space 0 0) (Page.mk 0 0 0 0)).getD (first h.pages 1).toNat default).dv) (Fi 91 (4096 + first h.pages 1 * h.conf.pw + ((tookP h.pages (first h.pages 1).toNat 1 (Page.mk 1 h.space 0 0) (Page.mk 0 0 0 0)).getD (first h.pages 1).toNat default).used) (Fv 92 (4096 + first h.pages 1 * h.conf.pw + ((tookP h.pages (first h.pages 1).toNat 1 (Page.mk 1 h.space 0 0) (Page.mk 0 0 0 0)).getD (first h.pages 1).toNat default).used) (Fa (by (simp [*]; omega) : 0≤first h.pages 1∧(first h.pages 1).toNat < (List.map Page.dv (tookP h.pages (first h.pages 1).toNat 1 (Page.mk 1 h.space 0 0) (Page.mk 0 0 0 0))).length) (Fa (by grind [] : (List.map Page.dv (tookP h.pages (first h.pages 1).toNat 1 (Page.mk 1 h.space 0 0) (Page.mk 0 0 0 0)))[(first h.pages 1).toNat]? = some ((tookP h.pages (first h.pages 1).toNat 1 (Page.mk 1 h.space 0 0) (Page.mk 0 0 0 0)).getD (first h.pages 1).toNat default).dv) (Fi 103 (((tookP h.pages (first h.pages 1).toNat 1 (Page.mk 1 h.space 0 0) (Page.mk 0 0 0 0)).getD (first h.pages 1).toNat default).used + n) (Fa (by (simp [*]; omega) : 0≤first h.pages 1∧(first h.pages 1).toNat < (List.map Page.dv (tookP h.pages (first h.pages 1).toNat 1 (Page.mk 1 h.space 0 0) (Page.mk 0 0 0 0))).length) (Fa (by grind [] : (List.map Page.dv (tookP h.pages (first h.pages 1).toNat 1 (Page.mk 1 h.space 0 0) (Page.mk 0 0 0 0)))[(first h.pages 1).toNat]? = some ((tookP h.pages (first h.pages 1).toNat 1 (Page.mk 1 h.space 0 0) (Page.mk 0 0 0 0)).getD (first h.pages 1).toNat default).dv) (FS 10105 Page.dv (tookP h.pages (first h.pages 1).toNat 1 (Page.mk 1 h.space 0 0) (Page.mk 0 0 0 0)) ((first h.pages 1).toNat) (Page.mk ((tookP h.pages (first h.pages 1).toNat 1 (Page.mk 1 h.space 0 0) (Page.mk 0 0 0 0)).getD (first h.pages 1).toNat default).kind ((tookP h.pages (first h.pages 1).toNat 1 (Page.mk 1 h.space 0 0) (Page.mk 0 0 0 0)).getD (first h.pages 1).toNat default).space (((tookP h.pages (first h.pages 1).toNat 1 (Page.mk 1 h.space 0 0) (Page.mk 0 0 0 0)).getD (first h.pages 1).toNat default).used + n) ((tookP h.pages (first h.pages 1).toNat 1 (Page.mk 1 h.space 0 0) (Page.mk 0 0 0 0)).getD (first h.pages 1).toNat default).pins) (((tookP h.pages (first h.pages 1).toNat 1 (Page.mk 1 h.space 0 0) (Page.mk 0 0 0 0)).getD (first h.pages 1).toNat default).dv) Fz))))))))))))))))))))))))))
  ·have e7 : Z0a h n = (noHeap,0,false) := by rw [Z0a,if_neg hf,if_neg hg]
   unfold Z2C at hf
   rw [e7]
   exact gF [] Tryz.func133 [false,false,false,false,false,false,false,false,false,false,false,false,false,false,false,false,false,false,false,false,false,false,false,false,false,false,false,false] (Fs 11 (List.map Page.dv []) (Fa (by (simp [noHeap, *]; omega) : (List.map Page.dv []).length + (List.map Page.dv h.pages).length≤2 ^ 30) (Fs 14 (List.map Page.dv h.pages) (Fc 18 (@Z5x h.conf) (Fc 21 (@Z5p h.pages (by omega)) (FmG 32 (!decide (h.bump < 0)) Page.dv h.pages h.bump h.bump.toNat (FmG 43 (!(decide (h.bump < 0)||(h.pages.getD h.bump.toNat default).space != h.space)) Page.dv h.pages h.bump h.bump.toNat (FiG 45 (!(decide (h.bump < 0)||(h.pages.getD h.bump.toNat default).space != h.space)) ((h.pages.getD h.bump.toNat default).used + n) (Ftb 55 (decide (h.bump < 0)||(h.pages.getD h.bump.toNat default).space != h.space||decide (h.conf.pw < (h.pages.getD h.bump.toNat default).used + n)||decide (Z0M h.conf < (↑(Z0H h.pages) : Int))) (Fc 58 (@Z4E h.pages (1) (by omega)) (Ftb 65 (decide (first h.pages (1 :Int) < 0)||decide (Z0M h.conf≤(↑(Z0H h.pages) : Int))) (Fnl (Fnl Fz)))))))))))))
end Go.Proofs.YtjflpmnenhdeeaaGreat
