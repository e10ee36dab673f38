/-
 The statement BoundPages: part 7.
 Conditions: none.
-/
import Derived.Laws.Bits64b
import Derived.WalkSmall
import Derived.Test.YteppchpkbhikdaaM6
set_option maxRecDepth 100000
set_option maxHeartbeats 2000000
set_option linter.all false
namespace Go.Proofs.Yteppchpkbhikdaa
open Go.Sx
def ones (n : Int) : Int := 2 ^ (min n.toNat 64) - 1
structure Header where
 kind : Int
 length : Int
 map : Int
 deriving DecidableEq,Inhabited
def u32 (n : Int) : AV := .d (.sc (.int .u32 n))
def Header.av (h : Header) : AV := .ag [int h.kind,int h.length,u32 h.map]
theorem or_one (k : Nat) (h : k < 64) : bits .or .u64 (IntKind.u64.wrap ((2 ^ k - 1) * 2 ^ min (Int.toNat 1) 64)) 1 = 2 ^ (k + 1) - 1 := by
 have : k ∈ List.range 64 := List.mem_range.2 h
 revert k
 decide +kernel
def onesL (m : Nat) (i : Nat) : Tg := ⟨tm 14 [(2,u64 0),(3,u64 (2 ^ i - 1)),(6,int m),(7,int i)],[],20⟩
theorem onesRound (m i : Nat) (hm : m ≤ 64) (hi : i < m) : CSpec Try.prog (rndF Try.f37 0) (onesL m i).st .nrm (onesL m (i + 1)).st := by
 have ho := or_one i (by omega)
 exact sF [] [false,true] (Ftb 8 (decide ((↑i : Int) < (↑m : Int))) (Fo ((0 :Int)≤1) (Fg 12 (by exact wrapI' (by omega) (by omega) : IntKind.i64.wrap ((↑i : Int) + 1) =(↑(i + 1) : Int)) (Fa (by exact ho : bits BinOp.or IntKind.u64 (IntKind.u64.wrap ((2 ^ i - 1) * 2 ^ min (Int.toNat 1) 64)) (1 :Int) =2 ^ (i + 1) - 1) Fz))))
theorem onesEnd (m : Nat) : CSpec Try.prog (rndF Try.f37 0) (onesL m m).st (.ext 0) (Tg.st ⟨tm 14 [(3,u64 (2 ^ m - 1))],[],60⟩) := by
 exact sF [] [] (Ffb 8 (decide ((↑m : Int) < (↑m : Int))) Fz)
theorem onesLoop (m : Nat) (hm : m ≤ 64) : CSpec Try.prog (blkF Try.f37 0) (onesL m 0).st .nrm (Tg.st ⟨tm 14 [(3,u64 (2 ^ m - 1))],[],60⟩) :=
 loop_ext_of (S := fun i => (onesL m i).st) m (by kernel_rfl) (fun i hi => onesRound m i hm hi) (onesEnd m)
theorem bitsOnes (n : Int) : GSpec Try.prog 37 [int n] true (u64 (ones n)) [] := by
 have ei : min (max n 0) 64 = ((min n.toNat 64 : Nat) : Int) := by omega
 exact gF [] Try.func37 [] (Fgo 5 (if 0 > n then 0 else n) (max n 0) (Fgo 6 (if 64 < max n 0 then 64 else max n 0) (↑(min n.toNat 64) : Int) (Fu (@onesLoop (min n.toNat 64) (by omega)) Fz)))
def validH (h : Header) : Bool := decide (0 ≤ h.kind ∧ h.kind ≤ 3 ∧ 0 ≤ h.length ∧ h.length ≤ 255 ∧ (if h.kind = 1 then h.length ≤ 32 ∧ h.map < 2 ^ h.length.toNat else h.map = 0))
def sizeH (h : Header) : Int := if validH h = true then h.length + 1 else 0
def noHdr : Header := ⟨0,0,0⟩
def encodeH (h : Header) : Int × Int := if validH h = true then (1 + 4 * h.kind + 16 * h.length + 65536 * h.map,0) else (0,1)
def hdrOf (w : Int) : Header := ⟨w / 4 % 4,w / 16 % 4096,w / 65536 % 4294967296⟩
def decodeH (w : Int) : Header × Bool := if (encodeH (hdrOf w)).2 = 0 ∧ (encodeH (hdrOf w)).1 = w then (hdrOf w,true) else (noHdr,false)
theorem validH_iff {h : Header} : validH h = true ↔ 0 ≤ h.kind ∧ h.kind ≤ 3 ∧ 0 ≤ h.length ∧ h.length ≤ 255 ∧ (if h.kind = 1 then h.length ≤ 32 ∧ h.map < 2 ^ h.length.toNat else h.map = 0) := by simp [validH]
theorem pow32 {n : Int} (h1 : n ≤ 32) : (1 : Int) ≤ 2 ^ n.toNat ∧ (2 : Int) ^ n.toNat ≤ 4294967296 := by
 have : n.toNat ≤ 32 := by omega
 generalize n.toNat = k at this
 have hk : k ∈ List.range 33 := List.mem_range.2 (by omega)
 revert k
 decide +kernel
theorem shl_pow {n : Int} (h1 : n ≤ 32) : IntKind.u64.wrap (1 * 2 ^ min n.toNat 64) = 2 ^ n.toNat := by
 have := pow32 h1
 rw [Nat.min_eq_left (by omega),Int.one_mul]
 exact wrapU' (by omega) (by omega)
theorem ref3Valid (h : Header) (hm : 0 ≤ h.map ∧ h.map ≤ 4294967295) : GSpec Try.prog 24 [h.av] true (bool (validH h)) [] := by
 have hs : h.length ≤ 32 → IntKind.u64.wrap (1 * 2 ^ min h.length.toNat 64) = 2 ^ h.length.toNat := shl_pow
 rcases bb (decide (h.kind < 0) || decide (3 < h.kind) || decide (h.length < 0) || decide (255 < h.length)) with hc0 | hc0<;>have hc0p:=hc0<;>simp only [bs] at hc0p
 ·exact gF [] Try.func24 [false,false,false,false,false,false,false,false,false,true] (Ft 20 hc0 (Fa (by (simp [validH, *]; omega) : false =validH h) Fz))
 ·obtain ⟨⟨⟨hc0paaa,hc0paab⟩,hc0pab⟩,hc0pb⟩ := hc0p
  rcases bb (h.kind != 1) with hc1 | hc1<;>have hc1p:=hc1<;>simp only [bs] at hc1p
  ·exact gF [] Try.func24 [false,false,false,false,false,false,false,false,false,true] (Ff 20 hc0 (Ft 23 hc1 (Fa (by grind [validH] : (h.map == 0) =validH h) Fz)))
  ·exact gF [] Try.func24 [false,false,false,false,false,false,false,false,false,false,false,false,false,false,false,false,false,true] (Fh 33 [.int h.map] (Fh 36 [.int h.length] (Ff 20 hc0 (Ff 23 hc1 (Fa (by intro hg; try simp only [bs] at hg; exact wrapU2 rfl (by omega) (by omega) : decide (h.length≤32) =true→IntKind.u64.wrap h.map =h.map) (Fa (by intro hg; try simp only [bs] at hg; exact wrapU2 rfl (by omega) (by omega) : decide (h.length≤32) =true→IntKind.u64.wrap h.length =h.length) (Fa (by intro hg; try simp only [bs] at hg; omega : decide (h.length≤32) =true→0≤h.length) (Fa (by grind [validH] : (decide (h.length≤32)&&decide (h.map < IntKind.u64.wrap ((1 :Int) * 2 ^ min h.length.toNat 64))) =validH h) Fz))))))))
theorem ref3Size (h : Header) (hm : 0 ≤ h.map ∧ h.map ≤ 4294967295) : GSpec Try.prog 25 [h.av] true (int (sizeH h)) [] := by
 rcases bb (!validH h) with hc0 | hc0<;>have hc0p:=hc0<;>simp only [bs] at hc0p
 ·exact gF [] Try.func25 [true] (Fc 4 (@ref3Valid h ‹_›) (Ft 5 hc0 (Fa (by simp [sizeH, *] : 0 =sizeH h) Fz)))
 ·have hf3 := validH_iff.1 hc0p
  exact gF [] Try.func25 [true] (Fc 4 (@ref3Valid h ‹_›) (Ff 5 hc0 (Fi 8 (h.length + 1) (Fa (by simp [sizeH, *] : h.length + 1 =sizeH h) Fz))))
end Go.Proofs.Yteppchpkbhikdaa
namespace Go.Proofs.Yteppchpkbhikdaa
open Go.Sx Go.RowKit
def headerD (h : Header) : List DV := [dint h.kind,dint h.length,.sc (.int .u32 h.map)]
theorem range_u32 {n : Int} (h : (Lit.int .u32 n).wf = true) : 0 ≤ n ∧ n ≤ 4294967295 := by
 simp [Lit.wf,IntKind.min,IntKind.max,IntKind.signed,IntKind.bits] at h
 omega
theorem shp_header {n : Nat} {l : List DV} (h : shp Try.prog (n + 2) 26 l) : ∃ x : Header,l = headerD x ∧ 0 ≤ x.map ∧ x.map ≤ 4294967295 := by
 have e : shp Try.prog (n + 2) 26 l = (∃ a b,l = a ++ b ∧ (∃ x : Int,a = [.sc (.int .i64 x)] ∧ (Lit.int .i64 x).wf = true) ∧ ∃ a' b',b = a' ++ b' ∧ (∃ x : Int,a' = [.sc (.int .i64 x)] ∧ (Lit.int .i64 x).wf = true) ∧
  ∃ a'' b'',b' = a'' ++ b'' ∧ (∃ x : Int,a'' = [.sc (.int .u32 x)] ∧ (Lit.int .u32 x).wf = true) ∧ b'' = []) := by kernel_rfl
 rw [e] at h
 obtain ⟨a,b,rfl,⟨x,rfl,_⟩,a',b',rfl,⟨y,rfl,_⟩,a2,b2,rfl,⟨z,rfl,hz⟩,rfl⟩ := h
 exact ⟨⟨x,y,z⟩,rfl,range_u32 hz⟩
end Go.Proofs.Yteppchpkbhikdaa
