/-
 The statement PageGives: part 7.
 Conditions: none.
-/
import Derived.Laws.Bits64b
import Derived.WalkSmall
import Derived.Test.YtolnblaadleknaaGreatM6
set_option maxRecDepth 100000
set_option maxHeartbeats 2000000
set_option linter.all false
namespace Go.Proofs.YtolnblaadleknaaGreat
open Go.Sx
structure Header where
 kind : Int
 length : Int
 map : Int
 deriving DecidableEq,Inhabited
def u32 (n : Int) : AV := .d (.sc (.int .u32 n))
def Header.av (h : Header) : AV := .ag [int h.kind,int h.length,u32 h.map]
def validH (h : Header) : Bool := decide (0 ≤ h.kind ∧ h.kind ≤ 3 ∧ 0 ≤ h.length ∧ h.length ≤ 255 ∧ (if h.kind = 1 then h.length ≤ 32 ∧ h.map < 2 ^ h.length.toNat else h.map = 0))
def sizeH (h : Header) : Int := if validH h = true then h.length + 1 else 0
def noHdr : Header := ⟨0,0,0⟩
def encodeH (h : Header) : Int × Int := if validH h = true then (1 + 4 * h.kind + 16 * h.length + 65536 * h.map,0) else (0,1)
def hdrOf (w : Int) : Header := ⟨w / 4 % 4,w / 16 % 4096,w / 65536 % 4294967296⟩
def decodeH (w : Int) : Header × Bool := if (encodeH (hdrOf w)).2 = 0 ∧ (encodeH (hdrOf w)).1 = w then (hdrOf w,true) else (noHdr,false)
def pointerH (h : Header) (i : Int) : Bool := validH h && decide (0 ≤ i) && decide (i < h.length) && (h.kind == 2 || (h.kind == 1 && (h.map / 2 ^ i.toNat % 2 == 1)))
theorem validH_iff {h : Header} : validH h = true ↔ 0 ≤ h.kind ∧ h.kind ≤ 3 ∧ 0 ≤ h.length ∧ h.length ≤ 255 ∧ (if h.kind = 1 then h.length ≤ 32 ∧ h.map < 2 ^ h.length.toNat else h.map = 0) := by simp [validH]
theorem pow32 {n : Int} (h1 : n ≤ 32) : (1 : Int) ≤ 2 ^ n.toNat ∧ (2 : Int) ^ n.toNat ≤ 4294967296 := by
 have : n.toNat ≤ 32 := by omega
 generalize n.toNat = k at this
 have hk : k ∈ List.range 33 := List.mem_range.2 (by omega)
 revert k
 decide +kernel
theorem shl_pow {n : Int} (h1 : n ≤ 32) : IntKind.u64.wrap (1 * 2 ^ min n.toNat 64) = 2 ^ n.toNat := by
 have := pow32 h1
 rw [Nat.min_eq_left (by omega),Int.one_mul]
 exact wrapU' (by omega) (by omega)
theorem validH_bounds {h : Header} (hv : validH h = true) (hm : 0 ≤ h.map) (hm2 : h.map ≤ 4294967295) : 0 ≤ h.kind ∧ h.kind ≤ 3 ∧ 0 ≤ h.length ∧ h.length ≤ 255 ∧ 0 ≤ h.map ∧ h.map ≤ 4294967295 := by
 have := validH_iff.1 hv
 omega
theorem ref3Valid (h : Header) (hm : 0 ≤ h.map ∧ h.map ≤ 4294967295) : GSpec Tryz.prog 167 [h.av] true (bool (validH h)) [] := by
 have hs : h.length ≤ 32 → IntKind.u64.wrap (1 * 2 ^ min h.length.toNat 64) = 2 ^ h.length.toNat := shl_pow
 rcases bb (decide (h.kind < 0) || decide (3 < h.kind) || decide (h.length < 0) || decide (255 < h.length)) with hc0 | hc0<;>have hc0p:=hc0<;>simp only [bs] at hc0p
 ·exact gF [] Tryz.func167 [false,false,false,false,false,false,false,false,false,true] (Ft 20 hc0 (Fa (by (simp [validH, *]; omega) : false =validH h) Fz))
 ·obtain ⟨⟨⟨hc0paaa,hc0paab⟩,hc0pab⟩,hc0pb⟩ := hc0p
  rcases bb (h.kind != 1) with hc1 | hc1<;>have hc1p:=hc1<;>simp only [bs] at hc1p
  ·exact gF [] Tryz.func167 [false,false,false,false,false,false,false,false,false,true] (Ff 20 hc0 (Ft 23 hc1 (Fa (by grind [validH] : (h.map == 0) =validH h) Fz)))
  ·exact gF [] Tryz.func167 [false,false,false,false,false,false,false,false,false,false,false,false,false,false,false,false,false,true] (Fh 33 [.int h.map] (Fh 36 [.int h.length] (Ff 20 hc0 (Ff 23 hc1 (Fa (by intro hg; try simp only [bs] at hg; exact wrapU2 rfl (by omega) (by omega) : decide (h.length≤32) =true→IntKind.u64.wrap h.map =h.map) (Fa (by intro hg; try simp only [bs] at hg; exact wrapU2 rfl (by omega) (by omega) : decide (h.length≤32) =true→IntKind.u64.wrap h.length =h.length) (Fa (by intro hg; try simp only [bs] at hg; omega : decide (h.length≤32) =true→0≤h.length) (Fa (by grind [validH] : (decide (h.length≤32)&&decide (h.map < IntKind.u64.wrap ((1 :Int) * 2 ^ min h.length.toNat 64))) =validH h) Fz))))))))
theorem ref3Size (h : Header) (hm : 0 ≤ h.map ∧ h.map ≤ 4294967295) : GSpec Tryz.prog 94 [h.av] true (int (sizeH h)) [] := by
 rcases bb (!validH h) with hc0 | hc0<;>have hc0p:=hc0<;>simp only [bs] at hc0p
 ·exact gF [] Tryz.func94 [true] (Fc 4 (@ref3Valid h ‹_›) (Ft 5 hc0 (Fa (by simp [sizeH, *] : 0 =sizeH h) Fz)))
 ·have hf3 := validH_iff.1 hc0p
  exact gF [] Tryz.func94 [true] (Fc 4 (@ref3Valid h ‹_›) (Ff 5 hc0 (Fi 8 (h.length + 1) (Fa (by simp [sizeH, *] : h.length + 1 =sizeH h) Fz))))
theorem ref3Encode (h : Header) (hm : 0 ≤ h.map ∧ h.map ≤ 4294967295) : GSpec Tryz.prog 177 [h.av] true (.tu [u64 (encodeH h).1,int (encodeH h).2]) [] := by
 rcases bb (!validH h) with hc0 | hc0<;>have hc0p:=hc0<;>simp only [bs] at hc0p
 ·exact gF [] Tryz.func177 [true] (Fc 5 (@ref3Valid h ‹_›) (Ft 6 hc0 (Fa (by simp [encodeH, *] : 0 =(encodeH h).1) (Fa (by simp [encodeH, *] : 1 =(encodeH h).2) Fz))))
 ·have hf3 := validH_iff.1 hc0p
  exact gF [] Tryz.func177 [true] (Fc 5 (@ref3Valid h ‹_›) (Ff 6 hc0 (Fv 9 h.kind (Fv 10 (4 * h.kind) (Fv 11 ((1 :Int) + 4 * h.kind) (Fv 14 h.length (Fv 15 (16 * h.length) (Fv 16 ((1 :Int) + 4 * h.kind + 16 * h.length) (Fv 19 h.map (Fg 20 (by exact wrapU2 rfl (by omega) (by omega) : IntKind.u64.wrap (h.map * 2 ^ min (Int.toNat 16) 64) =h.map * 65536) (Fo ((0 :Int)≤16) (Fv 21 ((1 :Int) + 4 * h.kind + 16 * h.length + h.map * 65536) (Fa (by (simp [encodeH, *]; omega) : (1 :Int) + 4 * h.kind + 16 * h.length + h.map * 65536 =(encodeH h).1) (Fa (by simp [encodeH, *] : 0 =(encodeH h).2) Fz))))))))))))))
theorem hdrOf_map (w : Int) (h0 : 0 ≤ w) : 0 ≤ (hdrOf w).map ∧ (hdrOf w).map ≤ 4294967295 := by
 simp only [hdrOf]; omega
theorem ref3Decode (w : Int) (h0 : 0 ≤ w) (h1 : w ≤ 18446744073709551615) : GSpec Tryz.prog 135 [u64 w] true (.tu [(decodeH w).1.av,bool (decodeH w).2]) [] := by
 have hm := hdrOf_map w h0
 have Q0 {h_ c_ p_} (r_ : Fq h_ c_ p_) := Fg 8 (by exact fdiv2 rfl (by decide) : w.fdiv (2 ^ min (Int.toNat 2) 64) =w / 4) (Fo ((0 :Int)≤2) (Fg 9 (by exact and_mask 2 (by decide) (by decide) (by omega) (by omega) : bits BinOp.and IntKind.u64 (w / 4) 3 =w / 4 % 4) (Fi 10 (w / 4 % 4) (Fg 12 (by exact fdiv2 rfl (by decide) : w.fdiv (2 ^ min (Int.toNat 4) 64) =w / 16) (Fo ((0 :Int)≤4) (Fg 13 (by exact and_mask 12 (by decide) (by decide) (by omega) (by omega) : bits BinOp.and IntKind.u64 (w / 16) 4095 =w / 16 % 4096) (Fi 14 (w / 16 % 4096) (Fg 16 (by exact fdiv2 rfl (by decide) : w.fdiv (2 ^ min (Int.toNat 16) 64) =w / 65536) (Fo ((0 :Int)≤16) (Fg 17 (rfl : IntKind.u32.wrap (w / 65536) =w / 65536 % 4294967296) (Fc 21 (@ref3Encode (Header.mk (w / 4 % 4) (w / 16 % 4096) (w / 65536 % 4294967296)) ‹_›) r_)))))))))))
 rcases bb ((encodeH (Header.mk (w / 4 % 4) (w / 16 % 4096) (w / 65536 % 4294967296))).2 != 0 || (encodeH (Header.mk (w / 4 % 4) (w / 16 % 4096) (w / 65536 % 4294967296))).1 != w) with hc0 | hc0<;>have hc0p:=hc0<;>simp only [bs] at hc0p
 ·exact gF [] Tryz.func135 [false,false,false,true] (Q0 (Ft 30 hc0 (Fa (by grind [decodeH,hdrOf,noHdr] : 0 =(decodeH w).1.kind) (Fa (by grind [decodeH,hdrOf,noHdr] : 0 =(decodeH w).1.length) (Fa (by grind [decodeH,hdrOf,noHdr] : 0 =(decodeH w).1.map) (Fa (by grind [decodeH,hdrOf,noHdr] : false =(decodeH w).2) Fz))))))
 ·obtain ⟨hc0pa,hc0pb⟩ := hc0p
  exact gF [] Tryz.func135 [false,false,false,true] (Q0 (Ff 30 hc0 (Fa (by simp [decodeH,hdrOf,noHdr, *] : w / 4 % 4 =(decodeH w).1.kind) (Fa (by simp [decodeH,hdrOf,noHdr, *] : w / 16 % 4096 =(decodeH w).1.length) (Fa (by simp [decodeH,hdrOf,noHdr, *] : w / 65536 % 4294967296 =(decodeH w).1.map) (Fa (by simp [decodeH,hdrOf,noHdr, *] : true =(decodeH w).2) Fz))))))
theorem ptrBit (h : Header) (i : Int) (hm : 0 ≤ h.map ∧ h.map ≤ 4294967295) (hv : validH h = true) (h0 : 0 ≤ i) (h1 : i < h.length) :
  (h.kind == 2 || h.kind == 1 && bits BinOp.and IntKind.u32 (h.map.fdiv (2 ^ min i.toNat 32)) 1 == 1) = pointerH h i := by
 have hv' := validH_iff.1 hv
 by_cases hk : h.kind = 1
 ·have hl : h.length ≤ 32 := by simp [hk] at hv'; omega
  have hp : (0 : Int) ≤ 2 ^ i.toNat := Int.pow_nonneg (by decide)
  rw [Nat.min_eq_left (by omega),Int.fdiv_eq_ediv_of_nonneg _ hp]
  have h2 : 0 ≤ h.map / 2 ^ i.toNat := Int.ediv_nonneg hm.1 hp
  have h3 : h.map / 2 ^ i.toNat ≤ h.map := Int.ediv_le_self _ hm.1
  have := and_mask32 1 (by decide) (x := h.map / 2 ^ i.toNat) (m := 1) (by decide) h2 (by omega)
  rw [this]
  simp [pointerH,hv,h0,h1,hk]
 ·have : (h.kind == 1) = false := by simp [hk]
  simp [pointerH,hv,h0,h1,this]
theorem ref3Pointer (h : Header) (i : Int) (hm : 0 ≤ h.map ∧ h.map ≤ 4294967295) : GSpec Tryz.prog 119 [h.av,int i] true (bool (pointerH h i)) [] := by
 rcases bb (!validH h || decide (i < 0) || decide (h.length ≤ i)) with hc0 | hc0<;>have hc0p:=hc0<;>simp only [bs] at hc0p
 ·exact gF [] Tryz.func119 [false,false,false,false,false,false,true] (Fc 6 (@ref3Valid h ‹_›) (Ft 17 hc0 (Fa (by grind [pointerH] : false =pointerH h i) Fz)))
 ·obtain ⟨⟨hc0paa,hc0pab⟩,hc0pb⟩ := hc0p
  have hf3 := validH_iff.1 hc0paa
  exact gF [] Tryz.func119 [false,false,false,false,false,false,false,false,false,false,false,false,false,false,false,false,false,false,true] (Fh 29 [.int i] (Fc 6 (@ref3Valid h ‹_›) (Ff 17 hc0 (Fa (by intro hg; try simp only [bs] at hg; exact wrapU2 rfl (by omega) (by omega) : (!h.kind == 2&&h.kind == 1) =true→IntKind.u64.wrap i =i) (Fa (by intro hg; try simp only [bs] at hg; omega : (!h.kind == 2&&h.kind == 1) =true→0≤i) (Fa (by exact ptrBit h i hm ‹_› (by omega) (by omega) : (h.kind == 2||h.kind == 1&&bits BinOp.and IntKind.u32 (h.map.fdiv (2 ^ min i.toNat 32)) (1 :Int) == 1) =pointerH h i) Fz))))))
def spl {α : Type} (ws : List α) (i : Nat) (l : List α) : List α := ws.take i ++ l ++ ws.drop (i + l.length)
def placeA (ws : List Int) (a n : Int) : Int × Bool := if 4096 ≤ a ∧ a ≤ 4096 + ws.length then (a - 4096,decide (n ≤ ws.length - (a - 4096))) else (0,false)
def indexA (ws : List Int) (a : Int) : Int × Int := if 4096 ≤ a ∧ a < 4096 + ws.length then (a - 4096,0) else (0,2)
def loadA (ws : List Int) (a : Int) : Int × Int := if 4096 ≤ a ∧ a < 4096 + ws.length then (ws.getD (a - 4096).toNat 0,0) else (0,2)
def readA (ws : List Int) (a n : Int) : List Int × Int := if n < 0 then ([],1) else if 4096 ≤ a ∧ a - 4096 + n ≤ ws.length then ((ws.drop (a - 4096).toNat).take n.toNat,0) else ([],2)
def writeA (ws : List Int) (a : Int) (l : List Int) : List Int × Int := if 4096 ≤ a ∧ a - 4096 + l.length ≤ ws.length then (spl ws (a - 4096).toNat l,0) else ([],2)
def storeA (ws : List Int) (a v : Int) : List Int × Int := writeA ws a [v]
def moveA (ws : List Int) (a b n : Int) : List Int × Int := if (readA ws b n).2 ≠ 0 then ([],(readA ws b n).2) else writeA ws a (readA ws b n).1
theorem readA_len (ws : List Int) (a n : Int) : (readA ws a n).1.length ≤ ws.length := by
 unfold readA
 split
 ·simp
 ·split
  ·simp; omega
  ·simp
theorem placeA_ok {ws : List Int} {a n : Int} (h : (placeA ws a n).2 = true) : (placeA ws a n).1 = a - 4096 ∧ 4096 ≤ a ∧ a ≤ 4096 + ws.length ∧ a - 4096 + n ≤ ws.length := by
 unfold placeA at h ⊢
 split at h
 ·rename_i hc; rw [if_pos hc]; simp at h; simp; omega
 ·simp at h
theorem placeA_no {ws : List Int} {a n : Int} (h : (placeA ws a n).2 = false) : ¬ (4096 ≤ a ∧ a ≤ 4096 + ws.length ∧ a - 4096 + n ≤ ws.length) := by
 unfold placeA at h
 split at h
 ·simp at h; omega
 ·omega
theorem indexA_ok {ws : List Int} {a : Int} (h : (indexA ws a).2 = 0) : (indexA ws a).1 = a - 4096 ∧ 4096 ≤ a ∧ a < 4096 + ws.length := by
 unfold indexA at h ⊢
 split at h
 ·rename_i hc; rw [if_pos hc]; exact ⟨rfl,hc⟩
 ·simp at h
theorem indexA_no {ws : List Int} {a : Int} (h : ¬ (indexA ws a).2 = 0) : ¬ (4096 ≤ a ∧ a < 4096 + ws.length) ∧ (indexA ws a).2 = 2 := by
 unfold indexA at h ⊢
 split at h
 ·simp at h
 ·rename_i hc; rw [if_neg hc]; exact ⟨hc,rfl⟩
theorem ref2Span (ws : List Int) (a n : Int) (hw : ws.length ≤ 1048576) (h0 : 0 ≤ a ∧ a ≤ 18446744073709551615) : GSpec Tryz.prog 222 [wordsV ws,u64 a,int n] true (.tu [int (placeA ws a n).1,bool (placeA ws a n).2]) [] := by
 have Q0 {h_ c_ p_} (r_ : Fq h_ c_ p_) := FlG 14 (!decide (a < 4096)) wdv ws (FvG 15 (!decide (a < 4096)) (↑ws.length) (FvG 16 (!decide (a < 4096)) (4096 + (↑ws.length : Int)) r_))
 rcases bb (decide (a < 4096) || decide (4096 + (↑ws.length : Int) < a)) with hc0 | hc0<;>have hc0p:=hc0<;>simp only [bs] at hc0p
 ·exact gF [] Tryz.func222 [false,false,false,false,false,false,true] (Q0 (Ft 18 hc0 (Fa (by (simp only [placeA]; (repeat' split) <;> first | rfl | omega | (exfalso; omega) | simp_all) : 0 =(placeA ws a n).fst) (Fa (by (simp only [placeA]; (repeat' split) <;> first | rfl | omega | (exfalso; omega) | simp_all) : false =(placeA ws a n).snd) Fz))))
 ·obtain ⟨hc0pa,hc0pb⟩ := hc0p
  exact gF [] Tryz.func222 [false,false,false,false,false,false,true] (Q0 (Ff 18 hc0 (Fv 20 (a - 4096) (Fi 21 (a - 4096) (Fl 25 wdv ws (Fi 27 ((↑ws.length : Int) - (a - 4096)) (Fa (by (simp only [placeA]; (repeat' split) <;> first | rfl | omega | (exfalso; omega) | simp_all) : a - 4096 =(placeA ws a n).fst) (Fa (by (simp only [placeA]; (repeat' split) <;> first | rfl | omega | (exfalso; omega) | simp_all) : decide (n≤(↑ws.length : Int) - (a - 4096)) =(placeA ws a n).snd) Fz))))))))
theorem ref2Index (ws : List Int) (a : Int) (hw : ws.length ≤ 1048576) (h0 : 0 ≤ a ∧ a ≤ 18446744073709551615) : GSpec Tryz.prog 202 [wordsV ws,u64 a] true (.tu [int (indexA ws a).1,int (indexA ws a).2]) [] := by
 have Q0 {h_ c_ p_} (r_ : Fq h_ c_ p_) := Fc 11 (@ref2Span ws a (1) ‹_› ‹_›) r_
 rcases bb (!(placeA ws a 1).snd) with hc0 | hc0<;>have hc0p:=hc0<;>simp only [bs] at hc0p
 ·exact gF [] Tryz.func202 [true] (Q0 (Ft 15 hc0 (Fa (by grind [placeA,indexA] : 0 =(indexA ws a).fst) (Fa (by grind [placeA,indexA] : 2 =(indexA ws a).snd) Fz))))
 ·exact gF [] Tryz.func202 [true] (Q0 (Ff 15 hc0 (Fa (by grind [placeA,indexA] : (placeA ws a 1).fst =(indexA ws a).fst) (Fa (by grind [placeA,indexA] : 0 =(indexA ws a).snd) Fz))))
theorem ref2Load (ws : List Int) (a : Int) (hw : ws.length ≤ 1048576) (h0 : 0 ≤ a ∧ a ≤ 18446744073709551615) : GSpec Tryz.prog 131 [wordsV ws,u64 a] true (.tu [u64 (loadA ws a).1,int (loadA ws a).2]) [] := by
 have Q0 {h_ c_ p_} (r_ : Fq h_ c_ p_) := Fc 11 (@ref2Index ws a ‹_› ‹_›) r_
 rcases bb ((indexA ws a).snd != 0) with hc0 | hc0<;>have hc0p:=hc0<;>simp only [bs] at hc0p
 ·have hf3 := indexA_no hc0p
  obtain ⟨hf3a,hf3b⟩ := hf3
  exact gF [] Tryz.func131 [true] (Q0 (Ft 15 hc0 (Fa (by simp [loadA, *] : 0 =(loadA ws a).fst) (Fa (by simp [loadA, *] : (indexA ws a).snd =(loadA ws a).snd) Fz))))
 ·have hf5 := indexA_ok hc0p
  obtain ⟨hf5a,⟨hf5ba,hf5bb⟩⟩ := hf5
  exact gF [] Tryz.func131 [true] (Q0 (Ff 15 hc0 (Fe 19 wdv ws ((indexA ws a).fst) (Fa (by simp [loadA, *] : ws.getD (indexA ws a).fst.toNat default =(loadA ws a).fst) (Fa (by simp [loadA, *] : 0 =(loadA ws a).snd) Fz)))))
theorem ref2Read (ws : List Int) (a n : Int) (hw : ws.length ≤ 1048576) (h0 : 0 ≤ a ∧ a ≤ 18446744073709551615) : GSpec Tryz.prog 188 [wordsV ws,u64 a,int n] true (.tu [wordsV (readA ws a n).1,int (readA ws a n).2]) [] := by
 rcases bb (decide (n < 0)) with hc0 | hc0<;>have hc0p:=hc0<;>simp only [bs] at hc0p
 ·exact gF [] Tryz.func188 [true] (Ft 11 hc0 (Fnl (Fa (by simp [readA, *] : [] =List.map wdv (readA ws a n).fst) (Fa (by simp [readA, *] : 1 =(readA ws a n).snd) Fz))))
 ·have Q0 {h_ c_ p_} (r_ : Fq h_ c_ p_) := Ff 11 hc0 (Fc 16 (@ref2Span ws a n ‹_› ‹_›) r_)
  rcases bb (!(placeA ws a n).snd) with hc9 | hc9<;>have hc9p:=hc9<;>simp only [bs] at hc9p
  ·have hf12 := placeA_no hc9p
   exact gF [] Tryz.func188 [true] (Q0 (Ft 20 hc9 (Fnl (Fa (by (simp only [readA]; (repeat' split) <;> first | rfl | omega | (exfalso; omega) | simp_all) : [] =List.map wdv (readA ws a n).fst) (Fa (by (simp only [readA]; (repeat' split) <;> first | rfl | omega | (exfalso; omega) | simp_all) : 2 =(readA ws a n).snd) Fz)))))
  ·have hf14 := placeA_ok hc9p
   obtain ⟨hf14a,⟨hf14ba,⟨hf14bba,hf14bbb⟩⟩⟩ := hf14
   exact gF [] Tryz.func188 [true] (Fh 28 [.els (List.map wdv (List.take (((placeA ws a n).fst + n).toNat - (placeA ws a n).fst.toNat) (List.drop (placeA ws a n).fst.toNat ws)))] (Q0 (Ff 20 hc9 (Fs 21 (List.map wdv []) (Fi 26 ((placeA ws a n).fst + n) (Fa (by (simp only [List.length_map]; omega) : 0≤(placeA ws a n).fst∧(placeA ws a n).fst≤(placeA ws a n).fst + n∧(placeA ws a n).fst + n≤(↑(List.map wdv ws).length : Int)) (Fa (by simp [readA,List.map_take,List.map_drop,List.map_set,List.map_append,wdv,idv] : List.take (((placeA ws a n).fst + n).toNat - (placeA ws a n).fst.toNat) (List.drop (placeA ws a n).fst.toNat (List.map wdv ws)) =List.map wdv (List.take (((placeA ws a n).fst + n).toNat - (placeA ws a n).fst.toNat) (List.drop (placeA ws a n).fst.toNat ws))) (Fa (by (simp [readA, *]; omega) : (List.map wdv []).length + (List.map wdv (List.take (((placeA ws a n).fst + n).toNat - (placeA ws a n).fst.toNat) (List.drop (placeA ws a n).fst.toNat ws))).length≤2 ^ 30) (Fs 27 (List.map wdv (List.take (((placeA ws a n).fst + n).toNat - (placeA ws a n).fst.toNat) (List.drop (placeA ws a n).fst.toNat ws))) (Fa (by exact flat_wdv _ : FlatEls (List.map wdv (List.take (((placeA ws a n).fst + n).toNat - (placeA ws a n).fst.toNat) (List.drop (placeA ws a n).fst.toNat ws)))) (Fa (by refine congrArg _ ?_; (simp [readA, *]; omega) : List.map wdv (List.take (((placeA ws a n).fst + n).toNat - (placeA ws a n).fst.toNat) (List.drop (placeA ws a n).fst.toNat ws)) =List.map wdv (readA ws a n).fst) (Fa (by simp [readA, *] : 0 =(readA ws a n).snd) Fz))))))))))))
def wr {α : Type} (ws l : List α) (i k : Nat) : List α := ws.take i ++ l.take k ++ ws.drop (i + k)
theorem wr_zero {α : Type} (ws l : List α) (i : Nat) : wr ws l i 0 = ws := by simp [wr]
theorem wr_all {α : Type} (ws l : List α) (i : Nat) : wr ws l i l.length = spl ws i l := by simp [wr,spl]
theorem wr_len {α : Type} {ws l : List α} {i k : Nat} (h : i + l.length ≤ ws.length) (hk : k ≤ l.length) : (wr ws l i k).length = ws.length := by
 simp [wr]; omega
theorem spl_len {α : Type} {ws l : List α} {i : Nat} (h : i + l.length ≤ ws.length) : (spl ws i l).length = ws.length := by
 rw [← wr_all]; exact wr_len h (Nat.le_refl _)
theorem wr_get {α : Type} {ws l : List α} {i k : Nat} (h : i + l.length ≤ ws.length) (hk : k ≤ l.length) (j : Nat) : (wr ws l i k)[j]? = if j < i then ws[j]? else if j < i + k then l[j - i]? else ws[j]? := by
 have e : (l.take k).length = k := by simp; omega
 have := splice_get (l := ws) (xs := l.take k) (o := i) (by omega) j
 rw [e] at this
 rw [wr,this]
 split
 ·rfl
 ·split
  ·rw [List.getElem?_take_of_lt (by omega)]
  ·rfl
theorem wr_succ {α : Type} {ws l : List α} {i k : Nat} (h : i + l.length ≤ ws.length) (hk : k < l.length) (d : α) : (wr ws l i k).set (i + k) (l.getD k d) = wr ws l i (k + 1) := by
 apply List.ext_getElem?
 intro j
 have hl := wr_len h (Nat.le_of_lt hk)
 rw [List.getElem?_set,wr_get h (by omega),wr_get h (by omega),hl]
 by_cases hj : i + k = j
 ·subst hj
  rw [if_pos rfl,if_pos (by omega),if_neg (by omega),if_pos (by omega)]
  simp [List.getD,hk]
 ·rw [if_neg hj]
  by_cases h1 : j < i
  ·rw [if_pos h1,if_pos h1]
  ·rw [if_neg h1,if_neg h1]
   by_cases h2 : j < i + k
   ·rw [if_pos h2,if_pos (by omega)]
   ·rw [if_neg h2,if_neg (by omega)]
def write2L (ws l : List Int) (i : Int) (k : Nat) : Tg := ⟨tm 41 [(2,wordsV l),(8,int i),(10,.ow 32024),(11,int k)],[(32024,.arr 56 1 ((wr ws l i.toNat k).map wdv))],60⟩
theorem write2Round (ws l : List Int) (i : Int) (k : Nat) (hw : ws.length ≤ 1048576) (hi : 0 ≤ i) (h : i.toNat + l.length ≤ ws.length) (hk : k < l.length) : CSpec Tryz.prog (rndF Tryz.f178 0) (write2L ws l i k).st .nrm (write2L ws l i (k + 1)).st := by
 have hs := wr_succ h hk default
 have hn := wr_len h (Nat.le_of_lt hk)
 have ei : i + k = ((i.toNat + k : Nat) : Int) := by omega
 exact sF [] [false,false,false,false,true] (Fh 10039 [.els (List.map wdv ((wr ws l i.toNat k).set (↑(i.toNat + k) : Int).toNat (l.getD k default)))] (Fl 27 wdv l (Ftb 28 (decide ((↑k : Int) < (↑l.length : Int))) (Fg 34 (by rw [wrapI' (by omega) (by omega)]; omega : IntKind.i64.wrap (i + (↑k : Int)) =(↑(i.toNat + k) : Int)) (Fek 37 wdv l (↑k) k (Fa (by (simp only [List.length_map]; omega) : 0≤(↑(i.toNat + k) : Int)∧(↑(i.toNat + k) : Int).toNat < (List.map wdv (wr ws l i.toNat k)).length) (Fa (by (simp only [List.length_map]; omega) : (↑(i.toNat + k) : Int).toNat < (List.map wdv (wr ws l i.toNat k)).length) (Fa (by simp [List.map_take,List.map_drop,List.map_set,List.map_append,wdv,idv] : (List.map wdv (wr ws l i.toNat k)).set (↑(i.toNat + k) : Int).toNat [du64 (l.getD k default)] =List.map wdv ((wr ws l i.toNat k).set (↑(i.toNat + k) : Int).toNat (l.getD k default))) (Fx 30 k (Fr (56 : Int) (Fa (by refine congrArg _ ?_; exact hs : List.map wdv ((wr ws l i.toNat k).set (↑(i.toNat + k) : Int).toNat (l.getD k default)) =List.map wdv (wr ws l i.toNat (k + 1))) Fz)))))))))))
theorem write2End (ws l : List Int) (i : Int) : CSpec Tryz.prog (rndF Tryz.f178 0) (write2L ws l i l.length).st (.ext 0) (Tg.st ⟨tm 41 [(10,.ow 32024)],[(32024,.arr 56 1 ((spl ws i.toNat l).map wdv))],60⟩) := by
 have hs := wr_all ws l i.toNat
 exact sF [] [false,true] (Fl 27 wdv l (Ffb 28 (decide ((↑l.length : Int) < (↑l.length : Int))) (Fr (56 : Int) (Fa (by refine congrArg _ ?_; assumption : List.map wdv (wr ws l i.toNat l.length) =List.map wdv (spl ws i.toNat l)) Fz))))
theorem write2Loop (ws l : List Int) (i : Int) (hw : ws.length ≤ 1048576) (hi : 0 ≤ i) (h : i.toNat + l.length ≤ ws.length) : CSpec Tryz.prog (blkF Tryz.f178 0) (Tg.st ⟨tm 41 [(2,wordsV l),(8,int i),(10,.ow 32024),(11,int 0)],[(32024,.arr 56 1 (ws.map wdv))],60⟩) .nrm (Tg.st ⟨tm 41 [(10,.ow 32024)],[(32024,.arr 56 1 ((spl ws i.toNat l).map wdv))],60⟩) := by
 have := loop_ext_of (S := fun k => (write2L ws l i k).st) l.length (by kernel_rfl) (fun k hk => write2Round ws l i k hw hi h hk) (write2End ws l i)
 simp only [write2L,wr_zero] at this
 exact this
theorem ref2Write (ws l : List Int) (a : Int) (hw : ws.length ≤ 1048576) (h0 : 0 ≤ a ∧ a ≤ 18446744073709551615) (hl : l.length ≤ 1048576) : GSpec Tryz.prog 178 [wordsV ws,u64 a,wordsV l] true (.tu [wordsV (writeA ws a l).1,int (writeA ws a l).2]) [] := by
 have Q0 {h_ c_ p_} (r_ : Fq h_ c_ p_) := Fl 16 wdv l (Fc 17 (@ref2Span ws a ((↑l.length : Int)) ‹_› ‹_›) r_)
 rcases bb (!(placeA ws a (↑l.length : Int)).snd) with hc0 | hc0<;>have hc0p:=hc0<;>simp only [bs] at hc0p
 ·have hf3 := placeA_no hc0p
  exact gF [] Tryz.func178 [true] (Q0 (Ft 21 hc0 (Fnl (Fa (by (simp only [writeA]; (repeat' split) <;> first | rfl | omega | (exfalso; omega) | simp_all) : [] =List.map wdv (writeA ws a l).fst) (Fa (by (simp only [writeA]; (repeat' split) <;> first | rfl | omega | (exfalso; omega) | simp_all) : 2 =(writeA ws a l).snd) Fz)))))
 ·have hf5 := placeA_ok hc0p
  obtain ⟨hf5a,⟨hf5ba,⟨hf5bba,hf5bbb⟩⟩⟩ := hf5
  exact gF [] Tryz.func178 [false,false,false,false,false,true] (Q0 (Ff 21 hc0 (Fs 22 (List.map wdv []) (Fa (by (simp [writeA, *]; omega) : (List.map wdv []).length + (List.map wdv ws).length≤2 ^ 30) (Fs 24 (List.map wdv ws) (Fu (@write2Loop ws l ((placeA ws a (↑l.length : Int)).fst) ‹_› (by omega) (by omega)) (Fa (by exact flat_wdv _ : FlatEls (List.map wdv (spl ws (placeA ws a (↑l.length : Int)).fst.toNat l))) (Fa (by refine congrArg _ ?_; simp [writeA, *] : List.map wdv (spl ws (placeA ws a (↑l.length : Int)).fst.toNat l) =List.map wdv (writeA ws a l).fst) (Fa (by simp [writeA, *] : 0 =(writeA ws a l).snd) Fz)))))))))
theorem ref2Store (ws : List Int) (a v : Int) (hw : ws.length ≤ 1048576) (h0 : 0 ≤ a ∧ a ≤ 18446744073709551615) : GSpec Tryz.prog 139 [wordsV ws,u64 a,u64 v] false (.tu [wordsV (storeA ws a v).1,int (storeA ws a v).2]) [] := by
 exact gF [] Tryz.func139 [] (Fs 11 (List.map wdv [v]) (Fc 12 (@ref2Write ws ([v]) a ‹_› ‹_› (by simp [storeA, *])) Fz))
theorem ref2Move (ws : List Int) (a b n : Int) (hw : ws.length ≤ 1048576) (h0 : 0 ≤ a ∧ a ≤ 18446744073709551615) (h1 : 0 ≤ b ∧ b ≤ 18446744073709551615) : GSpec Tryz.prog 137 [wordsV ws,u64 a,u64 b,int n] false (.tu [wordsV (moveA ws a b n).1,int (moveA ws a b n).2]) [] := by
 have hr := readA_len ws b n
 have Q0 {h_ c_ p_} (r_ : Fq h_ c_ p_) := Fc 16 (@ref2Read ws b n ‹_› ‹_›) r_
 rcases bb ((readA ws b n).snd != 0) with hc0 | hc0<;>have hc0p:=hc0<;>simp only [bs] at hc0p
 ·exact gF [] Tryz.func137 [true] (Q0 (Ft 20 hc0 (Fnl (Fa (by simp [moveA, *] : [] =List.map wdv (moveA ws a b n).fst) (Fa (by simp [moveA, *] : (readA ws b n).snd =(moveA ws a b n).snd) Fz)))))
 ·exact gF [] Tryz.func137 [true] (Q0 (Ff 20 hc0 (Fc 25 (@ref2Write ws ((readA ws b n).fst) a ‹_› ‹_› (by omega)) (Fa (by refine congrArg _ ?_; simp [moveA, *] : List.map wdv (writeA ws a (readA ws b n).fst).fst =List.map wdv (moveA ws a b n).fst) (Fa (by simp [moveA, *] : (writeA ws a (readA ws b n).fst).snd =(moveA ws a b n).snd) Fz)))))
theorem ref4Pins (n : Int) : GSpec Tryz.prog 169 [int n] true (bool (decide (0 ≤ n) && decide (n ≤ 2147483647))) [] := by
 exact gF [] Tryz.func169 [] Fz
def tailRun (sp : Int) : List Page → Nat
 | [] => 0
 | p :: r => if p.kind = 3 ∧ p.space = sp then tailRun sp r + 1 else 0
theorem tailRun_le (sp : Int) : ∀ l,tailRun sp l ≤ l.length
 | [] => Nat.le_refl _
 | p :: r => by
  have := tailRun_le sp r
  simp only [tailRun,List.length_cons]
  split <;> omega
theorem drop_at {l : List Page} {k : Nat} (h : k < l.length) : l.drop k = l.getD k default :: l.drop (k + 1) := by
 rw [List.drop_eq_getElem_cons h]
 simp [List.getD,h]
def tailsL (l : List Page) (sp : Int) (n k : Nat) : Tg := ⟨tm 37 [(0,pagesV l),(2,int sp),(7,int n),(8,int k)],[],60⟩
theorem tailsRound (l : List Page) (hl : l.length ≤ 1048576) (sp : Int) (n k : Nat) (hn : n ≤ k) (hk : k < l.length) (h : (l.getD k default).kind = 3 ∧ (l.getD k default).space = sp) : CSpec Tryz.prog (rndF Tryz.f170 0) (tailsL l sp n k).st .nrm (tailsL l sp (n + 1) (k + 1)).st := by
 exact sF [] [] (Fl 13 Page.dv l (FeG 18 (decide ((↑k : Int) < (↑l.length : Int))) Page.dv l (↑k) k (FeG 26 (decide ((↑k : Int) < (↑l.length : Int))&&(l.getD k default).kind == 3) Page.dv l (↑k) k (Ftb 31 (decide ((↑k : Int) < (↑l.length : Int))&&(l.getD k default).kind == 3&&(l.getD k default).space == sp) (Fx 35 n (Fx 33 k Fz))))))
theorem tailsEnd (l : List Page) (hl : l.length ≤ 1048576) (sp : Int) (n k : Nat) (h : k < l.length → ¬ ((l.getD k default).kind = 3 ∧ (l.getD k default).space = sp)) : CSpec Tryz.prog (rndF Tryz.f170 0) (tailsL l sp n k).st (.ext 0) (Tg.st ⟨tm 37 [(7,int n)],[],60⟩) := by
 exact sF [] [] (Fl 13 Page.dv l (FeG 18 (decide ((↑k : Int) < (↑l.length : Int))) Page.dv l (↑k) k (FeG 26 (decide ((↑k : Int) < (↑l.length : Int))&&(l.getD k default).kind == 3) Page.dv l (↑k) k (Ffb 31 (decide ((↑k : Int) < (↑l.length : Int))&&(l.getD k default).kind == 3&&(l.getD k default).space == sp) Fz))))
theorem tailsGo (l : List Page) (hl : l.length ≤ 1048576) (sp : Int) : ∀ (m n k : Nat),l.length - k = m → n ≤ k → LSpec Tryz.prog Tryz.f170 0 (tailsL l sp n k).st (.ext 0) (Tg.st ⟨tm 37 [(7,int ((n + tailRun sp (l.drop k) : Nat) : Int))],[],60⟩) := by
 intro m
 induction m with
 | zero =>
  intro n k hm hn
  have e : l.drop k = [] := List.drop_eq_nil_of_le (by omega)
  rw [e]
  exact .endx (tailsEnd l hl sp n k (fun h => by omega))
 | succ m ih =>
  intro n k hm hn
  rw [drop_at (by omega),tailRun]
  by_cases h : (l.getD k default).kind = 3 ∧ (l.getD k default).space = sp
  ·rw [if_pos h]
   have := ih (n + 1) (k + 1) (by omega) (by omega)
   rw [show n + 1 + tailRun sp (l.drop (k + 1)) = n + (tailRun sp (l.drop (k + 1)) + 1) from by omega] at this
   exact .next (tailsRound l hl sp n k hn (by omega) h) this
  ·rw [if_neg h]
   exact .endx (tailsEnd l hl sp n k (fun _ => h))
theorem tailsLoop (l : List Page) (sp : Int) (k : Nat) (hl : l.length ≤ 1048576) : CSpec Tryz.prog (blkF Tryz.f170 0) (Tg.st ⟨tm 37 [(0,pagesV l),(2,int sp),(7,int 0),(8,int k)],[],60⟩) .nrm (Tg.st ⟨tm 37 [(7,int (tailRun sp (l.drop k)))],[],60⟩) := by
 have := (tailsGo l hl sp _ 0 k rfl (by omega)).ext (by kernel_rfl)
 rw [Nat.zero_add] at this
 exact this
theorem ref4Tails (l : List Page) (i : Nat) (sp : Int) (hl : l.length ≤ 1048576) (hi : i < l.length) : GSpec Tryz.prog 170 [pagesV l,int i,int sp] true (int (tailRun sp (l.drop (i + 1)))) [] := by
 exact gF [] Tryz.func170 [] (Fx 10 i (Fu (@tailsLoop l sp (i + 1) ‹_›) Fz))
def rchk (c : Conf) (l : List Page) (i : Nat) (due : Int) : Prop :=
 ((l.getD i default).kind = 3 ↔ 0 < due) ∧ 0 ≤ (l.getD i default).space ∧ (l.getD i default).space ≤ 1 ∧ 0 ≤ (l.getD i default).pins ∧ (l.getD i default).pins ≤ 2147483647 ∧
 0 ≤ (l.getD i default).kind ∧ (l.getD i default).kind ≤ 3 ∧
 ((l.getD i default).kind = 0 → (l.getD i default).space = 0 ∧ (l.getD i default).used = 0 ∧ (l.getD i default).pins = 0) ∧
 ((l.getD i default).kind = 1 → 0 ≤ (l.getD i default).used ∧ (l.getD i default).used ≤ c.pw) ∧
 ((l.getD i default).kind = 2 → 1 ≤ need c (l.getD i default).used ∧ need c (l.getD i default).used - 1 ≤ tailRun (l.getD i default).space (l.drop (i + 1))) ∧
 ((l.getD i default).kind = 3 → (l.getD i default).used = 0 ∧ (l.getD i default).pins = 0)
def rdue (c : Conf) (l : List Page) (i : Nat) (due : Int) : Int := if (l.getD i default).kind = 2 then need c (l.getD i default).used - 1 else max 0 (due - 1)
def rpropL (h : Heap) (i : Nat) (due : Int) : Tg := ⟨tm 157 [(1,.pt 8001 0 0),(2,bool false),(3,int due),(4,int i)],[(8001,.box 28 h.cells)],60⟩
theorem need_range (c : Conf) (n : Int) : -1 ≤ need c n ∧ need c n ≤ 5 := by
 unfold need
 split
 ·rename_i h
  have := validB_iff.1 h.1
  split
  ·omega
  ·have h1 : 0 ≤ (n + c.pw - 1) / c.pw := Int.ediv_nonneg (by omega) (by omega)
   have h2 : (n + c.pw - 1) / c.pw < 6 := Int.ediv_lt_of_lt_mul (by omega) (by omega)
   omega
 ·omega
theorem rpropRound (h : Heap) (i : Nat) (due : Int) (hl : h.pages.length ≤ 1048576) (hi : i < h.pages.length) (hd : 0 ≤ due ∧ due ≤ 5) (hc : rchk h.conf h.pages i due) : CSpec Tryz.prog (rndF Tryz.f99 0) (rpropL h i due).st .nrm (rpropL h (i + 1) (rdue h.conf h.pages i due)).st := by
 have hn := need_range h.conf (h.pages.getD i default).used
 have ht := tailRun_le (h.pages.getD i default).space (h.pages.drop (i + 1))
 rw [List.length_drop] at ht
 unfold rchk at hc
 have Q0 {h_ c_ p_} (r_ : Fq h_ c_ p_) := Fl 72 Page.dv h.pages (Ftb 73 (decide ((↑i : Int) < (↑h.pages.length : Int))) (Fek 79 Page.dv h.pages (↑i) i (FcG 100 (!(!((h.pages.getD i default).kind == 3) == decide (0 < due)||decide ((h.pages.getD i default).space < 0)||decide (1 < (h.pages.getD i default).space))) (fun hg => by (try simp only [bs] at hg); exact @ref4Pins ((h.pages.getD i default).pins)) (Ffb 102 (!((h.pages.getD i default).kind == 3) == decide (0 < due)||decide ((h.pages.getD i default).space < 0)||decide (1 < (h.pages.getD i default).space)||!(decide (0≤(h.pages.getD i default).pins)&&decide ((h.pages.getD i default).pins≤2147483647))) r_))))
 rcases bb ((h.pages.getD i default).kind == 0) with hc0 | hc0<;>have hc0p:=hc0<;>simp only [bs] at hc0p
 ·exact sF [] [false,false,false,false,false,false,false,false,false,false,false,false,true] (Fh 105 [.br true] (Q0 (Fa hc0 (Ffb 109 (!((h.pages.getD i default).kind == 0&&((h.pages.getD i default).space == 0&&((h.pages.getD i default).used == 0&&(h.pages.getD i default).pins == 0)))) (Fi 155 (due - 1) (Fgo 156 (if due - 1 > 0 then due - 1 else 0) (max 0 (due - 1)) (Fx 75 i (Fa (by grind [rdue] : max 0 (due - 1) =rdue h.conf h.pages i due) Fz))))))))
 ·rcases bb ((h.pages.getD i default).kind == 1) with hc1 | hc1<;>have hc1p:=hc1<;>simp only [bs] at hc1p
  ·exact sF [] [false,false,false,false,false,false,false,false,false,false,false,false,false,false,false,false,false,false,true] (Fh 110 [.br true] (Fh 122 [.br false] (Q0 (Fa hc0 (Fa hc1 (Ffb 105 (decide ((h.pages.getD i default).used < 0)||decide (h.conf.pw < (h.pages.getD i default).used)) (Fi 155 (due - 1) (Fgo 156 (if due - 1 > 0 then due - 1 else 0) (max 0 (due - 1)) (Fx 75 i (Fa (by grind [rdue] : max 0 (due - 1) =rdue h.conf h.pages i due) Fz))))))))))
  ·rcases bb ((h.pages.getD i default).kind == 2) with hc2 | hc2<;>have hc2p:=hc2<;>simp only [bs] at hc2p
   ·exact sF [] [false,false,false,false,false,false,false,false,false,false,false,false,false,false,false,false,false,false,false,false,false,true] (Fh 110 [.br false] (Fh 123 [.br true] (Fh 142 [.br false] (Q0 (Fa hc0 (Fa hc1 (Fa hc2 (Fc 129 (@refNeed h.conf ((h.pages.getD i default).used)) (FcG 138 (!decide (need h.conf (h.pages.getD i default).used < 1)) (fun hg => by (try simp only [bs] at hg); exact @ref4Tails h.pages i ((h.pages.getD i default).space) (by (try simp only [bs] at hg); assumption) (by (try simp only [bs] at hg); assumption)) (FiG 140 (!decide (need h.conf (h.pages.getD i default).used < 1)) (need h.conf (h.pages.getD i default).used - 1) (Ffb 105 (decide (need h.conf (h.pages.getD i default).used < 1)||decide ((↑(tailRun (h.pages.getD i default).space (List.drop (i + 1) h.pages)) : Int) < need h.conf (h.pages.getD i default).used - 1)) (Fi 155 (need h.conf (h.pages.getD i default).used - 1) (Fgo 156 (if need h.conf (h.pages.getD i default).used - 1 > 0 then need h.conf (h.pages.getD i default).used - 1 else 0) (max 0 (need h.conf (h.pages.getD i default).used - 1)) (Fx 75 i (Fa (by grind [rdue] : max 0 (need h.conf (h.pages.getD i default).used - 1) =rdue h.conf h.pages i due) Fz)))))))))))))))
   ·exact sF [] [false,false,false,false,false,false,false,false,false,false,false,false,false,false,false,true] (Fh 110 [.br false] (Fh 123 [.br false] (Fh 144 [.br true] (Fh 153 [.br false] (Q0 (Fa hc0 (Fa hc1 (Fa hc2 (Fb (((h.pages.getD i default).kind == 3)=true) (Ffb 105 ((h.pages.getD i default).used != 0||(h.pages.getD i default).pins != 0) (Fi 155 (due - 1) (Fgo 156 (if due - 1 > 0 then due - 1 else 0) (max 0 (due - 1)) (Fx 75 i (Fa (by grind [rdue] : max 0 (due - 1) =rdue h.conf h.pages i due) Fz))))))))))))))
theorem rpropBad (h : Heap) (i : Nat) (due : Int) (hl : h.pages.length ≤ 1048576) (hi : i < h.pages.length) (hd : 0 ≤ due ∧ due ≤ 5) (hc : ¬ rchk h.conf h.pages i due) : CSpec Tryz.prog (rndF Tryz.f99 0) (rpropL h i due).st .ret (Tg.st ⟨tm 157 [(2,bool false)],[],60⟩) := by
 have hn := need_range h.conf (h.pages.getD i default).used
 have ht := tailRun_le (h.pages.getD i default).space (h.pages.drop (i + 1))
 rw [List.length_drop] at ht
 unfold rchk at hc
 have Q0 {h_ c_ p_} (r_ : Fq h_ c_ p_) := Fl 72 Page.dv h.pages (Ftb 73 (decide ((↑i : Int) < (↑h.pages.length : Int))) (Fek 79 Page.dv h.pages (↑i) i (FcG 100 (!(!((h.pages.getD i default).kind == 3) == decide (0 < due)||decide ((h.pages.getD i default).space < 0)||decide (1 < (h.pages.getD i default).space))) (fun hg => by (try simp only [bs] at hg); exact @ref4Pins ((h.pages.getD i default).pins)) r_)))
 rcases bb (!((h.pages.getD i default).kind == 3) == decide (0 < due) || decide ((h.pages.getD i default).space < 0) || decide (1 < (h.pages.getD i default).space) || !(decide (0 ≤ (h.pages.getD i default).pins) && decide ((h.pages.getD i default).pins ≤ 2147483647))) with hc0 | hc0<;>have hc0p:=hc0<;>simp only [bs] at hc0p
 ·exact sF [] [] (Q0 (Ft 102 hc0 Fz))
 ·obtain ⟨⟨⟨hc0paaa,hc0paab⟩,hc0pab⟩,⟨hc0pba,hc0pbb⟩⟩ := hc0p
  rcases bb ((h.pages.getD i default).kind == 0) with hc1 | hc1<;>have hc1p:=hc1<;>simp only [bs] at hc1p
  ·exact sF [] [] (Fh 109 [.br true] (Q0 (Ff 102 hc0 (Fa hc1 (Ftb 105 (!((h.pages.getD i default).kind == 0&&((h.pages.getD i default).space == 0&&((h.pages.getD i default).used == 0&&(h.pages.getD i default).pins == 0)))) Fz)))))
  ·rcases bb ((h.pages.getD i default).kind == 1) with hc2 | hc2<;>have hc2p:=hc2<;>simp only [bs] at hc2p
   ·exact sF [] [] (Fh 105 [.br false] (Fh 122 [.br true] (Q0 (Ff 102 hc0 (Fa hc1 (Fa hc2 (Ftb 110 (decide ((h.pages.getD i default).used < 0)||decide (h.conf.pw < (h.pages.getD i default).used)) Fz)))))))
   ·rcases bb ((h.pages.getD i default).kind == 2) with hc3 | hc3<;>have hc3p:=hc3<;>simp only [bs] at hc3p
    ·exact sF [] [] (Fh 105 [.br false] (Fh 110 [.br false] (Fh 142 [.br true] (Q0 (Ff 102 hc0 (Fa hc1 (Fa hc2 (Fa hc3 (Fc 129 (@refNeed h.conf ((h.pages.getD i default).used)) (FcG 138 (!decide (need h.conf (h.pages.getD i default).used < 1)) (fun hg => by (try simp only [bs] at hg); exact @ref4Tails h.pages i ((h.pages.getD i default).space) (by (try simp only [bs] at hg); assumption) (by (try simp only [bs] at hg); assumption)) (FiG 140 (!decide (need h.conf (h.pages.getD i default).used < 1)) (need h.conf (h.pages.getD i default).used - 1) (Ftb 123 (decide (need h.conf (h.pages.getD i default).used < 1)||decide ((↑(tailRun (h.pages.getD i default).space (List.drop (i + 1) h.pages)) : Int) < need h.conf (h.pages.getD i default).used - 1)) Fz))))))))))))
    ·rcases bb ((h.pages.getD i default).kind == 3) with hc4 | hc4<;>have hc4p:=hc4<;>simp only [bs] at hc4p
     ·exact sF [] [] (Fh 105 [.br false] (Fh 110 [.br false] (Fh 123 [.br false] (Fh 153 [.br true] (Q0 (Ff 102 hc0 (Fa hc1 (Fa hc2 (Fa hc3 (Fa hc4 (Ftb 144 ((h.pages.getD i default).used != 0||(h.pages.getD i default).pins != 0) Fz)))))))))))
     ·exact sF [] [] (Fh 105 [.br false] (Fh 110 [.br false] (Fh 123 [.br false] (Fh 144 [.br false] (Q0 (Ff 102 hc0 (Fa hc1 (Fa hc2 (Fa hc3 (Fa hc4 Fz))))))))))
theorem rpropEnd (h : Heap) (due : Int) : CSpec Tryz.prog (rndF Tryz.f99 0) (rpropL h h.pages.length due).st (.ext 0) (Tg.st ⟨tm 157 [],[],60⟩) := by
 exact sF [] [] (Fl 72 Page.dv h.pages (Ffb 73 (decide ((↑h.pages.length : Int) < (↑h.pages.length : Int))) Fz))
instance (c : Conf) (l : List Page) (i : Nat) (due : Int) : Decidable (rchk c l i due) := by unfold rchk; infer_instance
def rpB (c : Conf) (l : List Page) : Nat → Nat → Int → Bool
 | 0,_,_ => true
 | f + 1,i,due => if i < l.length then decide (rchk c l i due) && rpB c l f (i + 1) (rdue c l i due) else true
theorem rpB_past {c : Conf} {l : List Page} {f i : Nat} {due : Int} (h : l.length ≤ i) : rpB c l f i due = true := by
 cases f with
 | zero => rfl
 | succ f => rw [rpB,if_neg (by omega)]
theorem rpB_step {c : Conf} {l : List Page} {f i : Nat} {due : Int} (h : i < l.length) (hf : l.length ≤ i + f) : rpB c l f i due = (decide (rchk c l i due) && rpB c l (f - 1) (i + 1) (rdue c l i due)) := by
 cases f with
 | zero => omega
 | succ f => rw [rpB,if_pos h]; rfl
theorem spansB_step {c : Conf} {l : List Page} {f i : Nat} (h : i < l.length) (hf : l.length ≤ i + f) : spansB c l f i = (if spanN c l i = 0 then false else spansB c l (f - 1) (i + spanN c l i)) := by
 cases f with
 | zero => omega
 | succ f => rw [spansB,if_pos h]; rfl
theorem spansB_fuel {c : Conf} {l : List Page} : ∀ {m f g i : Nat},l.length - i ≤ m → l.length ≤ i + f → l.length ≤ i + g → spansB c l f i = spansB c l g i := by
 intro m
 induction m with
 | zero =>
  intro f g i hm hf hg
  have e : ∀ f,spansB c l f i = true := by
   intro f
   cases f with
   | zero => rw [spansB,decide_eq_true (by omega)]
   | succ f => rw [spansB,if_neg (by omega)]
  rw [e,e]
 | succ m ih =>
  intro f g i hm hf hg
  by_cases h : i < l.length
  ·rw [spansB_step h hf,spansB_step h hg]
   by_cases h0 : spanN c l i = 0
   ·rw [if_pos h0,if_pos h0]
   ·rw [if_neg h0,if_neg h0]
    exact ih (by omega) (by omega) (by omega)
  ·exact ih (by omega) hf hg
theorem getD_at {l : List Page} {i : Nat} (h : i < l.length) : l[i]? = some (l.getD i default) := by
 simp [List.getD,h]
theorem rpB_tails {c : Conf} {l : List Page} {sp : Int} (hsp : sp = 0 ∨ sp = 1) (q : Page) (hq : q.space = sp) : ∀ (d f i : Nat),d ≤ tailRun sp (l.drop i) → i + d ≤ l.length → l.length ≤ i + f →
  rpB c l f i d = (tailsB q ((l.drop i).take d) && rpB c l (f - d) (i + d) 0) := by
 intro d
 induction d with
 | zero => intro f i _ _ _; simp [tailsB]
 | succ d ih =>
  intro f i h1 h2 hf
  have hi : i < l.length := by omega
  rw [drop_at hi,tailRun] at h1
  by_cases hk : (l.getD i default).kind = 3 ∧ (l.getD i default).space = sp
  ·rw [if_pos hk] at h1
   have hd : rdue c l i ((d + 1 : Nat) : Int) = (d : Int) := by
    unfold rdue; rw [if_neg (by omega)]; omega
   rw [rpB_step hi hf,hd,ih (f - 1) (i + 1) (by omega) (by omega) (by omega),drop_at hi,List.take_succ_cons,show f - 1 - d = f - (d + 1) from by omega,show i + 1 + d = i + (d + 1) from by omega]
   have e : decide (rchk c l i ((d + 1 : Nat) : Int)) = tailB (l.getD i default) q := by
    rw [Bool.eq_iff_iff]
    simp only [decide_eq_true_eq,tailB]
    unfold rchk
    generalize l.getD i default = p at hk
    obtain ⟨a,b,u,v⟩ := p
    simp only [Page.mk.injEq] at hk ⊢
    omega
   rw [e]
   simp [tailsB,Bool.and_assoc]
  ·rw [if_neg hk] at h1; omega
theorem tailRun_of_tails {sp : Int} {q : Page} (hq : q.space = sp) : ∀ {l : List Page} {d : Nat},tailsB q (l.take d) = true → d ≤ l.length → d ≤ tailRun sp l
 | _,0,_,_ => Nat.zero_le _
 | [],d + 1,_,h => by simp at h
 | p :: l,d + 1,h,hl => by
  simp only [tailsB,List.take_succ_cons,List.all_cons,Bool.and_eq_true] at h
  have h1 := h.1
  simp only [tailB,decide_eq_true_eq] at h1
  have := tailRun_of_tails (sp := sp) hq (l := l) (d := d) h.2 (by simpa using hl)
  rw [tailRun,if_pos (by rw [h1]; exact ⟨rfl,hq⟩)]
  omega
theorem rpB_spans {c : Conf} {l : List Page} : ∀ {m f i : Nat},l.length - i ≤ m → l.length ≤ i + f → rpB c l f i 0 = spansB c l f i := by
 intro m
 induction m with
 | zero =>
  intro f i hm hf
  rw [rpB_past (by omega)]
  cases f with
  | zero => rw [spansB,decide_eq_true (by omega)]
  | succ f => rw [spansB,if_neg (by omega)]
 | succ m ih =>
  intro f i hm hf
  by_cases hi : i < l.length
  rotate_left
  ·exact ih (by omega) hf
  have hp := getD_at hi
  rw [rpB_step hi hf,spansB_step hi hf]
  generalize hpe : l.getD i default = p at hp
  have hone : ∀ (b : Bool),rdue c l i 0 = 0 → decide (rchk c l i 0) = b → spanN c l i = (if b = true then 1 else 0) → (decide (rchk c l i 0) && rpB c l (f - 1) (i + 1) (rdue c l i 0)) = (if spanN c l i = 0 then false else spansB c l (f - 1) (i + spanN c l i)) := by
   intro b h1 h2 h3
   rw [h1,h2,h3,ih (by omega) (by omega)]
   cases b <;> simp
  by_cases hk2 : p.kind = 2
  rotate_left
  ·have hd : rdue c l i 0 = 0 := by unfold rdue; rw [hpe,if_neg hk2]; omega
   by_cases hk0 : p.kind = 0
   ·refine hone (freeB p) hd ?_ (by rw [spanN,hp]; simp only [hk0,if_true])
    rw [Bool.eq_iff_iff]
    simp only [decide_eq_true_eq,freeB]
    unfold rchk
    rw [hpe]
    obtain ⟨a,b,u,v⟩ := p
    simp only [Page.mk.injEq] at hk0 hk2 ⊢
    omega
   ·by_cases hk1 : p.kind = 1
    ·refine hone (smallB p c) hd ?_ (by rw [spanN,hp]; simp [hk1])
     rw [Bool.eq_iff_iff]
     simp only [decide_eq_true_eq,smallB,spacedB,pinnedB,Bool.and_eq_true,Bool.or_eq_true,beq_iff_eq]
     unfold rchk
     rw [hpe]
     omega
    ·refine hone false hd ?_ (by rw [spanN,hp]; simp [hk0,hk1,hk2])
     simp only [decide_eq_false_iff_not]
     unfold rchk
     rw [hpe]
     omega
  ·have hd : rdue c l i 0 = need c p.used - 1 := by unfold rdue; rw [hpe,if_pos hk2]
   have hrc : rchk c l i 0 ↔ largeB p c = true ∧ need c p.used - 1 ≤ tailRun p.space (l.drop (i + 1)) := by
    simp only [largeB,spacedB,pinnedB,Bool.and_eq_true,Bool.or_eq_true,beq_iff_eq,decide_eq_true_eq]
    unfold rchk
    rw [hpe]
    omega
   have hsp : spanN c l i = (if largeB p c = true then (if (need c p.used).toNat ≤ l.length - i ∧ tailsB p ((l.drop (i + 1)).take ((need c p.used).toNat - 1)) = true then (need c p.used).toNat else 0) else 0) := by
    rw [spanN,hp]; simp [hk2]
   by_cases hl : largeB p c = true
   ·have hn : 1 ≤ need c p.used ∧ (p.space = 0 ∨ p.space = 1) := by
     simp only [largeB,spacedB,pinnedB,Bool.and_eq_true,Bool.or_eq_true,beq_iff_eq,decide_eq_true_eq] at hl
     omega
    have htl := tailRun_le p.space (l.drop (i + 1))
    rw [List.length_drop] at htl
    rw [hsp,if_pos hl,hd]
    by_cases ht : need c p.used - 1 ≤ tailRun p.space (l.drop (i + 1))
    ·rw [decide_eq_true (hrc.2 ⟨hl,ht⟩),Bool.true_and]
     have e : need c p.used - 1 = (((need c p.used).toNat - 1 : Nat) : Int) := by omega
     rw [e,rpB_tails hn.2 p rfl _ _ _ (by omega) (by omega) (by omega)]
     have hfit : (need c p.used).toNat ≤ l.length - i := by omega
     cases htb : tailsB p ((l.drop (i + 1)).take ((need c p.used).toNat - 1)) with
     | false => simp
     | true =>
      simp only [hfit,and_self,if_true]
      rw [if_neg (by omega),Bool.true_and,ih (by omega) (by omega),show i + 1 + ((need c p.used).toNat - 1) = i + (need c p.used).toNat from by omega]
      exact spansB_fuel (m := l.length) (by omega) (by omega) (by omega)
    ·rw [decide_eq_false (fun h => ht (hrc.1 h).2),Bool.false_and]
     have hno : ¬ ((need c p.used).toNat ≤ l.length - i ∧ tailsB p ((l.drop (i + 1)).take ((need c p.used).toNat - 1)) = true) := by
      intro h
      have := tailRun_of_tails (sp := p.space) (q := p) rfl h.2 (by rw [List.length_drop]; omega)
      omega
     rw [if_neg hno]
     simp
   ·rw [hsp,if_neg hl,decide_eq_false (fun h => hl (hrc.1 h).1)]
    simp
theorem rdue_range {c : Conf} {l : List Page} {i : Nat} {due : Int} (hd : 0 ≤ due ∧ due ≤ 5) (hc : rchk c l i due) : 0 ≤ rdue c l i due ∧ rdue c l i due ≤ 5 := by
 have := need_range c (l.getD i default).used
 unfold rchk at hc
 unfold rdue
 split <;> omega
theorem rpropGo (h : Heap) (hl : h.pages.length ≤ 1048576) : ∀ (f i : Nat) (due : Int),i ≤ h.pages.length → h.pages.length ≤ i + f → 0 ≤ due ∧ due ≤ 5 → rpB h.conf h.pages f i due = true → LSpec Tryz.prog Tryz.f99 0 (rpropL h i due).st (.ext 0) (Tg.st ⟨tm 157 [],[],60⟩) := by
 intro f
 induction f with
 | zero =>
  intro i due hi hf hd hr
  have : i = h.pages.length := by omega
  subst this
  exact .endx (rpropEnd h due)
 | succ f ih =>
  intro i due hi hf hd hr
  by_cases he : i < h.pages.length
  ·rw [rpB,if_pos he,Bool.and_eq_true] at hr
   have hc := of_decide_eq_true hr.1
   exact .next (rpropRound h i due hl he hd hc) (ih (i + 1) _ (by omega) (by omega) (rdue_range hd hc) hr.2)
  ·have : i = h.pages.length := by omega
   subst this
   exact .endx (rpropEnd h due)
theorem rpropGoBad (h : Heap) (hl : h.pages.length ≤ 1048576) : ∀ (f i : Nat) (due : Int),0 ≤ due ∧ due ≤ 5 → rpB h.conf h.pages f i due = false → LSpec Tryz.prog Tryz.f99 0 (rpropL h i due).st .ret (Tg.st ⟨tm 157 [(2,bool false)],[],60⟩) := by
 intro f
 induction f with
 | zero => intro i due hd hr; cases hr
 | succ f ih =>
  intro i due hd hr
  by_cases he : i < h.pages.length
  ·rw [rpB,if_pos he] at hr
   by_cases hc : rchk h.conf h.pages i due
   ·rw [decide_eq_true hc,Bool.true_and] at hr
    exact .next (rpropRound h i due hl he hd hc) (ih (i + 1) _ (rdue_range hd hc) hr)
   ·exact .endr (rpropBad h i due hl he hd hc)
  ·rw [rpB,if_neg he] at hr; cases hr
theorem rpropLoop (h : Heap) (hl : h.pages.length ≤ 1048576) (hr : rpB h.conf h.pages h.pages.length 0 0 = true) : CSpec Tryz.prog (blkF Tryz.f99 0) (Tg.st ⟨tm 157 [(1,.pt 8001 0 0),(2,bool false),(3,int 0),(4,int 0)],[(8001,.box 28 h.cells)],60⟩) .nrm (Tg.st ⟨tm 157 [],[],60⟩) :=
 (rpropGo h hl _ 0 0 (by omega) (by omega) (by omega) hr).ext (by kernel_rfl)
theorem rpropLoopBad (h : Heap) (hl : h.pages.length ≤ 1048576) (hr : rpB h.conf h.pages h.pages.length 0 0 = false) : CSpec Tryz.prog (blkF Tryz.f99 0) (Tg.st ⟨tm 157 [(1,.pt 8001 0 0),(2,bool false),(3,int 0),(4,int 0)],[(8001,.box 28 h.cells)],60⟩) .ret (Tg.st ⟨tm 157 [(2,bool false)],[],60⟩) :=
 (rpropGoBad h hl _ 0 0 (by omega) hr).ret (by kernel_rfl)
theorem pageAt_getD (l : List Page) (i : Int) : pageAt l i = l.getD i.toNat default := by
 rw [pageAt,List.getD_eq_getElem?_getD]; rfl
theorem properB_iff {h : Heap} : properB h = true ↔ validB h.conf = true ∧ (h.words.length : Int) = h.conf.pw * h.conf.pg ∧ (h.pages.length : Int) = h.conf.pg ∧ (h.space = 0 ∨ h.space = 1) ∧
  (h.bump = -1 ∨ (0 ≤ h.bump ∧ h.bump < h.pages.length ∧ (h.pages.getD h.bump.toNat default).kind = 1)) ∧ rpB h.conf h.pages h.pages.length 0 0 = true := by
 rw [rpB_spans (m := h.pages.length) (by omega) (by omega)]
 simp only [properB,Bool.and_eq_true,shapeB_iff,bumpB,Bool.or_eq_true,beq_iff_eq,decide_eq_true_eq,pageAt_getD]
 constructor
 ·rintro ⟨⟨h1,h2,h3,h4⟩,h5,h6⟩
  exact ⟨h1,h2,h3,h4,by omega,h6⟩
 ·rintro ⟨h1,h2,h3,h4,h5,h6⟩
  exact ⟨⟨h1,h2,h3,h4⟩,by omega,h6⟩
theorem ref4Proper (h : Heap) : GSpec Tryz.prog 99 [h.av] true (bool (properB h)) [] := by
  by_cases hv : validB h.conf = true
  · have ha := area hv
    rw [Int.mul_comm] at ha
    have hv' := validB_iff.1 hv
    have ei : h.conf.pg * h.conf.pw = h.conf.pw * h.conf.pg := Int.mul_comm _ _
    cases hs : rpB h.conf h.pages h.pages.length 0 0 with
    | true => rcases Bool.eq_false_or_eq_true (!validB h.conf || (↑h.words.length : Int) != h.conf.pw * h.conf.pg || (↑h.pages.length : Int) != h.conf.pg || decide (h.space < (0 : Int)) || decide ((1 : Int) < h.space)) with hc0 | hc0
              · have hc0p := hc0
                simp only [bs] at hc0p
                exact gF [] Tryz.func99 [false,false,false,false,false,false,false,false,false,false,false,false,false,false,false,false,false,false,false,false,false,false,false,false,true] (Fh 21 [.int (h.conf.pw * h.conf.pg)] (Fc 9 (@refValidConf h.conf) (FlG 14 (!!validB h.conf) wdv h.words (Fa (by intro hg; (try simp only [bs] at hg); rw [wrapI' (by omega) (by omega)]; omega : (!!validB h.conf) =true→IntKind.i64.wrap (h.conf.pg * h.conf.pw) =h.conf.pw * h.conf.pg) (FlG 27 (!(!validB h.conf||(↑h.words.length : Int) != h.conf.pw * h.conf.pg)) Page.dv h.pages (Ft 42 ‹(!validB h.conf||(↑h.words.length : Int) != h.conf.pw * h.conf.pg||(↑h.pages.length : Int) != h.conf.pg||decide (h.space < 0)||decide (1 < h.space)) =true› (Fa (by exact (Bool.eq_false_iff.2 (fun hh => by obtain ⟨q1,q2,q3,q4,q5,q6⟩ := properB_iff.1 hh; simp [hv] at hc0p; omega)).symm : false =properB h) Fz)))))))
              · have hc0p := hc0
                simp only [bs] at hc0p
                obtain ⟨⟨⟨⟨hc0paaaa,hc0paaab⟩,hc0paab⟩,hc0pab⟩,hc0pb⟩ := hc0p
                have Q0 {h_ c_ p_} (r_ : Fq h_ c_ p_) := Fc 9 (@refValidConf h.conf) (FlG 14 (!!validB h.conf) wdv h.words (Fa (by intro hg; (try simp only [bs] at hg); rw [wrapI' (by omega) (by omega)]; omega : (!!validB h.conf) =true→IntKind.i64.wrap (h.conf.pg * h.conf.pw) =h.conf.pw * h.conf.pg) (FlG 27 (!(!validB h.conf||(↑h.words.length : Int) != h.conf.pw * h.conf.pg)) Page.dv h.pages (Ff 42 ‹(!validB h.conf||(↑h.words.length : Int) != h.conf.pw * h.conf.pg||(↑h.pages.length : Int) != h.conf.pg||decide (h.space < 0)||decide (1 < h.space)) =false› (FlG 55 (h.bump != (-1 : Int)&&!decide (h.bump < 0)) Page.dv h.pages (FeG 63 (h.bump != (-1 : Int)&&!(decide (h.bump < 0)||decide ((↑h.pages.length : Int)≤h.bump))) Page.dv h.pages h.bump h.bump.toNat r_))))))
                rcases bb (h.bump != (-1 : Int) && (decide (h.bump < 0) || decide ((↑h.pages.length : Int) ≤ h.bump) || (h.pages.getD h.bump.toNat default).kind != 1)) with hc1 | hc1<;>have hc1p:=hc1<;>simp only [bs] at hc1p
                · obtain ⟨hc1pa,hc1pb⟩ := hc1p
                  exact gF [] Tryz.func99 [false,false,false,false,false,false,false,false,false,false,false,false,false,false,false,false,false,false,false,false,false,false,false,false,false,false,false,false,false,false,false,false,false,false,false,false,false,false,false,false,false,false,false,false,false,true] (Fh 21 [.int (h.conf.pw * h.conf.pg)] (Q0 (Ft 68 hc1 (Fa (by exact (Bool.eq_false_iff.2 (fun hh => by obtain ⟨q1,q2,q3,q4,q5,q6⟩ := properB_iff.1 hh; omega)).symm : false =properB h) Fz))))
                · exact gF [] Tryz.func99 [false,false,false,false,false,false,false,false,false,false,false,false,false,false,false,false,false,false,false,false,false,false,false,false,false,false,false,false,false,false,false,false,false,false,false,false,false,false,false,false,false,false,false,false,false,false,false,false,false,false,true] (Fh 21 [.int (h.conf.pw * h.conf.pg)] (Q0 (Ff 68 hc1 (Fu (@rpropLoop h (by omega) ‹_›) (Fa (by exact (properB_iff.2 ⟨hv,by omega,by omega,by omega,by omega,hs⟩).symm : true = properB h) Fz)))))
    | false => rcases Bool.eq_false_or_eq_true (!validB h.conf || (↑h.words.length : Int) != h.conf.pw * h.conf.pg || (↑h.pages.length : Int) != h.conf.pg || decide (h.space < (0 : Int)) || decide ((1 : Int) < h.space)) with hc0 | hc0
               · have hc0p := hc0
                 simp only [bs] at hc0p
                 exact gF [] Tryz.func99 [false,false,false,false,false,false,false,false,false,false,false,false,false,false,false,false,false,false,false,false,false,false,false,false,true] (Fh 21 [.int (h.conf.pw * h.conf.pg)] (Fc 9 (@refValidConf h.conf) (FlG 14 (!!validB h.conf) wdv h.words (Fa (by intro hg; (try simp only [bs] at hg); rw [wrapI' (by omega) (by omega)]; omega : (!!validB h.conf) =true→IntKind.i64.wrap (h.conf.pg * h.conf.pw) =h.conf.pw * h.conf.pg) (FlG 27 (!(!validB h.conf||(↑h.words.length : Int) != h.conf.pw * h.conf.pg)) Page.dv h.pages (Ft 42 ‹(!validB h.conf||(↑h.words.length : Int) != h.conf.pw * h.conf.pg||(↑h.pages.length : Int) != h.conf.pg||decide (h.space < 0)||decide (1 < h.space)) =true› (Fa (by exact (Bool.eq_false_iff.2 (fun hh => by obtain ⟨q1,q2,q3,q4,q5,q6⟩ := properB_iff.1 hh; simp [hv] at hc0p; omega)).symm : false =properB h) Fz)))))))
               · have hc0p := hc0
                 simp only [bs] at hc0p
                 obtain ⟨⟨⟨⟨hc0paaaa,hc0paaab⟩,hc0paab⟩,hc0pab⟩,hc0pb⟩ := hc0p
                 have Q1 {h_ c_ p_} (r_ : Fq h_ c_ p_) := Fc 9 (@refValidConf h.conf) (FlG 14 (!!validB h.conf) wdv h.words (Fa (by intro hg; (try simp only [bs] at hg); rw [wrapI' (by omega) (by omega)]; omega : (!!validB h.conf) =true→IntKind.i64.wrap (h.conf.pg * h.conf.pw) =h.conf.pw * h.conf.pg) (FlG 27 (!(!validB h.conf||(↑h.words.length : Int) != h.conf.pw * h.conf.pg)) Page.dv h.pages (Ff 42 ‹(!validB h.conf||(↑h.words.length : Int) != h.conf.pw * h.conf.pg||(↑h.pages.length : Int) != h.conf.pg||decide (h.space < 0)||decide (1 < h.space)) =false› (FlG 55 (h.bump != (-1 : Int)&&!decide (h.bump < 0)) Page.dv h.pages (FeG 63 (h.bump != (-1 : Int)&&!(decide (h.bump < 0)||decide ((↑h.pages.length : Int)≤h.bump))) Page.dv h.pages h.bump h.bump.toNat r_))))))
                 rcases bb (h.bump != (-1 : Int) && (decide (h.bump < 0) || decide ((↑h.pages.length : Int) ≤ h.bump) || (h.pages.getD h.bump.toNat default).kind != 1)) with hc1 | hc1<;>have hc1p:=hc1<;>simp only [bs] at hc1p
                 · obtain ⟨hc1pa,hc1pb⟩ := hc1p
                   exact gF [] Tryz.func99 [false,false,false,false,false,false,false,false,false,false,false,false,false,false,false,false,false,false,false,false,false,false,false,false,false,false,false,false,false,false,false,false,false,false,false,false,false,false,false,false,false,false,false,false,false,true] (Fh 21 [.int (h.conf.pw * h.conf.pg)] (Q1 (Ft 68 hc1 (Fa (by exact (Bool.eq_false_iff.2 (fun hh => by obtain ⟨q1,q2,q3,q4,q5,q6⟩ := properB_iff.1 hh; omega)).symm : false =properB h) Fz))))
                 · exact gF [] Tryz.func99 [false,false,false,false,false,false,false,false,false,false,false,false,false,false,false,false,false,false,false,false,false,false,false,false,false,false,false,false,false,false,false,false,false,false,false,false,false,false,false,false,false,false,false,false,false,false,false,false,false,false,true] (Fh 21 [.int (h.conf.pw * h.conf.pg)] (Q1 (Ff 68 hc1 (Fu (@rpropLoopBad h (by omega) ‹_›) (Fa (by exact (Bool.eq_false_iff.2 (fun hh => by have q := (properB_iff.1 hh).2.2.2.2.2; rw [hs] at q; cases q)).symm : false = properB h) Fz)))))
  · have hf : validB h.conf = false := by simpa using hv
    exact gF [] Tryz.func99 [false,false,false,false,false,false,false,false,false,false,false,false,false,false,false,false,false,false,false,false,false,false,false,false,true] (Fc 9 (@refValidConf h.conf) (FlG 14 (!!validB h.conf) wdv h.words (FlG 27 (!(!validB h.conf||(↑h.words.length : Int) != IntKind.i64.wrap (h.conf.pg * h.conf.pw))) Page.dv h.pages (Ft 42 (by simp [*] : (!validB h.conf||(↑h.words.length : Int) != IntKind.i64.wrap (h.conf.pg * h.conf.pw)||(↑h.pages.length : Int) != h.conf.pg||decide (h.space < 0)||decide (1 < h.space))=true) (Fa (by exact (Bool.eq_false_iff.2 (fun hh => hv (properB_iff.1 hh).1)).symm : false =properB h) Fz)))))
def WOk (ws : List Int) : Prop := ∀ w ∈ ws,0 ≤ w ∧ w ≤ 18446744073709551615
theorem getD_ok {ws : List Int} (h : WOk ws) (i : Nat) : 0 ≤ ws.getD i 0 ∧ ws.getD i 0 ≤ 18446744073709551615 := by
 rw [List.getD_eq_getElem?_getD]
 cases e : ws[i]? with
 | none => simp
 | some x => exact h x (List.mem_of_getElem? e)
theorem loadA_range {ws : List Int} (h : WOk ws) (a : Int) : 0 ≤ (loadA ws a).1 ∧ (loadA ws a).1 ≤ 18446744073709551615 := by
 unfold loadA
 split
 ·exact getD_ok h _
 ·simp
theorem decodeH_map (w : Int) (h : 0 ≤ w) : 0 ≤ (decodeH w).1.map ∧ (decodeH w).1.map ≤ 4294967295 := by
 unfold decodeH
 split
 ·exact hdrOf_map w h
 ·simp [noHdr]
theorem proper_ok {h : Heap} (hp : properB h = true) : validB h.conf = true ∧ 16 ≤ h.conf.pw ∧ h.conf.pw ≤ 64 ∧ 8 ≤ h.conf.pg ∧ h.conf.pg ≤ 64 ∧ (h.words.length : Int) = h.conf.pw * h.conf.pg ∧ h.words.length ≤ 4096 ∧ (h.pages.length : Int) = h.conf.pg ∧ (h.space = 0 ∨ h.space = 1) := by
 simp only [properB,Bool.and_eq_true] at hp
 obtain ⟨h1,h2,h3,h4⟩ := shapeB_iff.1 hp.1
 have hv := validB_iff.1 h1
 have := area h1
 exact ⟨h1,hv.1,hv.2.1,hv.2.2.2.1,hv.2.2.2.2,h2,by omega,h3,h4⟩
theorem ofA_ok {c : Conf} {a : Int} (hv : validB c = true) (h : (ofA c a).2.2 = 0) : 0 ≤ (ofA c a).1 ∧ (ofA c a).1 < c.pg ∧ 0 ≤ (ofA c a).2.1 ∧ (ofA c a).2.1 < c.pw ∧ 4096 ≤ a ∧ a < 4096 + c.pw * c.pg ∧ a = 4096 + ((ofA c a).1 * c.pw + (ofA c a).2.1) := by
 have hb := validB_iff.1 hv
 unfold ofA at h ⊢
 rw [if_pos hv] at h ⊢
 split at h
 ·rename_i hc
  rw [if_pos hc]
  simp only
  have h1 : 0 ≤ (a - 4096) / c.pw := Int.ediv_nonneg (by omega) (by omega)
  have h2 : (a - 4096) / c.pw < c.pg := Int.ediv_lt_of_lt_mul (by omega) (by rw [Int.mul_comm]; omega)
  have h3 := Int.emod_nonneg (a - 4096) (b := c.pw) (by omega)
  have h4 := Int.emod_lt_of_pos (a - 4096) (b := c.pw) (by omega)
  have h5 := Int.mul_ediv_add_emod (a - 4096) c.pw
  refine ⟨h1,h2,h3,h4,hc.1,hc.2, ?_⟩
  rw [Int.mul_comm] at h5
  omega
 ·simp at h
def atH (h : Heap) (a : Int) : Header × Int :=
 if properB h = true then
  (if (ofA h.conf a).2.2 = 0 then
   (if ((h.pages.getD (ofA h.conf a).1.toNat default).kind = 1 ∨ (h.pages.getD (ofA h.conf a).1.toNat default).kind = 2) ∧ (ofA h.conf a).2.1 < (h.pages.getD (ofA h.conf a).1.toNat default).used ∧ (decodeH (loadA h.words a).1).2 = true then
    (if ((h.pages.getD (ofA h.conf a).1.toNat default).kind = 1 ∧ (h.pages.getD (ofA h.conf a).1.toNat default).used < (ofA h.conf a).2.1 + sizeH (decodeH (loadA h.words a).1).1) ∨
      ((h.pages.getD (ofA h.conf a).1.toNat default).kind = 2 ∧ ((ofA h.conf a).2.1 ≠ 0 ∨ sizeH (decodeH (loadA h.words a).1).1 ≠ (h.pages.getD (ofA h.conf a).1.toNat default).used)) then (noHdr,19)
     else ((decodeH (loadA h.words a).1).1,0))
    else (noHdr,19))
   else (noHdr,2))
 else (noHdr,1)
theorem sizeH_bounds (h : Header) : 0 ≤ sizeH h ∧ sizeH h ≤ 256 := by
 unfold sizeH
 split
 ·have := validH_iff.1 ‹_›; omega
 ·omega
theorem ref5At (h : Heap) (a : Int) (hw : WOk h.words) (h0 : 0 ≤ a ∧ a ≤ 18446744073709551615) : GSpec Tryz.prog 93 [h.av,u64 a] true (.tu [(atH h a).1.av,int (atH h a).2]) [] := by
 have hr := loadA_range hw a
 have hd := decodeH_map (loadA h.words a).1 hr.1
 have hs := sizeH_bounds (decodeH (loadA h.words a).1).1
 rcases bb (!properB h) with hc0 | hc0<;>have hc0p:=hc0<;>simp only [bs] at hc0p
 ·exact gF [] Tryz.func93 [true] (Fc 16 (@ref4Proper h) (Ft 17 hc0 (Fa (by simp [atH,noHdr, *] : 0 =(atH h a).fst.kind) (Fa (by simp [atH,noHdr, *] : 0 =(atH h a).fst.length) (Fa (by simp [atH,noHdr, *] : 0 =(atH h a).fst.map) (Fa (by simp [atH,noHdr, *] : 1 =(atH h a).snd) Fz))))))
 ·have hf5 := proper_ok hc0p
  obtain ⟨hf5a,⟨hf5ba,⟨hf5bba,⟨hf5bbba,⟨hf5bbbba,⟨hf5bbbbba,⟨hf5bbbbbba,⟨hf5bbbbbbba,hf5bbbbbbbb⟩⟩⟩⟩⟩⟩⟩⟩ := hf5
  have Q0 {h_ c_ p_} (r_ : Fq h_ c_ p_) := Fc 16 (@ref4Proper h) (Ff 17 hc0 (Fc 23 (@refOf h.conf a (by omega) (by omega)) r_))
  rcases bb ((ofA h.conf a).snd.snd != 0) with hc18 | hc18<;>have hc18p:=hc18<;>simp only [bs] at hc18p
  ·exact gF [] Tryz.func93 [true] (Q0 (Ft 28 hc18 (Fa (by simp [atH,noHdr, *] : 0 =(atH h a).fst.kind) (Fa (by simp [atH,noHdr, *] : 0 =(atH h a).fst.length) (Fa (by simp [atH,noHdr, *] : 0 =(atH h a).fst.map) (Fa (by simp [atH,noHdr, *] : 2 =(atH h a).snd) Fz))))))
  ·have hf25 := ofA_ok ‹_› hc18p
   obtain ⟨hf25a,⟨hf25ba,⟨hf25bba,⟨hf25bbba,⟨hf25bbbba,⟨hf25bbbbba,hf25bbbbbb⟩⟩⟩⟩⟩⟩ := hf25
   have Q1 {h_ c_ p_} (r_ : Fq h_ c_ p_) := Q0 (Ff 28 hc18 (Fe 33 Page.dv h.pages ((ofA h.conf a).fst) (Fc 39 (@ref2Load h.words a (by omega) ‹_›) (Fc 44 (@ref3Decode ((loadA h.words a).fst) (by omega) (by omega)) r_))))
   rcases bb ((h.pages.getD (ofA h.conf a).fst.toNat default).kind != 1 && (h.pages.getD (ofA h.conf a).fst.toNat default).kind != 2 || decide ((h.pages.getD (ofA h.conf a).fst.toNat default).used ≤ (ofA h.conf a).snd.fst) || !(decodeH (loadA h.words a).fst).snd) with hc27 | hc27<;>have hc27p:=hc27<;>simp only [bs] at hc27p
   ·exact gF [] Tryz.func93 [false,false,false,false,false,false,false,false,false,true] (Q1 (Ft 64 hc27 (Fa (by grind [atH,noHdr] : 0 =(atH h a).fst.kind) (Fa (by grind [atH,noHdr] : 0 =(atH h a).fst.length) (Fa (by grind [atH,noHdr] : 0 =(atH h a).fst.map) (Fa (by grind [atH,noHdr] : 19 =(atH h a).snd) Fz))))))
   ·obtain ⟨⟨hc27paa,hc27pab⟩,hc27pb⟩ := hc27p
    have Q2 {h_ c_ p_} (r_ : Fq h_ c_ p_) := Q1 (Ff 64 hc27 (Fc 67 (@ref3Size ((decodeH (loadA h.words a).fst).fst) ‹_›) (FiG 74 ((h.pages.getD (ofA h.conf a).fst.toNat default).kind == 1) ((ofA h.conf a).snd.fst + sizeH (decodeH (loadA h.words a).fst).fst) r_)))
    rcases bb ((h.pages.getD (ofA h.conf a).fst.toNat default).kind == 1 && decide ((h.pages.getD (ofA h.conf a).fst.toNat default).used < (ofA h.conf a).snd.fst + sizeH (decodeH (loadA h.words a).fst).fst) || (h.pages.getD (ofA h.conf a).fst.toNat default).kind == 2 && ((ofA h.conf a).snd.fst != 0 || sizeH (decodeH (loadA h.words a).fst).fst != (h.pages.getD (ofA h.conf a).fst.toNat default).used)) with hc40 | hc40<;>have hc40p:=hc40<;>simp only [bs] at hc40p
    ·exact gF [] Tryz.func93 [false,false,false,false,false,false,false,false,false,false,false,false,false,false,false,false,false,false,false,false,false,false,false,false,false,false,false,false,true] (Q2 (Ft 93 hc40 (Fa (by grind [atH,noHdr] : 0 =(atH h a).fst.kind) (Fa (by grind [atH,noHdr] : 0 =(atH h a).fst.length) (Fa (by grind [atH,noHdr] : 0 =(atH h a).fst.map) (Fa (by grind [atH,noHdr] : 19 =(atH h a).snd) Fz))))))
    ·obtain ⟨hc40pa,hc40pb⟩ := hc40p
     exact gF [] Tryz.func93 [false,false,false,false,false,false,false,false,false,false,false,false,false,false,false,false,false,false,false,false,false,false,false,false,false,false,false,false,true] (Q2 (Ff 93 hc40 (Fa (by grind [atH,noHdr] : (decodeH (loadA h.words a).fst).fst.kind =(atH h a).fst.kind) (Fa (by grind [atH,noHdr] : (decodeH (loadA h.words a).fst).fst.length =(atH h a).fst.length) (Fa (by grind [atH,noHdr] : (decodeH (loadA h.words a).fst).fst.map =(atH h a).fst.map) (Fa (by grind [atH,noHdr] : 0 =(atH h a).snd) Fz))))))
abbrev aP (h : Heap) (a : Int) : Page := h.pages.getD (ofA h.conf a).fst.toNat default
end Go.Proofs.YtolnblaadleknaaGreat
namespace Go.Proofs.YtolnblaadleknaaGreat
open Go.Sx Go.RowKit
theorem shp_ints {n : Nat} {l : List DV} (h : shp Tryz.prog (n + 2) 22 l) : ∃ m : List Int,l = [.sl 1 (m.map idv)] ∧ m.length ≤ 140737488355328 := by
 have e : shp Tryz.prog (n + 2) 22 l = (∃ els : List (List DV),l = [.sl 1 els] ∧ els.length ≤ 140737488355328 ∧ ∀ x ∈ els,shp Tryz.prog (n + 1) 3 x) := by kernel_rfl
 rw [e] at h
 obtain ⟨els,rfl,h1,h2⟩ := h
 obtain ⟨m,rfl⟩ := exists_map (f := idv) fun x hx => by
  obtain ⟨v,rfl,_⟩ := shp_int (h2 x hx)
  exact ⟨v,rfl⟩
 exact ⟨m,rfl,by simpa using h1⟩
end Go.Proofs.YtolnblaadleknaaGreat
namespace Go.Proofs.YtolnblaadleknaaGreat
open Go.Sx
theorem decodeH_ok {w : Int} (h : (decodeH w).2 = true) : validH (decodeH w).1 = true := by
 unfold decodeH at h ⊢
 split at h
 ·rename_i hc
  rw [if_pos hc]
  have := hc.1
  unfold encodeH at this
  split at this
  ·assumption
  ·simp at this
 ·cases h
theorem atH_ok {h : Heap} {a : Int} (e : (atH h a).2 = 0) : properB h = true ∧ (ofA h.conf a).2.2 = 0 ∧ 4096 ≤ a ∧ a < 8192 ∧ validH (atH h a).1 = true ∧ 0 ≤ (atH h a).1.kind ∧ (atH h a).1.kind ≤ 3 ∧ 0 ≤ (atH h a).1.length ∧ (atH h a).1.length ≤ 255 := by
 have key : properB h = true ∧ (ofA h.conf a).2.2 = 0 ∧ validH (atH h a).1 = true := by
  unfold atH at e ⊢
  split at e
  ·rename_i h1
   split at e
   ·rename_i h2
    split at e
    ·rename_i h3
     split at e
     ·simp at e
     ·rename_i h4
      rw [if_pos h1,if_pos h2,if_pos h3,if_neg h4]
      exact ⟨h1,h2,decodeH_ok h3.2.2⟩
    ·simp at e
   ·simp at e
  ·simp at e
 obtain ⟨k1,k2,k3⟩ := key
 have p := proper_ok k1
 have o := ofA_ok p.1 k2
 have v := validH_iff.1 k3
 have ar := area p.1
 exact ⟨k1,k2,o.2.2.2.2.1,by omega,k3,v.1,v.2.1,v.2.2.1,v.2.2.2.1⟩
theorem atH_map {h : Heap} (hw : WOk h.words) (a : Int) : 0 ≤ (atH h a).1.map ∧ (atH h a).1.map ≤ 4294967295 := by
 have hr := loadA_range hw a
 have hd := decodeH_map (loadA h.words a).1 hr.1
 unfold atH
 repeat' split
 all_goals first | exact hd | simp [noHdr]
def getH (h : Heap) (a : Int) : Header × Int := if properB h = true then (if a = 0 then (noHdr,5) else if (atH h a).2 = 0 ∧ (atH h a).1.kind = 0 then (noHdr,4) else atH h a) else (noHdr,1)
theorem getH_map {h : Heap} (hw : WOk h.words) (a : Int) : 0 ≤ (getH h a).1.map ∧ (getH h a).1.map ≤ 4294967295 := by
 have := atH_map hw a
 unfold getH
 repeat' split
 all_goals first | exact this | simp [noHdr]
theorem getH_ok {h : Heap} {a : Int} (e : (getH h a).2 = 0) : getH h a = atH h a ∧ (atH h a).2 = 0 ∧ properB h = true ∧ (ofA h.conf a).2.2 = 0 ∧ 4096 ≤ a ∧ a < 8192 ∧ validH (getH h a).1 = true ∧ 1 ≤ (getH h a).1.kind ∧ (getH h a).1.kind ≤ 3 ∧ 0 ≤ (getH h a).1.length ∧ (getH h a).1.length ≤ 255 := by
 have key : getH h a = atH h a ∧ (atH h a).2 = 0 ∧ (atH h a).1.kind ≠ 0 := by
  unfold getH at e ⊢
  split at e
  ·rename_i h1
   split at e
   ·simp at e
   ·rename_i h2
    split at e
    ·simp at e
    ·rename_i h3
     rw [if_pos h1,if_neg h2,if_neg h3]
     exact ⟨rfl,e,fun h => h3 ⟨e,h⟩⟩
  ·simp at e
 obtain ⟨k1,k2,k3⟩ := key
 have k := atH_ok k2
 rw [k1]
 exact ⟨rfl,k2,k.1,k.2.1,k.2.2.1,k.2.2.2.1,k.2.2.2.2.1,by omega,k.2.2.2.2.2.2.1,k.2.2.2.2.2.2.2.1,k.2.2.2.2.2.2.2.2⟩
theorem ref5Get (h : Heap) (a : Int) (hw : WOk h.words) (h0 : 0 ≤ a ∧ a ≤ 18446744073709551615) : GSpec Tryz.prog 117 [h.av,u64 a] true (.tu [(getH h a).1.av,int (getH h a).2]) [] := by
 rcases bb (!properB h) with hc0 | hc0<;>have hc0p:=hc0<;>simp only [bs] at hc0p
 ·exact gF [] Tryz.func117 [true] (Fc 9 (@ref4Proper h) (Ft 10 hc0 (Fa (by simp [getH,noHdr, *] : 0 =(getH h a).fst.kind) (Fa (by simp [getH,noHdr, *] : 0 =(getH h a).fst.length) (Fa (by simp [getH,noHdr, *] : 0 =(getH h a).fst.map) (Fa (by simp [getH,noHdr, *] : 1 =(getH h a).snd) Fz))))))
 ·rcases bb (a == 0) with hc1 | hc1<;>have hc1p:=hc1<;>simp only [bs] at hc1p
  ·exact gF [] Tryz.func117 [true] (Fc 9 (@ref4Proper h) (Ff 10 hc0 (Ft 13 hc1 (Fa (by simp [getH,noHdr, *] : 0 =(getH h a).fst.kind) (Fa (by simp [getH,noHdr, *] : 0 =(getH h a).fst.length) (Fa (by simp [getH,noHdr, *] : 0 =(getH h a).fst.map) (Fa (by simp [getH,noHdr, *] : 5 =(getH h a).snd) Fz)))))))
  ·have Q0 {h_ c_ p_} (r_ : Fq h_ c_ p_) := Fc 9 (@ref4Proper h) (Ff 10 hc0 (Ff 13 hc1 (Fc 18 (@ref5At h a ‹_› ‹_›) r_)))
   rcases bb ((atH h a).snd == 0 && (atH h a).fst.kind == 0) with hc2 | hc2<;>have hc2p:=hc2<;>simp only [bs] at hc2p
   ·obtain ⟨hc2pa,hc2pb⟩ := hc2p
    exact gF [] Tryz.func117 [false,false,false,true] (Q0 (Ft 27 hc2 (Fa (by simp [getH,noHdr, *] : 0 =(getH h a).fst.kind) (Fa (by simp [getH,noHdr, *] : 0 =(getH h a).fst.length) (Fa (by simp [getH,noHdr, *] : 0 =(getH h a).fst.map) (Fa (by simp [getH,noHdr, *] : 4 =(getH h a).snd) Fz))))))
   ·exact gF [] Tryz.func117 [false,false,false,true] (Q0 (Ff 27 hc2 (Fa (by grind [getH,noHdr] : (atH h a).fst.kind =(getH h a).fst.kind) (Fa (by grind [getH,noHdr] : (atH h a).fst.length =(getH h a).fst.length) (Fa (by grind [getH,noHdr] : (atH h a).fst.map =(getH h a).fst.map) (Fa (by grind [getH,noHdr] : (atH h a).snd =(getH h a).snd) Fz))))))
def fieldH (h : Heap) (a i : Int) : Int × Int := if (getH h a).2 = 0 then (if 0 ≤ i ∧ i < (getH h a).1.length then loadA h.words (a + 1 + i) else (0,2)) else (0,(getH h a).2)
theorem ref5Field (h : Heap) (a i : Int) (hw : WOk h.words) (h0 : 0 ≤ a ∧ a ≤ 18446744073709551615) : GSpec Tryz.prog 191 [h.av,u64 a,int i] true (.tu [u64 (fieldH h a i).1,int (fieldH h a i).2]) [] := by
 have Q0 {h_ c_ p_} (r_ : Fq h_ c_ p_) := Fc 13 (@ref5Get h a ‹_› ‹_›) r_
 rcases bb ((getH h a).snd != 0) with hc0 | hc0<;>have hc0p:=hc0<;>simp only [bs] at hc0p
 ·exact gF [] Tryz.func191 [true] (Q0 (Ft 17 hc0 (Fa (by simp [fieldH, *] : 0 =(fieldH h a i).fst) (Fa (by simp [fieldH, *] : (getH h a).snd =(fieldH h a i).snd) Fz))))
 ·have hf5 := getH_ok hc0p
  obtain ⟨hf5a,⟨hf5ba,⟨hf5bba,⟨hf5bbba,⟨hf5bbbba,⟨hf5bbbbba,⟨hf5bbbbbba,⟨hf5bbbbbbba,⟨hf5bbbbbbbba,⟨hf5bbbbbbbbba,hf5bbbbbbbbbb⟩⟩⟩⟩⟩⟩⟩⟩⟩⟩ := hf5
  have hf11 := proper_ok hf5bba
  obtain ⟨hf11a,⟨hf11ba,⟨hf11bba,⟨hf11bbba,⟨hf11bbbba,⟨hf11bbbbba,⟨hf11bbbbbba,⟨hf11bbbbbbba,hf11bbbbbbbb⟩⟩⟩⟩⟩⟩⟩⟩ := hf11
  rcases bb (decide (i < 0) || decide ((getH h a).fst.length ≤ i)) with hc20 | hc20<;>have hc20p:=hc20<;>simp only [bs] at hc20p
  ·exact gF [] Tryz.func191 [false,false,false,false,true] (Q0 (Ff 17 hc0 (Ft 26 hc20 (Fa (by grind [fieldH] : 0 =(fieldH h a i).fst) (Fa (by grind [fieldH] : 2 =(fieldH h a i).snd) Fz)))))
  ·obtain ⟨hc20pa,hc20pb⟩ := hc20p
   exact gF [] Tryz.func191 [false,false,false,false,true] (Q0 (Ff 17 hc0 (Ff 26 hc20 (Fv 30 (a + 1) (Fv 32 i (Fv 33 (a + 1 + i) (Fc 34 (@ref2Load h.words (a + 1 + i) (by omega) (by omega)) (Fa (by grind [fieldH] : (loadA h.words (a + 1 + i)).fst =(fieldH h a i).fst) (Fa (by grind [fieldH] : (loadA h.words (a + 1 + i)).snd =(fieldH h a i).snd) Fz)))))))))
theorem fieldH_ok {h : Heap} {a i : Int} (e : (fieldH h a i).2 = 0) : (getH h a).2 = 0 ∧ 0 ≤ i ∧ i < (getH h a).1.length := by
 unfold fieldH at e
 split at e
 ·split at e
  ·exact ⟨‹_›,‹_›⟩
  ·simp at e
 ·exact absurd e ‹_›
def setFieldH (h : Heap) (a i v : Int) : Heap × Int := if (fieldH h a i).2 = 0 then ({ h with words := (storeA h.words (a + 1 + i) v).1 },0) else (noHeap,(fieldH h a i).2)
theorem ref5SetField (h : Heap) (a i v : Int) (hw : WOk h.words) (h0 : 0 ≤ a ∧ a ≤ 18446744073709551615) : GSpec Tryz.prog 123 [h.av,u64 a,int i,u64 v] false (.tu [(setFieldH h a i v).1.av,int (setFieldH h a i v).2]) [] := by
 have Q0 {h_ c_ p_} (r_ : Fq h_ c_ p_) := Fc 16 (@ref5Field h a i ‹_› ‹_›) r_
 rcases bb ((fieldH h a i).snd != 0) with hc0 | hc0<;>have hc0p:=hc0<;>simp only [bs] at hc0p
 ·exact gF [] Tryz.func123 [true] (Q0 (Ft 20 hc0 (Fnl (Fnl (Fa (by simp [setFieldH,noHeap, *] : 0 =(setFieldH h a i v).fst.conf.pw) (Fa (by simp [setFieldH,noHeap, *] : 0 =(setFieldH h a i v).fst.conf.pg) (Fa (by simp [setFieldH,noHeap, *] : [] =List.map wdv (setFieldH h a i v).fst.words) (Fa (by simp [setFieldH,noHeap, *] : [] =List.map Page.dv (setFieldH h a i v).fst.pages) (Fa (by simp [setFieldH,noHeap, *] : 0 =(setFieldH h a i v).fst.space) (Fa (by simp [setFieldH,noHeap, *] : 0 =(setFieldH h a i v).fst.bump) (Fa (by simp [setFieldH,noHeap, *] : (fieldH h a i).snd =(setFieldH h a i v).snd) Fz)))))))))))
 ·have hf7 := fieldH_ok hc0p
  obtain ⟨hf7a,⟨hf7ba,hf7bb⟩⟩ := hf7
  have hf11 := getH_ok hf7a
  obtain ⟨hf11a,⟨hf11ba,⟨hf11bba,⟨hf11bbba,⟨hf11bbbba,⟨hf11bbbbba,⟨hf11bbbbbba,⟨hf11bbbbbbba,⟨hf11bbbbbbbba,⟨hf11bbbbbbbbba,hf11bbbbbbbbbb⟩⟩⟩⟩⟩⟩⟩⟩⟩⟩ := hf11
  have hf21 := proper_ok hf11bba
  obtain ⟨hf21a,⟨hf21ba,⟨hf21bba,⟨hf21bbba,⟨hf21bbbba,⟨hf21bbbbba,⟨hf21bbbbbba,⟨hf21bbbbbbba,hf21bbbbbbbb⟩⟩⟩⟩⟩⟩⟩⟩ := hf21
  exact gF [] Tryz.func123 [true] (Q0 (Ff 20 hc0 (Fv 27 (a + 1) (Fv 29 i (Fv 30 (a + 1 + i) (Fc 32 (@ref2Store h.words (a + 1 + i) v (by omega) (by omega)) (Fa (by simp [setFieldH,noHeap, *] : h.conf.pw =(setFieldH h a i v).fst.conf.pw) (Fa (by simp [setFieldH,noHeap, *] : h.conf.pg =(setFieldH h a i v).fst.conf.pg) (Fa (by refine congrArg _ ?_; simp [setFieldH,noHeap, *] : List.map wdv (storeA h.words (a + 1 + i) v).fst =List.map wdv (setFieldH h a i v).fst.words) (Fa (by refine congrArg _ ?_; simp [setFieldH,noHeap, *] : List.map Page.dv h.pages =List.map Page.dv (setFieldH h a i v).fst.pages) (Fa (by simp [setFieldH,noHeap, *] : h.space =(setFieldH h a i v).fst.space) (Fa (by simp [setFieldH,noHeap, *] : h.bump =(setFieldH h a i v).fst.bump) (Fa (by simp [setFieldH,noHeap, *] : 0 =(setFieldH h a i v).snd) Fz)))))))))))))
def fieldsH (h : Heap) (a : Int) : List Int × Int := if (getH h a).2 = 0 then readA h.words (a + 1) (getH h a).1.length else ([],(getH h a).2)
theorem ref5Fields (h : Heap) (a : Int) (hw : WOk h.words) (h0 : 0 ≤ a ∧ a ≤ 18446744073709551615) : GSpec Tryz.prog 118 [h.av,u64 a] false (.tu [wordsV (fieldsH h a).1,int (fieldsH h a).2]) [] := by
 have Q0 {h_ c_ p_} (r_ : Fq h_ c_ p_) := Fc 11 (@ref5Get h a ‹_› ‹_›) r_
 rcases bb ((getH h a).snd != 0) with hc0 | hc0<;>have hc0p:=hc0<;>simp only [bs] at hc0p
 ·exact gF [] Tryz.func118 [true] (Q0 (Ft 15 hc0 (Fnl (Fa (by simp [fieldsH, *] : [] =List.map wdv (fieldsH h a).fst) (Fa (by simp [fieldsH, *] : (getH h a).snd =(fieldsH h a).snd) Fz)))))
 ·have hf5 := getH_ok hc0p
  obtain ⟨hf5a,⟨hf5ba,⟨hf5bba,⟨hf5bbba,⟨hf5bbbba,⟨hf5bbbbba,⟨hf5bbbbbba,⟨hf5bbbbbbba,⟨hf5bbbbbbbba,⟨hf5bbbbbbbbba,hf5bbbbbbbbbb⟩⟩⟩⟩⟩⟩⟩⟩⟩⟩ := hf5
  have hf11 := proper_ok hf5bba
  obtain ⟨hf11a,⟨hf11ba,⟨hf11bba,⟨hf11bbba,⟨hf11bbbba,⟨hf11bbbbba,⟨hf11bbbbbba,⟨hf11bbbbbbba,hf11bbbbbbbb⟩⟩⟩⟩⟩⟩⟩⟩ := hf11
  exact gF [] Tryz.func118 [true] (Q0 (Ff 15 hc0 (Fv 20 (a + 1) (Fc 23 (@ref2Read h.words (a + 1) ((getH h a).fst.length) (by omega) (by omega)) (Fa (by refine congrArg _ ?_; simp [fieldsH, *] : List.map wdv (readA h.words (a + 1) (getH h a).fst.length).fst =List.map wdv (fieldsH h a).fst) (Fa (by simp [fieldsH, *] : (readA h.words (a + 1) (getH h a).fst.length).snd =(fieldsH h a).snd) Fz))))))
def objW (hd : Header) : List Int := (encodeH hd).1 :: List.replicate hd.length.toNat 0
def initH (h : Heap) (a : Int) (hd : Header) : Heap × Int := if properB h = true ∧ validH hd = true then (if (writeA h.words a (objW hd)).2 = 0 then ({ h with words := (writeA h.words a (objW hd)).1 },0) else (noHeap,(writeA h.words a (objW hd)).2)) else (noHeap,1)
theorem encodeH_ok {hd : Header} (h : (encodeH hd).2 = 0) : validH hd = true ∧ 0 ≤ hd.length ∧ hd.length ≤ 255 := by
 unfold encodeH at h
 split at h
 ·rename_i hv
  have := validH_iff.1 hv
  exact ⟨hv,this.2.2.1,this.2.2.2.1⟩
 ·simp at h
theorem encodeH_val {hd : Header} (h : validH hd = true) : (encodeH hd).2 = 0 := by simp [encodeH,h]
theorem initH_bad {h : Heap} {a : Int} {hd : Header} (e : properB h = false ∨ ¬ (encodeH hd).2 = 0) : initH h a hd = (noHeap,1) := by
 unfold initH
 rw [if_neg]
 rintro ⟨h1,h2⟩
 rcases e with e | e
 ·rw [h1] at e; cases e
 ·exact e (encodeH_val h2)
theorem ref5Init (h : Heap) (a : Int) (hd : Header) (hw : WOk h.words) (h0 : 0 ≤ a ∧ a ≤ 18446744073709551615) (hm : 0 ≤ hd.map ∧ hd.map ≤ 4294967295) : GSpec Tryz.prog 106 [h.av,u64 a,hd.av] false (.tu [(initH h a hd).1.av,int (initH h a hd).2]) [] := by
 have Q0 {h_ c_ p_} (r_ : Fq h_ c_ p_) := Fc 13 (@ref3Encode hd ‹_›) (Fc 17 (@ref4Proper h) r_)
 rcases bb (!properB h || (encodeH hd).snd != 0) with hc0 | hc0<;>have hc0p:=hc0<;>simp only [bs] at hc0p
 ·have hf5 := initH_bad (a := a) hc0p
  exact gF [] Tryz.func106 [false,false,true] (Q0 (Ft 22 hc0 (Fnl (Fnl (Fa (by grind [initH,noHeap,objW] : 0 =(initH h a hd).fst.conf.pw) (Fa (by grind [initH,noHeap,objW] : 0 =(initH h a hd).fst.conf.pg) (Fa (by grind [initH,noHeap,objW] : [] =List.map wdv (initH h a hd).fst.words) (Fa (by grind [initH,noHeap,objW] : [] =List.map Page.dv (initH h a hd).fst.pages) (Fa (by grind [initH,noHeap,objW] : 0 =(initH h a hd).fst.space) (Fa (by grind [initH,noHeap,objW] : 0 =(initH h a hd).fst.bump) (Fa (by grind [initH,noHeap,objW] : 1 =(initH h a hd).snd) Fz)))))))))))
 ·obtain ⟨hc0pa,hc0pb⟩ := hc0p
  have hf7 := proper_ok hc0pa
  obtain ⟨hf7a,⟨hf7ba,⟨hf7bba,⟨hf7bbba,⟨hf7bbbba,⟨hf7bbbbba,⟨hf7bbbbbba,⟨hf7bbbbbbba,hf7bbbbbbbb⟩⟩⟩⟩⟩⟩⟩⟩ := hf7
  have hf11 := encodeH_ok hc0pb
  obtain ⟨hf11a,⟨hf11ba,hf11bb⟩⟩ := hf11
  have Q1 {h_ c_ p_} (r_ : Fq h_ c_ p_) := Q0 (Ff 22 hc0 (Fs 29 (List.map wdv [(encodeH hd).fst]) (Fa (by (simp [initH,noHeap,objW, *]; omega) : 0≤hd.length∧(↑(List.map wdv [(encodeH hd).fst]).length : Int) + hd.length≤2 ^ 30) (Fa (by simp [initH,noHeap,objW,List.map_take,List.map_drop,List.map_set,List.map_append,wdv,idv] : List.map wdv [(encodeH hd).fst] ++ List.replicate hd.length.toNat [du64 0] =List.map wdv ([(encodeH hd).fst] ++ List.replicate hd.length.toNat 0)) (Fc 33 (@ref2Write h.words ([(encodeH hd).fst] ++ List.replicate hd.length.toNat 0) a (by omega) ‹_› (by (simp [initH,noHeap,objW, *]; omega))) r_)))))
  rcases bb ((writeA h.words a ([(encodeH hd).fst] ++ List.replicate hd.length.toNat 0)).snd != 0) with hc37 | hc37<;>have hc37p:=hc37<;>simp only [bs] at hc37p
  ·exact gF [] Tryz.func106 [false,false,true] (Fh 32 [.els (List.map wdv ([(encodeH hd).fst] ++ List.replicate hd.length.toNat 0))] (Q1 (Ft 37 hc37 (Fnl (Fnl (Fa (by grind [initH,noHeap,objW] : 0 =(initH h a hd).fst.conf.pw) (Fa (by grind [initH,noHeap,objW] : 0 =(initH h a hd).fst.conf.pg) (Fa (by grind [initH,noHeap,objW] : [] =List.map wdv (initH h a hd).fst.words) (Fa (by grind [initH,noHeap,objW] : [] =List.map Page.dv (initH h a hd).fst.pages) (Fa (by grind [initH,noHeap,objW] : 0 =(initH h a hd).fst.space) (Fa (by grind [initH,noHeap,objW] : 0 =(initH h a hd).fst.bump) (Fa (by grind [initH,noHeap,objW] : (writeA h.words a ([(encodeH hd).fst] ++ List.replicate hd.length.toNat 0)).snd =(initH h a hd).snd) Fz))))))))))))
  ·exact gF [] Tryz.func106 [false,false,true] (Fh 32 [.els (List.map wdv ([(encodeH hd).fst] ++ List.replicate hd.length.toNat 0))] (Q1 (Ff 37 hc37 (Fa (by grind [initH,noHeap,objW] : h.conf.pw =(initH h a hd).fst.conf.pw) (Fa (by grind [initH,noHeap,objW] : h.conf.pg =(initH h a hd).fst.conf.pg) (Fa (by refine congrArg _ ?_; grind [initH,noHeap,objW] : List.map wdv (writeA h.words a ([(encodeH hd).fst] ++ List.replicate hd.length.toNat 0)).fst =List.map wdv (initH h a hd).fst.words) (Fa (by refine congrArg _ ?_; grind [initH,noHeap,objW] : List.map Page.dv h.pages =List.map Page.dv (initH h a hd).fst.pages) (Fa (by grind [initH,noHeap,objW] : h.space =(initH h a hd).fst.space) (Fa (by grind [initH,noHeap,objW] : h.bump =(initH h a hd).fst.bump) (Fa (by grind [initH,noHeap,objW] : 0 =(initH h a hd).snd) Fz))))))))))
def freeK (l : List Page) (i k : Nat) : Bool := (List.range k).all fun j => (l.getD (i + j) default).kind == 0
theorem freeK_iff {l : List Page} {i k : Nat} : freeK l i k = true ↔ ∀ j,j < k → (l.getD (i + j) default).kind = 0 := by
 simp [freeK]
def tookP (l : List Page) (i k : Nat) (p q : Page) : List Page := (wr l (List.replicate k q) i k).set i p
def takeP (l : List Page) (i : Int) (k : Int) (p q : Page) : List Page × Int := if 0 ≤ i ∧ i < l.length ∧ k ≤ l.length - i then (if freeK l i.toNat k.toNat = true then (tookP l i.toNat k.toNat p q,0) else ([],20)) else ([],2)
theorem flat_pages (l : List Page) : FlatEls (l.map Page.dv) := by
 intro e he x hx
 obtain ⟨y,_,rfl⟩ := List.mem_map.1 he
 simp [Page.dv] at hx
 rcases hx with rfl | rfl | rfl | rfl <;> exact ⟨_,rfl⟩
theorem getD_getElem? {α : Type} {l m : List α} {i j : Nat} {d : α} (h : l[i]? = m[j]?) : l.getD i d = m.getD j d := by
 rw [List.getD_eq_getElem?_getD,List.getD_eq_getElem?_getD,h]
def takeL (l : List Page) (i : Int) (k : Int) (p q : Page) (n : Nat) : Tg := ⟨tm 57 [(1,int i),(2,int k),(8,.pt 8008 0 0),(9,.pt 8009 0 0),(10,.d (.sl 0 [])),(11,int 0),(12,.ow 24032),(13,int n)],
 [(24032,.arr 134 4 ((wr l (List.replicate k.toNat q) i.toNat n).map Page.dv)),(8008,.box 134 [int p.kind,int p.space,int p.used,int p.pins]),(8009,.box 134 [int q.kind,int q.space,int q.used,int q.pins])],60⟩
section
variable (l : List Page) (i : Int) (k : Int) (p q : Page) (n : Nat) (hl : l.length ≤ 1048576) (hi : 0 ≤ i) (hk0 : 0 ≤ k) (hk : i.toNat + k.toNat ≤ l.length)
include hl hi hk0 hk
theorem takeAt (hn : n < k.toNat) : (wr l (List.replicate k.toNat q) i.toNat n).getD (i.toNat + n) default = l.getD (i.toNat + n) default := by
 refine getD_getElem? ?_
 rw [wr_get (by simpa using hk) (by simp; omega),if_neg (by omega),if_neg (by omega)]
theorem takeRound (hn : n < k.toNat) (hf : (l.getD (i.toNat + n) default).kind = 0) : CSpec Tryz.prog (rndF Tryz.f240 0) (takeL l i k p q n).st .nrm (takeL l i k p q (n + 1)).st := by
 have hlen := wr_len (ws := l) (l := List.replicate k.toNat q) (i := i.toNat) (k := n) (by simpa using hk) (by simp; omega)
 have ha := takeAt l i k q n hl hi hk0 hk hn
 have hs := wr_succ (ws := l) (l := List.replicate k.toNat q) (i := i.toNat) (k := n) (by simpa using hk) (by simp; omega) default
 have hd : (List.replicate k.toNat q).getD n default = q := by simp [List.getD,hn]
 rw [hd] at hs
 have ei : i + n = ((i.toNat + n : Nat) : Int) := by omega
 rw [← ha] at hf
 rcases bb (((wr l (List.replicate k.toNat q) i.toNat n).getD (↑(i.toNat + n) : Int).toNat default).kind != 0) with hc0 | hc0<;>have hc0p:=hc0<;>simp only [bs] at hc0p
 ·contradiction
 ·exact sF [] [false,false,false,false,false,false,false,false,true] (Fh 10051 [.els (List.map Page.dv ((wr l (List.replicate k.toNat q) i.toNat n).set (↑(i.toNat + n) : Int).toNat q))] (Ftb 35 (decide ((↑n : Int) < k)) (Fg 41 (by rw [wrapI' (by omega) (by omega)]; omega : IntKind.i64.wrap (i + (↑n : Int)) =(↑(i.toNat + n) : Int)) (Fm 44 Page.dv (wr l (List.replicate k.toNat q) i.toNat n) (↑(i.toNat + n) : Int) ((↑(i.toNat + n) : Int).toNat) (Ff 45 hc0 (Fg 49 (by rw [wrapI' (by omega) (by omega)]; omega : IntKind.i64.wrap (i + (↑n : Int)) =(↑(i.toNat + n) : Int)) (Fa (by (simp only [List.length_map]; omega) : 0≤(↑(i.toNat + n) : Int)∧(↑(i.toNat + n) : Int).toNat < (List.map Page.dv (wr l (List.replicate k.toNat q) i.toNat n)).length) (Fa (by (simp only [List.length_map]; omega) : (↑(i.toNat + n) : Int).toNat < (List.map Page.dv (wr l (List.replicate k.toNat q) i.toNat n)).length) (Fa (by rw [List.map_set]; rfl : (List.map Page.dv (wr l (List.replicate k.toNat q) i.toNat n)).set (↑(i.toNat + n) : Int).toNat [dint q.kind,dint q.space,dint q.used,dint q.pins] =List.map Page.dv ((wr l (List.replicate k.toNat q) i.toNat n).set (↑(i.toNat + n) : Int).toNat q)) (Fx 37 n (Fr (134 : Int) (Fa (by refine congrArg _ ?_; exact hs : List.map Page.dv ((wr l (List.replicate k.toNat q) i.toNat n).set (↑(i.toNat + n) : Int).toNat q) =List.map Page.dv (wr l (List.replicate k.toNat q) i.toNat (n + 1))) Fz))))))))))))
theorem takeBad (hn : n < k.toNat) (hf : ¬ (l.getD (i.toNat + n) default).kind = 0) : CSpec Tryz.prog (rndF Tryz.f240 0) (takeL l i k p q n).st .ret (Tg.st ⟨tm 57 [(10,.d (.sl 0 [])),(11,int 20)],[],60⟩) := by
 have hlen := wr_len (ws := l) (l := List.replicate k.toNat q) (i := i.toNat) (k := n) (by simpa using hk) (by simp; omega)
 have ha := takeAt l i k q n hl hi hk0 hk hn
 have ei : i + n = ((i.toNat + n : Nat) : Int) := by omega
 rw [← ha] at hf
 rcases bb (((wr l (List.replicate k.toNat q) i.toNat n).getD (↑(i.toNat + n) : Int).toNat default).kind != 0) with hc0 | hc0<;>have hc0p:=hc0<;>simp only [bs] at hc0p
 ·exact sF [] [] (Ftb 35 (decide ((↑n : Int) < k)) (Fg 41 (by rw [wrapI' (by omega) (by omega)]; omega : IntKind.i64.wrap (i + (↑n : Int)) =(↑(i.toNat + n) : Int)) (Fm 44 Page.dv (wr l (List.replicate k.toNat q) i.toNat n) (↑(i.toNat + n) : Int) ((↑(i.toNat + n) : Int).toNat) (Ft 45 hc0 Fz))))
 ·contradiction
omit hl hi hk in
theorem takeEnd : CSpec Tryz.prog (rndF Tryz.f240 0) (takeL l i k p q k.toNat).st (.ext 0) (Tg.st ⟨tm 57 [(1,int i),(8,.pt 8008 0 0),(12,.ow 24032)],[(24032,.arr 134 4 ((wr l (List.replicate k.toNat q) i.toNat k.toNat).map Page.dv)),(8008,.box 134 [int p.kind,int p.space,int p.used,int p.pins])],60⟩) := by
 exact sF [] [] (Ffb 35 (decide ((↑k.toNat : Int) < k)) Fz)
theorem takeLoop (hf : freeK l i.toNat k.toNat = true) : CSpec Tryz.prog (blkF Tryz.f240 0) (Tg.st ⟨tm 57 [(1,int i),(2,int k),(8,.pt 8008 0 0),(9,.pt 8009 0 0),(10,.d (.sl 0 [])),(11,int 0),(12,.ow 24032),(13,int 0)],
 [(24032,.arr 134 4 (l.map Page.dv)),(8008,.box 134 [int p.kind,int p.space,int p.used,int p.pins]),(8009,.box 134 [int q.kind,int q.space,int q.used,int q.pins])],60⟩) .nrm
 (Tg.st ⟨tm 57 [(1,int i),(8,.pt 8008 0 0),(12,.ow 24032)],[(24032,.arr 134 4 ((wr l (List.replicate k.toNat q) i.toNat k.toNat).map Page.dv)),(8008,.box 134 [int p.kind,int p.space,int p.used,int p.pins])],60⟩) := by
 have := loop_ext_of (S := fun n => (takeL l i k p q n).st) k.toNat (by kernel_rfl) (fun n hn => takeRound l i k p q n hl hi hk0 hk hn (freeK_iff.1 hf n hn)) (takeEnd l i k p q hk0)
 simp only [takeL,wr_zero] at this
 exact this
theorem takeLoopBad (hf : freeK l i.toNat k.toNat = false) : CSpec Tryz.prog (blkF Tryz.f240 0) (Tg.st ⟨tm 57 [(1,int i),(2,int k),(8,.pt 8008 0 0),(9,.pt 8009 0 0),(10,.d (.sl 0 [])),(11,int 0),(12,.ow 24032),(13,int 0)],
 [(24032,.arr 134 4 (l.map Page.dv)),(8008,.box 134 [int p.kind,int p.space,int p.used,int p.pins]),(8009,.box 134 [int q.kind,int q.space,int q.used,int q.pins])],60⟩) .ret
 (Tg.st ⟨tm 57 [(10,.d (.sl 0 [])),(11,int 20)],[],60⟩) := by
 obtain ⟨n,x,h1,h2,h3⟩ := first_bad hf
 have hn : n < k.toNat := by have := (List.getElem?_eq_some_iff.1 h1).1; simpa using this
 have hx : x = n := by simp [List.getElem?_range,hn] at h1; exact h1.symm
 subst hx
 have := loop_ret_of (S := fun n => (takeL l i k p q n).st) x (by kernel_rfl) (fun m hm => ?_) (takeBad l i k p q x hl hi hk0 hk hn (by simpa using h2))
 ·simp only [takeL,wr_zero] at this
  exact this
 ·obtain ⟨y,h4,h5⟩ := h3 m hm
  have hy : y = m := by simp [List.getElem?_range,show m < k.toNat from by omega] at h4; exact h4.symm
  subst hy
  exact takeRound l i k p q y hl hi hk0 hk (by omega) (by simpa using h5)
end
theorem ref4Take (l : List Page) (i : Int) (k : Int) (p q : Page) (hl : l.length ≤ 1048576) (hk : 1 ≤ k ∧ k ≤ 5) : GSpec Tryz.prog 240 [pagesV l,int i,int k,p.av,q.av] true (.tu [pagesV (takeP l i k p q).1,int (takeP l i k p q).2]) [] := by
  cases hf : freeK l i.toNat k.toNat with
  | true =>
    have hw : i.toNat + k.toNat ≤ l.length → (wr l (List.replicate k.toNat q) i.toNat k.toNat).length = l.length := fun h => wr_len (by simpa using h) (by simp)
    rcases bb (decide (i < 0) || decide ((↑l.length : Int) ≤ i) || decide ((↑l.length : Int) - i < k)) with hc0 | hc0<;>have hc0p:=hc0<;>simp only [bs] at hc0p
    · exact gF [] Tryz.func240 [false,false,false,false,false,false,false,false,false,false,true] (FlG 19 (!decide (i < 0)) Page.dv l (FlG 25 (!(decide (i < 0) || decide ((↑l.length : Int) ≤ i))) Page.dv l (FiG 27 (!(decide (i < 0) || decide ((↑l.length : Int) ≤ i))) ((↑l.length : Int) - i) (Ft 29 hc0 (Fnl (Fa (by (simp only [takeP,hf,tookP]; (repeat' split) <;> first | rfl | omega | (exfalso; omega) | simp_all) : [] = List.map Page.dv (takeP l i k p q).fst) (Fa (by (simp only [takeP,hf,tookP]; (repeat' split) <;> first | rfl | omega | (exfalso; omega) | simp_all) : 2 = (takeP l i k p q).snd) Fz)))))))
    · obtain ⟨⟨hc0paa,hc0pab⟩,hc0pb⟩ := hc0p
      exact gF [] Tryz.func240 [false,false,false,false,false,false,false,false,false,false,false,false,false,false,false,false,false,false,false,false,false,true] (Fh 10055 [.els (List.map Page.dv ((wr l (List.replicate k.toNat q) i.toNat k.toNat).set i.toNat p))] (FlG 19 (!decide (i < 0)) Page.dv l (FlG 25 (!(decide (i < 0)||decide ((↑l.length : Int)≤i))) Page.dv l (FiG 27 (!(decide (i < 0)||decide ((↑l.length : Int)≤i))) ((↑l.length : Int) - i) (Ff 29 hc0 (Fs 30 (List.map Page.dv []) (Fa (by (simp [takeP,hf,tookP, *]; omega) : (List.map Page.dv []).length + (List.map Page.dv l).length≤2 ^ 30) (Fs 32 (List.map Page.dv l) (Fu (@takeLoop l i k p q ‹_› (by omega) (by omega) (by omega) ‹_›) (Fa (by (simp only [List.length_map]; omega) : 0≤i∧i.toNat < (List.map Page.dv (wr l (List.replicate k.toNat q) i.toNat k.toNat)).length) (Fa (by (simp only [List.length_map]; omega) : i.toNat < (List.map Page.dv (wr l (List.replicate k.toNat q) i.toNat k.toNat)).length) (Fa (by rw [List.map_set]; rfl : (List.map Page.dv (wr l (List.replicate k.toNat q) i.toNat k.toNat)).set i.toNat [dint p.kind,dint p.space,dint p.used,dint p.pins] =List.map Page.dv ((wr l (List.replicate k.toNat q) i.toNat k.toNat).set i.toNat p)) (Fa (by exact flat_pages _ : FlatEls (List.map Page.dv ((wr l (List.replicate k.toNat q) i.toNat k.toNat).set i.toNat p))) (Fa (by refine congrArg _ ?_; (simp only [takeP,hf,tookP]; (repeat' split) <;> first | rfl | omega | (exfalso; omega) | simp_all) : List.map Page.dv ((wr l (List.replicate k.toNat q) i.toNat k.toNat).set i.toNat p) =List.map Page.dv (takeP l i k p q).fst) (Fa (by (simp only [takeP,hf,tookP]; (repeat' split) <;> first | rfl | omega | (exfalso; omega) | simp_all) : 0 =(takeP l i k p q).snd) Fz)))))))))))))))
  | false => rcases Bool.eq_false_or_eq_true (decide (i < (0 : Int)) || decide ((↑l.length : Int) ≤ i) || decide ((↑l.length : Int) - i < k)) with hc0 | hc0
             · have hc0p := hc0
               simp only [bs] at hc0p
               exact gF [] Tryz.func240 [false,false,false,false,false,false,false,false,false,false,true] (FlG 19 (!decide (i < 0)) Page.dv l (FlG 25 (!(decide (i < 0)||decide ((↑l.length : Int)≤i))) Page.dv l (FiG 27 (!(decide (i < 0)||decide ((↑l.length : Int)≤i))) ((↑l.length : Int) - i) (Ft 29 ‹(decide (i < 0)||decide ((↑l.length : Int)≤i)||decide ((↑l.length : Int) - i < k)) =true› (Fnl (Fa (by (simp only [takeP,hf]; (repeat' split) <;> first | rfl | omega | (exfalso; omega) | simp_all) : [] =List.map Page.dv (takeP l i k p q).fst) (Fa (by (simp only [takeP,hf]; (repeat' split) <;> first | rfl | omega | (exfalso; omega) | simp_all) : 2 =(takeP l i k p q).snd) Fz)))))))
             · have hc0p := hc0
               simp only [bs] at hc0p
               obtain ⟨⟨hc0paa,hc0pab⟩,hc0pb⟩ := hc0p
               exact gF [] Tryz.func240 [false,false,false,false,false,false,false,false,false,false,false,false,false,false,false,false,false,false,false,false,false,true] (FlG 19 (!decide (i < 0)) Page.dv l (FlG 25 (!(decide (i < 0)||decide ((↑l.length : Int)≤i))) Page.dv l (FiG 27 (!(decide (i < 0)||decide ((↑l.length : Int)≤i))) ((↑l.length : Int) - i) (Ff 29 ‹(decide (i < 0)||decide ((↑l.length : Int)≤i)||decide ((↑l.length : Int) - i < k)) =false› (Fs 30 (List.map Page.dv []) (Fa (by (simp [takeP,hf, *]; omega) : (List.map Page.dv []).length + (List.map Page.dv l).length≤2 ^ 30) (Fs 32 (List.map Page.dv l) (Fu (@takeLoopBad l i k p q ‹_› (by omega) (by omega) (by omega) ‹_›) (Fnl (Fa (by (simp only [takeP,hf]; (repeat' split) <;> first | rfl | omega | (exfalso; omega) | simp_all) : [] =List.map Page.dv (takeP l i k p q).fst) (Fa (by (simp only [takeP,hf]; (repeat' split) <;> first | rfl | omega | (exfalso; omega) | simp_all) : 20 =(takeP l i k p q).snd) Fz)))))))))))
theorem ref4TakeN (l : List Page) (i : Int) (k : Int) (p q : Page) (hl : l.length ≤ 1048576) (hk : 1 ≤ k ∧ k ≤ 5) (hi : 0 ≤ i ∧ i + k ≤ l.length) (hf : freeK l i.toNat k.toNat = true) : GSpec Tryz.prog 240 [pagesV l,int i,int k,p.av,q.av] true (.tu [.ow 0,int 0]) [.arr 134 4 ((tookP l i.toNat k.toNat p q).map Page.dv)] := by
 have hw : (wr l (List.replicate k.toNat q) i.toNat k.toNat).length = l.length := wr_len (by simp; omega) (by simp)
 exact gF [24032] Tryz.func240 [] (Fh 10055 [.els (List.map Page.dv ((wr l (List.replicate k.toNat q) i.toNat k.toNat).set i.toNat p))] (FlG 19 (!decide (i < 0)) Page.dv l (FlG 25 (!(decide (i < 0)||decide ((↑l.length : Int)≤i))) Page.dv l (FiG 27 (!(decide (i < 0)||decide ((↑l.length : Int)≤i))) ((↑l.length : Int) - i) (Ffb 29 (decide (i < 0)||decide ((↑l.length : Int)≤i)||decide ((↑l.length : Int) - i < k)) (Fs 30 (List.map Page.dv []) (Fa (by (simp [tookP, *]; omega) : (List.map Page.dv []).length + (List.map Page.dv l).length≤2 ^ 30) (Fs 32 (List.map Page.dv l) (Fu (@takeLoop l i k p q ‹_› (by omega) (by omega) (by omega) ‹_›) (Fa (by (simp only [List.length_map]; omega) : 0≤i∧i.toNat < (List.map Page.dv (wr l (List.replicate k.toNat q) i.toNat k.toNat)).length) (Fa (by (simp only [List.length_map]; omega) : i.toNat < (List.map Page.dv (wr l (List.replicate k.toNat q) i.toNat k.toNat)).length) (Fa (by rw [List.map_set]; rfl : (List.map Page.dv (wr l (List.replicate k.toNat q) i.toNat k.toNat)).set i.toNat [dint p.kind,dint p.space,dint p.used,dint p.pins] =List.map Page.dv ((wr l (List.replicate k.toNat q) i.toNat k.toNat).set i.toNat p)) (Fa (by exact flat_pages _ : FlatEls (List.map Page.dv ((wr l (List.replicate k.toNat q) i.toNat k.toNat).set i.toNat p))) Fz)))))))))))))
def smallP (l : List Page) (i sp : Int) : List Page × Int := if 0 ≤ sp ∧ sp ≤ 1 then takeP l i 1 ⟨1,sp,0,0⟩ ⟨0,0,0,0⟩ else ([],1)
def largeP (c : Conf) (l : List Page) (i sp n : Int) : List Page × Int := if 1 ≤ need c n ∧ 0 ≤ sp ∧ sp ≤ 1 then takeP l i (need c n) ⟨2,sp,n,0⟩ ⟨3,sp,0,0⟩ else ([],1)
theorem ref4Large (c : Conf) (l : List Page) (i sp n : Int) (hl : l.length ≤ 1048576) : GSpec Tryz.prog 247 [c.av,pagesV l,int i,int sp,int n] false (.tu [pagesV (largeP c l i sp n).1,int (largeP c l i sp n).2]) [] := by
 have hn := need_range c n
 rcases bb (decide (need c n < 1) || decide (sp < 0) || decide (1 < sp)) with hc0 | hc0<;>have hc0p:=hc0<;>simp only [bs] at hc0p
 ·exact gF [] Tryz.func247 [false,false,false,false,true] (Fc 15 (@refNeed c n) (Ft 25 hc0 (Fnl (Fa (by (simp only [largeP]; (repeat' split) <;> first | rfl | omega | (exfalso; omega) | simp_all) : [] =List.map Page.dv (largeP c l i sp n).fst) (Fa (by (simp only [largeP]; (repeat' split) <;> first | rfl | omega | (exfalso; omega) | simp_all) : 1 =(largeP c l i sp n).snd) Fz)))))
 ·obtain ⟨⟨hc0paa,hc0pab⟩,hc0pb⟩ := hc0p
  exact gF [] Tryz.func247 [false,false,false,false,true] (Fc 15 (@refNeed c n) (Ff 25 hc0 (Fc 34 (@ref4Take l i (need c n) (Page.mk 2 sp n 0) (Page.mk 3 sp 0 0) ‹_› (by omega)) (Fa (by refine congrArg _ ?_; (simp only [largeP]; (repeat' split) <;> first | rfl | omega | (exfalso; omega) | simp_all) : List.map Page.dv (takeP l i (need c n) (Page.mk 2 sp n 0) (Page.mk 3 sp 0 0)).fst =List.map Page.dv (largeP c l i sp n).fst) (Fa (by (simp only [largeP]; (repeat' split) <;> first | rfl | omega | (exfalso; omega) | simp_all) : (takeP l i (need c n) (Page.mk 2 sp n 0) (Page.mk 3 sp 0 0)).snd =(largeP c l i sp n).snd) Fz)))))
theorem ref4SmallN (l : List Page) (i sp : Int) (hl : l.length ≤ 1048576) (hs : 0 ≤ sp ∧ sp ≤ 1) (hi : 0 ≤ i ∧ i + 1 ≤ l.length) (hf : freeK l i.toNat 1 = true) : GSpec Tryz.prog 204 [pagesV l,int i,int sp] true (.tu [.ow 0,int 0]) [.arr 134 4 ((tookP l i.toNat 1 ⟨1,sp,0,0⟩ ⟨0,0,0,0⟩).map Page.dv)] := by
 exact gF [25019] Tryz.func204 [] (Ffb 13 (decide (sp < 0)||decide (1 < sp)) (Fc 19 (@ref4TakeN l i (1) (Page.mk 1 sp 0 0) (Page.mk 0 0 0 0) ‹_› (by omega) ‹_› ‹_›) (Fa (by exact flat_pages _ : FlatEls (List.map Page.dv (tookP l i.toNat (Int.toNat 1) (Page.mk 1 sp 0 0) (Page.mk 0 0 0 0)))) Fz)))
theorem first_diff {α : Type} : ∀ {a b : List α},a.length = b.length → a ≠ b → ∃ (j : Nat) (x y : α),a[j]? = some x ∧ b[j]? = some y ∧ x ≠ y ∧ ∀ i : Nat,i < j → ∃ z : α,a[i]? = some z ∧ b[i]? = some z
 | [],[],_,h => absurd rfl h
 | [],_ :: _,h,_ => by simp at h
 | _ :: _,[],h,_ => by simp at h
 | x :: a,y :: b,hl,h => by
  by_cases hxy : x = y
  ·subst hxy
   obtain ⟨j,u,v,h1,h2,h3,h4⟩ := first_diff (a := a) (b := b) (by simpa using hl) (fun e => h (by rw [e]))
   refine ⟨j + 1,u,v,by simpa using h1,by simpa using h2,h3,fun i hi => ?_⟩
   cases i with
   | zero => exact ⟨x,rfl,rfl⟩
   | succ i =>
    obtain ⟨z,h5,h6⟩ := h4 i (by omega)
    exact ⟨z,by simpa using h5,by simpa using h6⟩
  ·exact ⟨0,x,y,rfl,rfl,hxy,fun i hi => by omega⟩
def samePagesL (a b : List Page) (i : Nat) : Tg := ⟨tm 26 [(0,pagesV a),(1,pagesV b),(4,bool false),(5,int i)],[],40⟩
theorem samePagesRound (a b : List Page) (i : Nat) (p : Page) (hl : a.length ≤ 281474976710656) (ha : a[i]? = some p) (hb : b[i]? = some p) : CSpec Tryz.prog (rndF Tryz.f23 0) (samePagesL a b i).st .nrm (samePagesL a b (i + 1)).st := by
 have hi : i < a.length := (List.getElem?_eq_some_iff.1 ha).1
 refine stretch [(13,[.int a.length]),(14,[.br true]),(19,[.el p.dv]),(23,[.el p.dv]),(25,[.br false]),(16,[.int ((i + 1 : Nat) : Int)])] [] (φ := (↑(List.map Page.dv a).length : Int) = (↑a.length : Int) ∧ decide ((↑i : Int) < (↑a.length : Int)) = true ∧ true = true ∧ ((0 : Int) ≤ (↑i : Int) ∧ (List.map Page.dv a)[(↑i : Int).toNat]? = some p.dv) ∧ ((0 : Int) ≤ (↑i : Int) ∧ (List.map Page.dv b)[(↑i : Int).toNat]? = some p.dv) ∧ (!(p.kind == p.kind && (p.space == p.space && (p.used == p.used && p.pins == p.pins)))) = false ∧ false = false ∧ IntKind.i64.wrap ((↑i : Int) + (1 : Int)) = (↑(i + (1 : Nat)) : Int)) ?_ (by kernel_rfl) (by kernel_rfl) (by kernel_rfl)
 exact ⟨by rw [List.length_map],decide_eq_true (by omega),rfl,⟨by omega,pages_at ha⟩,⟨by omega,pages_at hb⟩,by simp,rfl,wrapI (by omega) (by omega)⟩
theorem samePagesBad (a b : List Page) (i : Nat) (p q : Page) (ha : a[i]? = some p) (hb : b[i]? = some q) (hne : p ≠ q) : CSpec Tryz.prog (rndF Tryz.f23 0) (samePagesL a b i).st .ret (Tg.st ⟨tm 26 [(4,bool false)],[],60⟩) := by
 have hi : i < a.length := (List.getElem?_eq_some_iff.1 ha).1
 refine stretch [(13,[.int a.length]),(14,[.br true]),(19,[.el p.dv]),(23,[.el q.dv]),(25,[.br true])] [] (φ := (↑(List.map Page.dv a).length : Int) = (↑a.length : Int) ∧ decide ((↑i : Int) < (↑a.length : Int)) = true ∧ true = true ∧ ((0 : Int) ≤ (↑i : Int) ∧ (List.map Page.dv a)[(↑i : Int).toNat]? = some p.dv) ∧ ((0 : Int) ≤ (↑i : Int) ∧ (List.map Page.dv b)[(↑i : Int).toNat]? = some q.dv) ∧ (!(p.kind == q.kind && (p.space == q.space && (p.used == q.used && p.pins == q.pins)))) = true ∧ true = true) ?_ (by kernel_rfl) (by kernel_rfl) (by kernel_rfl)
 refine ⟨by rw [List.length_map],decide_eq_true (by omega),rfl,⟨by omega,pages_at ha⟩,⟨by omega,pages_at hb⟩, ?_,rfl⟩
 cases p; cases q
 simp at hne
 simp
 omega
theorem samePagesEnd (a b : List Page) : CSpec Tryz.prog (rndF Tryz.f23 0) (samePagesL a b a.length).st (.ext 0) (Tg.st ⟨tm 26 [],[],60⟩) := by
 refine stretch [(13,[.int a.length]),(14,[.br false])] [] (φ := (↑(List.map Page.dv a).length : Int) = (↑a.length : Int) ∧ decide ((↑a.length : Int) < (↑a.length : Int)) = false ∧ false = false) ?_ (by kernel_rfl) (by kernel_rfl) (by kernel_rfl)
 exact ⟨by rw [List.length_map],decide_eq_false (by omega),rfl⟩
theorem refSamePages (a b : List Page) (hl : a.length ≤ 281474976710656) : GSpec Tryz.prog 23 [pagesV a,pagesV b] true (bool (decide (a = b))) [] := by
 by_cases hlen : a.length = b.length
 ·by_cases he : a = b
  ·subst he
   rw [decide_eq_true rfl]
   refine gspec_of [(7,[.int a.length]),(9,[.int a.length]),(10,[.br false])] [(0,samePagesL a a 0,.nrm,⟨tm 26 [],[],60⟩)] [] (by decide) Tryz.func23 (φ := (↑(List.map Page.dv a).length : Int) = (↑a.length : Int) ∧ (↑(List.map Page.dv a).length : Int) = (↑a.length : Int) ∧ ((↑a.length : Int) != (↑a.length : Int)) = false ∧ false = false ∧ CSpec Tryz.prog (blkF Tryz.f23 (0 : Nat)) (samePagesL a a (0 : Nat)).st Ex.nrm (Tg.mk (tm (26 : Nat) []) [] (60 : Nat)).st) ?_ (by kernel_rfl) (by kernel_rfl)
   exact ⟨by rw [List.length_map],by rw [List.length_map],by simp,rfl,loop_ext_of (S := fun i => (samePagesL a a i).st) a.length (by kernel_rfl) (fun i hi => samePagesRound a a i a[i] hl (List.getElem?_eq_getElem hi) (List.getElem?_eq_getElem hi)) (samePagesEnd a a)⟩
  ·rw [decide_eq_false he]
   refine gspec_of [(7,[.int a.length]),(9,[.int b.length]),(10,[.br false])] [(0,samePagesL a b 0,.ret,⟨tm 26 [(4,bool false)],[],60⟩)] [] (by decide) Tryz.func23 (φ := (↑(List.map Page.dv a).length : Int) = (↑a.length : Int) ∧ (↑(List.map Page.dv b).length : Int) = (↑b.length : Int) ∧ ((↑a.length : Int) != (↑b.length : Int)) = false ∧ false = false ∧ CSpec Tryz.prog (blkF Tryz.f23 (0 : Nat)) (samePagesL a b (0 : Nat)).st Ex.ret (Tg.mk (tm (26 : Nat) [((4 : Nat),Sx.bool false)]) [] (60 : Nat)).st) ?_ (by kernel_rfl) (by kernel_rfl)
   obtain ⟨j,x,y,h1,h2,h3,h4⟩ := first_diff hlen he
   refine ⟨by rw [List.length_map],by rw [List.length_map],by simp [hlen],rfl,loop_ret_of (S := fun i => (samePagesL a b i).st) j (by kernel_rfl) (fun i hi => ?_) (samePagesBad a b j x y h1 h2 h3)⟩
   obtain ⟨z,h5,h6⟩ := h4 i hi
   exact samePagesRound a b i z hl h5 h6
 ·have he : a ≠ b := fun h => hlen (by rw [h])
  rw [decide_eq_false he]
  refine gspec_of [(7,[.int a.length]),(9,[.int b.length]),(10,[.br true])] [] [] (by decide) Tryz.func23 (φ := (↑(List.map Page.dv a).length : Int) = (↑a.length : Int) ∧ (↑(List.map Page.dv b).length : Int) = (↑b.length : Int) ∧ ((↑a.length : Int) != (↑b.length : Int)) = true ∧ true = true) ?_ (by kernel_rfl) (by kernel_rfl)
  exact ⟨by rw [List.length_map],by rw [List.length_map],by simp; omega,rfl⟩
theorem lawAwake : GSpec Tryz.prog 18 [] true (bool true) [] := by
 have h1 := pageNew_ok ⟨16,8⟩ (by decide)
 have h2 := pageAddress ⟨16,8⟩ 1 2
 have h3 := pageProper (newHeap ⟨16,8⟩)
 have h4 := pageLimit ⟨16,8⟩
 rw [show addressV ⟨16,8⟩ 1 2 = .tu [u64 4114,int 0] from by rfl] at h2
 rw [show properB (newHeap ⟨16,8⟩) = true from by decide +kernel] at h3
 rw [show limit ⟨16,8⟩ = 2 from by decide] at h4
 refine gspec_of [(6,[.call true (Conf.av ⟨16,8⟩) []]),(7,[.call false (.tu [(newHeap ⟨16,8⟩).av,int 0]) []]),(11,[.call true (Conf.av ⟨16,8⟩) []]),(12,[.call true (.tu [u64 4114,int 0]) []]),(28,[.int 128]),(33,[.call true (bool true) []]),(36,[.call true (Conf.av ⟨16,8⟩) []]),(37,[.call true (int 2) []]),(39,[.br true])] [] [] (by decide) Tryz.func18 (φ := GSpec Tryz.prog 82 [] true (Conf.mk (16 : Int) (8 : Int)).av [] ∧ GSpec Tryz.prog 81 [AV.ag [int (Conf.mk (16 : Int) (8 : Int)).pw,int (Conf.mk (16 : Int) (8 : Int)).pg]] false (AV.tu [(newHeap (Conf.mk (16 : Int) (8 : Int))).av,int (0 : Int)]) [] ∧ GSpec Tryz.prog 82 [] true (Conf.mk (16 : Int) (8 : Int)).av [] ∧ GSpec Tryz.prog 83 [AV.ag [int (Conf.mk (16 : Int) (8 : Int)).pw,int (Conf.mk (16 : Int) (8 : Int)).pg],int (1 : Int),int (2 : Int)] true (AV.tu [u64 (4114 : Int),int (0 : Int)]) [] ∧ (((0 : Int) == (0 : Int) && (0 : Int) == (0 : Int) && (4114 : Int) == (4114 : Int)) = true → (↑(List.map wdv (newHeap (Conf.mk (16 : Int) (8 : Int))).words).length : Int) = (128 : Int)) ∧ (((0 : Int) == (0 : Int) && (0 : Int) == (0 : Int) && (4114 : Int) == (4114 : Int) && (128 : Int) == (128 : Int)) = true → GSpec Tryz.prog 84 [AV.ag [int (newHeap (Conf.mk (16 : Int) (8 : Int))).conf.pw,int (newHeap (Conf.mk (16 : Int) (8 : Int))).conf.pg,AV.d (DV.sl (1 : Nat) (List.map wdv (newHeap (Conf.mk (16 : Int) (8 : Int))).words)),AV.d (DV.sl (4 : Nat) (List.map Page.dv (newHeap (Conf.mk (16 : Int) (8 : Int))).pages)),int (newHeap (Conf.mk (16 : Int) (8 : Int))).space,int (newHeap (Conf.mk (16 : Int) (8 : Int))).bump]] true (Sx.bool true) []) ∧ (((0 : Int) == (0 : Int) && (0 : Int) == (0 : Int) && (4114 : Int) == (4114 : Int) && (128 : Int) == (128 : Int) && true) = true → GSpec Tryz.prog 82 [] true (Conf.mk (16 : Int) (8 : Int)).av []) ∧ (((0 : Int) == (0 : Int) && (0 : Int) == (0 : Int) && (4114 : Int) == (4114 : Int) && (128 : Int) == (128 : Int) && true) = true → GSpec Tryz.prog 85 [AV.ag [int (Conf.mk (16 : Int) (8 : Int)).pw,int (Conf.mk (16 : Int) (8 : Int)).pg]] true (int (2 : Int)) []) ∧ ((0 : Int) == (0 : Int) && (0 : Int) == (0 : Int) && (4114 : Int) == (4114 : Int) && (128 : Int) == (128 : Int) && true && (2 : Int) == (2 : Int)) = true) ?_ (by kernel_rfl) (by kernel_rfl)
 exact ⟨lawConf,h1,lawConf,h2,fun _ => by rw [List.length_map]; decide +kernel,fun _ => h3,fun _ => lawConf,fun _ => h4,by decide⟩
structure Run where
 frm : Int
 len : Int
 deriving DecidableEq,Inhabited
def Run.dv (r : Run) : List DV := [dint r.frm,dint r.len]
def runsV (l : List Run) : AV := .d (.sl 2 (l.map Run.dv))
def lastRun (out : List Run) : Run := out.getLast?.getD ⟨0,0⟩
def runsStep (out : List Run) (i : Int) (p : Page) : List Run :=
 if p.kind = 0 then (if out ≠ [] ∧ (lastRun out).frm + (lastRun out).len = i then out.dropLast ++ [⟨(lastRun out).frm,(lastRun out).len + 1⟩] else out ++ [⟨i,1⟩]) else out
def runsUp (l : List Page) : Nat → List Run
 | 0 => []
 | i + 1 => runsStep (runsUp l i) i (pageAt l i)
theorem lastRun_at {out : List Run} (h : out ≠ []) : out[out.length - 1]? = some (lastRun out) := by
 rw [← List.getLast?_eq_getElem?,lastRun,List.getLast?_eq_some_getLast h]
 rfl
theorem runsUp_ok (l : List Page) : ∀ i,(runsUp l i).length ≤ i ∧ ∀ r ∈ runsUp l i,0 ≤ r.frm ∧ 1 ≤ r.len ∧ r.frm + r.len ≤ i
 | 0 => ⟨by simp [runsUp],by simp [runsUp]⟩
 | i + 1 => by
  obtain ⟨h1,h2⟩ := runsUp_ok l i
  simp only [runsUp,runsStep]
  split
  ·split
   ·rename_i hc
    have hl := h2 _ (List.mem_of_getElem? (lastRun_at hc.1))
    have hp : 0 < (runsUp l i).length := List.length_pos_iff.2 hc.1
    refine ⟨by simp; omega,fun r hr => ?_⟩
    rcases List.mem_append.1 hr with hr | hr
    ·have := h2 r (List.dropLast_subset _ hr)
     omega
    ·simp at hr; subst hr; simp only; omega
   ·refine ⟨by simp; omega,fun r hr => ?_⟩
    rcases List.mem_append.1 hr with hr | hr
    ·have := h2 r hr; omega
    ·simp at hr; subst hr; simp only; omega
  ·refine ⟨by omega,fun r hr => ?_⟩
   have := h2 r hr
   omega
theorem map_at {out : List Run} {i : Nat} {r : Run} (h : out[i]? = some r) : (out.map Run.dv)[i]? = some r.dv := by simp [h]
theorem set_last {out : List Run} (h : out ≠ []) (r : Run) : (out.map Run.dv).set (out.length - 1) r.dv = (out.dropLast ++ [r]).map Run.dv := by
 obtain ⟨a,b,rfl⟩ : ∃ a b,out = a ++ [b] := ⟨out.dropLast,out.getLast h,(List.dropLast_concat_getLast h).symm⟩
 simp
def runsL (l : List Page) (i : Nat) : Tg := ⟨tm 54 [(3,.ow 16003),(7,pagesV l),(8,int l.length),(9,int i)],[(16003,.arr 128 2 ((runsUp l i).map Run.dv))],20⟩
theorem runsRound_used (l : List Page) (hl : l.length ≤ 1048576) (i : Nat) (p : Page) (hp : l[i]? = some p) (hk : p.kind ≠ 0) : CSpec Tryz.prog (rndF Tryz.f80 0) (runsL l i).st .nrm (runsL l (i + 1)).st := by
 have hi : i < l.length := (List.getElem?_eq_some_iff.1 hp).1
 obtain ⟨o1,o2⟩ := runsUp_ok l i
 have e : runsL l (i + 1) = ⟨tm 54 [(3,.ow 16003),(7,pagesV l),(8,int l.length),(9,int ((i + 1 : Nat) : Int))],[(16003,.arr 128 2 ((runsUp l i).map Run.dv))],20⟩ := by
  have hpa : pageAt l i = p := by simp [pageAt,hp]
  rw [runsL,runsUp,runsStep,hpa,if_neg hk]
 rw [e]
 refine stretchR [(10,[.br true]),(12,[.el p.dv]),(15,[.int (runsUp l i).length]),(16,[.int ((runsUp l i).length - 1 : Int)]),(25,[.br true]),(52,[.int ((i + 1 : Nat) : Int)])] [] [] (φ := decide ((↑i : Int) < (↑l.length : Int)) = true ∧ true = true ∧ ((0 : Int) ≤ (↑i : Int) ∧ (List.map Page.dv l)[(↑i : Int).toNat]? = some p.dv) ∧ (↑(List.map Run.dv (runsUp l i)).length : Int) = (↑(runsUp l i).length : Int) ∧ IntKind.i64.wrap ((↑(runsUp l i).length : Int) - (1 : Int)) = (↑(runsUp l i).length : Int) - (1 : Int) ∧ (p.kind != (0 : Int)) = true ∧ IntKind.i64.wrap ((↑i : Int) + (1 : Int)) = (↑(i + (1 : Nat)) : Int)) ?_ (by kernel_rfl) (by kernel_rfl) (by kernel_rfl)
 exact ⟨decide_eq_true (by omega),rfl,⟨by omega,pages_at hp⟩,by rw [List.length_map],wrapI (by omega) (by omega),by simp [hk],wrapI (by omega) (by omega)⟩
theorem runsRound_more (l : List Page) (hl : l.length ≤ 1048576) (i : Nat) (p : Page) (hp : l[i]? = some p) (hk : p.kind = 0) (ho : runsUp l i ≠ []) (hm : (lastRun (runsUp l i)).frm + (lastRun (runsUp l i)).len = i) : CSpec Tryz.prog (rndF Tryz.f80 0) (runsL l i).st .nrm (runsL l (i + 1)).st := by
 have hi : i < l.length := (List.getElem?_eq_some_iff.1 hp).1
 obtain ⟨o1,o2⟩ := runsUp_ok l i
 have hlast := o2 _ (List.mem_of_getElem? (lastRun_at ho))
 have hpos : 0 < (runsUp l i).length := List.length_pos_iff.2 ho
 have e : runsUp l (i + 1) = (runsUp l i).dropLast ++ [⟨(lastRun (runsUp l i)).frm,(lastRun (runsUp l i)).len + 1⟩] := by
  have hpa : pageAt l i = p := by simp [pageAt,hp]
  rw [runsUp,runsStep,hpa,if_pos hk,if_pos ⟨ho,hm⟩]
 refine stretchR [(10,[.br true]),(12,[.el p.dv]),(15,[.int (runsUp l i).length]),(16,[.int ((runsUp l i).length - 1 : Int)]),(25,[.br false]),(34,[.el (lastRun (runsUp l i)).dv]),(39,[.el (lastRun (runsUp l i)).dv]),(40,[.int i]),(43,[.br true]),(48,[.el (lastRun (runsUp l i)).dv]),(49,[.int ((lastRun (runsUp l i)).len + 1)]),(10051,[.el (lastRun (runsUp l i)).dv,.els ((runsUp l (i + 1)).map Run.dv)]),(52,[.int ((i + 1 : Nat) : Int)])] [] [] (φ := decide ((↑i : Int) < (↑l.length : Int)) = true ∧ true = true ∧ ((0 : Int) ≤ (↑i : Int) ∧ (List.map Page.dv l)[(↑i : Int).toNat]? = some p.dv) ∧ (↑(List.map Run.dv (runsUp l i)).length : Int) = (↑(runsUp l i).length : Int) ∧ IntKind.i64.wrap ((↑(runsUp l i).length : Int) - (1 : Int)) = (↑(runsUp l i).length : Int) - (1 : Int) ∧ (p.kind != (0 : Int)) = false ∧ (decide ((0 : Int) ≤ (↑(runsUp l i).length : Int) - (1 : Int)) = true → (0 : Int) ≤ (↑(runsUp l i).length : Int) - (1 : Int) ∧ ((↑(runsUp l i).length : Int) - (1 : Int)).toNat < (List.map Run.dv (runsUp l i)).length) ∧ (decide ((0 : Int) ≤ (↑(runsUp l i).length : Int) - (1 : Int)) = true → (List.map Run.dv (runsUp l i))[((↑(runsUp l i).length : Int) - (1 : Int)).toNat]? = some (lastRun (runsUp l i)).dv) ∧ (decide ((0 : Int) ≤ (↑(runsUp l i).length : Int) - (1 : Int)) = true → (0 : Int) ≤ (↑(runsUp l i).length : Int) - (1 : Int) ∧ ((↑(runsUp l i).length : Int) - (1 : Int)).toNat < (List.map Run.dv (runsUp l i)).length) ∧ (decide ((0 : Int) ≤ (↑(runsUp l i).length : Int) - (1 : Int)) = true → (List.map Run.dv (runsUp l i))[((↑(runsUp l i).length : Int) - (1 : Int)).toNat]? = some (lastRun (runsUp l i)).dv) ∧ (decide ((0 : Int) ≤ (↑(runsUp l i).length : Int) - (1 : Int)) = true → IntKind.i64.wrap ((lastRun (runsUp l i)).frm + (lastRun (runsUp l i)).len) = (↑i : Int)) ∧ (decide ((0 : Int) ≤ (↑(runsUp l i).length : Int) - (1 : Int)) && (↑i : Int) == (↑i : Int)) = true ∧ ((0 : Int) ≤ (↑(runsUp l i).length : Int) - (1 : Int) ∧ ((↑(runsUp l i).length : Int) - (1 : Int)).toNat < (List.map Run.dv (runsUp l i)).length) ∧ (List.map Run.dv (runsUp l i))[((↑(runsUp l i).length : Int) - (1 : Int)).toNat]? = some (lastRun (runsUp l i)).dv ∧ IntKind.i64.wrap ((lastRun (runsUp l i)).len + (1 : Int)) = (lastRun (runsUp l i)).len + (1 : Int) ∧ ((0 : Int) ≤ (↑(runsUp l i).length : Int) - (1 : Int) ∧ ((↑(runsUp l i).length : Int) - (1 : Int)).toNat < (List.map Run.dv (runsUp l i)).length) ∧ (List.map Run.dv (runsUp l i))[((↑(runsUp l i).length : Int) - (1 : Int)).toNat]? = some (lastRun (runsUp l i)).dv ∧ (List.map Run.dv (runsUp l i)).set ((↑(runsUp l i).length : Int) - (1 : Int)).toNat (spliceD (lastRun (runsUp l i)).dv ((0 : Nat) + #[Field.mk "From" (3 : Nat) (0 : Nat) false "" "" (0 : Nat),Field.mk "Len" (3 : Nat) (1 : Nat) false "" "" (8 : Nat)][(1 : Nat)].3) [dint ((lastRun (runsUp l i)).len + (1 : Int))]) = List.map Run.dv (runsUp l (i + (1 : Nat))) ∧ IntKind.i64.wrap ((↑i : Int) + (1 : Int)) = (↑(i + (1 : Nat)) : Int)) ?_ (by kernel_rfl) (by kernel_rfl) (by kernel_rfl)
 have hidx : 0 ≤ ((runsUp l i).length : Int) - 1 ∧ (((runsUp l i).length : Int) - 1).toNat < (List.map Run.dv (runsUp l i)).length := by rw [List.length_map]; omega
 have hat : (List.map Run.dv (runsUp l i))[(((runsUp l i).length : Int) - 1).toNat]? = some (lastRun (runsUp l i)).dv := by
  rw [show (((runsUp l i).length : Int) - 1).toNat = (runsUp l i).length - 1 from by omega]
  exact map_at (lastRun_at ho)
 refine ⟨decide_eq_true (by omega),rfl,⟨by omega,pages_at hp⟩,by rw [List.length_map],wrapI (by omega) (by omega),by simp [hk],fun _ => hidx,fun _ => hat,fun _ => hidx,fun _ => hat,fun _ => by rw [hm]; exact wrapI (by omega) (by omega),by simp; omega,hidx,hat,wrapI (by omega) (by omega),hidx,hat, ?_,wrapI (by omega) (by omega)⟩
 rw [e,← set_last ho,show (((runsUp l i).length : Int) - 1).toNat = (runsUp l i).length - 1 from by omega]
 rfl
theorem runsRound_new (l : List Page) (hl : l.length ≤ 1048576) (i : Nat) (p : Page) (hp : l[i]? = some p) (hk : p.kind = 0) (ho : ¬ (runsUp l i ≠ [] ∧ (lastRun (runsUp l i)).frm + (lastRun (runsUp l i)).len = i)) : CSpec Tryz.prog (rndF Tryz.f80 0) (runsL l i).st .nrm (runsL l (i + 1)).st := by
 have hi : i < l.length := (List.getElem?_eq_some_iff.1 hp).1
 obtain ⟨o1,o2⟩ := runsUp_ok l i
 have e : runsUp l (i + 1) = runsUp l i ++ [⟨i,1⟩] := by
  have hpa : pageAt l i = p := by simp [pageAt,hp]
  rw [runsUp,runsStep,hpa,if_pos hk,if_neg ho]
 refine stretchR [(10,[.br true]),(12,[.el p.dv]),(15,[.int (runsUp l i).length]),(16,[.int ((runsUp l i).length - 1 : Int)]),(25,[.br false]),(34,[.el (lastRun (runsUp l i)).dv]),(39,[.el (lastRun (runsUp l i)).dv]),(43,[.br false]),(21,[.els ((runsUp l (i + 1)).map Run.dv)]),(52,[.int ((i + 1 : Nat) : Int)])] [] [(200021,16003)] (φ := decide ((↑i : Int) < (↑l.length : Int)) = true ∧ true = true ∧ ((0 : Int) ≤ (↑i : Int) ∧ (List.map Page.dv l)[(↑i : Int).toNat]? = some p.dv) ∧ (↑(List.map Run.dv (runsUp l i)).length : Int) = (↑(runsUp l i).length : Int) ∧ IntKind.i64.wrap ((↑(runsUp l i).length : Int) - (1 : Int)) = (↑(runsUp l i).length : Int) - (1 : Int) ∧ (p.kind != (0 : Int)) = false ∧ (decide ((0 : Int) ≤ (↑(runsUp l i).length : Int) - (1 : Int)) = true → (0 : Int) ≤ (↑(runsUp l i).length : Int) - (1 : Int) ∧ ((↑(runsUp l i).length : Int) - (1 : Int)).toNat < (List.map Run.dv (runsUp l i)).length) ∧ (decide ((0 : Int) ≤ (↑(runsUp l i).length : Int) - (1 : Int)) = true → (List.map Run.dv (runsUp l i))[((↑(runsUp l i).length : Int) - (1 : Int)).toNat]? = some (lastRun (runsUp l i)).dv) ∧ (decide ((0 : Int) ≤ (↑(runsUp l i).length : Int) - (1 : Int)) = true → (0 : Int) ≤ (↑(runsUp l i).length : Int) - (1 : Int) ∧ ((↑(runsUp l i).length : Int) - (1 : Int)).toNat < (List.map Run.dv (runsUp l i)).length) ∧ (decide ((0 : Int) ≤ (↑(runsUp l i).length : Int) - (1 : Int)) = true → (List.map Run.dv (runsUp l i))[((↑(runsUp l i).length : Int) - (1 : Int)).toNat]? = some (lastRun (runsUp l i)).dv) ∧ (decide ((0 : Int) ≤ (↑(runsUp l i).length : Int) - (1 : Int)) && IntKind.i64.wrap ((lastRun (runsUp l i)).frm + (lastRun (runsUp l i)).len) == (↑i : Int)) = false ∧ (List.map Run.dv (runsUp l i)).length + ((List.replicate (1 : Nat) [dint (0 : Int),dint (0 : Int)]).set (0 : Nat) [dint (↑i : Int),dint (1 : Int)]).length ≤ (2 : Nat) ^ (30 : Nat) ∧ List.map Run.dv (runsUp l i) ++ (List.replicate (1 : Nat) [dint (0 : Int),dint (0 : Int)]).set (0 : Nat) [dint (↑i : Int),dint (1 : Int)] = List.map Run.dv (runsUp l (i + (1 : Nat))) ∧ IntKind.i64.wrap ((↑i : Int) + (1 : Int)) = (↑(i + (1 : Nat)) : Int)) ?_ (by kernel_rfl) (by kernel_rfl) (by kernel_rfl)
 have hne : decide (0 ≤ ((runsUp l i).length : Int) - 1) = true → runsUp l i ≠ [] := by
  intro hd h0
  rw [h0] at hd
  simp at hd
 have hidx : decide (0 ≤ ((runsUp l i).length : Int) - 1) = true → 0 ≤ ((runsUp l i).length : Int) - 1 ∧ (((runsUp l i).length : Int) - 1).toNat < (List.map Run.dv (runsUp l i)).length := by
  intro hd
  have := of_decide_eq_true hd
  rw [List.length_map]; omega
 have hat : decide (0 ≤ ((runsUp l i).length : Int) - 1) = true → (List.map Run.dv (runsUp l i))[(((runsUp l i).length : Int) - 1).toNat]? = some (lastRun (runsUp l i)).dv := by
  intro hd
  rw [show (((runsUp l i).length : Int) - 1).toNat = (runsUp l i).length - 1 from by omega]
  exact map_at (lastRun_at (hne hd))
 refine ⟨decide_eq_true (by omega),rfl,⟨by omega,pages_at hp⟩,by rw [List.length_map],wrapI (by omega) (by omega),by simp [hk],hidx,hat,hidx,hat, ?_,by rw [List.length_map]; simp; omega,by rw [e]; simp [Run.dv],wrapI (by omega) (by omega)⟩
 cases hd : decide (0 ≤ ((runsUp l i).length : Int) - 1) with
 | false => simp
 | true =>
  have h1 := hne hd
  have hlast := o2 _ (List.mem_of_getElem? (lastRun_at h1))
  rw [wrapI (by omega) (by omega)]
  simp
  intro hh
  exact ho ⟨h1,hh⟩
theorem runsRound (l : List Page) (hl : l.length ≤ 1048576) (i : Nat) (hi : i < l.length) : CSpec Tryz.prog (rndF Tryz.f80 0) (runsL l i).st .nrm (runsL l (i + 1)).st := by
 have hp := List.getElem?_eq_getElem hi
 by_cases hk : l[i].kind = 0
 ·by_cases ho : runsUp l i ≠ [] ∧ (lastRun (runsUp l i)).frm + (lastRun (runsUp l i)).len = i
  ·exact runsRound_more l hl i _ hp hk ho.1 ho.2
  ·exact runsRound_new l hl i _ hp hk ho
 ·exact runsRound_used l hl i _ hp hk
theorem runsEnd (l : List Page) : CSpec Tryz.prog (rndF Tryz.f80 0) (runsL l l.length).st (.ext 0) (Tg.st ⟨tm 54 [(3,.ow 16003)],[(16003,.arr 128 2 ((runsUp l l.length).map Run.dv))],60⟩) := by
 refine stretch [(10,[.br false])] [] (φ := decide ((↑l.length : Int) < (↑l.length : Int)) = false ∧ false = false) ?_ (by kernel_rfl) (by kernel_rfl) (by kernel_rfl)
 exact ⟨decide_eq_false (by omega),rfl⟩
def runs (l : List Page) : List Run := runsUp l l.length
theorem pageRuns (l : List Page) (hl : l.length ≤ 1048576) : GSpec Tryz.prog 80 [pagesV l] false (runsV (runs l)) [] := by
 refine gspec_of [(3,[.own]),(8,[.int l.length])] [(0,runsL l 0,.nrm,⟨tm 54 [(3,.ow 16003)],[(16003,.arr 128 2 ((runsUp l l.length).map Run.dv))],60⟩)] [] (by decide) Tryz.func80 (φ := (↑(List.map Page.dv l).length : Int) = (↑l.length : Int) ∧ CSpec Tryz.prog (blkF Tryz.f80 (0 : Nat)) (runsL l (0 : Nat)).st Ex.nrm (Tg.mk (tm (54 : Nat) [((3 : Nat),AV.ow (16003 : Nat))]) [((16003 : Nat),Blk.arr 128 (2 : Nat) (List.map Run.dv (runsUp l l.length)))] (60 : Nat)).st) ?_ (by kernel_rfl) (by kernel_rfl)
 exact ⟨by rw [List.length_map],loop_ext_of (S := fun i => (runsL l i).st) l.length (by kernel_rfl) (fun i hi => runsRound l hl i hi) (runsEnd l)⟩
def rrunsL (l : List Page) (i : Nat) : Tg := ⟨tm 54 [(0,pagesV l),(3,.ow 16003),(4,int i)],[(16003,.arr 128 2 ((runsUp l i).map Run.dv))],20⟩
theorem rrunsRound_used (l : List Page) (hl : l.length ≤ 1048576) (i : Nat) (p : Page) (hp : l[i]? = some p) (hk : p.kind ≠ 0) : CSpec Tryz.prog (rndF Tryz.f239 0) (rrunsL l i).st .nrm (rrunsL l (i + 1)).st := by
 have hi : i < l.length := (List.getElem?_eq_some_iff.1 hp).1
 have e : rrunsL l (i + 1) = ⟨tm 54 [(0,pagesV l),(3,.ow 16003),(4,int ((i + 1 : Nat) : Int))],[(16003,.arr 128 2 ((runsUp l i).map Run.dv))],20⟩ := by
  have hpa : pageAt l i = p := by simp [pageAt,hp]
  rw [rrunsL,runsUp,runsStep,hpa,if_neg hk]
 rw [e]
 refine stretchR [(8,[.int l.length]),(9,[.br true]),(14,[.el p.dv]),(17,[.br true]),(11,[.int ((i + 1 : Nat) : Int)])] [] [] (φ := (↑(List.map Page.dv l).length : Int) = (↑l.length : Int) ∧ decide ((↑i : Int) < (↑l.length : Int)) = true ∧ true = true ∧ ((0 : Int) ≤ (↑i : Int) ∧ (List.map Page.dv l)[(↑i : Int).toNat]? = some p.dv) ∧ (p.kind != (0 : Int)) = true ∧ true = true ∧ IntKind.i64.wrap ((↑i : Int) + (1 : Int)) = (↑(i + (1 : Nat)) : Int)) ?_ (by kernel_rfl) (by kernel_rfl) (by kernel_rfl)
 exact ⟨by rw [List.length_map],decide_eq_true (by omega),rfl,⟨by omega,pages_at hp⟩,by simp [hk],rfl,wrapI (by omega) (by omega)⟩
theorem rrunsRound_more (l : List Page) (hl : l.length ≤ 1048576) (i : Nat) (p : Page) (hp : l[i]? = some p) (hk : p.kind = 0) (ho : runsUp l i ≠ []) (hm : (lastRun (runsUp l i)).frm + (lastRun (runsUp l i)).len = i) : CSpec Tryz.prog (rndF Tryz.f239 0) (rrunsL l i).st .nrm (rrunsL l (i + 1)).st := by
 have hi : i < l.length := (List.getElem?_eq_some_iff.1 hp).1
 obtain ⟨o1,o2⟩ := runsUp_ok l i
 have hlast := o2 _ (List.mem_of_getElem? (lastRun_at ho))
 have hpos : 0 < (runsUp l i).length := List.length_pos_iff.2 ho
 have e : runsUp l (i + 1) = (runsUp l i).dropLast ++ [⟨(lastRun (runsUp l i)).frm,(lastRun (runsUp l i)).len + 1⟩] := by
  have hpa : pageAt l i = p := by simp [pageAt,hp]
  rw [runsUp,runsStep,hpa,if_pos hk,if_pos ⟨ho,hm⟩]
 have hidx : 0 ≤ ((runsUp l i).length : Int) - 1 ∧ (((runsUp l i).length : Int) - 1).toNat < (List.map Run.dv (runsUp l i)).length := by rw [List.length_map]; omega
 have hat : (List.map Run.dv (runsUp l i))[(((runsUp l i).length : Int) - 1).toNat]? = some (lastRun (runsUp l i)).dv := by
  rw [show (((runsUp l i).length : Int) - 1).toNat = (runsUp l i).length - 1 from by omega]
  exact map_at (lastRun_at ho)
 have hset : (List.map Run.dv (runsUp l i)).set (((runsUp l i).length : Int) - 1).toNat [dint (lastRun (runsUp l i)).frm,dint ((lastRun (runsUp l i)).len + 1)] = List.map Run.dv (runsUp l (i + 1)) := by
  rw [e,← set_last ho,show (((runsUp l i).length : Int) - 1).toNat = (runsUp l i).length - 1 from by omega]
  rfl
 have hw : IntKind.i64.wrap (((runsUp l i).length : Int) - 1) = ((runsUp l i).length : Int) - 1 := wrapI (by omega) (by omega)
 refine stretchR [(8,[.int l.length]),(9,[.br true]),(14,[.el p.dv]),(17,[.br false]),(19,[.int (runsUp l i).length]),(25,[.int ((runsUp l i).length - 1 : Int)]),(28,[.el (lastRun (runsUp l i)).dv]),(31,[.int ((runsUp l i).length - 1 : Int)]),(34,[.el (lastRun (runsUp l i)).dv]),(35,[.int i]),(38,[.br true]),(41,[.int ((runsUp l i).length - 1 : Int)]),(44,[.el (lastRun (runsUp l i)).dv]),(45,[.int ((lastRun (runsUp l i)).len + 1)]),(10047,[.el (lastRun (runsUp l i)).dv,.els ((runsUp l (i + 1)).map Run.dv)]),(11,[.int ((i + 1 : Nat) : Int)])] [] [] (φ := (↑(List.map Page.dv l).length : Int) = (↑l.length : Int) ∧ decide ((↑i : Int) < (↑l.length : Int)) = true ∧ true = true ∧ ((0 : Int) ≤ (↑i : Int) ∧ (List.map Page.dv l)[(↑i : Int).toNat]? = some p.dv) ∧ (p.kind != (0 : Int)) = false ∧ false = false ∧ (↑(List.map Run.dv (runsUp l i)).length : Int) = (↑(runsUp l i).length : Int) ∧ (decide ((0 : Int) < (↑(runsUp l i).length : Int)) = true → IntKind.i64.wrap ((↑(runsUp l i).length : Int) - (1 : Int)) = (↑(runsUp l i).length : Int) - (1 : Int)) ∧ (decide ((0 : Int) < (↑(runsUp l i).length : Int)) = true → (0 : Int) ≤ (↑(runsUp l i).length : Int) - (1 : Int) ∧ ((↑(runsUp l i).length : Int) - (1 : Int)).toNat < (List.map Run.dv (runsUp l i)).length) ∧ (decide ((0 : Int) < (↑(runsUp l i).length : Int)) = true → (List.map Run.dv (runsUp l i))[((↑(runsUp l i).length : Int) - (1 : Int)).toNat]? = some (lastRun (runsUp l i)).dv) ∧ (decide ((0 : Int) < (↑(runsUp l i).length : Int)) = true → IntKind.i64.wrap ((↑(runsUp l i).length : Int) - (1 : Int)) = (↑(runsUp l i).length : Int) - (1 : Int)) ∧ (decide ((0 : Int) < (↑(runsUp l i).length : Int)) = true → (0 : Int) ≤ (↑(runsUp l i).length : Int) - (1 : Int) ∧ ((↑(runsUp l i).length : Int) - (1 : Int)).toNat < (List.map Run.dv (runsUp l i)).length) ∧ (decide ((0 : Int) < (↑(runsUp l i).length : Int)) = true → (List.map Run.dv (runsUp l i))[((↑(runsUp l i).length : Int) - (1 : Int)).toNat]? = some (lastRun (runsUp l i)).dv) ∧ (decide ((0 : Int) < (↑(runsUp l i).length : Int)) = true → IntKind.i64.wrap ((lastRun (runsUp l i)).frm + (lastRun (runsUp l i)).len) = (↑i : Int)) ∧ (decide ((0 : Int) < (↑(runsUp l i).length : Int)) && (↑i : Int) == (↑i : Int)) = true ∧ true = true ∧ IntKind.i64.wrap ((↑(runsUp l i).length : Int) - (1 : Int)) = (↑(runsUp l i).length : Int) - (1 : Int) ∧ ((0 : Int) ≤ (↑(runsUp l i).length : Int) - (1 : Int) ∧ ((↑(runsUp l i).length : Int) - (1 : Int)).toNat < (List.map Run.dv (runsUp l i)).length) ∧ (List.map Run.dv (runsUp l i))[((↑(runsUp l i).length : Int) - (1 : Int)).toNat]? = some (lastRun (runsUp l i)).dv ∧ IntKind.i64.wrap ((lastRun (runsUp l i)).len + (1 : Int)) = (lastRun (runsUp l i)).len + (1 : Int) ∧ ((0 : Int) ≤ (↑(runsUp l i).length : Int) - (1 : Int) ∧ ((↑(runsUp l i).length : Int) - (1 : Int)).toNat < (List.map Run.dv (runsUp l i)).length) ∧ (List.map Run.dv (runsUp l i))[((↑(runsUp l i).length : Int) - (1 : Int)).toNat]? = some (lastRun (runsUp l i)).dv ∧ (List.map Run.dv (runsUp l i)).set ((↑(runsUp l i).length : Int) - (1 : Int)).toNat (spliceD (lastRun (runsUp l i)).dv ((0 : Nat) + #[Field.mk "From" (3 : Nat) (0 : Nat) false "" "" (0 : Nat),Field.mk "Len" (3 : Nat) (1 : Nat) false "" "" (8 : Nat)][(1 : Nat)].3) [dint ((lastRun (runsUp l i)).len + (1 : Int))]) = List.map Run.dv (runsUp l (i + (1 : Nat))) ∧ IntKind.i64.wrap ((↑i : Int) + (1 : Int)) = (↑(i + (1 : Nat)) : Int)) ?_ (by kernel_rfl) (by kernel_rfl) (by kernel_rfl)
 exact ⟨by rw [List.length_map],decide_eq_true (by omega),rfl,⟨by omega,pages_at hp⟩,by simp [hk],rfl,by rw [List.length_map],fun _ => hw,fun _ => hidx,fun _ => hat,fun _ => hw,fun _ => hidx,fun _ => hat,fun _ => by rw [hm]; exact wrapI (by omega) (by omega),by simp; omega,rfl,hw,hidx,hat,wrapI (by omega) (by omega),hidx,hat,hset,wrapI (by omega) (by omega)⟩
theorem rrunsRound_new (l : List Page) (hl : l.length ≤ 1048576) (i : Nat) (p : Page) (hp : l[i]? = some p) (hk : p.kind = 0) (ho : ¬ (runsUp l i ≠ [] ∧ (lastRun (runsUp l i)).frm + (lastRun (runsUp l i)).len = i)) : CSpec Tryz.prog (rndF Tryz.f239 0) (rrunsL l i).st .nrm (rrunsL l (i + 1)).st := by
 have hi : i < l.length := (List.getElem?_eq_some_iff.1 hp).1
 obtain ⟨o1,o2⟩ := runsUp_ok l i
 have e : runsUp l (i + 1) = runsUp l i ++ [⟨i,1⟩] := by
  have hpa : pageAt l i = p := by simp [pageAt,hp]
  rw [runsUp,runsStep,hpa,if_pos hk,if_neg ho]
 have hne : decide (0 < ((runsUp l i).length : Int)) = true → runsUp l i ≠ [] := by
  intro hd h0
  rw [h0] at hd
  simp at hd
 have hidx : decide (0 < ((runsUp l i).length : Int)) = true → 0 ≤ ((runsUp l i).length : Int) - 1 ∧ (((runsUp l i).length : Int) - 1).toNat < (List.map Run.dv (runsUp l i)).length := by
  intro hd
  have := of_decide_eq_true hd
  rw [List.length_map]; omega
 have hat : decide (0 < ((runsUp l i).length : Int)) = true → (List.map Run.dv (runsUp l i))[(((runsUp l i).length : Int) - 1).toNat]? = some (lastRun (runsUp l i)).dv := by
  intro hd
  rw [show (((runsUp l i).length : Int) - 1).toNat = (runsUp l i).length - 1 from by omega]
  exact map_at (lastRun_at (hne hd))
 have hw : IntKind.i64.wrap (((runsUp l i).length : Int) - 1) = ((runsUp l i).length : Int) - 1 := wrapI (by omega) (by omega)
 refine stretchR [(8,[.int l.length]),(9,[.br true]),(14,[.el p.dv]),(17,[.br false]),(19,[.int (runsUp l i).length]),(25,[.int ((runsUp l i).length - 1 : Int)]),(28,[.el (lastRun (runsUp l i)).dv]),(31,[.int ((runsUp l i).length - 1 : Int)]),(34,[.el (lastRun (runsUp l i)).dv]),(38,[.br false]),(52,[.els ((runsUp l (i + 1)).map Run.dv)]),(11,[.int ((i + 1 : Nat) : Int)])] [] [(192052,16003)] (φ := (↑(List.map Page.dv l).length : Int) = (↑l.length : Int) ∧ decide ((↑i : Int) < (↑l.length : Int)) = true ∧ true = true ∧ ((0 : Int) ≤ (↑i : Int) ∧ (List.map Page.dv l)[(↑i : Int).toNat]? = some p.dv) ∧ (p.kind != (0 : Int)) = false ∧ false = false ∧ (↑(List.map Run.dv (runsUp l i)).length : Int) = (↑(runsUp l i).length : Int) ∧ (decide ((0 : Int) < (↑(runsUp l i).length : Int)) = true → IntKind.i64.wrap ((↑(runsUp l i).length : Int) - (1 : Int)) = (↑(runsUp l i).length : Int) - (1 : Int)) ∧ (decide ((0 : Int) < (↑(runsUp l i).length : Int)) = true → (0 : Int) ≤ (↑(runsUp l i).length : Int) - (1 : Int) ∧ ((↑(runsUp l i).length : Int) - (1 : Int)).toNat < (List.map Run.dv (runsUp l i)).length) ∧ (decide ((0 : Int) < (↑(runsUp l i).length : Int)) = true → (List.map Run.dv (runsUp l i))[((↑(runsUp l i).length : Int) - (1 : Int)).toNat]? = some (lastRun (runsUp l i)).dv) ∧ (decide ((0 : Int) < (↑(runsUp l i).length : Int)) = true → IntKind.i64.wrap ((↑(runsUp l i).length : Int) - (1 : Int)) = (↑(runsUp l i).length : Int) - (1 : Int)) ∧ (decide ((0 : Int) < (↑(runsUp l i).length : Int)) = true → (0 : Int) ≤ (↑(runsUp l i).length : Int) - (1 : Int) ∧ ((↑(runsUp l i).length : Int) - (1 : Int)).toNat < (List.map Run.dv (runsUp l i)).length) ∧ (decide ((0 : Int) < (↑(runsUp l i).length : Int)) = true → (List.map Run.dv (runsUp l i))[((↑(runsUp l i).length : Int) - (1 : Int)).toNat]? = some (lastRun (runsUp l i)).dv) ∧ (decide ((0 : Int) < (↑(runsUp l i).length : Int)) && IntKind.i64.wrap ((lastRun (runsUp l i)).frm + (lastRun (runsUp l i)).len) == (↑i : Int)) = false ∧ false = false ∧ (List.map Run.dv (runsUp l i)).length + ((List.replicate (1 : Nat) [dint (0 : Int),dint (0 : Int)]).set (0 : Nat) [dint (↑i : Int),dint (1 : Int)]).length ≤ (2 : Nat) ^ (30 : Nat) ∧ List.map Run.dv (runsUp l i) ++ (List.replicate (1 : Nat) [dint (0 : Int),dint (0 : Int)]).set (0 : Nat) [dint (↑i : Int),dint (1 : Int)] = List.map Run.dv (runsUp l (i + (1 : Nat))) ∧ IntKind.i64.wrap ((↑i : Int) + (1 : Int)) = (↑(i + (1 : Nat)) : Int)) ?_ (by kernel_rfl) (by kernel_rfl) (by kernel_rfl)
 refine ⟨by rw [List.length_map],decide_eq_true (by omega),rfl,⟨by omega,pages_at hp⟩,by simp [hk],rfl,by rw [List.length_map],fun _ => hw,hidx,hat,fun _ => hw,hidx,hat, ?_,rfl,by rw [List.length_map]; simp; omega,by rw [e]; simp [Run.dv],wrapI (by omega) (by omega)⟩
 cases hd : decide (0 < ((runsUp l i).length : Int)) with
 | false => simp
 | true =>
  have h1 := hne hd
  have hlast := o2 _ (List.mem_of_getElem? (lastRun_at h1))
  rw [wrapI (by omega) (by omega)]
  simp
  intro hh
  exact ho ⟨h1,hh⟩
theorem rrunsRound (l : List Page) (hl : l.length ≤ 1048576) (i : Nat) (hi : i < l.length) : CSpec Tryz.prog (rndF Tryz.f239 0) (rrunsL l i).st .nrm (rrunsL l (i + 1)).st := by
 have hp := List.getElem?_eq_getElem hi
 by_cases hk : l[i].kind = 0
 ·by_cases ho : runsUp l i ≠ [] ∧ (lastRun (runsUp l i)).frm + (lastRun (runsUp l i)).len = i
  ·exact rrunsRound_more l hl i _ hp hk ho.1 ho.2
  ·exact rrunsRound_new l hl i _ hp hk ho
 ·exact rrunsRound_used l hl i _ hp hk
theorem rrunsEnd (l : List Page) : CSpec Tryz.prog (rndF Tryz.f239 0) (rrunsL l l.length).st (.ext 0) (Tg.st ⟨tm 54 [(3,.ow 16003)],[(16003,.arr 128 2 ((runsUp l l.length).map Run.dv))],60⟩) := by
 refine stretch [(8,[.int l.length]),(9,[.br false])] [] (φ := (↑(List.map Page.dv l).length : Int) = (↑l.length : Int) ∧ decide ((↑l.length : Int) < (↑l.length : Int)) = false ∧ false = false) ?_ (by kernel_rfl) (by kernel_rfl) (by kernel_rfl)
 exact ⟨by rw [List.length_map],decide_eq_false (by omega),rfl⟩
theorem refRuns (l : List Page) (hl : l.length ≤ 1048576) : GSpec Tryz.prog 239 [pagesV l] false (runsV (runs l)) [] := by
 refine gspec_of [(3,[.own])] [(0,rrunsL l 0,.nrm,⟨tm 54 [(3,.ow 16003)],[(16003,.arr 128 2 ((runsUp l l.length).map Run.dv))],60⟩)] [] (by decide) Tryz.func239 (φ := CSpec Tryz.prog (blkF Tryz.f239 (0 : Nat)) (rrunsL l (0 : Nat)).st Ex.nrm (Tg.mk (tm (54 : Nat) [((3 : Nat),AV.ow (16003 : Nat))]) [((16003 : Nat),Blk.arr 128 (2 : Nat) (List.map Run.dv (runsUp l l.length)))] (60 : Nat)).st) ?_ (by kernel_rfl) (by kernel_rfl)
 exact loop_ext_of (S := fun i => (rrunsL l i).st) l.length (by kernel_rfl) (fun i hi => rrunsRound l hl i hi) (rrunsEnd l)
theorem runs_at {l : List Run} {i : Nat} {p : Run} (h : l[i]? = some p) : (l.map Run.dv)[((i : Nat) : Int).toNat]? = some p.dv := by simp [h]
def inUseN (l : List Page) : Nat → Nat
 | 0 => 0
 | i + 1 => inUseN l i + (if (pageAt l i).kind = 0 then 0 else 1)
theorem inUseN_le (l : List Page) : ∀ i,inUseN l i ≤ i
 | 0 => Nat.le_refl _
 | i + 1 => by
  have := inUseN_le l i
  simp only [inUseN]
  split <;> omega
def inUse (l : List Page) : Nat := inUseN l l.length
def inUseL (l : List Page) (i : Nat) : Tg := ⟨tm 19 [(3,int (inUseN l i)),(6,pagesV l),(7,int l.length),(8,int i)],[],20⟩
theorem inUseRound (l : List Page) (hl : l.length ≤ 1048576) (i : Nat) (hi : i < l.length) : CSpec Tryz.prog (rndF Tryz.f22 0) (inUseL l i).st .nrm (inUseL l (i + 1)).st := by
 have hp := List.getElem?_eq_getElem hi
 have hle := inUseN_le l i
 have hpa : pageAt l i = l[i] := by simp [pageAt,hp]
 by_cases hk : l[i].kind = 0
 ·have e : inUseN l (i + 1) = inUseN l i := by rw [inUseN,hpa,if_pos hk]; rfl
  rw [show inUseL l (i + 1) = ⟨tm 19 [(3,int (inUseN l i)),(6,pagesV l),(7,int l.length),(8,int ((i + 1 : Nat) : Int))],[],20⟩ from by rw [inUseL,e]]
  refine stretch [(9,[.br true]),(10,[.el l[i].dv]),(14,[.br false]),(17,[.int ((i + 1 : Nat) : Int)])] [] (φ := decide ((↑i : Int) < (↑l.length : Int)) = true ∧ true = true ∧ ((0 : Int) ≤ (↑i : Int) ∧ (List.map Page.dv l)[(↑i : Int).toNat]? = some (l.get (Fin.mk i hi)).dv) ∧ ((l.get (Fin.mk i hi)).kind != (0 : Int)) = false ∧ false = false ∧ IntKind.i64.wrap ((↑i : Int) + (1 : Int)) = (↑(i + (1 : Nat)) : Int)) ?_ (by kernel_rfl) (by kernel_rfl) (by kernel_rfl)
  exact ⟨decide_eq_true (by omega),rfl,⟨by omega,pages_at hp⟩,by simp [hk],rfl,wrapI (by omega) (by omega)⟩
 ·have e : inUseN l (i + 1) = inUseN l i + 1 := by rw [inUseN,hpa,if_neg hk]
  refine stretch [(9,[.br true]),(10,[.el l[i].dv]),(14,[.br true]),(16,[.int (inUseN l (i + 1))]),(17,[.int ((i + 1 : Nat) : Int)])] [] (φ := decide ((↑i : Int) < (↑l.length : Int)) = true ∧ true = true ∧ ((0 : Int) ≤ (↑i : Int) ∧ (List.map Page.dv l)[(↑i : Int).toNat]? = some (l.get (Fin.mk i hi)).dv) ∧ ((l.get (Fin.mk i hi)).kind != (0 : Int)) = true ∧ true = true ∧ IntKind.i64.wrap ((↑(inUseN l i) : Int) + (1 : Int)) = (↑(inUseN l (i + (1 : Nat))) : Int) ∧ IntKind.i64.wrap ((↑i : Int) + (1 : Int)) = (↑(i + (1 : Nat)) : Int)) ?_ (by kernel_rfl) (by kernel_rfl) (by kernel_rfl)
  exact ⟨decide_eq_true (by omega),rfl,⟨by omega,pages_at hp⟩,by simp [hk],rfl,by rw [e]; exact wrapI (by omega) (by omega),wrapI (by omega) (by omega)⟩
theorem inUseEnd (l : List Page) : CSpec Tryz.prog (rndF Tryz.f22 0) (inUseL l l.length).st (.ext 0) (Tg.st ⟨tm 19 [(3,int (inUse l))],[],60⟩) := by
 refine stretch [(9,[.br false])] [] (φ := decide ((↑l.length : Int) < (↑l.length : Int)) = false ∧ false = false) ?_ (by kernel_rfl) (by kernel_rfl) (by kernel_rfl)
 exact ⟨decide_eq_false (by omega),rfl⟩
theorem pageInUse (l : List Page) (hl : l.length ≤ 1048576) : GSpec Tryz.prog 22 [pagesV l] true (int (inUse l)) [] := by
 refine gspec_of [(7,[.int l.length])] [(0,inUseL l 0,.nrm,⟨tm 19 [(3,int (inUse l))],[],60⟩)] [] (by decide) Tryz.func22 (φ := (↑(List.map Page.dv l).length : Int) = (↑l.length : Int) ∧ CSpec Tryz.prog (blkF Tryz.f22 (0 : Nat)) (inUseL l (0 : Nat)).st Ex.nrm (Tg.mk (tm (19 : Nat) [((3 : Nat),int (↑(inUse l) : Int))]) [] (60 : Nat)).st) ?_ (by kernel_rfl) (by kernel_rfl)
 exact ⟨by rw [List.length_map],loop_ext_of (S := fun i => (inUseL l i).st) l.length (by kernel_rfl) (fun i hi => inUseRound l hl i hi) (inUseEnd l)⟩
def rinUseL (l : List Page) (i : Nat) : Tg := ⟨tm 20 [(0,pagesV l),(3,int (inUseN l i)),(4,int i)],[],20⟩
theorem rinUseRound (l : List Page) (hl : l.length ≤ 1048576) (i : Nat) (hi : i < l.length) : CSpec Tryz.prog (rndF Tryz.f95 0) (rinUseL l i).st .nrm (rinUseL l (i + 1)).st := by
 have hp := List.getElem?_eq_getElem hi
 have hle := inUseN_le l i
 have hpa : pageAt l i = l[i] := by simp [pageAt,hp]
 by_cases hk : l[i].kind = 0
 ·have e : inUseN l (i + 1) = inUseN l i := by rw [inUseN,hpa,if_pos hk]; rfl
  rw [show rinUseL l (i + 1) = ⟨tm 20 [(0,pagesV l),(3,int (inUseN l i)),(4,int ((i + 1 : Nat) : Int))],[],20⟩ from by rw [rinUseL,e]]
  refine stretch [(7,[.int l.length]),(8,[.br true]),(13,[.el l[i].dv]),(16,[.br false]),(10,[.int ((i + 1 : Nat) : Int)])] [] (φ := (↑(List.map Page.dv l).length : Int) = (↑l.length : Int) ∧ decide ((↑i : Int) < (↑l.length : Int)) = true ∧ true = true ∧ ((0 : Int) ≤ (↑i : Int) ∧ (List.map Page.dv l)[(↑i : Int).toNat]? = some (l.get (Fin.mk i hi)).dv) ∧ ((l.get (Fin.mk i hi)).kind != (0 : Int)) = false ∧ false = false ∧ IntKind.i64.wrap ((↑i : Int) + (1 : Int)) = (↑(i + (1 : Nat)) : Int)) ?_ (by kernel_rfl) (by kernel_rfl) (by kernel_rfl)
  exact ⟨by rw [List.length_map],decide_eq_true (by omega),rfl,⟨by omega,pages_at hp⟩,by simp [hk],rfl,wrapI (by omega) (by omega)⟩
 ·have e : inUseN l (i + 1) = inUseN l i + 1 := by rw [inUseN,hpa,if_neg hk]
  refine stretch [(7,[.int l.length]),(8,[.br true]),(13,[.el l[i].dv]),(16,[.br true]),(18,[.int (inUseN l (i + 1))]),(10,[.int ((i + 1 : Nat) : Int)])] [] (φ := (↑(List.map Page.dv l).length : Int) = (↑l.length : Int) ∧ decide ((↑i : Int) < (↑l.length : Int)) = true ∧ true = true ∧ ((0 : Int) ≤ (↑i : Int) ∧ (List.map Page.dv l)[(↑i : Int).toNat]? = some (l.get (Fin.mk i hi)).dv) ∧ ((l.get (Fin.mk i hi)).kind != (0 : Int)) = true ∧ true = true ∧ IntKind.i64.wrap ((↑(inUseN l i) : Int) + (1 : Int)) = (↑(inUseN l (i + (1 : Nat))) : Int) ∧ IntKind.i64.wrap ((↑i : Int) + (1 : Int)) = (↑(i + (1 : Nat)) : Int)) ?_ (by kernel_rfl) (by kernel_rfl) (by kernel_rfl)
  exact ⟨by rw [List.length_map],decide_eq_true (by omega),rfl,⟨by omega,pages_at hp⟩,by simp [hk],rfl,by rw [e]; exact wrapI (by omega) (by omega),wrapI (by omega) (by omega)⟩
theorem rinUseEnd (l : List Page) : CSpec Tryz.prog (rndF Tryz.f95 0) (rinUseL l l.length).st (.ext 0) (Tg.st ⟨tm 20 [(3,int (inUse l))],[],60⟩) := by
 refine stretch [(7,[.int l.length]),(8,[.br false])] [] (φ := (↑(List.map Page.dv l).length : Int) = (↑l.length : Int) ∧ decide ((↑l.length : Int) < (↑l.length : Int)) = false ∧ false = false) ?_ (by kernel_rfl) (by kernel_rfl) (by kernel_rfl)
 exact ⟨by rw [List.length_map],decide_eq_false (by omega),rfl⟩
theorem refInUse (l : List Page) (hl : l.length ≤ 1048576) : GSpec Tryz.prog 95 [pagesV l] true (int (inUse l)) [] := by
 refine gspec_of [] [(0,rinUseL l 0,.nrm,⟨tm 20 [(3,int (inUse l))],[],60⟩)] [] (by decide) Tryz.func95 (φ := CSpec Tryz.prog (blkF Tryz.f95 (0 : Nat)) (rinUseL l (0 : Nat)).st Ex.nrm (Tg.mk (tm (20 : Nat) [((3 : Nat),int (↑(inUse l) : Int))]) [] (60 : Nat)).st) ?_ (by kernel_rfl) (by kernel_rfl)
 exact loop_ext_of (S := fun i => (rinUseL l i).st) l.length (by kernel_rfl) (fun i hi => rinUseRound l hl i hi) (rinUseEnd l)
def firstOf : List Run → Int → Int
 | [],_ => -1
 | r :: l,k => if k ≤ r.len then r.frm else firstOf l k
def first (l : List Page) (k : Int) : Int := if k < 1 then -1 else firstOf (runs l) k
theorem firstOf_none : ∀ {l : List Run} {k : Int},(l.all fun r => decide (r.len < k)) = true → firstOf l k = -1
 | [],_,_ => rfl
 | r :: l,k,h => by
  simp only [List.all_cons,Bool.and_eq_true,decide_eq_true_eq] at h
  rw [firstOf,if_neg (by omega),firstOf_none h.2]
theorem firstOf_some : ∀ {l : List Run} {k : Int} {j : Nat} {r : Run},l[j]? = some r → k ≤ r.len → (∀ i : Nat,i < j → ∃ y,l[i]? = some y ∧ decide (y.len < k) = true) → firstOf l k = r.frm
 | [],_,_,_,h,_,_ => by simp at h
 | x :: l,k,0,r,h,hr,_ => by
  simp at h; subst h
  rw [firstOf,if_pos hr]
 | x :: l,k,j + 1,r,h,hr,hb => by
  obtain ⟨y,h1,h2⟩ := hb 0 (by omega)
  simp at h1 h2; subst h1
  rw [firstOf,if_neg (by omega)]
  exact firstOf_some (by simpa using h) hr fun i hi => by
   obtain ⟨z,h3,h4⟩ := hb (i + 1) (by omega)
   exact ⟨z,by simpa using h3,h4⟩
theorem runs_len {l : List Page} : (runs l).length ≤ l.length := (runsUp_ok l l.length).1
def firstL (rs : List Run) (k : Int) (i : Nat) : Tg := ⟨tm 23 [(1,int k),(4,int 0),(10,runsV rs),(11,int rs.length),(12,int i)],[],20⟩
theorem firstRound (rs : List Run) (k : Int) (i : Nat) (r : Run) (hl : rs.length ≤ 1048576) (hr : rs[i]? = some r) (hk : r.len < k) : CSpec Tryz.prog (rndF Tryz.f17 0) (firstL rs k i).st .nrm (firstL rs k (i + 1)).st := by
 have hi : i < rs.length := (List.getElem?_eq_some_iff.1 hr).1
 refine stretch [(13,[.br true]),(14,[.el r.dv]),(19,[.br false]),(22,[.int ((i + 1 : Nat) : Int)])] [] (φ := decide ((↑i : Int) < (↑rs.length : Int)) = true ∧ true = true ∧ ((0 : Int) ≤ (↑i : Int) ∧ (List.map Run.dv rs)[(↑i : Int).toNat]? = some r.dv) ∧ decide (k ≤ r.len) = false ∧ false = false ∧ IntKind.i64.wrap ((↑i : Int) + (1 : Int)) = (↑(i + (1 : Nat)) : Int)) ?_ (by kernel_rfl) (by kernel_rfl) (by kernel_rfl)
 exact ⟨decide_eq_true (by omega),rfl,⟨by omega,runs_at hr⟩,decide_eq_false (by omega),rfl,wrapI (by omega) (by omega)⟩
theorem firstFound (rs : List Run) (k : Int) (i : Nat) (r : Run) (hr : rs[i]? = some r) (hk : k ≤ r.len) : CSpec Tryz.prog (rndF Tryz.f17 0) (firstL rs k i).st .ret (Tg.st ⟨tm 23 [(4,int r.frm)],[],60⟩) := by
 have hi : i < rs.length := (List.getElem?_eq_some_iff.1 hr).1
 refine stretch [(13,[.br true]),(14,[.el r.dv]),(19,[.br true])] [] (φ := decide ((↑i : Int) < (↑rs.length : Int)) = true ∧ true = true ∧ ((0 : Int) ≤ (↑i : Int) ∧ (List.map Run.dv rs)[(↑i : Int).toNat]? = some r.dv) ∧ decide (k ≤ r.len) = true ∧ true = true) ?_ (by kernel_rfl) (by kernel_rfl) (by kernel_rfl)
 exact ⟨decide_eq_true (by omega),rfl,⟨by omega,runs_at hr⟩,decide_eq_true (by omega),rfl⟩
theorem firstEnd (rs : List Run) (k : Int) : CSpec Tryz.prog (rndF Tryz.f17 0) (firstL rs k rs.length).st (.ext 0) (Tg.st ⟨tm 23 [],[],60⟩) := by
 refine stretch [(13,[.br false])] [] (φ := decide ((↑rs.length : Int) < (↑rs.length : Int)) = false ∧ false = false) ?_ (by kernel_rfl) (by kernel_rfl) (by kernel_rfl)
 exact ⟨decide_eq_false (by omega),rfl⟩
theorem pageFirst (l : List Page) (k : Int) (hl : l.length ≤ 1048576) : GSpec Tryz.prog 17 [pagesV l,int k] true (int (first l k)) [] := by
 by_cases hk : k < 1
 ·rw [first,if_pos hk]
  refine gspec_of [(8,[.br true])] [] [] (by decide) Tryz.func17 (φ := decide (k < (1 : Int)) = true ∧ true = true) ?_ (by kernel_rfl) (by kernel_rfl)
  exact ⟨decide_eq_true hk,rfl⟩
 ·rw [first,if_neg hk]
  have hrl := runs_len (l := l)
  cases ha : (runs l).all fun r => decide (r.len < k) with
  | true =>
   rw [firstOf_none ha]
   refine gspec_of [(8,[.br false]),(10,[.call false (runsV (runs l)) []]),(11,[.int (runs l).length])] [(0,firstL (runs l) k 0,.nrm,⟨tm 23 [],[],60⟩)] [] (by decide) Tryz.func17 (φ := decide (k < (1 : Int)) = false ∧ false = false ∧ GSpec Tryz.prog 80 [AV.d (DV.sl (4 : Nat) (List.map Page.dv l))] false (runsV (runs l)) [] ∧ (↑(List.map Run.dv (runs l)).length : Int) = (↑(runs l).length : Int) ∧ CSpec Tryz.prog (blkF Tryz.f17 (0 : Nat)) (firstL (runs l) k (0 : Nat)).st Ex.nrm (Tg.mk (tm (23 : Nat) []) [] (60 : Nat)).st) ?_ (by kernel_rfl) (by kernel_rfl)
   refine ⟨decide_eq_false hk,rfl,pageRuns l hl,by rw [List.length_map],loop_ext_of (S := fun i => (firstL (runs l) k i).st) (runs l).length (by kernel_rfl) (fun i hi => ?_) (firstEnd _ _)⟩
   have := List.all_eq_true.1 ha _ (List.getElem_mem hi)
   exact firstRound _ k i _ (by omega) (List.getElem?_eq_getElem hi) (by simpa using this)
  | false =>
   obtain ⟨j,r,h1,h2,h3⟩ := first_bad ha
   have hr : k ≤ r.len := by simpa using h2
   rw [firstOf_some h1 hr h3]
   refine gspec_of [(8,[.br false]),(10,[.call false (runsV (runs l)) []]),(11,[.int (runs l).length])] [(0,firstL (runs l) k 0,.ret,⟨tm 23 [(4,int r.frm)],[],60⟩)] [] (by decide) Tryz.func17 (φ := decide (k < (1 : Int)) = false ∧ false = false ∧ GSpec Tryz.prog 80 [AV.d (DV.sl (4 : Nat) (List.map Page.dv l))] false (runsV (runs l)) [] ∧ (↑(List.map Run.dv (runs l)).length : Int) = (↑(runs l).length : Int) ∧ CSpec Tryz.prog (blkF Tryz.f17 (0 : Nat)) (firstL (runs l) k (0 : Nat)).st Ex.ret (Tg.mk (tm (23 : Nat) [((4 : Nat),int r.frm)]) [] (60 : Nat)).st) ?_ (by kernel_rfl) (by kernel_rfl)
   refine ⟨decide_eq_false hk,rfl,pageRuns l hl,by rw [List.length_map],loop_ret_of (S := fun i => (firstL (runs l) k i).st) j (by kernel_rfl) (fun i hi => ?_) (firstFound _ k j r h1 hr)⟩
   obtain ⟨y,h4,h5⟩ := h3 i hi
   exact firstRound _ k i y (by omega) h4 (by simpa using h5)
def rfirstL (rs : List Run) (k : Int) (i : Nat) : Tg := ⟨tm 31 [(1,int k),(4,int 0),(5,runsV rs),(6,int i)],[],20⟩
theorem rfirstRound (rs : List Run) (k : Int) (i : Nat) (r : Run) (hl : rs.length ≤ 1048576) (hr : rs[i]? = some r) (hk : k < 1 ∨ r.len < k) : CSpec Tryz.prog (rndF Tryz.f203 0) (rfirstL rs k i).st .nrm (rfirstL rs k (i + 1)).st := by
 have hi : i < rs.length := (List.getElem?_eq_some_iff.1 hr).1
 refine stretch [(11,[.int rs.length]),(12,[.br true]),(20,[.el r.dv]),(25,[.br false]),(14,[.int ((i + 1 : Nat) : Int)])] [] (φ := (↑(List.map Run.dv rs).length : Int) = (↑rs.length : Int) ∧ decide ((↑i : Int) < (↑rs.length : Int)) = true ∧ true = true ∧ (decide ((1 : Int) ≤ k) = true → (0 : Int) ≤ (↑i : Int) ∧ (List.map Run.dv rs)[(↑i : Int).toNat]? = some r.dv) ∧ (decide ((1 : Int) ≤ k) && decide (k ≤ r.len)) = false ∧ false = false ∧ IntKind.i64.wrap ((↑i : Int) + (1 : Int)) = (↑(i + (1 : Nat)) : Int)) ?_ (by kernel_rfl) (by kernel_rfl) (by kernel_rfl)
 exact ⟨by rw [List.length_map],decide_eq_true (by omega),rfl,fun _ => ⟨by omega,runs_at hr⟩,by simp; omega,rfl,wrapI (by omega) (by omega)⟩
theorem rfirstFound (rs : List Run) (k : Int) (i : Nat) (r : Run) (hr : rs[i]? = some r) (hk1 : 1 ≤ k) (hk : k ≤ r.len) : CSpec Tryz.prog (rndF Tryz.f203 0) (rfirstL rs k i).st .ret (Tg.st ⟨tm 31 [(4,int r.frm)],[],60⟩) := by
 have hi : i < rs.length := (List.getElem?_eq_some_iff.1 hr).1
 refine stretch [(11,[.int rs.length]),(12,[.br true]),(20,[.el r.dv]),(25,[.br true]),(28,[.el r.dv])] [] (φ := (↑(List.map Run.dv rs).length : Int) = (↑rs.length : Int) ∧ decide ((↑i : Int) < (↑rs.length : Int)) = true ∧ true = true ∧ (decide ((1 : Int) ≤ k) = true → (0 : Int) ≤ (↑i : Int) ∧ (List.map Run.dv rs)[(↑i : Int).toNat]? = some r.dv) ∧ (decide ((1 : Int) ≤ k) && decide (k ≤ r.len)) = true ∧ true = true ∧ (0 : Int) ≤ (↑i : Int) ∧ (List.map Run.dv rs)[(↑i : Int).toNat]? = some r.dv) ?_ (by kernel_rfl) (by kernel_rfl) (by kernel_rfl)
 exact ⟨by rw [List.length_map],decide_eq_true (by omega),rfl,fun _ => ⟨by omega,runs_at hr⟩,by simp; omega,rfl,⟨by omega,runs_at hr⟩⟩
theorem rfirstEnd (rs : List Run) (k : Int) : CSpec Tryz.prog (rndF Tryz.f203 0) (rfirstL rs k rs.length).st (.ext 0) (Tg.st ⟨tm 31 [],[],60⟩) := by
 refine stretch [(11,[.int rs.length]),(12,[.br false])] [] (φ := (↑(List.map Run.dv rs).length : Int) = (↑rs.length : Int) ∧ decide ((↑rs.length : Int) < (↑rs.length : Int)) = false ∧ false = false) ?_ (by kernel_rfl) (by kernel_rfl) (by kernel_rfl)
 exact ⟨by rw [List.length_map],decide_eq_false (by omega),rfl⟩
theorem refFirst (l : List Page) (k : Int) (hl : l.length ≤ 1048576) : GSpec Tryz.prog 203 [pagesV l,int k] true (int (first l k)) [] := by
 have hrl := runs_len (l := l)
 by_cases hk : k < 1
 ·rw [first,if_pos hk]
  refine gspec_of [(8,[.call false (runsV (runs l)) []])] [(0,rfirstL (runs l) k 0,.nrm,⟨tm 31 [],[],60⟩)] [] (by decide) Tryz.func203 (φ := GSpec Tryz.prog 239 [AV.d (DV.sl (4 : Nat) (List.map Page.dv l))] false (runsV (runs l)) [] ∧ CSpec Tryz.prog (blkF Tryz.f203 (0 : Nat)) (rfirstL (runs l) k (0 : Nat)).st Ex.nrm (Tg.mk (tm (31 : Nat) []) [] (60 : Nat)).st) ?_ (by kernel_rfl) (by kernel_rfl)
  exact ⟨refRuns l hl,loop_ext_of (S := fun i => (rfirstL (runs l) k i).st) (runs l).length (by kernel_rfl) (fun i hi => rfirstRound _ k i _ (by omega) (List.getElem?_eq_getElem hi) (.inl hk)) (rfirstEnd _ _)⟩
 ·rw [first,if_neg hk]
  cases ha : (runs l).all fun r => decide (r.len < k) with
  | true =>
   rw [firstOf_none ha]
   refine gspec_of [(8,[.call false (runsV (runs l)) []])] [(0,rfirstL (runs l) k 0,.nrm,⟨tm 31 [],[],60⟩)] [] (by decide) Tryz.func203 (φ := GSpec Tryz.prog 239 [AV.d (DV.sl (4 : Nat) (List.map Page.dv l))] false (runsV (runs l)) [] ∧ CSpec Tryz.prog (blkF Tryz.f203 (0 : Nat)) (rfirstL (runs l) k (0 : Nat)).st Ex.nrm (Tg.mk (tm (31 : Nat) []) [] (60 : Nat)).st) ?_ (by kernel_rfl) (by kernel_rfl)
   refine ⟨refRuns l hl,loop_ext_of (S := fun i => (rfirstL (runs l) k i).st) (runs l).length (by kernel_rfl) (fun i hi => ?_) (rfirstEnd _ _)⟩
   have := List.all_eq_true.1 ha _ (List.getElem_mem hi)
   exact rfirstRound _ k i _ (by omega) (List.getElem?_eq_getElem hi) (.inr (by simpa using this))
  | false =>
   obtain ⟨j,r,h1,h2,h3⟩ := first_bad ha
   have hr : k ≤ r.len := by simpa using h2
   rw [firstOf_some h1 hr h3]
   refine gspec_of [(8,[.call false (runsV (runs l)) []])] [(0,rfirstL (runs l) k 0,.ret,⟨tm 31 [(4,int r.frm)],[],60⟩)] [] (by decide) Tryz.func203 (φ := GSpec Tryz.prog 239 [AV.d (DV.sl (4 : Nat) (List.map Page.dv l))] false (runsV (runs l)) [] ∧ CSpec Tryz.prog (blkF Tryz.f203 (0 : Nat)) (rfirstL (runs l) k (0 : Nat)).st Ex.ret (Tg.mk (tm (31 : Nat) [((4 : Nat),int r.frm)]) [] (60 : Nat)).st) ?_ (by kernel_rfl) (by kernel_rfl)
   refine ⟨refRuns l hl,loop_ret_of (S := fun i => (rfirstL (runs l) k i).st) j (by kernel_rfl) (fun i hi => ?_) (rfirstFound _ k j r h1 (by omega) hr)⟩
   obtain ⟨y,h4,h5⟩ := h3 i hi
   exact rfirstRound _ k i y (by omega) h4 (.inr (by simpa using h5))
theorem runsUp_free (l : List Page) : ∀ i,∀ r ∈ runsUp l i,∀ j : Int,r.frm ≤ j → j < r.frm + r.len → (l.getD j.toNat default).kind = 0
 | 0 => by simp [runsUp]
 | i + 1 => by
  have ih := runsUp_free l i
  have ok := (runsUp_ok l i).2
  intro r hr j h1 h2
  simp only [runsUp,runsStep] at hr
  have hpa : pageAt l i = l.getD i default := by rw [pageAt_getD]; simp
  split at hr
  ·rename_i hk
   rw [hpa] at hk
   split at hr
   ·rename_i hc
    have hmem := List.mem_of_getElem? (lastRun_at hc.1)
    rcases List.mem_append.1 hr with hr | hr
    ·exact ih r (List.dropLast_subset _ hr) j h1 h2
    ·simp at hr; subst hr
     simp only at h1 h2
     by_cases hj : j = i
     ·subst hj; simpa using hk
     ·exact ih _ hmem j h1 (by omega)
   ·rcases List.mem_append.1 hr with hr | hr
    ·exact ih r hr j h1 h2
    ·simp at hr; subst hr
     simp only at h1 h2
     have : j = i := by omega
     subst this; simpa using hk
  ·exact ih r hr j h1 h2
theorem firstOf_mem : ∀ {l : List Run} {k : Int},0 ≤ firstOf l k → ∃ r ∈ l,firstOf l k = r.frm ∧ k ≤ r.len
 | [],_,h => by simp [firstOf] at h
 | r :: l,k,h => by
  rw [firstOf] at h ⊢
  split
  ·exact ⟨r,by simp,rfl,‹_›⟩
  ·rename_i hk
   rw [if_neg hk] at h
   obtain ⟨x,hx,h1,h2⟩ := firstOf_mem h
   exact ⟨x,by simp [hx],h1,h2⟩
theorem first_free {l : List Page} {k : Int} (h : 0 ≤ first l k) : 1 ≤ k ∧ first l k + k ≤ l.length ∧ freeK l (first l k).toNat k.toNat = true := by
 unfold first at h ⊢
 split at h
 ·omega
 ·rename_i hk
  rw [if_neg hk]
  obtain ⟨r,hr,h1,h2⟩ := firstOf_mem h
  have ok := (runsUp_ok l l.length).2 r hr
  rw [h1] at h ⊢
  refine ⟨by omega,by omega,freeK_iff.2 fun j hj => ?_⟩
  have := runsUp_free l l.length r hr (r.frm + j) (by omega) (by omega)
  rwa [show (r.frm + (j : Int)).toNat = r.frm.toNat + j from by omega] at this
theorem first_range (l : List Page) (k : Int) : -1 ≤ first l k ∧ first l k ≤ l.length := by
 by_cases h : 0 ≤ first l k
 ·have := first_free h; omega
 ·unfold first at h ⊢
  split
  ·omega
  ·rename_i hk
   rw [if_neg hk] at h
   have : ∀ m : List Run,(∀ r ∈ m,0 ≤ r.frm) → -1 ≤ firstOf m k := by
    intro m
    induction m with
    | nil => intro _; simp [firstOf]
    | cons r m ih =>
     intro hm
     rw [firstOf]
     split
     ·have := hm r (by simp); omega
     ·exact ih fun x hx => hm x (by simp [hx])
   have := this (runs l) fun r hr => ((runsUp_ok l l.length).2 r hr).1
   omega
theorem rpB_all {c : Conf} {l : List Page} : ∀ {f i : Nat} {due : Int},0 ≤ due → rpB c l f i due = true → l.length ≤ i + f → ∀ j,i ≤ j → j < l.length → ∃ d,0 ≤ d ∧ rchk c l j d := by
 intro f
 induction f with
 | zero => intro i due _ _ hl j h1 h2; omega
 | succ f ih =>
  intro i due hd hr hl j h1 h2
  rw [rpB,if_pos (by omega),Bool.and_eq_true] at hr
  have hc := of_decide_eq_true hr.1
  by_cases hj : j = i
  ·subst hj; exact ⟨due,hd,hc⟩
  ·refine ih ?_ hr.2 (by omega) j (by omega) h2
   unfold rdue
   split
   ·rename_i hk
    have := hc.2.2.2.2.2.2.2.2.2.1 hk
    omega
   ·omega
theorem proper_page {h : Heap} (hp : properB h = true) {j : Nat} (hj : j < h.pages.length) : 0 ≤ (h.pages.getD j default).space ∧ (h.pages.getD j default).space ≤ 1 ∧ 0 ≤ (h.pages.getD j default).pins ∧ (h.pages.getD j default).pins ≤ 2147483647 ∧
  0 ≤ (h.pages.getD j default).kind ∧ (h.pages.getD j default).kind ≤ 3 ∧ 0 ≤ (h.pages.getD j default).used ∧ (h.pages.getD j default).used ≤ 256 ∧ ((h.pages.getD j default).kind = 1 → (h.pages.getD j default).used ≤ h.conf.pw) := by
 have hi := properB_iff.1 hp
 have hv := validB_iff.1 hi.1
 obtain ⟨d,_,hc⟩ := rpB_all (by omega) hi.2.2.2.2.2 (by omega) j (by omega) hj
 unfold rchk at hc
 have hu : (h.pages.getD j default).kind = 2 → 1 ≤ (h.pages.getD j default).used ∧ (h.pages.getD j default).used ≤ 256 := by
  intro hk
  have hn := (hc.2.2.2.2.2.2.2.2.2.1 hk).1
  unfold need at hn
  split at hn
  ·omega
  ·omega
 omega
theorem inUseN_range (l : List Page) : inUse l ≤ l.length := inUseN_le l l.length
abbrev tP (l : List Page) (s : Int) : List Page := tookP l (first l 1).toNat 1 (Page.mk 1 s 0 0) (Page.mk 0 0 0 0)
end Go.Proofs.YtolnblaadleknaaGreat
