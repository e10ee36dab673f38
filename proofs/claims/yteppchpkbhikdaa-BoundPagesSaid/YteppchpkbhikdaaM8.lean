/-
 The statement BoundPages: part 8.
 Conditions: none.
-/
import Derived.Ground.NamesProg
import Derived.Lib.SortBridge
import Derived.Shelf.Lay
import Derived.Shelf.Slices.In.SortNone
import Derived.Sort.EveryDepth
import Derived.Sort.Grow
import Derived.Sort.OwnSortedInts
import Derived.Test.YteppchpkbhikdaaChecked
import Derived.WalkKit
import Derived.Test.YteppchpkbhikdaaM7
set_option maxRecDepth 100000
set_option maxHeartbeats 2000000
set_option linter.all false
namespace Go.Proofs.Yteppchpkbhikdaa
open Go.Shelf
def laysRen : Go.Shelf.Ren where
 f x := match x with
  | 189 => 47
  | 125 => 60
  | 257 => 59
  | 128 => 73
  | 129 => 74
  | 294 => 64
  | 295 => 65
  | 296 => 66
  | 297 => 67
  | 298 => 68
  | 299 => 69
  | 216 => 70
  | 300 => 71
  | 301 => 72
  | 328 => 75
  | 329 => 76
  | 330 => 77
  | 331 => 78
  | 332 => 79
  | 215 => 80
  | 343 => 81
  | n => n
 t x := match x with
  | 28 => 87
  | 3 => 3
  | 46 => 68
  | 0 => 0
  | 51 => 24
  | 53 => 38
  | 4 => 4
  | 183 => 110
  | 182 => 109
  | 131 => 98
  | 5 => 5
  | 9 => 9
  | 218 => 118
  | 222 => 122
  | 228 => 125
  | 229 => 126
  | n => n
 g n := n
theorem laysSort : Go.Proofs.Lays.n189 Try.prog laysRen where
 mixed := by kernel_rfl
 f125 := Eq.trans Try.func60 (congrArg some (by kernel_rfl : Try.f60 = Go.Proofs.Body.n125 laysRen))
 f128 := Eq.trans Try.func73 (congrArg some (by kernel_rfl : Try.f73 = Go.Proofs.Body.n128 laysRen))
 f129 := Eq.trans Try.func74 (congrArg some (by kernel_rfl : Try.f74 = Go.Proofs.Body.n129 laysRen))
 f189 := Eq.trans Try.func47 (congrArg some (by kernel_rfl : Try.f47 = Go.Proofs.Body.n189 laysRen))
 f215 := Eq.trans Try.func80 (congrArg some (by kernel_rfl : Try.f80 = Go.Proofs.Body.n215 laysRen))
 f216 := Eq.trans Try.func70 (congrArg some (by kernel_rfl : Try.f70 = Go.Proofs.Body.n216 laysRen))
 f257 := Eq.trans Try.func59 (congrArg some (by kernel_rfl : Try.f59 = Go.Proofs.Body.n257 laysRen))
 f294 := Eq.trans Try.func64 (congrArg some (by kernel_rfl : Try.f64 = Go.Proofs.Body.n294 laysRen))
 f295 := Eq.trans Try.func65 (congrArg some (by kernel_rfl : Try.f65 = Go.Proofs.Body.n295 laysRen))
 f296 := Eq.trans Try.func66 (congrArg some (by kernel_rfl : Try.f66 = Go.Proofs.Body.n296 laysRen))
 f297 := Eq.trans Try.func67 (congrArg some (by kernel_rfl : Try.f67 = Go.Proofs.Body.n297 laysRen))
 f298 := Eq.trans Try.func68 (congrArg some (by kernel_rfl : Try.f68 = Go.Proofs.Body.n298 laysRen))
 f299 := Eq.trans Try.func69 (congrArg some (by kernel_rfl : Try.f69 = Go.Proofs.Body.n299 laysRen))
 f300 := Eq.trans Try.func71 (congrArg some (by kernel_rfl : Try.f71 = Go.Proofs.Body.n300 laysRen))
 f301 := Eq.trans Try.func72 (congrArg some (by kernel_rfl : Try.f72 = Go.Proofs.Body.n301 laysRen))
 f328 := Eq.trans Try.func75 (congrArg some (by kernel_rfl : Try.f75 = Go.Proofs.Body.n328 laysRen))
 f329 := Eq.trans Try.func76 (congrArg some (by kernel_rfl : Try.f76 = Go.Proofs.Body.n329 laysRen))
 f330 := Eq.trans Try.func77 (congrArg some (by kernel_rfl : Try.f77 = Go.Proofs.Body.n330 laysRen))
 f331 := Eq.trans Try.func78 (congrArg some (by kernel_rfl : Try.f78 = Go.Proofs.Body.n331 laysRen))
 f332 := Eq.trans Try.func79 (congrArg some (by kernel_rfl : Try.f79 = Go.Proofs.Body.n332 laysRen))
 f343 := Eq.trans Try.func81 (congrArg some (by kernel_rfl : Try.f81 = Go.Proofs.Body.n343 laysRen))
 t0 := Try.underlying0
 a0 := Try.isAgg0
 z0 := Try.sizeOf0
 v0 := Try.zeroValue0
 t3 := Try.underlying3
 a3 := Try.isAgg3
 z3 := Try.sizeOf3
 v3 := Try.zeroValue3
 t4 := Try.underlying4
 a4 := Try.isAgg4
 z4 := Try.sizeOf4
 v4 := Try.zeroValue4
 t5 := Try.underlying5
 a5 := Try.isAgg5
 z5 := Try.sizeOf5
 v5 := Try.zeroValue5
 t9 := Try.underlying9
 a9 := Try.isAgg9
 z9 := Try.sizeOf9
 v9 := Try.zeroValue9
 t28 := Try.underlying87
 a28 := Try.isAgg87
 z28 := Try.sizeOf87
 v28 := Try.zeroValue87
 t46 := Try.underlying68
 a46 := Try.isAgg68
 z46 := Try.sizeOf68
 v46 := Try.zeroValue68
 t51 := Try.underlying24
 a51 := Try.isAgg24
 z51 := Try.sizeOf24
 v51 := Try.zeroValue24
 t53 := Try.underlying38
 a53 := Try.isAgg38
 z53 := Try.sizeOf38
 v53 := Try.zeroValue38
 t131 := Try.underlying98
 a131 := Try.isAgg98
 z131 := Try.sizeOf98
 v131 := Try.zeroValue98
 t182 := Try.underlying109
 a182 := Try.isAgg109
 z182 := Try.sizeOf109
 v182 := Try.zeroValue109
 t183 := Try.underlying110
 a183 := Try.isAgg110
 z183 := Try.sizeOf110
 v183 := Try.zeroValue110
 t218 := Try.underlying118
 a218 := Try.isAgg118
 z218 := Try.sizeOf118
 v218 := Try.zeroValue118
 t222 := Try.underlying122
 a222 := Try.isAgg122
 z222 := Try.sizeOf122
 v222 := Try.zeroValue122
 t228 := Try.underlying125
 a228 := Try.isAgg125
 z228 := Try.sizeOf125
 v228 := Try.zeroValue125
 t229 := Try.underlying126
 a229 := Try.isAgg126
 z229 := Try.sizeOf126
 v229 := Try.zeroValue126
end Go.Proofs.Yteppchpkbhikdaa
namespace Go.Proofs.Yteppchpkbhikdaa
open Go.RowKit Go.Shelf Go.Sort
set_option maxHeartbeats 2000000
set_option maxRecDepth 100000
def srt (a b c d e : Int) : List Int := [a,b,c,d,e].mergeSort fun x y => decide (x ≤ y)
theorem srt_len (a b c d e : Int) : (srt a b c d e).length = 5 := by simp [srt]
theorem holds5 (W : World) (a b c d e : Int) (t : Nat) : Holds (Value.int .i64) (W.alloc (.cells #[.int .i64 a,.int .i64 b,.int .i64 c,.int .i64 d,.int .i64 e] t)) W.heap.size 0 [a,b,c,d,e].toArray := by
 intro j hj
 have hn : (W.alloc (.cells #[.int .i64 a,.int .i64 b,.int .i64 c,.int .i64 d,.int .i64 e] t)).heap[W.heap.size]? = some (.cells #[.int .i64 a,.int .i64 b,.int .i64 c,.int .i64 d,.int .i64 e] t) := by
  show (W.heap.push _)[W.heap.size]? = some _
  simp
 have h5 : j = 0 ∨ j = 1 ∨ j = 2 ∨ j = 3 ∨ j = 4 := by simp at hj; omega
 rcases h5 with rfl | rfl | rfl | rfl | rfl <;> exact ⟨by simp only [World.cell?,hn,Nat.zero_add]; rfl,by simp only [World.frozen?,hn]; rfl⟩
theorem after5 (W : World) (a b c d e : Int) (t n : Nat) (os : Array Obj) (W' : World)
  (h : W' = grow (putRow (Value.int .i64) (Sort.ahead (W.alloc (.cells #[.int .i64 a,.int .i64 b,.int .i64 c,.int .i64 d,.int .i64 e] t)) n) W.heap.size 0 (srt a b c d e).toArray) os) :
  (∀ j,j < 5 → W'.cell? ⟨W.heap.size,j,none⟩ = some (.int .i64 ((srt a b c d e).getD j 0))) ∧ Below W.heap.size W W' := by
 have hH := holds5 W a b c d e t
 have h1 := holds_putRow (Value.int .i64) _ W.heap.size 0 _ (srt a b c d e).toArray (holds_ahead (Value.int .i64) _ n W.heap.size 0 _ hH) (by simp [srt_len])
 have h2 := holds_grow (Value.int .i64) _ os W.heap.size 0 _ (by simp [putRow,mapBlock,Sort.ahead]) h1
 rw [← h] at h2
 constructor
 ·intro j hj
  have := (h2 j (by simp [srt_len]; omega)).1
  rw [Nat.zero_add] at this
  rw [this]
  have hl : j < (srt a b c d e).length := by rw [srt_len]; omega
  simp [List.getD_eq_getElem?_getD,hl]
 ·have g := grownBy_sortedI (w := W.alloc (.cells #[.int .i64 a,.int .i64 b,.int .i64 c,.int .i64 d,.int .i64 e] t)) (g := W.heap.size) (n := n) (os := os) (srt a b c d e).toArray
  rw [← h] at g
  exact ((Below.refl W.heap.size W).alloc (Nat.le_refl _) _).grown g (by simp) (fun j hj => by cases hj; exact Nat.le_refl _)
theorem valid_walk (a b c d e : Int) (w : World) : Calls Try.prog 33 #[.agg #[.int .i64 a,.int .i64 b,.int .i64 c,.int .i64 d,.int .i64 e]] w fun en w' => en = .returned (.bool (decide (0 ≤ (srt a b c d e).getD 0 0) && decide ((srt a b c d e).getD 4 0 ≤ 2147483647))) ∧ Below w.heap.size w w' := by
  go_enter Try.func33,Try.ntmps33
  go_wp2_with (go_at_call 47
               have hH := holds5 ((w.alloc (Obj.cells #[Value.int .i64 a,Value.int .i64 b,Value.int .i64 c,Value.int .i64 d,Value.int .i64 e] 46)).alloc (Obj.cells #[Value.int .i64 a,Value.int .i64 b,Value.int .i64 c,Value.int .i64 d,Value.int .i64 e] 85)) a b c d e 85
               have hc := calls_of_every_depth fun D => AnyS.slices_Sort_int_alone laysSort D _ 0 5 [a,b,c,d,e] _ hH (by simp) (by simp)
               have e1 : ((w.alloc (Obj.cells #[Value.int .i64 a,Value.int .i64 b,Value.int .i64 c,Value.int .i64 d,Value.int .i64 e] 46)).alloc (Obj.cells #[Value.int .i64 a,Value.int .i64 b,Value.int .i64 c,Value.int .i64 d,Value.int .i64 e] 85)).heap.size = w.heap.size + 1 + 1 := by simp
               have ha := fun n os W' h => after5 ((w.alloc (Obj.cells #[Value.int .i64 a,Value.int .i64 b,Value.int .i64 c,Value.int .i64 d,Value.int .i64 e] 46)).alloc (Obj.cells #[Value.int .i64 a,Value.int .i64 b,Value.int .i64 c,Value.int .i64 d,Value.int .i64 e] 85)) a b c d e 85 n os W' h
               rw [e1] at hc ha
               refine hc.mono ?_
               rintro en w' ⟨rfl,n,os,hw⟩
               obtain ⟨hcell,hbel⟩ := ha n os w' hw
               have h0 := hcell 0 (by decide)
               have h4 := hcell 4 (by decide)
               clear hcell ha hc hH hw)
  all_goals
    have hb2 : Below w.heap.size w w' := (((Below.refl w.heap.size w).alloc (Nat.le_refl _) _).alloc (by simp) _).trans (hbel.mono (by omega))
    go_ret
    refine ⟨?_,hb2⟩
    simp_all
    try (intro h; omega)
theorem srt_ok (a b c d e m : Int) : (decide (0 ≤ (srt a b c d e).getD 0 0) && decide ((srt a b c d e).getD 4 0 ≤ m)) = decide (∀ x ∈ [a,b,c,d,e],0 ≤ x ∧ x ≤ m) := by
 have hp : (srt a b c d e).Pairwise (fun x y => decide (x ≤ y) = true) := List.pairwise_mergeSort (fun x y z h k => by simp at h k ⊢; omega) (fun x y => by simp; omega) _
 have hm : ∀ x,x ∈ srt a b c d e ↔ x ∈ [a,b,c,d,e] := fun x => List.mem_mergeSort
 have hl := srt_len a b c d e
 generalize srt a b c d e = s at hp hm hl
 match s,hl with
 | [p,q,r,t,u],_ =>
  rw [Bool.eq_iff_iff]
  simp only [Bool.and_eq_true,decide_eq_true_eq,List.getD_cons_zero,List.getD_cons_succ]
  simp only [List.pairwise_cons,List.mem_cons,List.not_mem_nil,or_false,decide_eq_true_eq] at hp
  constructor
  ·intro h x hx
   have := (hm x).2 hx
   simp only [List.mem_cons,List.not_mem_nil,or_false] at this
   obtain ⟨h1,h2,h3,h4,h5⟩ := hp
   have a1 := h1 q (by simp); have a2 := h2 r (by simp); have a3 := h3 t (by simp); have a4 := h4 u rfl
   omega
  ·intro h
   have h1 := h p ((hm p).1 (by simp))
   have h2 := h u ((hm u).1 (by simp))
   omega
end Go.Proofs.Yteppchpkbhikdaa
namespace Go.Proofs.Yteppchpkbhikdaa
open Go.Sx
def spl {α : Type} (ws : List α) (i : Nat) (l : List α) : List α := ws.take i ++ l ++ ws.drop (i + l.length)
def loadA (ws : List Int) (a : Int) : Int × Int := if 4096 ≤ a ∧ a < 4096 + ws.length then (ws.getD (a - 4096).toNat 0,0) else (0,2)
def readA (ws : List Int) (a n : Int) : List Int × Int := if n < 0 then ([],1) else if 4096 ≤ a ∧ a - 4096 + n ≤ ws.length then ((ws.drop (a - 4096).toNat).take n.toNat,0) else ([],2)
def writeA (ws : List Int) (a : Int) (l : List Int) : List Int × Int := if 4096 ≤ a ∧ a - 4096 + l.length ≤ ws.length then (spl ws (a - 4096).toNat l,0) else ([],2)
def storeA (ws : List Int) (a v : Int) : List Int × Int := writeA ws a [v]
def moveA (ws : List Int) (a b n : Int) : List Int × Int := if (readA ws b n).2 ≠ 0 then ([],(readA ws b n).2) else writeA ws a (readA ws b n).1
def wr {α : Type} (ws l : List α) (i k : Nat) : List α := ws.take i ++ l.take k ++ ws.drop (i + k)
theorem wr_zero {α : Type} (ws l : List α) (i : Nat) : wr ws l i 0 = ws := by simp [wr]
theorem wr_all {α : Type} (ws l : List α) (i : Nat) : wr ws l i l.length = spl ws i l := by simp [wr,spl]
theorem wr_len {α : Type} {ws l : List α} {i k : Nat} (h : i + l.length ≤ ws.length) (hk : k ≤ l.length) : (wr ws l i k).length = ws.length := by
 simp [wr]; omega
theorem spl_len {α : Type} {ws l : List α} {i : Nat} (h : i + l.length ≤ ws.length) : (spl ws i l).length = ws.length := by
 rw [← wr_all]; exact wr_len h (Nat.le_refl _)
theorem wr_get {α : Type} {ws l : List α} {i k : Nat} (h : i + l.length ≤ ws.length) (hk : k ≤ l.length) (j : Nat) : (wr ws l i k)[j]? = if j < i then ws[j]? else if j < i + k then l[j - i]? else ws[j]? := by
 have e : (l.take k).length = k := by simp; omega
 have := splice_get (l := ws) (xs := l.take k) (o := i) (by omega) j
 rw [e] at this
 rw [wr,this]
 split
 ·rfl
 ·split
  ·rw [List.getElem?_take_of_lt (by omega)]
  ·rfl
theorem wr_succ {α : Type} {ws l : List α} {i k : Nat} (h : i + l.length ≤ ws.length) (hk : k < l.length) (d : α) : (wr ws l i k).set (i + k) (l.getD k d) = wr ws l i (k + 1) := by
 apply List.ext_getElem?
 intro j
 have hl := wr_len h (Nat.le_of_lt hk)
 rw [List.getElem?_set,wr_get h (by omega),wr_get h (by omega),hl]
 by_cases hj : i + k = j
 ·subst hj
  rw [if_pos rfl,if_pos (by omega),if_neg (by omega),if_pos (by omega)]
  simp [List.getD,hk]
 ·rw [if_neg hj]
  by_cases h1 : j < i
  ·rw [if_pos h1,if_pos h1]
  ·rw [if_neg h1,if_neg h1]
   by_cases h2 : j < i + k
   ·rw [if_pos h2,if_pos (by omega)]
   ·rw [if_neg h2,if_neg (by omega)]
def tailRun (sp : Int) : List Page → Nat
 | [] => 0
 | p :: r => if p.kind = 3 ∧ p.space = sp then tailRun sp r + 1 else 0
def rchk (c : Conf) (l : List Page) (i : Nat) (due : Int) : Prop :=
 ((l.getD i default).kind = 3 ↔ 0 < due) ∧ 0 ≤ (l.getD i default).space ∧ (l.getD i default).space ≤ 1 ∧ 0 ≤ (l.getD i default).pins ∧ (l.getD i default).pins ≤ 2147483647 ∧
 0 ≤ (l.getD i default).kind ∧ (l.getD i default).kind ≤ 3 ∧
 ((l.getD i default).kind = 0 → (l.getD i default).space = 0 ∧ (l.getD i default).used = 0 ∧ (l.getD i default).pins = 0) ∧
 ((l.getD i default).kind = 1 → 0 ≤ (l.getD i default).used ∧ (l.getD i default).used ≤ c.pw) ∧
 ((l.getD i default).kind = 2 → 1 ≤ need c (l.getD i default).used ∧ need c (l.getD i default).used - 1 ≤ tailRun (l.getD i default).space (l.drop (i + 1))) ∧
 ((l.getD i default).kind = 3 → (l.getD i default).used = 0 ∧ (l.getD i default).pins = 0)
def rdue (c : Conf) (l : List Page) (i : Nat) (due : Int) : Int := if (l.getD i default).kind = 2 then need c (l.getD i default).used - 1 else max 0 (due - 1)
theorem need_range (c : Conf) (n : Int) : -1 ≤ need c n ∧ need c n ≤ 5 := by
 unfold need
 split
 ·rename_i h
  have := validB_iff.1 h.1
  split
  ·omega
  ·have h1 : 0 ≤ (n + c.pw - 1) / c.pw := Int.ediv_nonneg (by omega) (by omega)
   have h2 : (n + c.pw - 1) / c.pw < 6 := Int.ediv_lt_of_lt_mul (by omega) (by omega)
   omega
 ·omega
instance (c : Conf) (l : List Page) (i : Nat) (due : Int) : Decidable (rchk c l i due) := by unfold rchk; infer_instance
theorem pageAt_getD (l : List Page) (i : Int) : pageAt l i = l.getD i.toNat default := by
 rw [pageAt,List.getD_eq_getElem?_getD]; rfl
def WOk (ws : List Int) : Prop := ∀ w ∈ ws,0 ≤ w ∧ w ≤ 18446744073709551615
theorem decodeH_ok {w : Int} (h : (decodeH w).2 = true) : validH (decodeH w).1 = true := by
 unfold decodeH at h ⊢
 split at h
 ·rename_i hc
  rw [if_pos hc]
  have := hc.1
  unfold encodeH at this
  split at this
  ·assumption
  ·simp at this
 ·cases h
def objW (hd : Header) : List Int := (encodeH hd).1 :: List.replicate hd.length.toNat 0
def initH (h : Heap) (a : Int) (hd : Header) : Heap × Int := if properB h = true ∧ validH hd = true then (if (writeA h.words a (objW hd)).2 = 0 then ({ h with words := (writeA h.words a (objW hd)).1 },0) else (noHeap,(writeA h.words a (objW hd)).2)) else (noHeap,1)
def freeK (l : List Page) (i k : Nat) : Bool := (List.range k).all fun j => (l.getD (i + j) default).kind == 0
theorem freeK_iff {l : List Page} {i k : Nat} : freeK l i k = true ↔ ∀ j,j < k → (l.getD (i + j) default).kind = 0 := by
 simp [freeK]
def tookP (l : List Page) (i k : Nat) (p q : Page) : List Page := (wr l (List.replicate k q) i k).set i p
def takeP (l : List Page) (i : Int) (k : Int) (p q : Page) : List Page × Int := if 0 ≤ i ∧ i < l.length ∧ k ≤ l.length - i then (if freeK l i.toNat k.toNat = true then (tookP l i.toNat k.toNat p q,0) else ([],20)) else ([],2)
def smallP (l : List Page) (i sp : Int) : List Page × Int := if 0 ≤ sp ∧ sp ≤ 1 then takeP l i 1 ⟨1,sp,0,0⟩ ⟨0,0,0,0⟩ else ([],1)
def largeP (c : Conf) (l : List Page) (i sp n : Int) : List Page × Int := if 1 ≤ need c n ∧ 0 ≤ sp ∧ sp ≤ 1 then takeP l i (need c n) ⟨2,sp,n,0⟩ ⟨3,sp,0,0⟩ else ([],1)
structure Run where
 frm : Int
 len : Int
 deriving DecidableEq,Inhabited
def Run.dv (r : Run) : List DV := [dint r.frm,dint r.len]
def lastRun (out : List Run) : Run := out.getLast?.getD ⟨0,0⟩
def runsStep (out : List Run) (i : Int) (p : Page) : List Run :=
 if p.kind = 0 then (if out ≠ [] ∧ (lastRun out).frm + (lastRun out).len = i then out.dropLast ++ [⟨(lastRun out).frm,(lastRun out).len + 1⟩] else out ++ [⟨i,1⟩]) else out
def runsUp (l : List Page) : Nat → List Run
 | 0 => []
 | i + 1 => runsStep (runsUp l i) i (pageAt l i)
theorem lastRun_at {out : List Run} (h : out ≠ []) : out[out.length - 1]? = some (lastRun out) := by
 rw [← List.getLast?_eq_getElem?,lastRun,List.getLast?_eq_some_getLast h]
 rfl
theorem runsUp_ok (l : List Page) : ∀ i,(runsUp l i).length ≤ i ∧ ∀ r ∈ runsUp l i,0 ≤ r.frm ∧ 1 ≤ r.len ∧ r.frm + r.len ≤ i
 | 0 => ⟨by simp [runsUp],by simp [runsUp]⟩
 | i + 1 => by
  obtain ⟨h1,h2⟩ := runsUp_ok l i
  simp only [runsUp,runsStep]
  split
  ·split
   ·rename_i hc
    have hl := h2 _ (List.mem_of_getElem? (lastRun_at hc.1))
    have hp : 0 < (runsUp l i).length := List.length_pos_iff.2 hc.1
    refine ⟨by simp; omega,fun r hr => ?_⟩
    rcases List.mem_append.1 hr with hr | hr
    ·have := h2 r (List.dropLast_subset _ hr)
     omega
    ·simp at hr; subst hr; simp only; omega
   ·refine ⟨by simp; omega,fun r hr => ?_⟩
    rcases List.mem_append.1 hr with hr | hr
    ·have := h2 r hr; omega
    ·simp at hr; subst hr; simp only; omega
  ·refine ⟨by omega,fun r hr => ?_⟩
   have := h2 r hr
   omega
def runs (l : List Page) : List Run := runsUp l l.length
def inUseN (l : List Page) : Nat → Nat
 | 0 => 0
 | i + 1 => inUseN l i + (if (pageAt l i).kind = 0 then 0 else 1)
def inUse (l : List Page) : Nat := inUseN l l.length
def firstOf : List Run → Int → Int
 | [],_ => -1
 | r :: l,k => if k ≤ r.len then r.frm else firstOf l k
def first (l : List Page) (k : Int) : Int := if k < 1 then -1 else firstOf (runs l) k
theorem runsUp_free (l : List Page) : ∀ i,∀ r ∈ runsUp l i,∀ j : Int,r.frm ≤ j → j < r.frm + r.len → (l.getD j.toNat default).kind = 0
 | 0 => by simp [runsUp]
 | i + 1 => by
  have ih := runsUp_free l i
  have ok := (runsUp_ok l i).2
  intro r hr j h1 h2
  simp only [runsUp,runsStep] at hr
  have hpa : pageAt l i = l.getD i default := by rw [pageAt_getD]; simp
  split at hr
  ·rename_i hk
   rw [hpa] at hk
   split at hr
   ·rename_i hc
    have hmem := List.mem_of_getElem? (lastRun_at hc.1)
    rcases List.mem_append.1 hr with hr | hr
    ·exact ih r (List.dropLast_subset _ hr) j h1 h2
    ·simp at hr; subst hr
     simp only at h1 h2
     by_cases hj : j = i
     ·subst hj; simpa using hk
     ·exact ih _ hmem j h1 (by omega)
   ·rcases List.mem_append.1 hr with hr | hr
    ·exact ih r hr j h1 h2
    ·simp at hr; subst hr
     simp only at h1 h2
     have : j = i := by omega
     subst this; simpa using hk
  ·exact ih r hr j h1 h2
theorem firstOf_mem : ∀ {l : List Run} {k : Int},0 ≤ firstOf l k → ∃ r ∈ l,firstOf l k = r.frm ∧ k ≤ r.len
 | [],_,h => by simp [firstOf] at h
 | r :: l,k,h => by
  rw [firstOf] at h ⊢
  split
  ·exact ⟨r,by simp,rfl,‹_›⟩
  ·rename_i hk
   rw [if_neg hk] at h
   obtain ⟨x,hx,h1,h2⟩ := firstOf_mem h
   exact ⟨x,by simp [hx],h1,h2⟩
theorem first_free {l : List Page} {k : Int} (h : 0 ≤ first l k) : 1 ≤ k ∧ first l k + k ≤ l.length ∧ freeK l (first l k).toNat k.toNat = true := by
 unfold first at h ⊢
 split at h
 ·omega
 ·rename_i hk
  rw [if_neg hk]
  obtain ⟨r,hr,h1,h2⟩ := firstOf_mem h
  have ok := (runsUp_ok l l.length).2 r hr
  rw [h1] at h ⊢
  refine ⟨by omega,by omega,freeK_iff.2 fun j hj => ?_⟩
  have := runsUp_free l l.length r hr (r.frm + j) (by omega) (by omega)
  rwa [show (r.frm + (j : Int)).toNat = r.frm.toNat + j from by omega] at this
def asksH (c : Conf) (hd : Header) : Bool := validH hd && decide (hd.kind ≠ 0) && decide (need c (sizeH hd) ≠ -1)
theorem ref7Asks (c : Conf) (hd : Header) (hm : 0 ≤ hd.map ∧ hd.map ≤ 4294967295) : GSpec Try.prog 8 [c.av,hd.av] true (bool (asksH c hd)) [] := by
 refine gspec_ofE [((6 : Nat),[Hint.call true (Sx.bool (validH hd)) []]),((15 : Nat),[Hint.call true (int (sizeH hd)) []]),((16 : Nat),[Hint.call true (int (need c (sizeH hd))) []])] [] [] (by decide) Try.func8 [false,false,false,false,false,false,false,false,true] (φ := GSpec Try.prog 24 [hd.av] true (Sx.bool (validH hd)) [] ∧ ((validH hd && hd.kind != (0 : Int)) = true → GSpec Try.prog 25 [hd.av] true (int (sizeH hd)) []) ∧ ((validH hd && hd.kind != (0 : Int)) = true → GSpec Try.prog 11 [c.av,int (sizeH hd)] true (int (need c (sizeH hd))) []) ∧ (validH hd && hd.kind != (0 : Int) && need c (sizeH hd) != (-1 : Int)) = asksH c hd) ?_ (by kernel_rfl) (by kernel_rfl)
 exact ⟨(@ref3Valid (hd) ‹_›),(fun hg => by (try simp only [bs] at hg); exact @ref3Size (hd) (by (try simp only [bs] at hg); assumption)),(fun hg => by (try simp only [bs] at hg); exact @refNeed (c) (sizeH hd)),(by grind [asksH])⟩
def growP (l : List Page) (i : Nat) (n : Int) : List Page := l.set i ⟨(l.getD i default).kind,(l.getD i default).space,(l.getD i default).used + n,(l.getD i default).pins⟩
def fitsB (h : Heap) (n : Int) : Prop := 0 ≤ h.bump ∧ (h.pages.getD h.bump.toNat default).space = h.space ∧ (h.pages.getD h.bump.toNat default).used + n ≤ h.conf.pw ∧ (inUse h.pages : Int) ≤ limit h.conf
instance (h : Heap) (n : Int) : Decidable (fitsB h n) := by unfold fitsB; infer_instance
def freshP (h : Heap) : List Page := (smallP h.pages (first h.pages 1) h.space).1
def small7 (h : Heap) (n : Int) : Heap × Int × Bool :=
 if fitsB h n then (⟨h.conf,h.words,growP h.pages h.bump.toNat n,h.space,h.bump⟩,4096 + h.bump * h.conf.pw + (h.pages.getD h.bump.toNat default).used,true)
 else if 0 ≤ first h.pages 1 ∧ (inUse h.pages : Int) < limit h.conf then
  (⟨h.conf,h.words,growP (freshP h) (first h.pages 1).toNat n,h.space,first h.pages 1⟩,4096 + first h.pages 1 * h.conf.pw + ((freshP h).getD (first h.pages 1).toNat default).used,true)
 else (noHeap,0,false)
theorem tookP_len {l : List Page} {i k : Nat} {p q : Page} (h : i + k ≤ l.length) : (tookP l i k p q).length = l.length := by
 rw [tookP,List.length_set]
 exact wr_len (by simpa using h) (by simp)
theorem freshP_ok {h : Heap} (hs : h.space = 0 ∨ h.space = 1) (hf : 0 ≤ first h.pages 1) : freshP h = tookP h.pages (first h.pages 1).toNat 1 ⟨1,h.space,0,0⟩ ⟨0,0,0,0⟩ ∧ (freshP h).length = h.pages.length ∧ (first h.pages 1) < h.pages.length ∧
  ((freshP h).getD (first h.pages 1).toNat default) = ⟨1,h.space,0,0⟩ := by
 obtain ⟨_,h1,h2⟩ := first_free hf
 have e : freshP h = tookP h.pages (first h.pages 1).toNat 1 ⟨1,h.space,0,0⟩ ⟨0,0,0,0⟩ := by
  rw [freshP,smallP,if_pos (by omega),takeP,if_pos (by omega),if_pos h2]
  rfl
 have hl : (freshP h).length = h.pages.length := by rw [e]; exact tookP_len (by omega)
 refine ⟨e,hl,by omega, ?_⟩
 rw [e,tookP,List.getD_eq_getElem?_getD,List.getElem?_set,if_pos rfl,if_pos (by rw [wr_len (by simp; omega) (by simp)]; omega)]
 rfl
theorem limit_le {c : Conf} (hv : validB c = true) : 2 ≤ limit c ∧ limit c ≤ 16 := by
 have := validB_iff.1 hv
 rw [limit,if_pos hv,tdivI (by omega)]
 omega
def large7 (h : Heap) (n k : Int) : Heap × Int × Bool :=
 if 0 ≤ first h.pages k ∧ inUse h.pages + k ≤ limit h.conf then (⟨h.conf,h.words,(largeP h.conf h.pages (first h.pages k) h.space n).1,h.space,h.bump⟩,4096 + first h.pages k * h.conf.pw,true) else (noHeap,0,false)
def put7 (h : Heap) (hd : Header) : Heap × Int × Bool := if 0 < need h.conf (sizeH hd) then large7 h (sizeH hd) (need h.conf (sizeH hd)) else small7 h (sizeH hd)
def new7 (h : Heap) (hd : Header) : Heap × Int × Int :=
 if properB h = true ∧ asksH h.conf hd = true then (if (put7 h hd).2.2 = true then ((initH (put7 h hd).1 (put7 h hd).2.1 hd).1,(put7 h hd).2.1,0) else (noHeap,0,3)) else (noHeap,0,1)
theorem asksH_ok {c : Conf} {hd : Header} (h : asksH c hd = true) : validH hd = true ∧ 1 ≤ sizeH hd ∧ sizeH hd ≤ 256 ∧ 0 ≤ need c (sizeH hd) ∧ hd.kind ≠ 0 := by
 simp only [asksH,Bool.and_eq_true,decide_eq_true_eq] at h
 have hv := validH_iff.1 h.1.1
 have hn := need_range c (sizeH hd)
 have hs : sizeH hd = hd.length + 1 := by rw [sizeH,if_pos h.1.1]
 exact ⟨h.1.1,by omega,by omega,by omega,h.1.2⟩
theorem headerValid (h : Header) (hm : 0 ≤ h.map ∧ h.map ≤ 4294967295) : GSpec Try.prog 21 [h.av] true (bool (validH h)) [] := by
 have hs := fun q => pow32 (n := h.length) q
 have ho : 0 ≤ h.length → h.length ≤ 32 → ones h.length = 2 ^ h.length.toNat - 1 := fun h0 h1 => by rw [ones,Nat.min_eq_left (by omega)]
 rcases Bool.eq_false_or_eq_true (decide (h.kind < (0 : Int)) || decide ((3 : Int) < h.kind) || decide (h.length < (0 : Int)) || decide ((255 : Int) < h.length)) with hc0 | hc0
 ·have hc0p := hc0
  simp only [bs] at hc0p
  refine gspec_ofE [((20 : Nat),[Hint.br true])] [] [] (by decide) Try.func21 [false,false,false,false,false,false,false,false,false,true] (φ := (decide (h.kind < (0 : Int)) || decide ((3 : Int) < h.kind) || decide (h.length < (0 : Int)) || decide ((255 : Int) < h.length)) = true ∧ true = true ∧ false = validH h) ?_ (by kernel_rfl) (by kernel_rfl)
  exact ⟨‹_›,rfl,(by (simp [validH, *]; omega))⟩
 ·have hc0p := hc0
  simp only [bs] at hc0p
  obtain ⟨⟨⟨hc0paaa,hc0paab⟩,hc0pab⟩,hc0pb⟩ := hc0p
  rcases Bool.eq_false_or_eq_true (h.kind == (1 : Int)) with hc1 | hc1
  ·have hc1p := hc1
   simp only [bs] at hc1p
   refine gspec_ofE [((20 : Nat),[Hint.br false]),((23 : Nat),[Hint.br true]),((30 : Nat),[Hint.int h.map]),((33 : Nat),[Hint.call true (u64 (ones h.length)) []])] [] [] (by decide) Try.func21 [false,false,false,false,false,false,false,false,false,false,false,false,false,false,false,false,true] (φ := (decide (h.kind < (0 : Int)) || decide ((3 : Int) < h.kind) || decide (h.length < (0 : Int)) || decide ((255 : Int) < h.length)) = false ∧ false = false ∧ (h.kind == (1 : Int)) = true ∧ true = true ∧ (decide (h.length ≤ (32 : Int)) = true → IntKind.u64.wrap h.map = h.map) ∧ (decide (h.length ≤ (32 : Int)) = true → GSpec Try.prog 37 [int h.length] true (u64 (ones h.length)) []) ∧ (decide (h.length ≤ (32 : Int)) && decide (h.map ≤ ones h.length)) = validH h) ?_ (by kernel_rfl) (by kernel_rfl)
   exact ⟨‹_›,rfl,‹_›,rfl,(by intro hg; (try simp only [bs] at hg); exact wrapU2 rfl (by omega) (by omega)),(fun hg => by (try simp only [bs] at hg); exact @bitsOnes (h.length)),(by grind [validH])⟩
  ·have hc1p := hc1
   simp only [bs] at hc1p
   refine gspec_ofE [((20 : Nat),[Hint.br false]),((23 : Nat),[Hint.br false])] [] [] (by decide) Try.func21 [false,false,false,false,false,false,false,false,false,true] (φ := (decide (h.kind < (0 : Int)) || decide ((3 : Int) < h.kind) || decide (h.length < (0 : Int)) || decide ((255 : Int) < h.length)) = false ∧ false = false ∧ (h.kind == (1 : Int)) = false ∧ false = false ∧ (h.kind == h.kind && (h.length == h.length && h.map == (0 : Int))) = validH h) ?_ (by kernel_rfl) (by kernel_rfl)
   exact ⟨‹_›,rfl,‹_›,rfl,(by grind [validH])⟩
theorem headerSize (h : Header) (hm : 0 ≤ h.map ∧ h.map ≤ 4294967295) : GSpec Try.prog 23 [h.av] true (int (sizeH h)) [] := by
 rcases Bool.eq_false_or_eq_true (!validH h) with hc0 | hc0
 ·have hc0p := hc0
  simp only [bs] at hc0p
  refine gspec_ofE [((4 : Nat),[Hint.call true (Sx.bool (validH h)) []]),((5 : Nat),[Hint.br true])] [] [] (by decide) Try.func23 [true] (φ := GSpec Try.prog 21 [h.av] true (Sx.bool (validH h)) [] ∧ (!validH h) = true ∧ true = true ∧ (0 : Int) = sizeH h) ?_ (by kernel_rfl) (by kernel_rfl)
  exact ⟨(@headerValid (h) ‹_›),‹_›,rfl,(by simp [sizeH, *])⟩
 ·have hc0p := hc0
  simp only [bs] at hc0p
  have hf3 := validH_iff.1 hc0p
  obtain ⟨hf3a,⟨hf3ba,⟨hf3bba,⟨hf3bbba,hf3bbbb⟩⟩⟩⟩ := hf3
  refine gspec_ofE [((4 : Nat),[Hint.call true (Sx.bool (validH h)) []]),((5 : Nat),[Hint.br false]),((8 : Nat),[Hint.int (h.length + (1 : Int))])] [] [] (by decide) Try.func23 [true] (φ := GSpec Try.prog 21 [h.av] true (Sx.bool (validH h)) [] ∧ (!validH h) = false ∧ false = false ∧ IntKind.i64.wrap (h.length + (1 : Int)) = h.length + (1 : Int) ∧ h.length + (1 : Int) = sizeH h) ?_ (by kernel_rfl) (by kernel_rfl)
  exact ⟨(@headerValid (h) ‹_›),‹_›,rfl,(by exact wrapI2 rfl (by omega) (by omega)),(by simp [sizeH, *])⟩
def Heap.dvs (h : Heap) : List DV := [.sc (.int .i64 h.conf.pw),.sc (.int .i64 h.conf.pg),.sl 1 (h.words.map wdv),.sl 4 (h.pages.map Page.dv),.sc (.int .i64 h.space),.sc (.int .i64 h.bump)]
def pg (h : Heap) (i : Int) : Page := h.pages.getD i.toNat default
theorem getD_mem_iff {l : List Int} {v : Int} : v ∈ l ↔ ∃ i,i < l.length ∧ l.getD i default = v := by
 rw [List.mem_iff_getElem]
 constructor
 ·rintro ⟨i,h,e⟩; exact ⟨i,h,by simp [List.getD,h,e]⟩
 ·rintro ⟨i,h,e⟩; exact ⟨i,h,by simpa [List.getD,h] using e⟩
structure Finding where
 fault : Int
 page : Int
 addr : Int
 deriving DecidableEq,Inhabited
def Finding.av (f : Finding) : AV := .ag [int f.fault,int f.page,u64 f.addr]
structure Tape where
 l : List Int
 at' : Int
 deriving Inhabited
def Tape.next (t : Tape) (n : Int) : Int := if n < 1 then 0 else (if t.at' < t.l.length then t.l.getD t.at'.toNat default else t.at' * 7 + 3) % n
def Tape.step (t : Tape) (n : Int) : Tape := if n < 1 then t else ⟨t.l,t.at' + 1⟩
def Tape.conf (t : Tape) : Conf := ⟨[16,16,20,32].getD (t.next 4).toNat default,[8,12,16,20,24].getD ((t.step 4).next 5).toNat default⟩
structure WorldM where
 heap : Heap
 strong : List Int
 weak : List Int
 deriving Inhabited
def WorldM.cells (w : WorldM) : List AV := w.heap.cells ++ [wordsV w.strong,wordsV w.weak]
def WorldM.av (w : WorldM) : AV := .ag w.cells
def WorldM.refs (w : WorldM) : List Int := 0 :: (w.strong ++ w.weak)
def WorldM.pick (w : WorldM) (t : Tape) : Int := w.refs.getD (t.next (w.refs.length : Int)).toNat default
def WorldM.put (w : WorldM) (hd : Header) : WorldM := if (new7 w.heap hd).2.2 = 0 then ⟨(new7 w.heap hd).1,w.strong ++ [(new7 w.heap hd).2.1],w.weak⟩ else w
def dropI (w : WorldM) (t : Tape) : Int := t.next (w.strong.length : Int)
def WorldM.drop (w : WorldM) (t : Tape) : WorldM :=
 if 0 < w.strong.length then ⟨w.heap,w.strong.take (dropI w t).toNat ++ w.strong.drop ((dropI w t).toNat + 1),if (t.step (w.strong.length : Int)).next 3 = 0 then w.weak ++ [w.strong.getD (dropI w t).toNat default] else w.weak⟩ else w
structure Rep where
 copied : Int
 kept : Int
 filled : Int
 freed : Int
 cleared : Int
 steps : Int
 deriving Inhabited
def Rep.cells (r : Rep) : List AV := [int r.copied,int r.kept,int r.filled,int r.freed,int r.cleared,int r.steps]
structure Work where
 heap : Heap
 old : List Int
 taken : List Int
 queue : List Int
 scanned : Int
 rep : Rep
 deriving Inhabited
def Work.cells (w : Work) : List AV := w.heap.cells ++ [wordsV w.old,intsV w.taken,wordsV w.queue,int w.scanned] ++ w.rep.cells
def Work.av (w : Work) : AV := .ag w.cells
def noWork : Work := ⟨noHeap,[],[],[],0,⟨0,0,0,0,0,0⟩⟩
def Work.keep (w : Work) (r : Int) : Work := ⟨w.heap,w.old,w.taken,w.queue ++ [r],w.scanned,⟨w.rep.copied,w.rep.kept + 1,w.rep.filled,w.rep.freed,w.rep.cleared,w.rep.steps⟩⟩
def lastT (w : Work) : Int := w.taken.getD ((w.taken.length : Int) - 1).toNat default
def fitsW (w : Work) (n : Int) : Prop := 0 < w.taken.length ∧ (w.heap.pages.getD (lastT w).toNat default).used + n ≤ w.heap.conf.pw
instance (w : Work) (n : Int) : Decidable (fitsW w n) := by unfold fitsW; infer_instance
def firstW (w : Work) : Int := first w.heap.pages 1
def freshW (w : Work) : List Page := freshP ⟨w.heap.conf,w.heap.words,w.heap.pages,1 - w.heap.space,w.heap.bump⟩
def Work.place (w : Work) (n : Int) : Work × Int × Bool :=
 if fitsW w n then (⟨⟨w.heap.conf,w.heap.words,growP w.heap.pages (lastT w).toNat n,w.heap.space,w.heap.bump⟩,w.old,w.taken,w.queue,w.scanned,w.rep⟩,4096 + lastT w * w.heap.conf.pw + (w.heap.pages.getD (lastT w).toNat default).used,true)
 else if 0 ≤ firstW w then (⟨⟨w.heap.conf,w.heap.words,growP (freshW w) (firstW w).toNat n,w.heap.space,w.heap.bump⟩,w.old,w.taken ++ [firstW w],w.queue,w.scanned,w.rep⟩,4096 + firstW w * w.heap.conf.pw,true)
 else (noWork,0,false)
def Work.copy (w : Work) (r a n : Int) : Work := ⟨⟨w.heap.conf,(storeA (moveA w.heap.words a r n).1 r (4 * a + 2)).1,w.heap.pages,w.heap.space,w.heap.bump⟩,w.old,w.taken,w.queue ++ [a],w.scanned,⟨w.rep.copied + 1,w.rep.kept,w.rep.filled,w.rep.freed,w.rep.cleared,w.rep.steps⟩⟩
def roomP (pw : Int) (p : Page) : Nat := if p.kind = 0 then pw.toNat else (pw - p.used).toNat
def roomL (pw : Int) (l : List Page) : Nat := (l.map (roomP pw)).sum
def leftN (old q : List Int) : Nat := (old.filter fun x => decide (x ∉ q)).length
def muW (w : Work) : Nat := leftN w.old w.queue + roomL w.heap.conf.pw w.heap.pages
structure WkOk (w : Work) : Prop where
 words : WOk w.heap.words
 wl : w.heap.words.length ≤ 4096
 conf : validB w.heap.conf = true
 pl : (w.heap.pages.length : Int) = w.heap.conf.pg
 sp : w.heap.space = 0 ∨ w.heap.space = 1
 ol : w.old.length ≤ 524288
 o : ∀ x ∈ w.old,0 ≤ x ∧ x ≤ 8192
 tk : ∀ x ∈ w.taken,0 ≤ x ∧ x < w.heap.pages.length ∧ (w.heap.pages.getD x.toNat default).kind = 1
 tl : w.taken.length ≤ w.queue.length
 q : ∀ x ∈ w.queue,0 ≤ x ∧ x ≤ 16384
 us : ∀ j,j < w.heap.pages.length → 0 ≤ (w.heap.pages.getD j default).used ∧ (w.heap.pages.getD j default).used ≤ 1024
 mu : w.queue.length + muW w ≤ 1000000
 sc : 0 ≤ w.scanned ∧ w.scanned ≤ w.queue.length
 rk : 0 ≤ w.rep.kept ∧ 0 ≤ w.rep.copied ∧ w.rep.kept + w.rep.copied ≤ w.queue.length
 rs : 0 ≤ w.rep.steps ∧ w.rep.steps ≤ 1000 * w.scanned
 r0 : w.rep.filled = 0 ∧ w.rep.freed = 0 ∧ w.rep.cleared = 0
theorem tookP_one {l : List Page} {i : Nat} {p q : Page} (h : i < l.length) : tookP l i 1 p q = l.set i p := by
 unfold tookP
 have e : wr l (List.replicate 1 q) i 1 = l.set i q := by
  have := wr_succ (ws := l) (l := List.replicate 1 q) (i := i) (k := 0) (by simp; omega) (by simp) q
  rw [wr_zero] at this
  simpa using this.symm
 rw [e,List.set_set]
theorem getD_set {l : List Page} {i j : Nat} {p : Page} (h : i < l.length) : (l.set i p).getD j default = if i = j then p else l.getD j default := by
 simp only [List.getD_eq_getElem?_getD,List.getElem?_set,h]
 split
 ·rename_i e; subst e; simp
 ·rfl
theorem lastT_mem {w : Work} (h : 0 < w.taken.length) : lastT w ∈ w.taken := by
 unfold lastT
 exact getD_mem_iff.2 ⟨((w.taken.length : Int) - 1).toNat,by omega,rfl⟩
theorem decodeH_valid (v : Int) : validH (decodeH v).1 = true := by
 cases e : (decodeH v).2 with
 | true => exact decodeH_ok e
 | false =>
  unfold decodeH at e ⊢
  split
  ·rename_i hc; rw [if_pos hc] at e; cases e
  ·decide
def hlA (ws : List Int) (a : Int) : Int := (decodeH (loadA ws a).1).1.length
theorem hlA_range (ws : List Int) (a : Int) : 0 ≤ hlA ws a ∧ hlA ws a ≤ 255 := by
 have := validH_iff.1 (decodeH_valid (loadA ws a).1)
 exact ⟨this.2.2.1,this.2.2.2.1⟩
theorem load_write_out {ws l : List Int} {a b : Int} (h : 4096 ≤ a ∧ a - 4096 + l.length ≤ ws.length) (hb : b < a ∨ a + l.length ≤ b) : loadA (writeA ws a l).1 b = loadA ws b := by
 unfold writeA
 rw [if_pos h]
 have hl : (spl ws (a - 4096).toNat l).length = ws.length := spl_len (by omega)
 unfold loadA
 simp only [hl]
 split
 ·have := wr_get (ws := ws) (l := l) (i := (a - 4096).toNat) (k := l.length) (by omega) (Nat.le_refl _) (b - 4096).toNat
  rw [wr_all] at this
  rw [List.getD_eq_getElem?_getD,List.getD_eq_getElem?_getD,this]
  by_cases h1 : (b - 4096).toNat < (a - 4096).toNat
  ·rw [if_pos h1]
  ·rw [if_neg h1,if_neg (by omega)]
 ·rfl
theorem load_write_in {ws l : List Int} {a b : Int} (h : 4096 ≤ a ∧ a - 4096 + l.length ≤ ws.length) (hb : a ≤ b ∧ b < a + l.length) : loadA (writeA ws a l).1 b = (l.getD (b - a).toNat 0,0) := by
 unfold writeA
 rw [if_pos h]
 have hl : (spl ws (a - 4096).toNat l).length = ws.length := spl_len (by omega)
 unfold loadA
 simp only [hl]
 rw [if_pos (by omega)]
 have := wr_get (ws := ws) (l := l) (i := (a - 4096).toNat) (k := l.length) (by omega) (Nat.le_refl _) (b - 4096).toNat
 rw [wr_all] at this
 rw [List.getD_eq_getElem?_getD,List.getD_eq_getElem?_getD,this,if_neg (by omega),if_pos (by omega),show (b - 4096).toNat - (a - 4096).toNat = (b - a).toNat by omega]
theorem store_len_in {ws : List Int} {a v : Int} (h : 4096 ≤ a ∧ a < 4096 + ws.length) : (storeA ws a v).1.length = ws.length := by
 unfold storeA writeA
 rw [if_pos (by simp; omega)]
 exact spl_len (by simp; omega)
theorem load_store_ne {ws : List Int} {a b v : Int} (h : 4096 ≤ a ∧ a < 4096 + ws.length) (hb : b ≠ a) : loadA (storeA ws a v).1 b = loadA ws b :=
 load_write_out (by simp; omega) (by simp; omega)
theorem load_store_eq {ws : List Int} {a v : Int} (h : 4096 ≤ a ∧ a < 4096 + ws.length) : loadA (storeA ws a v).1 a = (v,0) := by
 have := load_write_in (ws := ws) (l := [v]) (a := a) (b := a) (by simp; omega) (by simp; omega)
 rw [storeA,this]
 simp
theorem move_in {ws : List Int} {a b n : Int} (hn : 1 ≤ n) (ha : 4096 ≤ a ∧ a - 4096 + n ≤ ws.length) (hb : 4096 ≤ b ∧ b - 4096 + n ≤ ws.length) :
  (moveA ws a b n).1.length = ws.length ∧ loadA (moveA ws a b n).1 a = ((loadA ws b).1,0) ∧ ∀ x,x < a ∨ a + n ≤ x → loadA (moveA ws a b n).1 x = loadA ws x := by
 have e1 : readA ws b n = ((ws.drop (b - 4096).toNat).take n.toNat,0) := by rw [readA,if_neg (by omega),if_pos hb]
 have e2 : moveA ws a b n = writeA ws a ((ws.drop (b - 4096).toNat).take n.toNat) := by rw [moveA,e1]; simp
 have hl : ((ws.drop (b - 4096).toNat).take n.toNat).length = n.toNat := by simp; omega
 rw [e2]
 refine ⟨?_, ?_, ?_⟩
 ·unfold writeA
  rw [if_pos (by omega)]
  exact spl_len (by omega)
 ·rw [load_write_in (by omega) (by omega)]
  congr 1
  unfold loadA
  rw [if_pos (by omega)]
  simp only [List.getD_eq_getElem?_getD,Int.sub_self,Int.toNat_zero]
  rw [List.getElem?_take_of_lt (by omega),List.getElem?_drop]
  simp
 ·intro x hx
  exact load_write_out (by omega) (by omega)
theorem decode_fwd (a : Int) : (decodeH (4 * a + 2)).1.length = 0 := by
 unfold decodeH
 rw [if_neg]
 ·rfl
 ·rintro ⟨h1,h2⟩
  unfold encodeH at h1 h2
  split at h2
  ·simp only [hdrOf] at h2; omega
  ·simp only at h2; omega
def occP (p : Page) : Int := if p.kind = 0 then 0 else p.used
structure Inv (w : Work) : Prop where
 L : (w.heap.words.length : Int) = w.heap.conf.pw * w.heap.conf.pg
 r : ∀ a ∈ w.old ++ w.queue,4096 ≤ a ∧ a + hlA w.heap.words a < 4096 + w.heap.words.length
 s : ∀ a ∈ w.old ++ w.queue,∀ b ∈ w.old ++ w.queue,a < b → a + hlA w.heap.words a < b
 f : ∀ i : Nat,i < w.heap.pages.length → (w.heap.pages.getD i default).kind = 0 ∨ (i : Int) ∈ w.taken → ∀ a ∈ w.old ++ w.queue,a + hlA w.heap.words a < 4096 + i * w.heap.conf.pw + occP (w.heap.pages.getD i default) ∨ 4096 + i * w.heap.conf.pw + w.heap.conf.pw ≤ a
 z : ∀ x ∈ w.old,(w.heap.pages.getD (ofA w.heap.conf x).1.toNat default).kind = 2 ∨ hlA w.heap.words x + 1 ≤ w.heap.conf.pw
theorem Inv.keep {w : Work} (h : Inv w) {r : Int} (hr : r ∈ w.old) : Inv (w.keep r) := by
 have hm : ∀ a,a ∈ w.old ++ (w.queue ++ [r]) → a ∈ w.old ++ w.queue := by
  intro a ha
  simp only [List.mem_append,List.mem_singleton] at ha ⊢
  rcases ha with ha | ha | rfl
  ·exact Or.inl ha
  ·exact Or.inr ha
  ·exact Or.inl hr
 exact ⟨h.L,fun a ha => h.r a (hm a ha),fun a ha b hb => h.s a (hm a ha) b (hm b hb),fun i hi hc a ha => h.f i hi hc a (hm a ha),h.z⟩
theorem place_more {w : Work} {n : Int} (hw : WkOk w) (hn : 1 ≤ n ∧ n ≤ w.heap.conf.pw) (h : (w.place n).2.2 = true) :
  ∃ (i : Nat) (p : Page) (t : List Int),i < w.heap.pages.length ∧ ((w.heap.pages.getD i default).kind = 0 ∨ ((i : Int) ∈ w.taken ∧ (w.heap.pages.getD i default).kind = 1)) ∧ p.kind = 1 ∧ p.used = occP (w.heap.pages.getD i default) + n ∧ occP (w.heap.pages.getD i default) + n ≤ w.heap.conf.pw ∧ 0 ≤ occP (w.heap.pages.getD i default) ∧ (∀ x ∈ t,x ∈ w.taken ∨ x = (i : Int)) ∧ (w.place n).2.1 = 4096 + i * w.heap.conf.pw + occP (w.heap.pages.getD i default) ∧
  (w.place n).1 = ⟨⟨w.heap.conf,w.heap.words,w.heap.pages.set i p,w.heap.space,w.heap.bump⟩,w.old,t,w.queue,w.scanned,w.rep⟩ := by
 have hb := validB_iff.1 hw.conf
 have hpl := hw.pl
 by_cases hf : fitsW w n
 ·have e : w.place n = (⟨⟨w.heap.conf,w.heap.words,growP w.heap.pages (lastT w).toNat n,w.heap.space,w.heap.bump⟩,w.old,w.taken,w.queue,w.scanned,w.rep⟩,4096 + lastT w * w.heap.conf.pw + (w.heap.pages.getD (lastT w).toNat default).used,true) := by rw [Work.place,if_pos hf]
  unfold fitsW at hf
  have hm := hw.tk _ (lastT_mem hf.1)
  have hu := hw.us (lastT w).toNat (by omega)
  have hk := hm.2.2
  have hup : occP (w.heap.pages.getD (lastT w).toNat default) = (w.heap.pages.getD (lastT w).toNat default).used := by rw [occP,if_neg (by omega)]
  have hc : (((lastT w).toNat : Nat) : Int) = lastT w := by omega
  refine ⟨(lastT w).toNat,⟨(w.heap.pages.getD (lastT w).toNat default).kind,(w.heap.pages.getD (lastT w).toNat default).space,(w.heap.pages.getD (lastT w).toNat default).used + n,(w.heap.pages.getD (lastT w).toNat default).pins⟩,w.taken,by omega,Or.inr ⟨by rw [hc]; exact lastT_mem hf.1,hk⟩,hk,by rw [hup],by rw [hup]; omega,by rw [hup]; omega,fun x hx => Or.inl hx, ?_, ?_⟩
  ·rw [e,hup,hc]
  ·rw [e]; rfl
 ·by_cases hg : 0 ≤ firstW w
  ·have e : w.place n = (⟨⟨w.heap.conf,w.heap.words,growP (freshW w) (firstW w).toNat n,w.heap.space,w.heap.bump⟩,w.old,w.taken ++ [firstW w],w.queue,w.scanned,w.rep⟩,4096 + firstW w * w.heap.conf.pw,true) := by rw [Work.place,if_neg hf,if_pos hg]
   obtain ⟨f1,f2,f3,f4⟩ := freshP_ok (h := ⟨w.heap.conf,w.heap.words,w.heap.pages,1 - w.heap.space,w.heap.bump⟩) (by have := hw.sp; simp only; omega) hg
   obtain ⟨g1,g2,g3⟩ := first_free hg
   simp only at f1 f2 f3 f4
   have hi : (firstW w).toNat < w.heap.pages.length := by unfold firstW; omega
   have hk : (w.heap.pages.getD (firstW w).toNat default).kind = 0 := by
    have := freeK_iff.1 g3 0 (by decide)
    simpa [firstW] using this
   have hup : occP (w.heap.pages.getD (firstW w).toNat default) = 0 := by rw [occP,if_pos hk]
   have hc : (((firstW w).toNat : Nat) : Int) = firstW w := by omega
   have hq : growP (freshW w) (firstW w).toNat n = w.heap.pages.set (firstW w).toNat ⟨1,1 - w.heap.space,n,0⟩ := by
    unfold growP
    have e4 : (freshW w).getD (firstW w).toNat default = ⟨1,1 - w.heap.space,0,0⟩ := f4
    rw [e4]
    have e1 : freshW w = w.heap.pages.set (firstW w).toNat ⟨1,1 - w.heap.space,0,0⟩ := by
     have : freshW w = tookP w.heap.pages (firstW w).toNat 1 ⟨1,1 - w.heap.space,0,0⟩ ⟨0,0,0,0⟩ := f1
     rw [this,tookP_one hi]
    rw [e1,List.set_set]
    simp
   refine ⟨(firstW w).toNat,⟨1,1 - w.heap.space,n,0⟩,w.taken ++ [firstW w],hi,Or.inl hk,rfl,by rw [hup]; simp,by rw [hup]; omega,by rw [hup]; decide, ?_, ?_, ?_⟩
   ·intro x hx
    simp only [List.mem_append,List.mem_singleton] at hx
    rcases hx with hx | rfl
    ·exact Or.inl hx
    ·exact Or.inr hc.symm
   ·rw [e,hup,hc]; simp
   ·rw [e,hq]
  ·rw [Work.place,if_neg hf,if_neg hg] at h
   simp at h
theorem mul_step {i j pw : Int} (h : i < j) (hp : 0 ≤ pw) : i * pw + pw ≤ j * pw := by
 have := Int.mul_le_mul_of_nonneg_right (show i + 1 ≤ j by omega) hp
 rw [Int.add_mul,Int.one_mul] at this
 exact this
theorem Inv.copy {w : Work} (hw : WkOk w) (h : Inv w) {r n : Int} (hr : r ∈ w.old) (hn : n = hlA w.heap.words r + 1) (hp : n ≤ w.heap.conf.pw) (hc : (w.place n).2.2 = true) : Inv ((w.place n).1.copy r (w.place n).2.1 n) := by
 have hlr := hlA_range w.heap.words r
 obtain ⟨i,p,t,h1,h2,h3,h4,h5,h6,h7,h8,e⟩ := place_more hw ⟨by omega,hp⟩ hc
 have hb := validB_iff.1 hw.conf
 have hpl := hw.pl
 have hL := h.L
 have hio : (i : Int) * w.heap.conf.pw + w.heap.conf.pw ≤ w.heap.conf.pw * w.heap.conf.pg := by
  have := mul_step (i := i) (j := w.heap.conf.pg) (pw := w.heap.conf.pw) (by omega) (by omega)
  rw [Int.mul_comm w.heap.conf.pw]; exact this
 have hi0 : 0 ≤ (i : Int) * w.heap.conf.pw := Int.mul_nonneg (by omega) (by omega)
 rw [e,h8]
 generalize hu : occP (w.heap.pages.getD i default) = u at *
 generalize ha : 4096 + (i : Int) * w.heap.conf.pw + u = at'
 have hrr := h.r r (List.mem_append_left _ hr)
 have hf := h.f i h1 (by rcases h2 with h2 | h2; exact Or.inl h2; exact Or.inr h2.1)
 rw [hu] at hf
 obtain ⟨m1,m2,m3⟩ := move_in (ws := w.heap.words) (a := at') (b := r) (n := n) (by omega) (by omega) (by omega)
 have hfr := hf r (List.mem_append_left _ hr)
 have hne : r ≠ at' := by omega
 have hsr : 4096 ≤ r ∧ r < 4096 + (moveA w.heap.words at' r n).1.length := by omega
 have k1 : ∀ a ∈ w.old ++ w.queue,hlA (storeA (moveA w.heap.words at' r n).1 r (4 * at' + 2)).1 a ≤ hlA w.heap.words a := by
  intro a hA
  have hfa := hf a hA
  have hla := hlA_range w.heap.words a
  by_cases hk : a = r
  ·subst hk
   have : hlA (storeA (moveA w.heap.words at' a n).1 a (4 * at' + 2)).1 a = 0 := by
    unfold hlA
    rw [load_store_eq hsr]
    exact decode_fwd at'
   omega
  ·have : hlA (storeA (moveA w.heap.words at' r n).1 r (4 * at' + 2)).1 a = hlA w.heap.words a := by
    unfold hlA
    rw [load_store_ne hsr hk,m3 a (by omega)]
   omega
 have k2 : hlA (storeA (moveA w.heap.words at' r n).1 r (4 * at' + 2)).1 at' = n - 1 := by
  have : hlA (storeA (moveA w.heap.words at' r n).1 r (4 * at' + 2)).1 at' = hlA w.heap.words r := by
   unfold hlA
   rw [load_store_ne hsr (Ne.symm hne),m2]
  omega
 have hlen : (storeA (moveA w.heap.words at' r n).1 r (4 * at' + 2)).1.length = w.heap.words.length := by rw [store_len_in hsr,m1]
 have hmem : ∀ a,a ∈ w.old ++ (w.queue ++ [at']) → a ∈ w.old ++ w.queue ∨ a = at' := by
  intro a hA
  simp only [List.mem_append,List.mem_singleton] at hA ⊢
  rcases hA with hA | hA | hA
  ·exact Or.inl (Or.inl hA)
  ·exact Or.inl (Or.inr hA)
  ·exact Or.inr hA
 refine ⟨?_, ?_, ?_, ?_, ?_⟩
 ·simp only [Work.copy,hlen]; exact hL
 ·intro a hA
  simp only [Work.copy,hlen] at hA ⊢
  rcases hmem a hA with hA | rfl
  ·have q1 := h.r a hA
   have q2 := k1 a hA
   omega
  ·rw [k2]; omega
 ·intro a hA b hB hab
  simp only [Work.copy] at hA hB ⊢
  rcases hmem a hA with hA' | e1 <;> rcases hmem b hB with hB' | e2
  ·have q1 := h.s a hA' b hB' hab
   have q2 := k1 a hA'
   omega
  ·have q1 := hf a hA'
   have q2 := k1 a hA'
   omega
  ·have q1 := hf b hB'
   have q2 := hlA_range w.heap.words b
   rw [e1,k2]; omega
  ·omega
 ·intro j hj hcj a hA
  simp only [Work.copy,List.length_set] at hj hcj hA ⊢
  by_cases hij : i = j
  ·subst hij
   rw [getD_set h1,if_pos rfl]
   have hup : occP p = u + n := by rw [occP,if_neg (by omega),h4]
   rw [hup]
   rcases hmem a hA with hA | rfl
   ·have q1 := hf a hA
    have q2 := k1 a hA
    omega
   ·rw [k2]; omega
  ·rw [getD_set h1,if_neg hij] at hcj ⊢
   have hcj' : (w.heap.pages.getD j default).kind = 0 ∨ (j : Int) ∈ w.taken := by
    rcases hcj with hcj | hcj
    ·exact Or.inl hcj
    ·rcases h7 _ hcj with q | q
     ·exact Or.inr q
     ·omega
   rcases hmem a hA with hA | rfl
   ·have q1 := h.f j hj hcj' a hA
    have q2 := k1 a hA
    omega
   ·rw [k2]
    have hus : 0 ≤ occP (w.heap.pages.getD j default) := by
     have := hw.us j hj
     unfold occP
     split <;> omega
    by_cases hlt : i < j
    ·have := mul_step (i := i) (j := j) (pw := w.heap.conf.pw) (by omega) (by omega)
     omega
    ·have := mul_step (i := j) (j := i) (pw := w.heap.conf.pw) (by omega) (by omega)
     omega
 ·intro x hx
  simp only [Work.copy] at hx ⊢
  have q1 := h.z x hx
  have q2 := k1 x (List.mem_append_left _ hx)
  rw [getD_set h1]
  split
  ·rename_i hxi
   rw [← hxi] at q1
   rcases h2 with h2 | h2 <;> omega
  ·omega
structure Ext (w v : Work) : Prop where
 c : v.heap.conf = w.heap.conf
 o : v.old = w.old
 q : ∀ x ∈ w.queue,x ∈ v.queue
 l : ∀ x ∈ w.queue,hlA v.heap.words x = hlA w.heap.words x
theorem Ext.trans {u v w : Work} (h1 : Ext u v) (h2 : Ext v w) : Ext u w :=
 ⟨h2.c.trans h1.c,h2.o.trans h1.o,fun x hx => h2.q x (h1.q x hx),fun x hx => (h2.l x (h1.q x hx)).trans (h1.l x hx)⟩
structure PgOk (c : Conf) (p : Page) : Prop where
 s : 0 ≤ p.space ∧ p.space ≤ 1
 n : 0 ≤ p.pins ∧ p.pins ≤ 2147483647
 k : 0 ≤ p.kind ∧ p.kind ≤ 3
 k0 : p.kind = 0 → p.space = 0 ∧ p.used = 0 ∧ p.pins = 0
 k1 : p.kind = 1 → 0 ≤ p.used ∧ p.used ≤ c.pw
 k3 : p.kind = 3 → p.used = 0 ∧ p.pins = 0
structure PT (c : Conf) (l : List Page) : Prop where
 b : ∀ i,i < l.length → PgOk c (l.getD i default)
 lg : ∀ i,i < l.length → (l.getD i default).kind = 2 → 1 ≤ need c (l.getD i default).used ∧ ∀ m : Nat,1 ≤ m → (m : Int) < need c (l.getD i default).used → i + m < l.length ∧ (l.getD (i + m) default).kind = 3 ∧ (l.getD (i + m) default).space = (l.getD i default).space
 tl : ∀ i,i < l.length → (l.getD i default).kind = 3 → ∃ j,j < i ∧ (l.getD j default).kind = 2 ∧ (i : Int) < j + need c (l.getD j default).used
def dueAt (c : Conf) (l : List Page) : Nat → Int
 | 0 => 0
 | i + 1 => rdue c l i (dueAt c l i)
theorem PT.due {c : Conf} {l : List Page} (h : PT c l) {i : Nat} (hi : i < l.length) (hk : (l.getD i default).kind = 2) : ∀ m : Nat,(m : Int) < need c (l.getD i default).used → dueAt c l (i + 1 + m) = need c (l.getD i default).used - 1 - m
 | 0,hm => by
  show rdue c l i (dueAt c l i) = _
  rw [rdue,if_pos hk]; omega
 | m + 1,hm => by
  have ih := h.due hi hk m (by omega)
  have ht := ((h.lg i hi hk).2 (m + 1) (by omega) hm).2.1
  show rdue c l (i + 1 + m) (dueAt c l (i + 1 + m)) = _
  rw [rdue,show i + 1 + m = i + (m + 1) by omega,if_neg (by rw [ht]; decide),show i + (m + 1) = i + 1 + m by omega,ih]
  omega
theorem asks_eq (c : Conf) (hd : Header) : (validH hd && hd.kind != 0 && decide (0 ≤ need c (sizeH hd))) = asksH c hd := by
 have hr := need_range c (sizeH hd)
 have e : decide (0 ≤ need c (sizeH hd)) = decide (need c (sizeH hd) ≠ -1) := decide_eq_decide.2 (by omega)
 have e3 : (hd.kind != 0) = decide (hd.kind ≠ 0) := by rw [Bool.eq_iff_iff]; simp
 rw [asksH,e,e3]
theorem allocAsks (c : Conf) (hd : Header) (hm : 0 ≤ hd.map ∧ hd.map ≤ 4294967295) : GSpec Try.prog 7 [c.av,hd.av] true (bool (asksH c hd)) [] := by
 refine gspec_ofE [((6 : Nat),[Hint.call true (Sx.bool (validH hd)) []]),((15 : Nat),[Hint.call true (int (sizeH hd)) []]),((16 : Nat),[Hint.call true (int (need c (sizeH hd))) []])] [] [] (by decide) Try.func7 [false,false,false,false,false,false,false,false,true] (φ := GSpec Try.prog 21 [hd.av] true (Sx.bool (validH hd)) [] ∧ ((validH hd && hd.kind != (0 : Int)) = true → GSpec Try.prog 23 [hd.av] true (int (sizeH hd)) []) ∧ ((validH hd && hd.kind != (0 : Int)) = true → GSpec Try.prog 22 [c.av,int (sizeH hd)] true (int (need c (sizeH hd))) []) ∧ (validH hd && hd.kind != (0 : Int) && decide ((0 : Int) ≤ need c (sizeH hd))) = asksH c hd) ?_ (by kernel_rfl) (by kernel_rfl)
 exact ⟨(@headerValid (hd) ‹_›),(fun hg => by (try simp only [bs] at hg); exact @headerSize (hd) (by (try simp only [bs] at hg); assumption)),(fun hg => by (try simp only [bs] at hg); exact @pageNeed (c) (sizeH hd)),(by exact asks_eq _ _)⟩
structure BField where
 width : Int
 value : Int
 deriving DecidableEq,Inhabited
def BField.dv (f : BField) : List DV := [.sc (.int .i64 f.width),.sc (.int .u64 f.value)]
structure Live where
 objects : Int
 words : Int
 small : Int
 large : Int
 pinned : Int
 deriving DecidableEq,Inhabited
def Live.av (l : Live) : AV := .ag [int l.objects,int l.words,int l.small,int l.large,int l.pinned]
def liveOk (l : Live) : Bool := decide (∀ x ∈ [l.objects,l.words,l.small,l.large,l.pinned],0 ≤ x ∧ x ≤ 2147483647)
theorem liveOk_iff {l : Live} : liveOk l = true ↔ (0 ≤ l.objects ∧ l.objects ≤ 2147483647) ∧ (0 ≤ l.words ∧ l.words ≤ 2147483647) ∧ (0 ≤ l.small ∧ l.small ≤ 2147483647) ∧ (0 ≤ l.large ∧ l.large ≤ 2147483647) ∧ (0 ≤ l.pinned ∧ l.pinned ≤ 2147483647) := by
 simp [liveOk]
theorem kept_of_below {w w' : Go.World} (h : Go.RowKit.Below w.heap.size w w') : Kept (fun _ => False) w w' :=
 ⟨h.os,h.tape,h.output,h.size,fun k hk _ => h.block k hk,fun k hk => by unfold rows; rw [h.block k hk]⟩
theorem arr1 {v : Array Go.Value} (h : v.size = 1) : ∃ a,v = #[a] := by
 obtain ⟨l⟩ := v
 match l,h with
 | [a],_ => exact ⟨a,rfl⟩
theorem arr5 {v : Array Go.Value} (h : v.size = 5) : ∃ a b c d e,v = #[a,b,c,d,e] := by
 obtain ⟨l⟩ := v
 match l,h with
 | [a,b,c,d,e],_ => exact ⟨a,b,c,d,e,rfl⟩
theorem liveValid (l : Live) : GSpec Try.prog 33 [l.av] true (bool (liveOk l)) [] := by
 intro w Im vs hI hn hr
 obtain ⟨v,rfl⟩ := arr1 hn
 obtain ⟨cs,rfl,c1,_,c3⟩ := rel_ag (hr 0 _ v rfl rfl)
 obtain ⟨a,b,c,d,e,rfl⟩ := arr5 c1
 obtain rfl : a = .int .i64 l.objects := rel_sc (c3 0 _ a rfl rfl)
 obtain rfl : b = .int .i64 l.words := rel_sc (c3 1 _ b rfl rfl)
 obtain rfl : c = .int .i64 l.small := rel_sc (c3 2 _ c rfl rfl)
 obtain rfl : d = .int .i64 l.large := rel_sc (c3 3 _ d rfl rfl)
 obtain rfl : e = .int .i64 l.pinned := rel_sc (c3 4 _ e rfl rfl)
 refine (valid_walk l.objects l.words l.small l.large l.pinned w).mono ?_
 rintro en w' ⟨rfl,hb⟩
 refine ⟨_,rfl,kept_of_below hb,fun _ => none,fun _ => False,fun _ h => h.elim,fun _ h => h.elim,(fun _ _ _ h => by cases h),(fun _ _ _ _ _ h => by cases h),(fun _ _ h => by cases h),(fun k B h => by simp at h), ?_⟩
 rw [srt_ok]
 exact .d (.sc _ rfl)
theorem usual_eq (c : Conf) (l : Live) : (validB c && decide (0 ≤ min (min (min (min l.objects l.words) l.small) l.large) l.pinned) && decide (max (max (max (max l.objects l.words) l.small) l.large) l.pinned ≤ 2147483647)) = (validB c && liveOk l) := by
 rw [Bool.and_assoc]
 congr 1
 rw [Bool.eq_iff_iff,liveOk_iff]
 simp only [Bool.and_eq_true,decide_eq_true_eq]
 omega
theorem ref13usual (c : Conf) (l : Live) : GSpec Try.prog 34 [c.av,l.av] true (bool (validB c && liveOk l)) [] := by
 refine gspec_ofE [((30 : Nat),[Hint.call true (Sx.bool (validB c)) []])] [] [] (by decide) Try.func34 [false,false,false,false,true] (φ := GSpec Try.prog 26 [c.av] true (Sx.bool (validB c)) [] ∧ (validB c && decide ((0 : Int) ≤ min (min (min (min l.objects l.words) l.small) l.large) l.pinned) && decide (max (max (max (max l.objects l.words) l.small) l.large) l.pinned ≤ (2147483647 : Int))) = (validB c && liveOk l)) ?_ (by kernel_rfl) (by kernel_rfl)
 exact ⟨(@refValidConf (c)),(by exact usual_eq c l)⟩
def pagesB (c : Conf) (l : Live) : Int := if validB c = true ∧ liveOk l = true then l.pinned + l.large + (4 * l.small + 3 * c.pw - 1) / (3 * c.pw) else 0
def sureB (c : Conf) (l : Live) (hd : Header) : Bool :=
 if validB c = true ∧ liveOk l = true ∧ asksH c hd = true then
  (if need c (sizeH hd) = 0 then decide (pagesB c l + 1 ≤ limit c) else decide (pagesB c l + need c (sizeH hd) ≤ limit c) && decide ((pagesB c l + 1) * (need c (sizeH hd) - 1) < c.pg - pagesB c l)) else false
theorem boundPages (c : Conf) (l : Live) : GSpec Try.prog 15 [c.av,l.av] true (int (pagesB c l)) [] := by
 by_cases hv : validB c = true
 ·have hb := validB_iff.1 hv
  by_cases h : liveOk l = true
  ·have hl := liveOk_iff.1 h
   have e7 : pagesB c l = l.pinned + l.large + (4 * l.small + 3 * c.pw - 1) / (3 * c.pw) := by rw [pagesB,if_pos ⟨hv,h⟩]
   rw [e7]
   have ei1 : (4 * l.small + 3 * c.pw - 1).tdiv (3 * c.pw) = (4 * l.small + 3 * c.pw - 1) / (3 * c.pw) := tdivI (by omega)
   have d1 : 0 ≤ (4 * l.small + 3 * c.pw - 1) / (3 * c.pw) := Int.ediv_nonneg (by omega) (by omega)
   have d2 : (4 * l.small + 3 * c.pw - 1) / (3 * c.pw) ≤ 4 * l.small + 3 * c.pw - 1 := Int.ediv_le_self _ (by omega)
   refine gspec_ofE [((7 : Nat),[Hint.call true (Sx.bool (validB c)) []]),((11 : Nat),[Hint.call true (Sx.bool (liveOk l)) []]),((13 : Nat),[Hint.br false]),((16 : Nat),[Hint.int ((3 : Int) * c.pw)]),((21 : Nat),[Hint.int (l.pinned + l.large)]),((24 : Nat),[Hint.int ((4 : Int) * l.small)]),((26 : Nat),[Hint.int ((4 : Int) * l.small + (3 : Int) * c.pw)]),((27 : Nat),[Hint.int ((4 : Int) * l.small + (3 : Int) * c.pw - (1 : Int))]),((29 : Nat),[Hint.int (((4 : Int) * l.small + (3 : Int) * c.pw - (1 : Int)) / ((3 : Int) * c.pw))]),((30 : Nat),[Hint.int (l.pinned + l.large + ((4 : Int) * l.small + (3 : Int) * c.pw - (1 : Int)) / ((3 : Int) * c.pw))])] [] [] (by decide) Try.func15 [] (φ := GSpec Try.prog 32 [c.av] true (Sx.bool (validB c)) [] ∧ ((!!validB c) = true → GSpec Try.prog 33 [l.av] true (Sx.bool (liveOk l)) []) ∧ (!validB c || !liveOk l) = false ∧ false = false ∧ IntKind.i64.wrap ((3 : Int) * c.pw) = (3 : Int) * c.pw ∧ IntKind.i64.wrap (l.pinned + l.large) = l.pinned + l.large ∧ IntKind.i64.wrap ((4 : Int) * l.small) = (4 : Int) * l.small ∧ IntKind.i64.wrap ((4 : Int) * l.small + (3 : Int) * c.pw) = (4 : Int) * l.small + (3 : Int) * c.pw ∧ IntKind.i64.wrap ((4 : Int) * l.small + (3 : Int) * c.pw - (1 : Int)) = (4 : Int) * l.small + (3 : Int) * c.pw - (1 : Int) ∧ IntKind.i64.wrap (((4 : Int) * l.small + (3 : Int) * c.pw - (1 : Int)).tdiv ((3 : Int) * c.pw)) = ((4 : Int) * l.small + (3 : Int) * c.pw - (1 : Int)) / ((3 : Int) * c.pw) ∧ (3 : Int) * c.pw ≠ (0 : Int) ∧ IntKind.i64.wrap (l.pinned + l.large + ((4 : Int) * l.small + (3 : Int) * c.pw - (1 : Int)) / ((3 : Int) * c.pw)) = l.pinned + l.large + ((4 : Int) * l.small + (3 : Int) * c.pw - (1 : Int)) / ((3 : Int) * c.pw)) ?_ (by kernel_rfl) (by kernel_rfl)
   exact ⟨(@pageValidConf (c)),(fun hg => by (try simp only [bs] at hg); exact @liveValid (l)),(by simp only [bs, *,true_or,or_true,true_and,and_true,not_true_eq_false,not_false_eq_true,Bool.true_eq_false,Bool.false_eq_true]),rfl,(by exact wrapI2 rfl (by omega) (by omega)),(by exact wrapI2 rfl (by omega) (by omega)),(by exact wrapI2 rfl (by omega) (by omega)),(by exact wrapI2 rfl (by omega) (by omega)),(by exact wrapI2 rfl (by omega) (by omega)),(by rw [wrapI' (by omega) (by omega)]; omega),(by omega),(by exact wrapI2 rfl (by omega) (by omega))⟩
  ·have e7 : pagesB c l = 0 := by rw [pagesB,if_neg (fun q => h q.2)]
   rw [e7]
   refine gspec_ofE [((7 : Nat),[Hint.call true (Sx.bool (validB c)) []]),((11 : Nat),[Hint.call true (Sx.bool (liveOk l)) []]),((13 : Nat),[Hint.br true])] [] [] (by decide) Try.func15 [] (φ := GSpec Try.prog 32 [c.av] true (Sx.bool (validB c)) [] ∧ ((!!validB c) = true → GSpec Try.prog 33 [l.av] true (Sx.bool (liveOk l)) []) ∧ (!validB c || !liveOk l) = true ∧ true = true) ?_ (by kernel_rfl) (by kernel_rfl)
   exact ⟨(@pageValidConf (c)),(fun hg => by (try simp only [bs] at hg); exact @liveValid (l)),(by simp only [bs, *,true_or,or_true,true_and,and_true,not_true_eq_false,not_false_eq_true,Bool.true_eq_false,Bool.false_eq_true]),rfl⟩
 ·have e7 : pagesB c l = 0 := by rw [pagesB,if_neg (fun q => hv q.1)]
  rw [e7]
  refine gspec_ofE [((7 : Nat),[Hint.call true (Sx.bool (validB c)) []]),((11 : Nat),[Hint.call true (Sx.bool (liveOk l)) []]),((13 : Nat),[Hint.br true])] [] [] (by decide) Try.func15 [] (φ := GSpec Try.prog 32 [c.av] true (Sx.bool (validB c)) [] ∧ ((!!validB c) = true → GSpec Try.prog 33 [l.av] true (Sx.bool (liveOk l)) []) ∧ (!validB c || !liveOk l) = true ∧ true = true) ?_ (by kernel_rfl) (by kernel_rfl)
  exact ⟨(@pageValidConf (c)),(fun hg => by (try simp only [bs] at hg); exact @liveValid (l)),(by simp only [bs, *,true_or,or_true,true_and,and_true,not_true_eq_false,not_false_eq_true,Bool.true_eq_false,Bool.false_eq_true]),rfl⟩
theorem pagesB_range {c : Conf} {l : Live} : 0 ≤ pagesB c l ∧ pagesB c l ≤ 17179869184 := by
 unfold pagesB
 split
 ·rename_i h
  have hb := validB_iff.1 h.1
  have hl := liveOk_iff.1 h.2
  have d1 : 0 ≤ (4 * l.small + 3 * c.pw - 1) / (3 * c.pw) := Int.ediv_nonneg (by omega) (by omega)
  have d2 : (4 * l.small + 3 * c.pw - 1) / (3 * c.pw) ≤ 4 * l.small + 3 * c.pw - 1 := Int.ediv_le_self _ (by omega)
  omega
 ·omega
theorem ref13Pages (c : Conf) (l : Live) : GSpec Try.prog 17 [c.av,l.av] true (int (pagesB c l)) [] := by
 by_cases hc : validB c = true ∧ liveOk l = true
 ·have hb := validB_iff.1 hc.1
  have hl := liveOk_iff.1 hc.2
  have h1 := hc.1
  have h2 := hc.2
  have e7 : pagesB c l = l.pinned + l.large + (4 * l.small + 3 * c.pw - 1) / (3 * c.pw) := by rw [pagesB,if_pos hc]
  rw [e7]
  have ei1 : (4 * l.small + 3 * c.pw - 1).tdiv (3 * c.pw) = (4 * l.small + 3 * c.pw - 1) / (3 * c.pw) := tdivI (by omega)
  have d1 : 0 ≤ (4 * l.small + 3 * c.pw - 1) / (3 * c.pw) := Int.ediv_nonneg (by omega) (by omega)
  have d2 : (4 * l.small + 3 * c.pw - 1) / (3 * c.pw) ≤ 4 * l.small + 3 * c.pw - 1 := Int.ediv_le_self _ (by omega)
  refine gspec_ofE [((7 : Nat),[Hint.call true (Sx.bool (validB c && liveOk l)) []]),((8 : Nat),[Hint.br false]),((13 : Nat),[Hint.int (l.pinned + l.large)]),((16 : Nat),[Hint.int ((4 : Int) * l.small)]),((19 : Nat),[Hint.int ((3 : Int) * c.pw)]),((20 : Nat),[Hint.int ((4 : Int) * l.small + (3 : Int) * c.pw)]),((21 : Nat),[Hint.int ((4 : Int) * l.small + (3 : Int) * c.pw - (1 : Int))]),((24 : Nat),[Hint.int ((3 : Int) * c.pw)]),((25 : Nat),[Hint.int (((4 : Int) * l.small + (3 : Int) * c.pw - (1 : Int)) / ((3 : Int) * c.pw))]),((26 : Nat),[Hint.int (l.pinned + l.large + ((4 : Int) * l.small + (3 : Int) * c.pw - (1 : Int)) / ((3 : Int) * c.pw))])] [] [] (by decide) Try.func17 [] (φ := GSpec Try.prog 34 [c.av,l.av] true (Sx.bool (validB c && liveOk l)) [] ∧ (!(validB c && liveOk l)) = false ∧ false = false ∧ IntKind.i64.wrap (l.pinned + l.large) = l.pinned + l.large ∧ IntKind.i64.wrap ((4 : Int) * l.small) = (4 : Int) * l.small ∧ IntKind.i64.wrap ((3 : Int) * c.pw) = (3 : Int) * c.pw ∧ IntKind.i64.wrap ((4 : Int) * l.small + (3 : Int) * c.pw) = (4 : Int) * l.small + (3 : Int) * c.pw ∧ IntKind.i64.wrap ((4 : Int) * l.small + (3 : Int) * c.pw - (1 : Int)) = (4 : Int) * l.small + (3 : Int) * c.pw - (1 : Int) ∧ IntKind.i64.wrap ((3 : Int) * c.pw) = (3 : Int) * c.pw ∧ IntKind.i64.wrap (((4 : Int) * l.small + (3 : Int) * c.pw - (1 : Int)).tdiv ((3 : Int) * c.pw)) = ((4 : Int) * l.small + (3 : Int) * c.pw - (1 : Int)) / ((3 : Int) * c.pw) ∧ (3 : Int) * c.pw ≠ (0 : Int) ∧ IntKind.i64.wrap (l.pinned + l.large + ((4 : Int) * l.small + (3 : Int) * c.pw - (1 : Int)) / ((3 : Int) * c.pw)) = l.pinned + l.large + ((4 : Int) * l.small + (3 : Int) * c.pw - (1 : Int)) / ((3 : Int) * c.pw)) ?_ (by kernel_rfl) (by kernel_rfl)
  exact ⟨(@ref13usual (c) (l)),(by (simp only [bs]; omega)),rfl,(by exact wrapI2 rfl (by omega) (by omega)),(by exact wrapI2 rfl (by omega) (by omega)),(by exact wrapI2 rfl (by omega) (by omega)),(by exact wrapI2 rfl (by omega) (by omega)),(by exact wrapI2 rfl (by omega) (by omega)),(by exact wrapI2 rfl (by omega) (by omega)),(by rw [wrapI' (by omega) (by omega)]; omega),(by omega),(by exact wrapI2 rfl (by omega) (by omega))⟩
 ·have e7 : pagesB c l = 0 := by rw [pagesB,if_neg hc]
  have e8 : (validB c && liveOk l) = false := by simpa using hc
  rw [e7]
  refine gspec_ofE [((7 : Nat),[Hint.call true (Sx.bool (validB c && liveOk l)) []]),((8 : Nat),[Hint.br true])] [] [] (by decide) Try.func17 [] (φ := GSpec Try.prog 34 [c.av,l.av] true (Sx.bool (validB c && liveOk l)) [] ∧ (!(validB c && liveOk l)) = true ∧ true = true) ?_ (by kernel_rfl) (by kernel_rfl)
  exact ⟨(@ref13usual (c) (l)),(by simp only [bs, *,true_or,or_true,true_and,and_true,not_true_eq_false,not_false_eq_true,Bool.true_eq_false,Bool.false_eq_true]),rfl⟩
theorem boundSure (c : Conf) (l : Live) (hd : Header) (hm : 0 ≤ hd.map ∧ hd.map ≤ 4294967295) : GSpec Try.prog 18 [c.av,l.av,hd.av] true (bool (sureB c l hd)) [] := by
 have hp := pagesB_range (c := c) (l := l)
 have hr := need_range c (sizeH hd)
 by_cases hc : validB c = true ∧ liveOk l = true ∧ asksH c hd = true
 ·obtain ⟨h1,h2,h3⟩ := hc
  have hb := validB_iff.1 h1
  have hli := limit_le h1
  have ha := asksH_ok h3
  have m1 : 0 < need c (sizeH hd) → 0 ≤ (pagesB c l + 1) * (need c (sizeH hd) - 1) ∧ (pagesB c l + 1) * (need c (sizeH hd) - 1) ≤ 17179869185 * 4 := fun q => ⟨Int.mul_nonneg (by omega) (by omega),Int.mul_le_mul (by omega) (by omega) (by omega) (by omega)⟩
  by_cases hk : need c (sizeH hd) = 0
  ·have e7 : sureB c l hd = decide (pagesB c l + 1 ≤ limit c) := by rw [sureB,if_pos ⟨h1,h2,h3⟩,if_pos hk]
   rw [e7]
   rcases Bool.eq_false_or_eq_true (decide (limit c - max (need c (sizeH hd)) (1 : Int) < pagesB c l)) with hc0 | hc0
   ·have hc0p := hc0
    simp only [bs] at hc0p
    refine gspec_ofE [((10 : Nat),[Hint.call true (Sx.bool (validB c)) []]),((14 : Nat),[Hint.call true (Sx.bool (liveOk l)) []]),((20 : Nat),[Hint.call true (Sx.bool (asksH c hd)) []]),((22 : Nat),[Hint.br false]),((25 : Nat),[Hint.call true (int (pagesB c l)) []]),((28 : Nat),[Hint.call true (int (sizeH hd)) []]),((29 : Nat),[Hint.call true (int (need c (sizeH hd))) []]),((32 : Nat),[Hint.call true (int (limit c)) []]),((34 : Nat),[Hint.int (max (need c (sizeH hd)) (1 : Int))]),((35 : Nat),[Hint.int (limit c - max (need c (sizeH hd)) (1 : Int))]),((36 : Nat),[Hint.br true])] [] [] (by decide) Try.func18 [false,false,false,false,false,false,false,true] (φ := GSpec Try.prog 32 [c.av] true (Sx.bool (validB c)) [] ∧ ((!!validB c) = true → GSpec Try.prog 33 [l.av] true (Sx.bool (liveOk l)) []) ∧ ((!(!validB c || !liveOk l)) = true → GSpec Try.prog 7 [c.av,hd.av] true (Sx.bool (asksH c hd)) []) ∧ (!validB c || !liveOk l || !asksH c hd) = false ∧ false = false ∧ GSpec Try.prog 15 [c.av,l.av] true (int (pagesB c l)) [] ∧ GSpec Try.prog 23 [hd.av] true (int (sizeH hd)) [] ∧ GSpec Try.prog 22 [c.av,int (sizeH hd)] true (int (need c (sizeH hd))) [] ∧ GSpec Try.prog 35 [c.av] true (int (limit c)) [] ∧ (if (1 : Int) > need c (sizeH hd) then (1 : Int) else need c (sizeH hd)) = max (need c (sizeH hd)) (1 : Int) ∧ IntKind.i64.wrap (limit c - max (need c (sizeH hd)) (1 : Int)) = limit c - max (need c (sizeH hd)) (1 : Int) ∧ decide (limit c - max (need c (sizeH hd)) (1 : Int) < pagesB c l) = true ∧ true = true ∧ false = decide (pagesB c l + (1 : Int) ≤ limit c)) ?_ (by kernel_rfl) (by kernel_rfl)
    exact ⟨(@pageValidConf (c)),(fun hg => by (try simp only [bs] at hg); exact @liveValid (l)),(fun hg => by (try simp only [bs] at hg); exact @allocAsks (c) (hd) (by (try simp only [bs] at hg); assumption)),(by simp only [bs, *,true_or,or_true,true_and,and_true,not_true_eq_false,not_false_eq_true,Bool.true_eq_false,Bool.false_eq_true]),rfl,(@boundPages (c) (l)),(@headerSize (hd) ‹_›),(@pageNeed (c) (sizeH hd)),(@pageLimit (c)),(by omega),(by exact wrapI2 rfl (by omega) (by omega)),‹_›,rfl,(by (simp [*]; omega))⟩
   ·have hc0p := hc0
    simp only [bs] at hc0p
    refine gspec_ofE [((10 : Nat),[Hint.call true (Sx.bool (validB c)) []]),((14 : Nat),[Hint.call true (Sx.bool (liveOk l)) []]),((20 : Nat),[Hint.call true (Sx.bool (asksH c hd)) []]),((22 : Nat),[Hint.br false]),((25 : Nat),[Hint.call true (int (pagesB c l)) []]),((28 : Nat),[Hint.call true (int (sizeH hd)) []]),((29 : Nat),[Hint.call true (int (need c (sizeH hd))) []]),((32 : Nat),[Hint.call true (int (limit c)) []]),((34 : Nat),[Hint.int (max (need c (sizeH hd)) (1 : Int))]),((35 : Nat),[Hint.int (limit c - max (need c (sizeH hd)) (1 : Int))]),((36 : Nat),[Hint.br false]),((43 : Nat),[Hint.int (c.pg - pagesB c l)]),((45 : Nat),[Hint.int (pagesB c l + (1 : Int))]),((47 : Nat),[Hint.int (need c (sizeH hd) - (1 : Int))]),((48 : Nat),[Hint.int ((pagesB c l + (1 : Int)) * (need c (sizeH hd) - (1 : Int)))])] [] [] (by decide) Try.func18 [false,false,false,false,false,false,false,false,false,false,false,false,false,false,false,false,false,true] (φ := GSpec Try.prog 32 [c.av] true (Sx.bool (validB c)) [] ∧ ((!!validB c) = true → GSpec Try.prog 33 [l.av] true (Sx.bool (liveOk l)) []) ∧ ((!(!validB c || !liveOk l)) = true → GSpec Try.prog 7 [c.av,hd.av] true (Sx.bool (asksH c hd)) []) ∧ (!validB c || !liveOk l || !asksH c hd) = false ∧ false = false ∧ GSpec Try.prog 15 [c.av,l.av] true (int (pagesB c l)) [] ∧ GSpec Try.prog 23 [hd.av] true (int (sizeH hd)) [] ∧ GSpec Try.prog 22 [c.av,int (sizeH hd)] true (int (need c (sizeH hd))) [] ∧ GSpec Try.prog 35 [c.av] true (int (limit c)) [] ∧ (if (1 : Int) > need c (sizeH hd) then (1 : Int) else need c (sizeH hd)) = max (need c (sizeH hd)) (1 : Int) ∧ IntKind.i64.wrap (limit c - max (need c (sizeH hd)) (1 : Int)) = limit c - max (need c (sizeH hd)) (1 : Int) ∧ decide (limit c - max (need c (sizeH hd)) (1 : Int) < pagesB c l) = false ∧ false = false ∧ ((!need c (sizeH hd) == (0 : Int)) = true → IntKind.i64.wrap (c.pg - pagesB c l) = c.pg - pagesB c l) ∧ ((!need c (sizeH hd) == (0 : Int)) = true → IntKind.i64.wrap (pagesB c l + (1 : Int)) = pagesB c l + (1 : Int)) ∧ ((!need c (sizeH hd) == (0 : Int)) = true → IntKind.i64.wrap (need c (sizeH hd) - (1 : Int)) = need c (sizeH hd) - (1 : Int)) ∧ ((!need c (sizeH hd) == (0 : Int)) = true → IntKind.i64.wrap ((pagesB c l + (1 : Int)) * (need c (sizeH hd) - (1 : Int))) = (pagesB c l + (1 : Int)) * (need c (sizeH hd) - (1 : Int))) ∧ (need c (sizeH hd) == (0 : Int) || decide ((pagesB c l + (1 : Int)) * (need c (sizeH hd) - (1 : Int)) < c.pg - pagesB c l)) = decide (pagesB c l + (1 : Int) ≤ limit c)) ?_ (by kernel_rfl) (by kernel_rfl)
    exact ⟨(@pageValidConf (c)),(fun hg => by (try simp only [bs] at hg); exact @liveValid (l)),(fun hg => by (try simp only [bs] at hg); exact @allocAsks (c) (hd) (by (try simp only [bs] at hg); assumption)),(by simp only [bs, *,true_or,or_true,true_and,and_true,not_true_eq_false,not_false_eq_true,Bool.true_eq_false,Bool.false_eq_true]),rfl,(@boundPages (c) (l)),(@headerSize (hd) ‹_›),(@pageNeed (c) (sizeH hd)),(@pageLimit (c)),(by omega),(by exact wrapI2 rfl (by omega) (by omega)),‹_›,rfl,(by intro hg; (try simp only [bs] at hg); exact wrapI2 rfl (by omega) (by omega)),(by intro hg; (try simp only [bs] at hg); exact wrapI2 rfl (by omega) (by omega)),(by intro hg; (try simp only [bs] at hg); exact wrapI2 rfl (by omega) (by omega)),(by intro hg; (try simp only [bs] at hg); exact wrapI2 rfl (by omega) (by omega)),(by (simp [*]; omega))⟩
  ·have e7 : sureB c l hd = (decide (pagesB c l + need c (sizeH hd) ≤ limit c) && decide ((pagesB c l + 1) * (need c (sizeH hd) - 1) < c.pg - pagesB c l)) := by rw [sureB,if_pos ⟨h1,h2,h3⟩,if_neg hk]
   have m2 := m1 (by omega)
   rw [e7]
   rcases Bool.eq_false_or_eq_true (decide (limit c - max (need c (sizeH hd)) (1 : Int) < pagesB c l)) with hc0 | hc0
   ·have hc0p := hc0
    simp only [bs] at hc0p
    refine gspec_ofE [((10 : Nat),[Hint.call true (Sx.bool (validB c)) []]),((14 : Nat),[Hint.call true (Sx.bool (liveOk l)) []]),((20 : Nat),[Hint.call true (Sx.bool (asksH c hd)) []]),((22 : Nat),[Hint.br false]),((25 : Nat),[Hint.call true (int (pagesB c l)) []]),((28 : Nat),[Hint.call true (int (sizeH hd)) []]),((29 : Nat),[Hint.call true (int (need c (sizeH hd))) []]),((32 : Nat),[Hint.call true (int (limit c)) []]),((34 : Nat),[Hint.int (max (need c (sizeH hd)) (1 : Int))]),((35 : Nat),[Hint.int (limit c - max (need c (sizeH hd)) (1 : Int))]),((36 : Nat),[Hint.br true])] [] [] (by decide) Try.func18 [false,false,false,false,false,false,false,true] (φ := GSpec Try.prog 32 [c.av] true (Sx.bool (validB c)) [] ∧ ((!!validB c) = true → GSpec Try.prog 33 [l.av] true (Sx.bool (liveOk l)) []) ∧ ((!(!validB c || !liveOk l)) = true → GSpec Try.prog 7 [c.av,hd.av] true (Sx.bool (asksH c hd)) []) ∧ (!validB c || !liveOk l || !asksH c hd) = false ∧ false = false ∧ GSpec Try.prog 15 [c.av,l.av] true (int (pagesB c l)) [] ∧ GSpec Try.prog 23 [hd.av] true (int (sizeH hd)) [] ∧ GSpec Try.prog 22 [c.av,int (sizeH hd)] true (int (need c (sizeH hd))) [] ∧ GSpec Try.prog 35 [c.av] true (int (limit c)) [] ∧ (if (1 : Int) > need c (sizeH hd) then (1 : Int) else need c (sizeH hd)) = max (need c (sizeH hd)) (1 : Int) ∧ IntKind.i64.wrap (limit c - max (need c (sizeH hd)) (1 : Int)) = limit c - max (need c (sizeH hd)) (1 : Int) ∧ decide (limit c - max (need c (sizeH hd)) (1 : Int) < pagesB c l) = true ∧ true = true ∧ false = (decide (pagesB c l + need c (sizeH hd) ≤ limit c) && decide ((pagesB c l + (1 : Int)) * (need c (sizeH hd) - (1 : Int)) < c.pg - pagesB c l))) ?_ (by kernel_rfl) (by kernel_rfl)
    exact ⟨(@pageValidConf (c)),(fun hg => by (try simp only [bs] at hg); exact @liveValid (l)),(fun hg => by (try simp only [bs] at hg); exact @allocAsks (c) (hd) (by (try simp only [bs] at hg); assumption)),(by simp only [bs, *,true_or,or_true,true_and,and_true,not_true_eq_false,not_false_eq_true,Bool.true_eq_false,Bool.false_eq_true]),rfl,(@boundPages (c) (l)),(@headerSize (hd) ‹_›),(@pageNeed (c) (sizeH hd)),(@pageLimit (c)),(by omega),(by exact wrapI2 rfl (by omega) (by omega)),‹_›,rfl,(by (simp [*]; omega))⟩
   ·have hc0p := hc0
    simp only [bs] at hc0p
    refine gspec_ofE [((10 : Nat),[Hint.call true (Sx.bool (validB c)) []]),((14 : Nat),[Hint.call true (Sx.bool (liveOk l)) []]),((20 : Nat),[Hint.call true (Sx.bool (asksH c hd)) []]),((22 : Nat),[Hint.br false]),((25 : Nat),[Hint.call true (int (pagesB c l)) []]),((28 : Nat),[Hint.call true (int (sizeH hd)) []]),((29 : Nat),[Hint.call true (int (need c (sizeH hd))) []]),((32 : Nat),[Hint.call true (int (limit c)) []]),((34 : Nat),[Hint.int (max (need c (sizeH hd)) (1 : Int))]),((35 : Nat),[Hint.int (limit c - max (need c (sizeH hd)) (1 : Int))]),((36 : Nat),[Hint.br false]),((43 : Nat),[Hint.int (c.pg - pagesB c l)]),((45 : Nat),[Hint.int (pagesB c l + (1 : Int))]),((47 : Nat),[Hint.int (need c (sizeH hd) - (1 : Int))]),((48 : Nat),[Hint.int ((pagesB c l + (1 : Int)) * (need c (sizeH hd) - (1 : Int)))])] [] [] (by decide) Try.func18 [false,false,false,false,false,false,false,false,false,false,false,false,false,false,false,false,false,true] (φ := GSpec Try.prog 32 [c.av] true (Sx.bool (validB c)) [] ∧ ((!!validB c) = true → GSpec Try.prog 33 [l.av] true (Sx.bool (liveOk l)) []) ∧ ((!(!validB c || !liveOk l)) = true → GSpec Try.prog 7 [c.av,hd.av] true (Sx.bool (asksH c hd)) []) ∧ (!validB c || !liveOk l || !asksH c hd) = false ∧ false = false ∧ GSpec Try.prog 15 [c.av,l.av] true (int (pagesB c l)) [] ∧ GSpec Try.prog 23 [hd.av] true (int (sizeH hd)) [] ∧ GSpec Try.prog 22 [c.av,int (sizeH hd)] true (int (need c (sizeH hd))) [] ∧ GSpec Try.prog 35 [c.av] true (int (limit c)) [] ∧ (if (1 : Int) > need c (sizeH hd) then (1 : Int) else need c (sizeH hd)) = max (need c (sizeH hd)) (1 : Int) ∧ IntKind.i64.wrap (limit c - max (need c (sizeH hd)) (1 : Int)) = limit c - max (need c (sizeH hd)) (1 : Int) ∧ decide (limit c - max (need c (sizeH hd)) (1 : Int) < pagesB c l) = false ∧ false = false ∧ ((!need c (sizeH hd) == (0 : Int)) = true → IntKind.i64.wrap (c.pg - pagesB c l) = c.pg - pagesB c l) ∧ ((!need c (sizeH hd) == (0 : Int)) = true → IntKind.i64.wrap (pagesB c l + (1 : Int)) = pagesB c l + (1 : Int)) ∧ ((!need c (sizeH hd) == (0 : Int)) = true → IntKind.i64.wrap (need c (sizeH hd) - (1 : Int)) = need c (sizeH hd) - (1 : Int)) ∧ ((!need c (sizeH hd) == (0 : Int)) = true → IntKind.i64.wrap ((pagesB c l + (1 : Int)) * (need c (sizeH hd) - (1 : Int))) = (pagesB c l + (1 : Int)) * (need c (sizeH hd) - (1 : Int))) ∧ (need c (sizeH hd) == (0 : Int) || decide ((pagesB c l + (1 : Int)) * (need c (sizeH hd) - (1 : Int)) < c.pg - pagesB c l)) = (decide (pagesB c l + need c (sizeH hd) ≤ limit c) && decide ((pagesB c l + (1 : Int)) * (need c (sizeH hd) - (1 : Int)) < c.pg - pagesB c l))) ?_ (by kernel_rfl) (by kernel_rfl)
    exact ⟨(@pageValidConf (c)),(fun hg => by (try simp only [bs] at hg); exact @liveValid (l)),(fun hg => by (try simp only [bs] at hg); exact @allocAsks (c) (hd) (by (try simp only [bs] at hg); assumption)),(by simp only [bs, *,true_or,or_true,true_and,and_true,not_true_eq_false,not_false_eq_true,Bool.true_eq_false,Bool.false_eq_true]),rfl,(@boundPages (c) (l)),(@headerSize (hd) ‹_›),(@pageNeed (c) (sizeH hd)),(@pageLimit (c)),(by omega),(by exact wrapI2 rfl (by omega) (by omega)),‹_›,rfl,(by intro hg; (try simp only [bs] at hg); exact wrapI2 rfl (by omega) (by omega)),(by intro hg; (try simp only [bs] at hg); exact wrapI2 rfl (by omega) (by omega)),(by intro hg; (try simp only [bs] at hg); exact wrapI2 rfl (by omega) (by omega)),(by intro hg; (try simp only [bs] at hg); exact wrapI2 rfl (by omega) (by omega)),(by grind [])⟩
 ·have e7 : sureB c l hd = false := by rw [sureB,if_neg hc]
  rw [e7]
  rcases Bool.eq_false_or_eq_true (!validB c || !liveOk l || !asksH c hd) with hc0 | hc0
  ·have hc0p := hc0
   simp only [bs] at hc0p
   refine gspec_ofE [((10 : Nat),[Hint.call true (Sx.bool (validB c)) []]),((14 : Nat),[Hint.call true (Sx.bool (liveOk l)) []]),((20 : Nat),[Hint.call true (Sx.bool (asksH c hd)) []]),((22 : Nat),[Hint.br true])] [] [] (by decide) Try.func18 [] (φ := GSpec Try.prog 32 [c.av] true (Sx.bool (validB c)) [] ∧ ((!!validB c) = true → GSpec Try.prog 33 [l.av] true (Sx.bool (liveOk l)) []) ∧ ((!(!validB c || !liveOk l)) = true → GSpec Try.prog 7 [c.av,hd.av] true (Sx.bool (asksH c hd)) []) ∧ (!validB c || !liveOk l || !asksH c hd) = true ∧ true = true) ?_ (by kernel_rfl) (by kernel_rfl)
   exact ⟨(@pageValidConf (c)),(fun hg => by (try simp only [bs] at hg); exact @liveValid (l)),(fun hg => by (try simp only [bs] at hg); exact @allocAsks (c) (hd) (by (try simp only [bs] at hg); assumption)),‹_›,rfl⟩
  ·have hc0p := hc0
   simp only [bs] at hc0p
   obtain ⟨⟨hc0paa,hc0pab⟩,hc0pb⟩ := hc0p
   rcases Bool.eq_false_or_eq_true (decide (IntKind.i64.wrap (limit c - max (need c (sizeH hd)) (1 : Int)) < pagesB c l)) with hc1 | hc1
   ·have hc1p := hc1
    simp only [bs] at hc1p
    refine gspec_ofE [((10 : Nat),[Hint.call true (Sx.bool (validB c)) []]),((14 : Nat),[Hint.call true (Sx.bool (liveOk l)) []]),((20 : Nat),[Hint.call true (Sx.bool (asksH c hd)) []]),((22 : Nat),[Hint.br false]),((25 : Nat),[Hint.call true (int (pagesB c l)) []]),((28 : Nat),[Hint.call true (int (sizeH hd)) []]),((29 : Nat),[Hint.call true (int (need c (sizeH hd))) []]),((32 : Nat),[Hint.call true (int (limit c)) []]),((34 : Nat),[Hint.int (max (need c (sizeH hd)) (1 : Int))]),((36 : Nat),[Hint.br true])] [] [] (by decide) Try.func18 [] (φ := GSpec Try.prog 32 [c.av] true (Sx.bool (validB c)) [] ∧ ((!!validB c) = true → GSpec Try.prog 33 [l.av] true (Sx.bool (liveOk l)) []) ∧ ((!(!validB c || !liveOk l)) = true → GSpec Try.prog 7 [c.av,hd.av] true (Sx.bool (asksH c hd)) []) ∧ (!validB c || !liveOk l || !asksH c hd) = false ∧ false = false ∧ GSpec Try.prog 15 [c.av,l.av] true (int (pagesB c l)) [] ∧ GSpec Try.prog 23 [hd.av] true (int (sizeH hd)) [] ∧ GSpec Try.prog 22 [c.av,int (sizeH hd)] true (int (need c (sizeH hd))) [] ∧ GSpec Try.prog 35 [c.av] true (int (limit c)) [] ∧ (if (1 : Int) > need c (sizeH hd) then (1 : Int) else need c (sizeH hd)) = max (need c (sizeH hd)) (1 : Int) ∧ decide (IntKind.i64.wrap (limit c - max (need c (sizeH hd)) (1 : Int)) < pagesB c l) = true ∧ true = true) ?_ (by kernel_rfl) (by kernel_rfl)
    exact ⟨(@pageValidConf (c)),(fun hg => by (try simp only [bs] at hg); exact @liveValid (l)),(fun hg => by (try simp only [bs] at hg); exact @allocAsks (c) (hd) (by (try simp only [bs] at hg); assumption)),‹_›,rfl,(@boundPages (c) (l)),(@headerSize (hd) ‹_›),(@pageNeed (c) (sizeH hd)),(@pageLimit (c)),(by omega),‹_›,rfl⟩
   ·have hc1p := hc1
    simp only [bs] at hc1p
    refine gspec_ofE [((10 : Nat),[Hint.call true (Sx.bool (validB c)) []]),((14 : Nat),[Hint.call true (Sx.bool (liveOk l)) []]),((20 : Nat),[Hint.call true (Sx.bool (asksH c hd)) []]),((22 : Nat),[Hint.br false]),((25 : Nat),[Hint.call true (int (pagesB c l)) []]),((28 : Nat),[Hint.call true (int (sizeH hd)) []]),((29 : Nat),[Hint.call true (int (need c (sizeH hd))) []]),((32 : Nat),[Hint.call true (int (limit c)) []]),((34 : Nat),[Hint.int (max (need c (sizeH hd)) (1 : Int))]),((36 : Nat),[Hint.br false]),((45 : Nat),[Hint.int (pagesB c l + (1 : Int))]),((47 : Nat),[Hint.int (need c (sizeH hd) - (1 : Int))])] [] [] (by decide) Try.func18 [false,false,false,false,false,false,false,false,false,false,false,false,false,false,false,false,false,true] (φ := GSpec Try.prog 32 [c.av] true (Sx.bool (validB c)) [] ∧ ((!!validB c) = true → GSpec Try.prog 33 [l.av] true (Sx.bool (liveOk l)) []) ∧ ((!(!validB c || !liveOk l)) = true → GSpec Try.prog 7 [c.av,hd.av] true (Sx.bool (asksH c hd)) []) ∧ (!validB c || !liveOk l || !asksH c hd) = false ∧ false = false ∧ GSpec Try.prog 15 [c.av,l.av] true (int (pagesB c l)) [] ∧ GSpec Try.prog 23 [hd.av] true (int (sizeH hd)) [] ∧ GSpec Try.prog 22 [c.av,int (sizeH hd)] true (int (need c (sizeH hd))) [] ∧ GSpec Try.prog 35 [c.av] true (int (limit c)) [] ∧ (if (1 : Int) > need c (sizeH hd) then (1 : Int) else need c (sizeH hd)) = max (need c (sizeH hd)) (1 : Int) ∧ decide (IntKind.i64.wrap (limit c - max (need c (sizeH hd)) (1 : Int)) < pagesB c l) = false ∧ false = false ∧ ((!need c (sizeH hd) == (0 : Int)) = true → IntKind.i64.wrap (pagesB c l + (1 : Int)) = pagesB c l + (1 : Int)) ∧ ((!need c (sizeH hd) == (0 : Int)) = true → IntKind.i64.wrap (need c (sizeH hd) - (1 : Int)) = need c (sizeH hd) - (1 : Int)) ∧ (need c (sizeH hd) == (0 : Int) || decide (IntKind.i64.wrap ((pagesB c l + (1 : Int)) * (need c (sizeH hd) - (1 : Int))) < IntKind.i64.wrap (c.pg - pagesB c l))) = false) ?_ (by kernel_rfl) (by kernel_rfl)
    exact ⟨(@pageValidConf (c)),(fun hg => by (try simp only [bs] at hg); exact @liveValid (l)),(fun hg => by (try simp only [bs] at hg); exact @allocAsks (c) (hd) (by (try simp only [bs] at hg); assumption)),‹_›,rfl,(@boundPages (c) (l)),(@headerSize (hd) ‹_›),(@pageNeed (c) (sizeH hd)),(@pageLimit (c)),(by omega),‹_›,rfl,(by intro hg; (try simp only [bs] at hg); exact wrapI2 rfl (by omega) (by omega)),(by intro hg; (try simp only [bs] at hg); exact wrapI2 rfl (by omega) (by omega)),(by grind [])⟩
theorem ref13Sure (c : Conf) (l : Live) (hd : Header) (hm : 0 ≤ hd.map ∧ hd.map ≤ 4294967295) : GSpec Try.prog 19 [c.av,l.av,hd.av] true (bool (sureB c l hd)) [] := by
 have hp := pagesB_range (c := c) (l := l)
 have hr := need_range c (sizeH hd)
 by_cases hc : validB c = true ∧ liveOk l = true ∧ asksH c hd = true
 ·obtain ⟨h1,h2,h3⟩ := hc
  have hb := validB_iff.1 h1
  have hli := limit_le h1
  have ha := asksH_ok h3
  have m1 : 0 < need c (sizeH hd) → 0 ≤ (pagesB c l + 1) * (need c (sizeH hd) - 1) ∧ (pagesB c l + 1) * (need c (sizeH hd) - 1) ≤ 17179869185 * 4 := fun q => ⟨Int.mul_nonneg (by omega) (by omega),Int.mul_le_mul (by omega) (by omega) (by omega) (by omega)⟩
  by_cases hk : need c (sizeH hd) = 0
  ·have e7 : sureB c l hd = decide (pagesB c l + 1 ≤ limit c) := by rw [sureB,if_pos ⟨h1,h2,h3⟩,if_pos hk]
   rw [e7]
   refine gspec_ofE [((11 : Nat),[Hint.call true (Sx.bool (validB c && liveOk l)) []]),((16 : Nat),[Hint.call true (Sx.bool (asksH c hd)) []]),((18 : Nat),[Hint.br false]),((21 : Nat),[Hint.call true (int (pagesB c l)) []]),((24 : Nat),[Hint.call true (int (sizeH hd)) []]),((25 : Nat),[Hint.call true (int (need c (sizeH hd))) []]),((27 : Nat),[Hint.br true]),((29 : Nat),[Hint.int (pagesB c l + (1 : Int))]),((31 : Nat),[Hint.call true (int (limit c)) []])] [] [] (by decide) Try.func19 [] (φ := GSpec Try.prog 34 [c.av,l.av] true (Sx.bool (validB c && liveOk l)) [] ∧ ((!!(validB c && liveOk l)) = true → GSpec Try.prog 8 [c.av,hd.av] true (Sx.bool (asksH c hd)) []) ∧ (!(validB c && liveOk l) || !asksH c hd) = false ∧ false = false ∧ GSpec Try.prog 17 [c.av,l.av] true (int (pagesB c l)) [] ∧ GSpec Try.prog 25 [hd.av] true (int (sizeH hd)) [] ∧ GSpec Try.prog 11 [c.av,int (sizeH hd)] true (int (need c (sizeH hd))) [] ∧ (need c (sizeH hd) == (0 : Int)) = true ∧ true = true ∧ IntKind.i64.wrap (pagesB c l + (1 : Int)) = pagesB c l + (1 : Int) ∧ GSpec Try.prog 36 [c.av] true (int (limit c)) []) ?_ (by kernel_rfl) (by kernel_rfl)
   exact ⟨(@ref13usual (c) (l)),(fun hg => by (try simp only [bs] at hg); exact @ref7Asks (c) (hd) (by (try simp only [bs] at hg); assumption)),(by simp only [bs, *,true_or,or_true,true_and,and_true,not_true_eq_false,not_false_eq_true,Bool.true_eq_false,Bool.false_eq_true]),rfl,(@ref13Pages (c) (l)),(@ref3Size (hd) ‹_›),(@refNeed (c) (sizeH hd)),(by (simp only [bs]; omega)),rfl,(by exact wrapI2 rfl (by omega) (by omega)),(@refLimit (c))⟩
  ·have e7 : sureB c l hd = (decide (pagesB c l + need c (sizeH hd) ≤ limit c) && decide ((pagesB c l + 1) * (need c (sizeH hd) - 1) < c.pg - pagesB c l)) := by rw [sureB,if_pos ⟨h1,h2,h3⟩,if_neg hk]
   have m2 := m1 (by omega)
   rw [e7]
   refine gspec_ofE [((11 : Nat),[Hint.call true (Sx.bool (validB c && liveOk l)) []]),((16 : Nat),[Hint.call true (Sx.bool (asksH c hd)) []]),((18 : Nat),[Hint.br false]),((21 : Nat),[Hint.call true (int (pagesB c l)) []]),((24 : Nat),[Hint.call true (int (sizeH hd)) []]),((25 : Nat),[Hint.call true (int (need c (sizeH hd))) []]),((27 : Nat),[Hint.br false]),((35 : Nat),[Hint.int (pagesB c l + need c (sizeH hd))]),((37 : Nat),[Hint.call true (int (limit c)) []]),((43 : Nat),[Hint.int (c.pg - pagesB c l)]),((45 : Nat),[Hint.int (pagesB c l + (1 : Int))]),((47 : Nat),[Hint.int (need c (sizeH hd) - (1 : Int))]),((48 : Nat),[Hint.int ((pagesB c l + (1 : Int)) * (need c (sizeH hd) - (1 : Int)))])] [] [] (by decide) Try.func19 [] (φ := GSpec Try.prog 34 [c.av,l.av] true (Sx.bool (validB c && liveOk l)) [] ∧ ((!!(validB c && liveOk l)) = true → GSpec Try.prog 8 [c.av,hd.av] true (Sx.bool (asksH c hd)) []) ∧ (!(validB c && liveOk l) || !asksH c hd) = false ∧ false = false ∧ GSpec Try.prog 17 [c.av,l.av] true (int (pagesB c l)) [] ∧ GSpec Try.prog 25 [hd.av] true (int (sizeH hd)) [] ∧ GSpec Try.prog 11 [c.av,int (sizeH hd)] true (int (need c (sizeH hd))) [] ∧ (need c (sizeH hd) == (0 : Int)) = false ∧ false = false ∧ IntKind.i64.wrap (pagesB c l + need c (sizeH hd)) = pagesB c l + need c (sizeH hd) ∧ GSpec Try.prog 36 [c.av] true (int (limit c)) [] ∧ (decide (pagesB c l + need c (sizeH hd) ≤ limit c) = true → IntKind.i64.wrap (c.pg - pagesB c l) = c.pg - pagesB c l) ∧ (decide (pagesB c l + need c (sizeH hd) ≤ limit c) = true → IntKind.i64.wrap (pagesB c l + (1 : Int)) = pagesB c l + (1 : Int)) ∧ (decide (pagesB c l + need c (sizeH hd) ≤ limit c) = true → IntKind.i64.wrap (need c (sizeH hd) - (1 : Int)) = need c (sizeH hd) - (1 : Int)) ∧ (decide (pagesB c l + need c (sizeH hd) ≤ limit c) = true → IntKind.i64.wrap ((pagesB c l + (1 : Int)) * (need c (sizeH hd) - (1 : Int))) = (pagesB c l + (1 : Int)) * (need c (sizeH hd) - (1 : Int)))) ?_ (by kernel_rfl) (by kernel_rfl)
   exact ⟨(@ref13usual (c) (l)),(fun hg => by (try simp only [bs] at hg); exact @ref7Asks (c) (hd) (by (try simp only [bs] at hg); assumption)),(by simp only [bs, *,true_or,or_true,true_and,and_true,not_true_eq_false,not_false_eq_true,Bool.true_eq_false,Bool.false_eq_true]),rfl,(@ref13Pages (c) (l)),(@ref3Size (hd) ‹_›),(@refNeed (c) (sizeH hd)),(by (simp only [bs]; omega)),rfl,(by exact wrapI2 rfl (by omega) (by omega)),(@refLimit (c)),(by intro hg; (try simp only [bs] at hg); exact wrapI2 rfl (by omega) (by omega)),(by intro hg; (try simp only [bs] at hg); exact wrapI2 rfl (by omega) (by omega)),(by intro hg; (try simp only [bs] at hg); exact wrapI2 rfl (by omega) (by omega)),(by intro hg; (try simp only [bs] at hg); exact wrapI2 rfl (by omega) (by omega))⟩
 ·have e7 : sureB c l hd = false := by rw [sureB,if_neg hc]
  rw [e7]
  rcases Bool.eq_false_or_eq_true (!(validB c && liveOk l) || !asksH c hd) with hc0 | hc0
  ·have hc0p := hc0
   simp only [bs] at hc0p
   refine gspec_ofE [((11 : Nat),[Hint.call true (Sx.bool (validB c && liveOk l)) []]),((16 : Nat),[Hint.call true (Sx.bool (asksH c hd)) []]),((18 : Nat),[Hint.br true])] [] [] (by decide) Try.func19 [] (φ := GSpec Try.prog 34 [c.av,l.av] true (Sx.bool (validB c && liveOk l)) [] ∧ ((!!(validB c && liveOk l)) = true → GSpec Try.prog 8 [c.av,hd.av] true (Sx.bool (asksH c hd)) []) ∧ (!(validB c && liveOk l) || !asksH c hd) = true ∧ true = true) ?_ (by kernel_rfl) (by kernel_rfl)
   exact ⟨(@ref13usual (c) (l)),(fun hg => by (try simp only [bs] at hg); exact @ref7Asks (c) (hd) (by (try simp only [bs] at hg); assumption)),‹_›,rfl⟩
  ·have hc0p := hc0
   simp only [bs] at hc0p
   obtain ⟨⟨hc0paa,hc0pab⟩,hc0pb⟩ := hc0p
   rcases Bool.eq_false_or_eq_true (need c (sizeH hd) == (0 : Int)) with hc1 | hc1
   ·have hc1p := hc1
    simp only [bs] at hc1p
    refine gspec_ofE [((11 : Nat),[Hint.call true (Sx.bool (validB c && liveOk l)) []]),((16 : Nat),[Hint.call true (Sx.bool (asksH c hd)) []]),((18 : Nat),[Hint.br false]),((21 : Nat),[Hint.call true (int (pagesB c l)) []]),((24 : Nat),[Hint.call true (int (sizeH hd)) []]),((25 : Nat),[Hint.call true (int (need c (sizeH hd))) []]),((27 : Nat),[Hint.br true]),((29 : Nat),[Hint.int (pagesB c l + (1 : Int))]),((31 : Nat),[Hint.call true (int (limit c)) []])] [] [] (by decide) Try.func19 [false,false,false,false,true] (φ := GSpec Try.prog 34 [c.av,l.av] true (Sx.bool (validB c && liveOk l)) [] ∧ ((!!(validB c && liveOk l)) = true → GSpec Try.prog 8 [c.av,hd.av] true (Sx.bool (asksH c hd)) []) ∧ (!(validB c && liveOk l) || !asksH c hd) = false ∧ false = false ∧ GSpec Try.prog 17 [c.av,l.av] true (int (pagesB c l)) [] ∧ GSpec Try.prog 25 [hd.av] true (int (sizeH hd)) [] ∧ GSpec Try.prog 11 [c.av,int (sizeH hd)] true (int (need c (sizeH hd))) [] ∧ (need c (sizeH hd) == (0 : Int)) = true ∧ true = true ∧ IntKind.i64.wrap (pagesB c l + (1 : Int)) = pagesB c l + (1 : Int) ∧ GSpec Try.prog 36 [c.av] true (int (limit c)) [] ∧ decide (pagesB c l + (1 : Int) ≤ limit c) = false) ?_ (by kernel_rfl) (by kernel_rfl)
    exact ⟨(@ref13usual (c) (l)),(fun hg => by (try simp only [bs] at hg); exact @ref7Asks (c) (hd) (by (try simp only [bs] at hg); assumption)),‹_›,rfl,(@ref13Pages (c) (l)),(@ref3Size (hd) ‹_›),(@refNeed (c) (sizeH hd)),‹_›,rfl,(by exact wrapI2 rfl (by omega) (by omega)),(@refLimit (c)),(by grind [])⟩
   ·have hc1p := hc1
    simp only [bs] at hc1p
    refine gspec_ofE [((11 : Nat),[Hint.call true (Sx.bool (validB c && liveOk l)) []]),((16 : Nat),[Hint.call true (Sx.bool (asksH c hd)) []]),((18 : Nat),[Hint.br false]),((21 : Nat),[Hint.call true (int (pagesB c l)) []]),((24 : Nat),[Hint.call true (int (sizeH hd)) []]),((25 : Nat),[Hint.call true (int (need c (sizeH hd))) []]),((27 : Nat),[Hint.br false]),((35 : Nat),[Hint.int (pagesB c l + need c (sizeH hd))]),((37 : Nat),[Hint.call true (int (limit c)) []]),((45 : Nat),[Hint.int (pagesB c l + (1 : Int))]),((47 : Nat),[Hint.int (need c (sizeH hd) - (1 : Int))])] [] [] (by decide) Try.func19 [false,false,false,false,false,false,false,false,false,false,false,false,false,false,true] (φ := GSpec Try.prog 34 [c.av,l.av] true (Sx.bool (validB c && liveOk l)) [] ∧ ((!!(validB c && liveOk l)) = true → GSpec Try.prog 8 [c.av,hd.av] true (Sx.bool (asksH c hd)) []) ∧ (!(validB c && liveOk l) || !asksH c hd) = false ∧ false = false ∧ GSpec Try.prog 17 [c.av,l.av] true (int (pagesB c l)) [] ∧ GSpec Try.prog 25 [hd.av] true (int (sizeH hd)) [] ∧ GSpec Try.prog 11 [c.av,int (sizeH hd)] true (int (need c (sizeH hd))) [] ∧ (need c (sizeH hd) == (0 : Int)) = false ∧ false = false ∧ IntKind.i64.wrap (pagesB c l + need c (sizeH hd)) = pagesB c l + need c (sizeH hd) ∧ GSpec Try.prog 36 [c.av] true (int (limit c)) [] ∧ (decide (pagesB c l + need c (sizeH hd) ≤ limit c) = true → IntKind.i64.wrap (pagesB c l + (1 : Int)) = pagesB c l + (1 : Int)) ∧ (decide (pagesB c l + need c (sizeH hd) ≤ limit c) = true → IntKind.i64.wrap (need c (sizeH hd) - (1 : Int)) = need c (sizeH hd) - (1 : Int)) ∧ (decide (pagesB c l + need c (sizeH hd) ≤ limit c) && decide (IntKind.i64.wrap ((pagesB c l + (1 : Int)) * (need c (sizeH hd) - (1 : Int))) < IntKind.i64.wrap (c.pg - pagesB c l))) = false) ?_ (by kernel_rfl) (by kernel_rfl)
    exact ⟨(@ref13usual (c) (l)),(fun hg => by (try simp only [bs] at hg); exact @ref7Asks (c) (hd) (by (try simp only [bs] at hg); assumption)),‹_›,rfl,(@ref13Pages (c) (l)),(@ref3Size (hd) ‹_›),(@refNeed (c) (sizeH hd)),‹_›,rfl,(by exact wrapI2 rfl (by omega) (by omega)),(@refLimit (c)),(by intro hg; (try simp only [bs] at hg); exact wrapI2 rfl (by omega) (by omega)),(by intro hg; (try simp only [bs] at hg); exact wrapI2 rfl (by omega) (by omega)),(by grind [])⟩
theorem law13given (l : Live) : GSpec Try.prog 16 [l.av] true l.av [] := by
 refine gspec_ofE [] [] [] (by decide) Try.func16 [] (φ := True) ?_ (by kernel_rfl) (by kernel_rfl)
 exact trivial
theorem law13awake : GSpec Try.prog 14 [] true (bool true) [] := by
 have e1 : pagesB ⟨16,8⟩ ⟨0,0,13,0,0⟩ = 2 := by decide +kernel
 have e2 : sureB ⟨16,8⟩ ⟨0,0,0,0,0⟩ ⟨3,3,0⟩ = true := by decide +kernel
 refine gspec_ofE [((5 : Nat),[Hint.call true (int (pagesB (Conf.mk (16 : Int) (8 : Int)) (Live.mk (0 : Int) (0 : Int) (13 : Int) (0 : Int) (0 : Int)))) []]),((11 : Nat),[Hint.call true (Sx.bool (sureB (Conf.mk (16 : Int) (8 : Int)) (Live.mk (0 : Int) (0 : Int) (0 : Int) (0 : Int) (0 : Int)) (Header.mk (3 : Int) (3 : Int) (0 : Int)))) []])] [] [] (by decide) Try.func14 [] (φ := GSpec Try.prog 15 [(Conf.mk (16 : Int) (8 : Int)).av,(Live.mk (0 : Int) (0 : Int) (13 : Int) (0 : Int) (0 : Int)).av] true (int (pagesB (Conf.mk (16 : Int) (8 : Int)) (Live.mk (0 : Int) (0 : Int) (13 : Int) (0 : Int) (0 : Int)))) [] ∧ ((pagesB (Conf.mk (16 : Int) (8 : Int)) (Live.mk (0 : Int) (0 : Int) (13 : Int) (0 : Int) (0 : Int)) == (2 : Int)) = true → GSpec Try.prog 18 [(Conf.mk (16 : Int) (8 : Int)).av,(Live.mk (0 : Int) (0 : Int) (0 : Int) (0 : Int) (0 : Int)).av,(Header.mk (3 : Int) (3 : Int) (0 : Int)).av] true (Sx.bool (sureB (Conf.mk (16 : Int) (8 : Int)) (Live.mk (0 : Int) (0 : Int) (0 : Int) (0 : Int) (0 : Int)) (Header.mk (3 : Int) (3 : Int) (0 : Int)))) [])) ?_ (by kernel_rfl) (by kernel_rfl)
 exact ⟨(@boundPages (Conf.mk (16 : Int) (8 : Int)) (Live.mk (0 : Int) (0 : Int) (13 : Int) (0 : Int) (0 : Int))),(fun hg => by (try simp only [bs] at hg); exact @boundSure (Conf.mk (16 : Int) (8 : Int)) (Live.mk (0 : Int) (0 : Int) (0 : Int) (0 : Int) (0 : Int)) (Header.mk (3 : Int) (3 : Int) (0 : Int)) (by (try simp only [bs] at hg); (simp only [bs]; omega)))⟩
theorem lawBoundPages (c : Conf) (l : Live) (hd : Header) (hm : 0 ≤ hd.map ∧ hd.map ≤ 4294967295) : GSpec Try.prog 5 [c.av,l.av,hd.av] true (bool true) [] := by
 refine gspec_ofE [((7 : Nat),[Hint.call true (Sx.bool true) []]),((11 : Nat),[Hint.call true l.av []]),((12 : Nat),[Hint.call true (int (pagesB c l)) []]),((15 : Nat),[Hint.call true (int (pagesB c l)) []]),((21 : Nat),[Hint.call true l.av []]),((23 : Nat),[Hint.call true (Sx.bool (sureB c l hd)) []]),((27 : Nat),[Hint.call true (Sx.bool (sureB c l hd)) []])] [] [] (by decide) Try.func5 [false,false,false,false,false,false,false,false,false,false,false,false,false,false,false,false,false,false,true] (φ := GSpec Try.prog 14 [] true (Sx.bool true) [] ∧ (true = true → GSpec Try.prog 16 [l.av] true l.av []) ∧ (true = true → GSpec Try.prog 15 [c.av,l.av] true (int (pagesB c l)) []) ∧ (true = true → GSpec Try.prog 17 [c.av,l.av] true (int (pagesB c l)) []) ∧ ((true && pagesB c l == pagesB c l) = true → GSpec Try.prog 16 [l.av] true l.av []) ∧ ((true && pagesB c l == pagesB c l) = true → GSpec Try.prog 18 [c.av,l.av,hd.av] true (Sx.bool (sureB c l hd)) []) ∧ ((true && pagesB c l == pagesB c l) = true → GSpec Try.prog 19 [c.av,l.av,hd.av] true (Sx.bool (sureB c l hd)) []) ∧ (pagesB c l == pagesB c l && sureB c l hd == sureB c l hd) = true) ?_ (by kernel_rfl) (by kernel_rfl)
 exact ⟨(@law13awake ),(fun hg => by (try simp only [bs] at hg); exact @law13given (l)),(fun hg => by (try simp only [bs] at hg); exact @boundPages (c) (l)),(fun hg => by (try simp only [bs] at hg); exact @ref13Pages (c) (l)),(fun hg => by (try simp only [bs] at hg); exact @law13given (l)),(fun hg => by (try simp only [bs] at hg); exact @boundSure (c) (l) (hd) (by (try simp only [bs] at hg); assumption)),(fun hg => by (try simp only [bs] at hg); exact @ref13Sure (c) (l) (hd) (by (try simp only [bs] at hg); assumption)),(by simp only [bs, *,true_or,or_true,true_and,and_true,not_true_eq_false,not_false_eq_true,Bool.true_eq_false,Bool.false_eq_true])⟩
end Go.Proofs.Yteppchpkbhikdaa
namespace Go.Proofs.Yteppchpkbhikdaa
open Go.Sx Go.RowKit
def liveD (l : Live) : List DV := [dint l.objects,dint l.words,dint l.small,dint l.large,dint l.pinned]
theorem shp_live {n : Nat} {l : List DV} (h : shp Try.prog (n + 2) 44 l) : ∃ x : Live,l = liveD x := by
 have e : shp Try.prog (n + 2) 44 l = (∃ a b,l = a ++ b ∧ (∃ x : Int,a = [.sc (.int .i64 x)] ∧ (Lit.int .i64 x).wf = true) ∧ ∃ a' b',b = a' ++ b' ∧ (∃ x : Int,a' = [.sc (.int .i64 x)] ∧ (Lit.int .i64 x).wf = true) ∧
  ∃ a2 b2,b' = a2 ++ b2 ∧ (∃ x : Int,a2 = [.sc (.int .i64 x)] ∧ (Lit.int .i64 x).wf = true) ∧ ∃ a3 b3,b2 = a3 ++ b3 ∧ (∃ x : Int,a3 = [.sc (.int .i64 x)] ∧ (Lit.int .i64 x).wf = true) ∧
  ∃ a4 b4,b3 = a4 ++ b4 ∧ (∃ x : Int,a4 = [.sc (.int .i64 x)] ∧ (Lit.int .i64 x).wf = true) ∧ b4 = []) := by kernel_rfl
 rw [e] at h
 obtain ⟨a,b,rfl,⟨x,rfl,_⟩,a',b',rfl,⟨y,rfl,_⟩,a2,b2,rfl,⟨z,rfl,_⟩,a3,b3,rfl,⟨u,rfl,_⟩,a4,b4,rfl,⟨v,rfl,_⟩,rfl⟩ := h
 exact ⟨⟨x,y,z,u,v⟩,rfl⟩
theorem boundPages_lifted (os : Os) (started : os.Started) (H : Type) (enc : TypeId × Value → H) :
  ReturnsInHanded {} Try.checked os 5 .any (Rows.boundPagesSpec.pre6 enc Try.prog Try.f5 Rows.boundPagesRow.domain false) (Rows.boundPagesSpec.post enc Try.prog Try.f5 false true false false) := by
 refine law_of_gspec (C := Try.checked) (tb := 4) 5 own0 started (by kernel_rfl) Try.func5
  (ChangeSpec.witness6 (enc := enc) (C := Try.checked) false ⟨#[],#[.agg #[.int .i64 0,.int .i64 0],.agg #[.int .i64 0,.int .i64 0,.int .i64 0,.int .i64 0,.int .i64 0],.agg #[.int .i64 0,.int .i64 0,.int .u32 0]],[]⟩ 8 (by kernel_rfl) (by kernel_rfl) (by kernel_rfl) (by kernel_rfl))
  laidOut0 (by kernel_rfl) (by kernel_rfl) (by kernel_rfl) (by kernel_rfl) rfl (fun ds hd => ?_) (fun ls hl h => ?_)
 ·match ds,hd with
  | [a,b,c],_ => rfl
 ·match ls,hl with
  | [b,p,q],_ =>
   obtain ⟨c,rfl⟩ := shp_conf (n := 3) (h 0 23 b (by kernel_rfl) rfl)
   obtain ⟨l,rfl⟩ := shp_live (n := 3) (h 1 44 p (by kernel_rfl) rfl)
   obtain ⟨hd,rfl,hm⟩ := shp_header (n := 3) (h 2 26 q (by kernel_rfl) rfl)
   have e : zipAv Try.prog Try.f5.params.toList [[dint c.pw,dint c.pg],liveD l,headerD hd] = [c.av,l.av,hd.av] := by kernel_rfl
   exact ⟨true,e ▸ lawBoundPages c l hd hm⟩
theorem boundPages_holds : Rows.BoundPagesSaid :=
 OpenClaim.holds_of_wide 5 Try.f5 rfl rfl rfl rfl rfl rfl rfl ⟨rfl,rfl,rfl,rfl,rfl⟩ rfl rfl rfl rfl rfl (by kernel_rfl) Try.func5 (by kernel_rfl)
  (of_decide_eq_true (by kernel_rfl)) (by unfold Func.isWrapper; first | (rw [if_pos (by decide +kernel)]; kernel_rfl) | (rw [if_neg (by decide +kernel)]; exact ⟨rfl,rfl⟩))
  (fun os started H enc _ => boundPages_lifted os started H enc)
end Go.Proofs.Yteppchpkbhikdaa
