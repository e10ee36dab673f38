/-
 The statement AllocKeeps: part 10.
 Conditions: none.
-/
import Derived.Test.YtjflpmnenhdeeaaGreatE9
set_option maxRecDepth 100000
set_option maxHeartbeats 2000000
set_option linter.all false
namespace Go.Proofs.YtjflpmnenhdeeaaGreat
open Go.Sx
def Work.in1 (w : Work) (a : Int) : Work := ⟨⟨(w.fwd (loadA w.heap.words a).1).1.heap.conf,(Z0F (w.fwd (loadA w.heap.words a).1).1.heap.words a (w.fwd (loadA w.heap.words a).1).2.1).1,(w.fwd (loadA w.heap.words a).1).1.heap.pages,(w.fwd (loadA w.heap.words a).1).1.heap.space,(w.fwd (loadA w.heap.words a).1).1.heap.bump⟩,(w.fwd (loadA w.heap.words a).1).1.old,(w.fwd (loadA w.heap.words a).1).1.taken,(w.fwd (loadA w.heap.words a).1).1.queue,(w.fwd (loadA w.heap.words a).1).1.scanned,(w.fwd (loadA w.heap.words a).1).1.rep⟩
def innN (w : Work) (a : Int) (l : List Int) : Nat → Work
 | 0 => w
 | k + 1 => (innN w a l k).in1 (a + 1 + l.getD k default)
def innE (w : Work) (a : Int) (l : List Int) (k : Nat) : Int := ((innN w a l k).fwd (loadA (innN w a l k).heap.words (a + 1 + l.getD k default)).1).2.2
def Z2T (w : Work) : Int := w.queue.getD w.scanned.toNat default
def Z1L (w : Work) : List Int := Z0f (hdW w (Z2T w))
def Zc5 (w : Work) (n : Int) : Work := ⟨w.heap,w.old,w.taken,w.queue,w.scanned + 1,⟨w.rep.copied,w.rep.kept,w.rep.filled,w.rep.freed,w.rep.cleared,w.rep.steps + 1 + n⟩⟩
def Z0I (w : Work) : Work × Bool × Int :=
 if w.scanned < w.queue.length then
  match (List.range (Z1L w).length).find? (fun k => decide (innE w (Z2T w) (Z1L w) k ≠ 0)) with
  | none => (Zc5 (innN w (Z2T w) (Z1L w) (Z1L w).length) (Z1L w).length,true,0)
  | some k => (noWork,false,innE w (Z2T w) (Z1L w) k)
 else (w,false,0)
theorem ZjO {w : Work} (hw : WkOk w) (a : Int) (e : (w.fwd (loadA w.heap.words a).1).2.2 = 0) : WkOk (w.in1 a) ∧ w.queue.length ≤ (w.in1 a).queue.length ∧ (w.in1 a).scanned = w.scanned ∧ (w.in1 a).rep.steps = w.rep.steps := by
 have hf := ZeR hw _ e
 have hl := Zax (w.fwd (loadA w.heap.words a).1).1.heap.words a (w.fwd (loadA w.heap.words a).1).2.1
 have hl2 := hf.1.wl
 exact ⟨hf.1.withWords (Z6Q hf.1.words (by omega) a) (by omega),hf.2.2.2.1,hf.2.2.2.2.1,hf.2.2.2.2.2⟩
theorem Z3P {w : Work} (hw : WkOk w) (a : Int) (l : List Int) : ∀ k,(∀ j,j < k → innE w a l j = 0) → WkOk (innN w a l k) ∧ w.queue.length ≤ (innN w a l k).queue.length ∧ (innN w a l k).scanned = w.scanned ∧ (innN w a l k).rep.steps = w.rep.steps
 | 0,_ => ⟨hw,Nat.le_refl _,rfl,rfl⟩
 | k + 1,h => by
  have ih := Z3P hw a l k (fun j hj => h j (by omega))
  have hi := ZjO ih.1 (a + 1 + l.getD k default) (h k (by omega))
  exact ⟨hi.1,Nat.le_trans ih.2.1 hi.2.1,hi.2.2.1.trans ih.2.2.1,hi.2.2.2.trans ih.2.2.2⟩
theorem Z4j (h : Header) : ∀ i,∀ x ∈ Z1N h i,0 ≤ x ∧ x < i
 | 0,x,hx => by simp [Z1N] at hx
 | i + 1,x,hx => by
  have ih := Z4j h i
  simp only [Z1N] at hx
  split at hx
  ·rcases List.mem_append.1 hx with hx | hx
   ·have := ih x hx; omega
   ·simp at hx; omega
  ·have := ih x hx; omega
theorem Z4h (h : Header) : (Z0f h).length ≤ 255 ∧ ∀ x ∈ Z0f h,0 ≤ x ∧ x ≤ 255 := by
 unfold Z0f
 split
 ·rename_i hv
  have := validH_iff.1 hv
  have hl := Z6e h h.length.toNat
  exact ⟨by omega,fun x hx => by have := Z4j h _ x hx; omega⟩
 ·simp
theorem ZdU (w : Work) (hw : WkOk w) (hs : ¬ w.scanned < w.queue.length) : GSpec Tryz.prog 160 [w.av] false (.tu [w.av,bool false,int 0]) [] := by
 have h3 := hw.mu
 exact gF [] Tryz.func160 [] (Fl 18 wdv w.queue (Ftb 19 (decide ((↑w.queue.length : Int)≤w.scanned)) Fz))
def stpL (w : Work) (a : Int) (l : List Int) (k : Nat) : Tg := ⟨tm 90 [(1,.pt 8001 0 0),(2,.pt 8002 0 0),(3,bool false),(4,int 0),(5,u64 a),(6,Z1B l),(7,int k)],[(8002,.box 176 [int 0,int 0,.d (.sl 0 []),.d (.sl 0 []),int 0,int 0,.d (.sl 0 []),.d (.sl 0 []),.d (.sl 0 []),int 0,int 0,int 0,int 0,int 0,int 0,int 0]),(8001,.box 176 w.cells)],60⟩
section
variable (w : Work) (a : Int) (l : List Int) (k : Nat) (hw : WkOk w) (ha : 0 ≤ a ∧ a ≤ 16384) (hl : l.length ≤ 255) (hr : 0 ≤ l.getD k default ∧ l.getD k default ≤ 255) (hk : k < l.length)
include hw ha hl hr hk
theorem ZcX (e : (w.fwd (loadA w.heap.words (a + 1 + l.getD k default)).1).2.2 = 0) : CSpec Tryz.prog (rndF Tryz.f160 0) (stpL w a l k).st .nrm (stpL (w.in1 (a + 1 + l.getD k default)) a l (k + 1)).st := by
 have h1 := hw.wl
 have h2 := Z0S hw.words (a + 1 + l.getD k default)
 have h3 := ZeR hw _ e
 have h4 := h3.1.wl
 exact sF [] [] (Fl 33 idv l (Ftb 34 (decide ((↑k : Int) < (↑l.length : Int))) (Fv 38 (a + 1) (Fek 41 idv l (↑k) k (Fv 43 (l.getD k default) (Fv 44 (a + 1 + l.getD k default) (Fc 50 (@Z1H w.heap.words (a + 1 + l.getD k default) (by omega) (by omega)) (Fc 56 (@Z3g w ((loadA w.heap.words (a + 1 + l.getD k default)).fst) ‹_› ‹_›) (Ffb 61 ((w.fwd (loadA w.heap.words (a + 1 + l.getD k default)).fst).snd.snd != 0) (Fc 71 (@Z7e ((w.fwd (loadA w.heap.words (a + 1 + l.getD k default)).fst).fst.heap.words) (a + 1 + l.getD k default) ((w.fwd (loadA w.heap.words (a + 1 + l.getD k default)).fst).snd.fst) (by omega) (by omega)) (Fx 36 k Fz)))))))))))
theorem Zie (e : ¬ (w.fwd (loadA w.heap.words (a + 1 + l.getD k default)).1).2.2 = 0) : CSpec Tryz.prog (rndF Tryz.f160 0) (stpL w a l k).st .ret (Tg.st ⟨tm 90 [(2,.pt 8002 0 0),(3,bool false),(4,int (w.fwd (loadA w.heap.words (a + 1 + l.getD k default)).1).2.2)],[(8002,.box 176 [int 0,int 0,.d (.sl 0 []),.d (.sl 0 []),int 0,int 0,.d (.sl 0 []),.d (.sl 0 []),.d (.sl 0 []),int 0,int 0,int 0,int 0,int 0,int 0,int 0])],60⟩) := by
 have h1 := hw.wl
 have h2 := Z0S hw.words (a + 1 + l.getD k default)
 exact sF [] [] (Fl 33 idv l (Ftb 34 (decide ((↑k : Int) < (↑l.length : Int))) (Fv 38 (a + 1) (Fek 41 idv l (↑k) k (Fv 43 (l.getD k default) (Fv 44 (a + 1 + l.getD k default) (Fc 50 (@Z1H w.heap.words (a + 1 + l.getD k default) (by omega) (by omega)) (Fc 56 (@Z3g w ((loadA w.heap.words (a + 1 + l.getD k default)).fst) ‹_› ‹_›) (Ftb 61 ((w.fwd (loadA w.heap.words (a + 1 + l.getD k default)).fst).snd.snd != 0) Fz)))))))))
end
theorem Zk2 (w : Work) (a : Int) (l : List Int) : CSpec Tryz.prog (rndF Tryz.f160 0) (stpL w a l l.length).st (.ext 0) (Tg.st ⟨tm 90 [(1,.pt 8001 0 0),(2,.pt 8002 0 0),(6,Z1B l)],[(8002,.box 176 [int 0,int 0,.d (.sl 0 []),.d (.sl 0 []),int 0,int 0,.d (.sl 0 []),.d (.sl 0 []),.d (.sl 0 []),int 0,int 0,int 0,int 0,int 0,int 0,int 0]),(8001,.box 176 w.cells)],60⟩) := by
 exact sF [] [] (Fl 33 idv l (Ffb 34 (decide ((↑l.length : Int) < (↑l.length : Int))) Fz))
section
variable (w : Work) (a : Int) (l : List Int) (hw : WkOk w) (ha : 0 ≤ a ∧ a ≤ 16384) (hl : l.length ≤ 255) (hr : ∀ x ∈ l,0 ≤ x ∧ x ≤ 255)
include hw ha hl hr
theorem Zjs (hb : (List.range l.length).find? (fun k => decide (innE w a l k ≠ 0)) = none) : CSpec Tryz.prog (blkF Tryz.f160 0) (Tg.st ⟨tm 90 [(1,.pt 8001 0 0),(2,.pt 8002 0 0),(3,bool false),(4,int 0),(5,u64 a),(6,Z1B l),(7,int 0)],[(8002,.box 176 [int 0,int 0,.d (.sl 0 []),.d (.sl 0 []),int 0,int 0,.d (.sl 0 []),.d (.sl 0 []),.d (.sl 0 []),int 0,int 0,int 0,int 0,int 0,int 0,int 0]),(8001,.box 176 w.cells)],60⟩) .nrm (Tg.st ⟨tm 90 [(1,.pt 8001 0 0),(2,.pt 8002 0 0),(6,Z1B l)],[(8002,.box 176 [int 0,int 0,.d (.sl 0 []),.d (.sl 0 []),int 0,int 0,.d (.sl 0 []),.d (.sl 0 []),.d (.sl 0 []),int 0,int 0,int 0,int 0,int 0,int 0,int 0]),(8001,.box 176 (innN w a l l.length).cells)],60⟩) := by
 have h0 : ∀ j,j < l.length → innE w a l j = 0 := fun j hj => by
  have := List.find?_eq_none.1 hb j (List.mem_range.2 hj)
  simpa using this
 exact Z0d (S := fun k => (stpL (innN w a l k) a l k).st) l.length (by kernel_rfl) (fun k hk => ZcX _ a l k (Z3P hw a l k fun j hj => h0 j (by omega)).1 ha hl (hr _ (getD_mem_iff.2 ⟨k,hk,rfl⟩)) hk (h0 k hk)) (Zk2 _ a l)
theorem ZhS (i : Nat) (hb : (List.range l.length).find? (fun k => decide (innE w a l k ≠ 0)) = some i) : CSpec Tryz.prog (blkF Tryz.f160 0) (Tg.st ⟨tm 90 [(1,.pt 8001 0 0),(2,.pt 8002 0 0),(3,bool false),(4,int 0),(5,u64 a),(6,Z1B l),(7,int 0)],[(8002,.box 176 [int 0,int 0,.d (.sl 0 []),.d (.sl 0 []),int 0,int 0,.d (.sl 0 []),.d (.sl 0 []),.d (.sl 0 []),int 0,int 0,int 0,int 0,int 0,int 0,int 0]),(8001,.box 176 w.cells)],60⟩) .ret (Tg.st ⟨tm 90 [(2,.pt 8002 0 0),(3,bool false),(4,int (innE w a l i))],[(8002,.box 176 [int 0,int 0,.d (.sl 0 []),.d (.sl 0 []),int 0,int 0,.d (.sl 0 []),.d (.sl 0 []),.d (.sl 0 []),int 0,int 0,int 0,int 0,int 0,int 0,int 0])],60⟩) := by
 obtain ⟨h1,h2,h3⟩ := List.find?_range_eq_some.1 hb
 have h2 := List.mem_range.1 h2
 have h0 : ∀ j,j < i → innE w a l j = 0 := fun j hj => by simpa using h3 j hj
 exact Z0T (S := fun k => (stpL (innN w a l k) a l k).st) i (by kernel_rfl) (fun k hk => ZcX _ a l k (Z3P hw a l k fun j hj => h0 j (by omega)).1 ha hl (hr _ (getD_mem_iff.2 ⟨k,by omega,rfl⟩)) (by omega) (h0 k hk)) (Zie _ a l i (Z3P hw a l i h0).1 ha hl (hr _ (getD_mem_iff.2 ⟨i,h2,rfl⟩)) h2 (of_decide_eq_true h1))
end
theorem Z7q (w : Work) (hw : WkOk w) : GSpec Tryz.prog 160 [w.av] false (.tu [(Z0I w).1.av,bool (Z0I w).2.1,int (Z0I w).2.2]) [] := by
 by_cases hs : w.scanned < w.queue.length
 ·have h2 := hw.sc
  have h1 := hw.q _ (getD_mem_iff.2 ⟨w.scanned.toNat,by omega,rfl⟩)
  have h3 := hw.mu
  have h4 := Z2k (loadA w.heap.words (w.queue.getD w.scanned.toNat default)).1 (Z0S hw.words _).1
  have h5 : hdW w (w.queue.getD w.scanned.toNat default) = (decodeH (loadA w.heap.words (w.queue.getD w.scanned.toNat default)).1).1 := rfl
  have h6 := Z4h (hdW w (w.queue.getD w.scanned.toNat default))
  rw [← h5] at h4
  unfold Z0I
  rw [if_pos hs]
  cases hb : (List.range (Z1L w).length).find? (fun k => decide (innE w (Z2T w) (Z1L w) k ≠ 0)) with
  | none =>
   have h0 : ∀ j,j < (Z1L w).length → innE w (Z2T w) (Z1L w) j = 0 := fun j hj => by
    have := List.find?_eq_none.1 hb j (List.mem_range.2 hj)
    simpa using this
   have k1 := Z3P hw (Z2T w) (Z1L w) (Z1L w).length h0
   have k2 := k1.1.rs
   have k3 := k1.1.sc
   have k4 := k1.1.mu
   unfold Z1L Z2T at *
   exact gF [] Tryz.func160 [] (Fl 18 wdv w.queue (Ffb 19 (decide ((↑w.queue.length : Int)≤w.scanned)) (Fe 25 wdv w.queue w.scanned (Fc 29 (@ZdE w (w.queue.getD w.scanned.toNat default) ‹_› (by omega)) (Fc 30 (@Z6n (hdW w (w.queue.getD w.scanned.toNat default)) ‹_›) (Fu (@Zjs w (w.queue.getD w.scanned.toNat default) (Z0f (hdW w (w.queue.getD w.scanned.toNat default))) ‹_› ‹_› (by omega) (by grind [Zc5]) ‹_›) (Fi 78 ((innN w (w.queue.getD w.scanned.toNat default) (Z0f (hdW w (w.queue.getD w.scanned.toNat default))) (Z0f (hdW w (w.queue.getD w.scanned.toNat default))).length).scanned + 1) (Fi 83 ((innN w (w.queue.getD w.scanned.toNat default) (Z0f (hdW w (w.queue.getD w.scanned.toNat default))) (Z0f (hdW w (w.queue.getD w.scanned.toNat default))).length).rep.steps + 1) (Fl 85 idv (Z0f (hdW w (w.queue.getD w.scanned.toNat default))) (Fi 86 ((innN w (w.queue.getD w.scanned.toNat default) (Z0f (hdW w (w.queue.getD w.scanned.toNat default))) (Z0f (hdW w (w.queue.getD w.scanned.toNat default))).length).rep.steps + 1 + (↑(Z0f (hdW w (w.queue.getD w.scanned.toNat default))).length : Int)) Fz))))))))))
  | some k =>
   unfold Z1L Z2T at *
   exact gF [] Tryz.func160 [] (Fl 18 wdv w.queue (Ffb 19 (decide ((↑w.queue.length : Int)≤w.scanned)) (Fe 25 wdv w.queue w.scanned (Fc 29 (@ZdE w (w.queue.getD w.scanned.toNat default) ‹_› (by omega)) (Fc 30 (@Z6n (hdW w (w.queue.getD w.scanned.toNat default)) ‹_›) (Fu (@ZhS w (w.queue.getD w.scanned.toNat default) (Z0f (hdW w (w.queue.getD w.scanned.toNat default))) ‹_› ‹_› (by omega) (by grind [noWork,noHeap]) k ‹_›) (Fnl (Fnl (Fnl (Fnl (Fnl Fz)))))))))))
 ·have e : Z0I w = (w,false,0) := by rw [Z0I,if_neg hs]
  rw [e]
  exact ZdU w hw hs
theorem ZcZ {w : Work} (hw : WkOk w) (e : (Z0I w).2.2 = 0) : WkOk (Z0I w).1 ∧ ((Z0I w).2.1 = true → (Z0I w).1.scanned = w.scanned + 1) := by
 by_cases hs : w.scanned < w.queue.length
 ·unfold Z0I at e ⊢
  rw [if_pos hs] at e ⊢
  cases hb : (List.range (Z1L w).length).find? (fun k => decide (innE w (Z2T w) (Z1L w) k ≠ 0)) with
  | none =>
   have h0 : ∀ j,j < (Z1L w).length → innE w (Z2T w) (Z1L w) j = 0 := fun j hj => by
    have := List.find?_eq_none.1 hb j (List.mem_range.2 hj)
    simpa using this
   have k1 := Z3P hw (Z2T w) (Z1L w) (Z1L w).length h0
   have k2 := k1.1.rs
   have k3 := k1.1.sc
   have k5 := (Z4h (hdW w (Z2T w))).1
   have k6 := hw.sc
   simp only
   refine ⟨⟨k1.1.words,k1.1.wl,k1.1.conf,k1.1.pl,k1.1.sp,k1.1.ol,k1.1.o,k1.1.tk,k1.1.tl,k1.1.q,k1.1.us,k1.1.mu, ?_,k1.1.rk, ?_,k1.1.r0⟩, ?_⟩
   ·simp only [Zc5]; omega
   ·simp only [Zc5]; unfold Z1L at *; omega
   ·intro _; simp only [Zc5]; omega
  | some k =>
   simp only [hb] at e
   have := (List.find?_range_eq_some.1 hb).1
   simp [e] at this
 ·have e : Z0I w = (w,false,0) := by rw [Z0I,if_neg hs]
  rw [e]
  exact ⟨hw,fun h => by cases h⟩
def itW (w : Work) : Nat → Work
 | 0 => w
 | k + 1 => (Z0I (itW w k)).1
def bndW (w : Work) : Nat := 1000002 + w.old.length
def Z2Y (w : Work) (k : Nat) : Bool := decide ((Z0I (itW w k)).2.2 ≠ 0 ∨ (Z0I (itW w k)).2.1 = false)
def allF (w : Work) : Work × Int := match (List.range (bndW w)).find? (Z2Y w) with
 | none => (w,0)
 | some k => if (Z0I (itW w k)).2.2 = 0 then ((Z0I (itW w k)).1,0) else (noWork,(Z0I (itW w k)).2.2)
theorem Z3v {w : Work} (hw : WkOk w) : ∀ k,(∀ j,j < k → Z2Y w j = false) → WkOk (itW w k) ∧ (itW w k).scanned = w.scanned + k
 | 0,_ => ⟨hw,by simp [itW]⟩
 | k + 1,h => by
  have ih := Z3v hw k (fun j hj => h j (by omega))
  have hk := h k (by omega)
  simp only [Z2Y,decide_eq_false_iff_not,not_or,Decidable.not_not] at hk
  have hs := ZcZ ih.1 hk.1
  refine ⟨hs.1, ?_⟩
  have := hs.2 (by simpa using hk.2)
  simp only [itW]
  omega
theorem Z4e {w : Work} (hw : WkOk w) : ∃ k,(List.range (bndW w)).find? (Z2Y w) = some k := by
 cases hb : (List.range (bndW w)).find? (Z2Y w) with
 | some k => exact ⟨k,rfl⟩
 | none =>
  exfalso
  have h0 : ∀ j,j < 1000001 → Z2Y w j = false := fun j hj => by
   have := List.find?_eq_none.1 hb j (List.mem_range.2 (by unfold bndW; omega))
   simpa using this
  have k := Z3v hw 1000001 h0
  have h1 := k.1.sc
  have h2 := k.1.mu
  have h3 := hw.sc
  omega
def allL (w : Work) : Tg := ⟨tm 21 [(1,.pt 8001 0 0),(2,.pt 8002 0 0),(3,int 0)],[(8002,.box 176 [int 0,int 0,.d (.sl 0 []),.d (.sl 0 []),int 0,int 0,.d (.sl 0 []),.d (.sl 0 []),.d (.sl 0 []),int 0,int 0,int 0,int 0,int 0,int 0,int 0]),(8001,.box 176 w.cells)],60⟩
section
variable (w : Work) (hw : WkOk w)
include hw
theorem Zdw (e : (Z0I w).2.2 = 0) (m : (Z0I w).2.1 = true) : CSpec Tryz.prog (rndF Tryz.f141 0) (allL w).st .nrm (allL (Z0I w).1).st := by
 exact sF [] [] (Fc 9 (@Z7q w ‹_›) (Ffb 14 ((Z0I w).snd.snd != 0) (Ffb 19 (!(Z0I w).snd.fst) Fz)))
theorem Zjp (e : (Z0I w).2.2 = 0) (m : (Z0I w).2.1 = false) : CSpec Tryz.prog (rndF Tryz.f141 0) (allL w).st .ret (Tg.st ⟨tm 21 [(2,.pt 8002 0 0),(3,int 0)],[(8002,.box 176 (Z0I w).1.cells)],60⟩) := by
 exact sF [] [] (Fc 9 (@Z7q w ‹_›) (Ffb 14 ((Z0I w).snd.snd != 0) (Ftb 19 (!(Z0I w).snd.fst) Fz)))
theorem ZjH (e : ¬ (Z0I w).2.2 = 0) : CSpec Tryz.prog (rndF Tryz.f141 0) (allL w).st .ret (Tg.st ⟨tm 21 [(2,.pt 8002 0 0),(3,int (Z0I w).2.2)],[(8002,.box 176 [int 0,int 0,.d (.sl 0 []),.d (.sl 0 []),int 0,int 0,.d (.sl 0 []),.d (.sl 0 []),.d (.sl 0 []),int 0,int 0,int 0,int 0,int 0,int 0,int 0])],60⟩) := by
 exact sF [] [] (Fc 9 (@Z7q w ‹_›) (Ftb 14 ((Z0I w).snd.snd != 0) Fz))
theorem Zjk (k : Nat) (hb : (List.range (bndW w)).find? (Z2Y w) = some k) (e : (Z0I (itW w k)).2.2 = 0) : CSpec Tryz.prog (blkF Tryz.f141 0) (Tg.st ⟨tm 21 [(1,.pt 8001 0 0),(2,.pt 8002 0 0),(3,int 0)],[(8002,.box 176 [int 0,int 0,.d (.sl 0 []),.d (.sl 0 []),int 0,int 0,.d (.sl 0 []),.d (.sl 0 []),.d (.sl 0 []),int 0,int 0,int 0,int 0,int 0,int 0,int 0]),(8001,.box 176 w.cells)],60⟩) .ret (Tg.st ⟨tm 21 [(2,.pt 8002 0 0),(3,int 0)],[(8002,.box 176 (Z0I (itW w k)).1.cells)],60⟩) := by
 obtain ⟨h1,h2,h3⟩ := List.find?_range_eq_some.1 hb
 have h0 : ∀ j,j < k → Z2Y w j = false := fun j hj => by simpa using h3 j hj
 have m : (Z0I (itW w k)).2.1 = false := by
  simp only [Z2Y,decide_eq_true_eq,e] at h1
  simpa using h1
 exact Z0T (S := fun k => (allL (itW w k)).st) k (by kernel_rfl) (fun j hj => by
  have hk := h0 j hj
  simp only [Z2Y,decide_eq_false_iff_not,not_or,Decidable.not_not] at hk
  exact Zdw _ (Z3v hw j fun i hi => h0 i (by omega)).1 hk.1 (by simpa using hk.2)) (Zjp _ (Z3v hw k h0).1 e m)
theorem ZgT (k : Nat) (hb : (List.range (bndW w)).find? (Z2Y w) = some k) (e : ¬ (Z0I (itW w k)).2.2 = 0) : CSpec Tryz.prog (blkF Tryz.f141 0) (Tg.st ⟨tm 21 [(1,.pt 8001 0 0),(2,.pt 8002 0 0),(3,int 0)],[(8002,.box 176 [int 0,int 0,.d (.sl 0 []),.d (.sl 0 []),int 0,int 0,.d (.sl 0 []),.d (.sl 0 []),.d (.sl 0 []),int 0,int 0,int 0,int 0,int 0,int 0,int 0]),(8001,.box 176 w.cells)],60⟩) .ret (Tg.st ⟨tm 21 [(2,.pt 8002 0 0),(3,int (Z0I (itW w k)).2.2)],[(8002,.box 176 [int 0,int 0,.d (.sl 0 []),.d (.sl 0 []),int 0,int 0,.d (.sl 0 []),.d (.sl 0 []),.d (.sl 0 []),int 0,int 0,int 0,int 0,int 0,int 0,int 0])],60⟩) := by
 obtain ⟨h1,h2,h3⟩ := List.find?_range_eq_some.1 hb
 have h0 : ∀ j,j < k → Z2Y w j = false := fun j hj => by simpa using h3 j hj
 exact Z0T (S := fun k => (allL (itW w k)).st) k (by kernel_rfl) (fun j hj => by
  have hk := h0 j hj
  simp only [Z2Y,decide_eq_false_iff_not,not_or,Decidable.not_not] at hk
  exact Zdw _ (Z3v hw j fun i hi => h0 i (by omega)).1 hk.1 (by simpa using hk.2)) (ZjH _ (Z3v hw k h0).1 e)
theorem Za7 : GSpec Tryz.prog 141 [w.av] false (.tu [(allF w).1.av,int (allF w).2]) [] := by
 obtain ⟨k,hb⟩ := Z4e hw
 by_cases e : (Z0I (itW w k)).2.2 = 0
 ·have e7 : allF w = ((Z0I (itW w k)).1,0) := by rw [allF,hb]; simp only [if_pos e]
  rw [e7]
  exact gF [] Tryz.func141 [] (Fu (@Zjk w ‹_› k ‹_› ‹_›) Fz)
 ·have e7 : allF w = (noWork,(Z0I (itW w k)).2.2) := by rw [allF,hb]; simp only [if_neg e]
  rw [e7]
  exact gF [] Tryz.func141 [] (Fu (@ZgT w ‹_› k ‹_› ‹_›) (Fnl (Fnl (Fnl (Fnl (Fnl Fz))))))
omit hw in
theorem Zj6 (hw : WkOk w) (e : (allF w).2 = 0) : WkOk (allF w).1 := by
 obtain ⟨k,hb⟩ := Z4e hw
 obtain ⟨h1,h2,h3⟩ := List.find?_range_eq_some.1 hb
 have h0 : ∀ j,j < k → Z2Y w j = false := fun j hj => by simpa using h3 j hj
 unfold allF at e ⊢
 rw [hb] at e ⊢
 simp only at e ⊢
 split at e
 ·rename_i c
  rw [if_pos c]
  exact (ZcZ (Z3v hw k h0).1 c).1
 ·rename_i c
  exact absurd e c
end
def hlA (ws : List Int) (a : Int) : Int := (decodeH (loadA ws a).1).1.length
theorem Z0g (ws : List Int) (a : Int) : 0 ≤ hlA ws a ∧ hlA ws a ≤ 255 := by
 have := validH_iff.1 (Z2b (loadA ws a).1)
 exact ⟨this.2.2.1,this.2.2.2.1⟩
theorem Z1W {ws l : List Int} {a b : Int} (h : 4096 ≤ a ∧ a - 4096 + l.length ≤ ws.length) (hb : b < a ∨ a + l.length ≤ b) : loadA (Z0b ws a l).1 b = loadA ws b := by
 unfold Z0b
 rw [if_pos h]
 have hl : (spl ws (a - 4096).toNat l).length = ws.length := Z3n (by omega)
 unfold loadA
 simp only [hl]
 split
 ·have := Z8U (ws := ws) (l := l) (i := (a - 4096).toNat) (k := l.length) (by omega) (Nat.le_refl _) (b - 4096).toNat
  rw [Zal] at this
  rw [List.getD_eq_getElem?_getD,List.getD_eq_getElem?_getD,this]
  by_cases h1 : (b - 4096).toNat < (a - 4096).toNat
  ·rw [if_pos h1]
  ·rw [if_neg h1,if_neg (by omega)]
 ·rfl
theorem Z1R {ws l : List Int} {a b : Int} (h : 4096 ≤ a ∧ a - 4096 + l.length ≤ ws.length) (hb : a ≤ b ∧ b < a + l.length) : loadA (Z0b ws a l).1 b = (l.getD (b - a).toNat 0,0) := by
 unfold Z0b
 rw [if_pos h]
 have hl : (spl ws (a - 4096).toNat l).length = ws.length := Z3n (by omega)
 unfold loadA
 simp only [hl]
 rw [if_pos (by omega)]
 have := Z8U (ws := ws) (l := l) (i := (a - 4096).toNat) (k := l.length) (by omega) (Nat.le_refl _) (b - 4096).toNat
 rw [Zal] at this
 rw [List.getD_eq_getElem?_getD,List.getD_eq_getElem?_getD,this,if_neg (by omega),if_pos (by omega),show (b - 4096).toNat - (a - 4096).toNat = (b - a).toNat by omega]
theorem Z2m {ws : List Int} {a v : Int} (h : 4096 ≤ a ∧ a < 4096 + ws.length) : (Z0F ws a v).1.length = ws.length := by
 unfold Z0F Z0b
 rw [if_pos (by simp; omega)]
 exact Z3n (by simp; omega)
theorem Z0B {ws : List Int} {a b v : Int} (h : 4096 ≤ a ∧ a < 4096 + ws.length) (hb : b ≠ a) : loadA (Z0F ws a v).1 b = loadA ws b :=
 Z1W (by simp; omega) (by simp; omega)
theorem Z2w {ws : List Int} {a v : Int} (h : 4096 ≤ a ∧ a < 4096 + ws.length) : loadA (Z0F ws a v).1 a = (v,0) := by
 have := Z1R (ws := ws) (l := [v]) (a := a) (b := a) (by simp; omega) (by simp; omega)
 rw [Z0F,this]
 simp
theorem Z7O {ws : List Int} {a b n : Int} (hn : 1 ≤ n) (ha : 4096 ≤ a ∧ a - 4096 + n ≤ ws.length) (hb : 4096 ≤ b ∧ b - 4096 + n ≤ ws.length) :
  (moveA ws a b n).1.length = ws.length ∧ loadA (moveA ws a b n).1 a = ((loadA ws b).1,0) ∧ ∀ x,x < a ∨ a + n ≤ x → loadA (moveA ws a b n).1 x = loadA ws x := by
 have e1 : Z15 ws b n = ((ws.drop (b - 4096).toNat).take n.toNat,0) := by rw [Z15,if_neg (by omega),if_pos hb]
 have e2 : moveA ws a b n = Z0b ws a ((ws.drop (b - 4096).toNat).take n.toNat) := by rw [moveA,e1]; simp
 have hl : ((ws.drop (b - 4096).toNat).take n.toNat).length = n.toNat := by simp; omega
 rw [e2]
 refine ⟨?_, ?_, ?_⟩
 ·unfold Z0b
  rw [if_pos (by omega)]
  exact Z3n (by omega)
 ·rw [Z1R (by omega) (by omega)]
  congr 1
  unfold loadA
  rw [if_pos (by omega)]
  simp only [List.getD_eq_getElem?_getD,Int.sub_self,Int.toNat_zero]
  rw [List.getElem?_take_of_lt (by omega),List.getElem?_drop]
  simp
 ·intro x hx
  exact Z1W (by omega) (by omega)
theorem ZdQ (a : Int) : (decodeH (4 * a + 2)).1.length = 0 := by
 unfold decodeH
 rw [if_neg]
 ·rfl
 ·rintro ⟨h1,h2⟩
  unfold Z06 at h1 h2
  split at h2
  ·simp only [Z3S] at h2; omega
  ·simp only at h2; omega
def occP (p : Page) : Int := if p.kind = 0 then 0 else p.used
structure Inv (w : Work) : Prop where
 L : (w.heap.words.length : Int) = w.heap.conf.pw * w.heap.conf.pg
 r : ∀ a ∈ w.old ++ w.queue,4096 ≤ a ∧ a + hlA w.heap.words a < 4096 + w.heap.words.length
 s : ∀ a ∈ w.old ++ w.queue,∀ b ∈ w.old ++ w.queue,a < b → a + hlA w.heap.words a < b
 f : ∀ i : Nat,i < w.heap.pages.length → (w.heap.pages.getD i default).kind = 0 ∨ (i : Int) ∈ w.taken → ∀ a ∈ w.old ++ w.queue,a + hlA w.heap.words a < 4096 + i * w.heap.conf.pw + occP (w.heap.pages.getD i default) ∨ 4096 + i * w.heap.conf.pw + w.heap.conf.pw ≤ a
 z : ∀ x ∈ w.old,(w.heap.pages.getD (ofA w.heap.conf x).1.toNat default).kind = 2 ∨ hlA w.heap.words x + 1 ≤ w.heap.conf.pw
theorem Inv.withWords {w : Work} (h : Inv w) {l : List Int} (hl : l.length = w.heap.words.length) (hh : ∀ a ∈ w.old ++ w.queue,hlA l a ≤ hlA w.heap.words a) : Inv ⟨⟨w.heap.conf,l,w.heap.pages,w.heap.space,w.heap.bump⟩,w.old,w.taken,w.queue,w.scanned,w.rep⟩ := by
 refine ⟨?_, ?_, ?_, ?_, ?_⟩
 ·simp only [hl]; exact h.L
 ·intro a ha
  have h1 := h.r a ha
  have h2 := hh a ha
  simp only [hl]
  omega
 ·intro a ha b hb hab
  have h1 := h.s a ha b hb hab
  have h2 := hh a ha
  simp only
  omega
 ·intro i hi hc a ha
  have h1 := h.f i hi hc a ha
  have h2 := hh a ha
  simp only at *
  omega
 ·intro x hx
  have h1 := h.z x hx
  have h2 := hh x (List.mem_append_left _ hx)
  simp only at *
  omega
theorem Inv.keep {w : Work} (h : Inv w) {r : Int} (hr : r ∈ w.old) : Inv (w.keep r) := by
 have hm : ∀ a,a ∈ w.old ++ (w.queue ++ [r]) → a ∈ w.old ++ w.queue := by
  intro a ha
  simp only [List.mem_append,List.mem_singleton] at ha ⊢
  rcases ha with ha | ha | rfl
  ·exact Or.inl ha
  ·exact Or.inr ha
  ·exact Or.inl hr
 exact ⟨h.L,fun a ha => h.r a (hm a ha),fun a ha b hb => h.s a (hm a ha) b (hm b hb),fun i hi hc a ha => h.f i hi hc a (hm a ha),h.z⟩
theorem Inv.flip {w : Work} (h : Inv w) (i : Nat) : Inv (w.flip i) := by
 have hk : ∀ j,((Z0G w.heap.pages i (Z0y w.heap.pages i) (1 - w.heap.space)).getD j default).kind = (w.heap.pages.getD j default).kind ∧ ((Z0G w.heap.pages i (Z0y w.heap.pages i) (1 - w.heap.space)).getD j default).used = (w.heap.pages.getD j default).used := by
  intro j
  by_cases hj : j < w.heap.pages.length
  ·rw [Z1r hj]
   split
   ·exact ⟨rfl,rfl⟩
   ·exact ⟨rfl,rfl⟩
  ·rw [List.getD_eq_getElem?_getD,List.getD_eq_getElem?_getD,List.getElem?_eq_none (by rw [Z1s]; omega),List.getElem?_eq_none (by omega)]
   exact ⟨rfl,rfl⟩
 refine ⟨h.L,h.r,h.s, ?_, ?_⟩
 ·intro j hj hc a ha
  simp only [Work.flip,Z1s,occP,hk] at hj hc ha ⊢
  exact h.f j hj hc a ha
 ·intro x hx
  simp only [Work.flip,hk]
  exact h.z x hx
theorem Z4V {w : Work} {n : Int} (hw : WkOk w) (hn : 1 ≤ n ∧ n ≤ w.heap.conf.pw) (h : (w.place n).2.2 = true) :
  ∃ (i : Nat) (p : Page) (t : List Int),i < w.heap.pages.length ∧ ((w.heap.pages.getD i default).kind = 0 ∨ ((i : Int) ∈ w.taken ∧ (w.heap.pages.getD i default).kind = 1)) ∧ p.kind = 1 ∧ p.used = occP (w.heap.pages.getD i default) + n ∧ occP (w.heap.pages.getD i default) + n ≤ w.heap.conf.pw ∧ 0 ≤ occP (w.heap.pages.getD i default) ∧ (∀ x ∈ t,x ∈ w.taken ∨ x = (i : Int)) ∧ (w.place n).2.1 = 4096 + i * w.heap.conf.pw + occP (w.heap.pages.getD i default) ∧
  (w.place n).1 = ⟨⟨w.heap.conf,w.heap.words,w.heap.pages.set i p,w.heap.space,w.heap.bump⟩,w.old,t,w.queue,w.scanned,w.rep⟩ := by
 have hb := validB_iff.1 hw.conf
 have hpl := hw.pl
 by_cases hf : Z4p w n
 ·have e : w.place n = (⟨⟨w.heap.conf,w.heap.words,Z1w w.heap.pages (Z0Q w).toNat n,w.heap.space,w.heap.bump⟩,w.old,w.taken,w.queue,w.scanned,w.rep⟩,4096 + Z0Q w * w.heap.conf.pw + (w.heap.pages.getD (Z0Q w).toNat default).used,true) := by rw [Work.place,if_pos hf]
  unfold Z4p at hf
  have hm := hw.tk _ (Z1u hf.1)
  have hu := hw.us (Z0Q w).toNat (by omega)
  have hk := hm.2.2
  have hup : occP (w.heap.pages.getD (Z0Q w).toNat default) = (w.heap.pages.getD (Z0Q w).toNat default).used := by rw [occP,if_neg (by omega)]
  have hc : (((Z0Q w).toNat : Nat) : Int) = Z0Q w := by omega
  refine ⟨(Z0Q w).toNat,⟨(w.heap.pages.getD (Z0Q w).toNat default).kind,(w.heap.pages.getD (Z0Q w).toNat default).space,(w.heap.pages.getD (Z0Q w).toNat default).used + n,(w.heap.pages.getD (Z0Q w).toNat default).pins⟩,w.taken,by omega,Or.inr ⟨by rw [hc]; exact Z1u hf.1,hk⟩,hk,by rw [hup],by rw [hup]; omega,by rw [hup]; omega,fun x hx => Or.inl hx, ?_, ?_⟩
  ·rw [e,hup,hc]
  ·rw [e]; rfl
 ·by_cases hg : 0 ≤ Z0v w
  ·have e : w.place n = (⟨⟨w.heap.conf,w.heap.words,Z1w (Z2q w) (Z0v w).toNat n,w.heap.space,w.heap.bump⟩,w.old,w.taken ++ [Z0v w],w.queue,w.scanned,w.rep⟩,4096 + Z0v w * w.heap.conf.pw,true) := by rw [Work.place,if_neg hf,if_pos hg]
   obtain ⟨f1,f2,f3,f4⟩ := Z24 (h := ⟨w.heap.conf,w.heap.words,w.heap.pages,1 - w.heap.space,w.heap.bump⟩) (by have := hw.sp; simp only; omega) hg
   obtain ⟨g1,g2,g3⟩ := Z18 hg
   simp only at f1 f2 f3 f4
   have hi : (Z0v w).toNat < w.heap.pages.length := by unfold Z0v; omega
   have hk : (w.heap.pages.getD (Z0v w).toNat default).kind = 0 := by
    have := freeK_iff.1 g3 0 (by decide)
    simpa [Z0v] using this
   have hup : occP (w.heap.pages.getD (Z0v w).toNat default) = 0 := by rw [occP,if_pos hk]
   have hc : (((Z0v w).toNat : Nat) : Int) = Z0v w := by omega
   have hq : Z1w (Z2q w) (Z0v w).toNat n = w.heap.pages.set (Z0v w).toNat ⟨1,1 - w.heap.space,n,0⟩ := by
    unfold Z1w
    have e4 : (Z2q w).getD (Z0v w).toNat default = ⟨1,1 - w.heap.space,0,0⟩ := f4
    rw [e4]
    have e1 : Z2q w = w.heap.pages.set (Z0v w).toNat ⟨1,1 - w.heap.space,0,0⟩ := by
     have : Z2q w = tookP w.heap.pages (Z0v w).toNat 1 ⟨1,1 - w.heap.space,0,0⟩ ⟨0,0,0,0⟩ := f1
     rw [this,Z7n hi]
    rw [e1,List.set_set]
    simp
   refine ⟨(Z0v w).toNat,⟨1,1 - w.heap.space,n,0⟩,w.taken ++ [Z0v w],hi,Or.inl hk,rfl,by rw [hup]; simp,by rw [hup]; omega,by rw [hup]; decide, ?_, ?_, ?_⟩
   ·intro x hx
    simp only [List.mem_append,List.mem_singleton] at hx
    rcases hx with hx | rfl
    ·exact Or.inl hx
    ·exact Or.inr hc.symm
   ·rw [e,hup,hc]; simp
   ·rw [e,hq]
  ·rw [Work.place,if_neg hf,if_neg hg] at h
   simp at h
theorem Z10 {i j pw : Int} (h : i < j) (hp : 0 ≤ pw) : i * pw + pw ≤ j * pw := by
 have := Int.mul_le_mul_of_nonneg_right (show i + 1 ≤ j by omega) hp
 rw [Int.add_mul,Int.one_mul] at this
 exact this
theorem Inv.copy {w : Work} (hw : WkOk w) (h : Inv w) {r n : Int} (hr : r ∈ w.old) (hn : n = hlA w.heap.words r + 1) (hp : n ≤ w.heap.conf.pw) (hc : (w.place n).2.2 = true) : Inv ((w.place n).1.copy r (w.place n).2.1 n) := by
 have hlr := Z0g w.heap.words r
 obtain ⟨i,p,t,h1,h2,h3,h4,h5,h6,h7,h8,e⟩ := Z4V hw ⟨by omega,hp⟩ hc
 have hb := validB_iff.1 hw.conf
 have hpl := hw.pl
 have hL := h.L
 have hio : (i : Int) * w.heap.conf.pw + w.heap.conf.pw ≤ w.heap.conf.pw * w.heap.conf.pg := by
  have := Z10 (i := i) (j := w.heap.conf.pg) (pw := w.heap.conf.pw) (by omega) (by omega)
  rw [Int.mul_comm w.heap.conf.pw]; exact this
 have hi0 : 0 ≤ (i : Int) * w.heap.conf.pw := Int.mul_nonneg (by omega) (by omega)
 rw [e,h8]
 generalize hu : occP (w.heap.pages.getD i default) = u at *
 generalize ha : 4096 + (i : Int) * w.heap.conf.pw + u = at'
 have hrr := h.r r (List.mem_append_left _ hr)
 have hf := h.f i h1 (by rcases h2 with h2 | h2; exact Or.inl h2; exact Or.inr h2.1)
 rw [hu] at hf
 obtain ⟨m1,m2,m3⟩ := Z7O (ws := w.heap.words) (a := at') (b := r) (n := n) (by omega) (by omega) (by omega)
 have hfr := hf r (List.mem_append_left _ hr)
 have hne : r ≠ at' := by omega
 have hsr : 4096 ≤ r ∧ r < 4096 + (moveA w.heap.words at' r n).1.length := by omega
 have k1 : ∀ a ∈ w.old ++ w.queue,hlA (Z0F (moveA w.heap.words at' r n).1 r (4 * at' + 2)).1 a ≤ hlA w.heap.words a := by
  intro a hA
  have hfa := hf a hA
  have hla := Z0g w.heap.words a
  by_cases hk : a = r
  ·subst hk
   have : hlA (Z0F (moveA w.heap.words at' a n).1 a (4 * at' + 2)).1 a = 0 := by
    unfold hlA
    rw [Z2w hsr]
    exact ZdQ at'
   omega
  ·have : hlA (Z0F (moveA w.heap.words at' r n).1 r (4 * at' + 2)).1 a = hlA w.heap.words a := by
    unfold hlA
    rw [Z0B hsr hk,m3 a (by omega)]
   omega
 have k2 : hlA (Z0F (moveA w.heap.words at' r n).1 r (4 * at' + 2)).1 at' = n - 1 := by
  have : hlA (Z0F (moveA w.heap.words at' r n).1 r (4 * at' + 2)).1 at' = hlA w.heap.words r := by
   unfold hlA
   rw [Z0B hsr (Ne.symm hne),m2]
  omega
 have hlen : (Z0F (moveA w.heap.words at' r n).1 r (4 * at' + 2)).1.length = w.heap.words.length := by rw [Z2m hsr,m1]
 have hmem : ∀ a,a ∈ w.old ++ (w.queue ++ [at']) → a ∈ w.old ++ w.queue ∨ a = at' := by
  intro a hA
  simp only [List.mem_append,List.mem_singleton] at hA ⊢
  rcases hA with hA | hA | hA
  ·exact Or.inl (Or.inl hA)
  ·exact Or.inl (Or.inr hA)
  ·exact Or.inr hA
 refine ⟨?_, ?_, ?_, ?_, ?_⟩
 ·simp only [Work.copy,hlen]; exact hL
 ·intro a hA
  simp only [Work.copy,hlen] at hA ⊢
  rcases hmem a hA with hA | rfl
  ·have q1 := h.r a hA
   have q2 := k1 a hA
   omega
  ·rw [k2]; omega
 ·intro a hA b hB hab
  simp only [Work.copy] at hA hB ⊢
  rcases hmem a hA with hA' | e1 <;> rcases hmem b hB with hB' | e2
  ·have q1 := h.s a hA' b hB' hab
   have q2 := k1 a hA'
   omega
  ·have q1 := hf a hA'
   have q2 := k1 a hA'
   omega
  ·have q1 := hf b hB'
   have q2 := Z0g w.heap.words b
   rw [e1,k2]; omega
  ·omega
 ·intro j hj hcj a hA
  simp only [Work.copy,List.length_set] at hj hcj hA ⊢
  by_cases hij : i = j
  ·subst hij
   rw [Z0r h1,if_pos rfl]
   have hup : occP p = u + n := by rw [occP,if_neg (by omega),h4]
   rw [hup]
   rcases hmem a hA with hA | rfl
   ·have q1 := hf a hA
    have q2 := k1 a hA
    omega
   ·rw [k2]; omega
  ·rw [Z0r h1,if_neg hij] at hcj ⊢
   have hcj' : (w.heap.pages.getD j default).kind = 0 ∨ (j : Int) ∈ w.taken := by
    rcases hcj with hcj | hcj
    ·exact Or.inl hcj
    ·rcases h7 _ hcj with q | q
     ·exact Or.inr q
     ·omega
   rcases hmem a hA with hA | rfl
   ·have q1 := h.f j hj hcj' a hA
    have q2 := k1 a hA
    omega
   ·rw [k2]
    have hus : 0 ≤ occP (w.heap.pages.getD j default) := by
     have := hw.us j hj
     unfold occP
     split <;> omega
    by_cases hlt : i < j
    ·have := Z10 (i := i) (j := j) (pw := w.heap.conf.pw) (by omega) (by omega)
     omega
    ·have := Z10 (i := j) (j := i) (pw := w.heap.conf.pw) (by omega) (by omega)
     omega
 ·intro x hx
  simp only [Work.copy] at hx ⊢
  have q1 := h.z x hx
  have q2 := k1 x (List.mem_append_left _ hx)
  rw [Z0r h1]
  split
  ·rename_i hxi
   rw [← hxi] at q1
   rcases h2 with h2 | h2 <;> omega
  ·omega
structure Ext (w v : Work) : Prop where
 c : v.heap.conf = w.heap.conf
 o : v.old = w.old
 q : ∀ x ∈ w.queue,x ∈ v.queue
 l : ∀ x ∈ w.queue,hlA v.heap.words x = hlA w.heap.words x
theorem Ext.rfl' (w : Work) : Ext w w := ⟨rfl,rfl,fun _ h => h,fun _ _ => rfl⟩
theorem Ext.trans {u v w : Work} (h1 : Ext u v) (h2 : Ext v w) : Ext u w :=
 ⟨h2.c.trans h1.c,h2.o.trans h1.o,fun x hx => h2.q x (h1.q x hx),fun x hx => (h2.l x (h1.q x hx)).trans (h1.l x hx)⟩
theorem Z3a (w : Work) (r : Int) : sizeH (hdW w r) = hlA w.heap.words r + 1 := by
 have hv : Z0i (hdW w r) = true := Z2b _
 rw [sizeH,if_pos hv]
 rfl
theorem ZhP {w : Work} (hw : WkOk w) (h : Inv w) {r n : Int} (hr : r ∈ w.old) (hq : r ∉ w.queue) (hn : n = hlA w.heap.words r + 1) (hp : n ≤ w.heap.conf.pw) (hc : (w.place n).2.2 = true) : Ext w ((w.place n).1.copy r (w.place n).2.1 n) := by
 have hlr := Z0g w.heap.words r
 obtain ⟨i,p,t,h1,h2,h3,h4,h5,h6,h7,h8,e⟩ := Z4V hw ⟨by omega,hp⟩ hc
 have hb := validB_iff.1 hw.conf
 have hpl := hw.pl
 have hL := h.L
 have hio : (i : Int) * w.heap.conf.pw + w.heap.conf.pw ≤ w.heap.conf.pw * w.heap.conf.pg := by
  have := Z10 (i := i) (j := w.heap.conf.pg) (pw := w.heap.conf.pw) (by omega) (by omega)
  rw [Int.mul_comm w.heap.conf.pw]; exact this
 have hi0 : 0 ≤ (i : Int) * w.heap.conf.pw := Int.mul_nonneg (by omega) (by omega)
 rw [e,h8]
 generalize hu : occP (w.heap.pages.getD i default) = u at *
 generalize ha : 4096 + (i : Int) * w.heap.conf.pw + u = at'
 have hrr := h.r r (List.mem_append_left _ hr)
 have hf := h.f i h1 (by rcases h2 with h2 | h2; exact Or.inl h2; exact Or.inr h2.1)
 rw [hu] at hf
 obtain ⟨m1,m2,m3⟩ := Z7O (ws := w.heap.words) (a := at') (b := r) (n := n) (by omega) (by omega) (by omega)
 have hsr : 4096 ≤ r ∧ r < 4096 + (moveA w.heap.words at' r n).1.length := by omega
 refine ⟨rfl,rfl,fun x hx => List.mem_append_left _ hx, ?_⟩
 intro x hx
 have hfx := hf x (List.mem_append_right _ hx)
 have hlx := Z0g w.heap.words x
 simp only [Work.copy]
 unfold hlA at *
 rw [Z0B hsr (fun q => hq (q ▸ hx)),m3 x (by omega)]
theorem Z5X {w : Work} (hw : WkOk w) (h : Inv w) (r : Int) (e : (w.fwd r).2.2 = 0) : Inv (w.fwd r).1 ∧ Ext w (w.fwd r).1 := by
 unfold Work.fwd at e ⊢
 split at e
 ·rename_i c1
  rw [if_pos c1]
  exact ⟨h,Ext.rfl' w⟩
 ·rename_i c1
  rw [if_neg c1]
  have c1' : r ∉ w.queue := fun h => c1 (Or.inr h)
  split at e
  ·simp at e
  ·rename_i c2
   rw [if_neg c2]
   have c2' : r ∈ w.old := Decidable.not_not.1 c2
   split at e
   ·rename_i c3
    rw [if_pos c3]
    exact ⟨h,Ext.rfl' w⟩
   ·rename_i c3
    rw [if_neg c3]
    split at e
    ·simp at e
    ·rename_i c4
     rw [if_neg c4]
     split at e
     ·rename_i c5
      rw [if_pos c5]
      exact ⟨h.keep c2',⟨rfl,rfl,fun x hx => List.mem_append_left _ hx,fun _ _ => rfl⟩⟩
     ·rename_i c5
      rw [if_neg c5]
      split at e
      ·rename_i c6
       rw [if_pos c6]
       exact ⟨(h.flip _).keep c2',⟨rfl,rfl,fun x hx => List.mem_append_left _ hx,fun _ _ => rfl⟩⟩
      ·rename_i c6
       rw [if_neg c6]
       split at e
       ·simp at e
       ·rename_i c7
        rw [if_neg c7]
        have c7' : (w.place (sizeH (hdW w r))).2.2 = true := by simpa using c7
        have hz := h.z r c2'
        have hp : sizeH (hdW w r) ≤ w.heap.conf.pw := by
         rw [Z3a]
         rcases hz with hz | hz
         ·exact absurd hz c6
         ·exact hz
        exact ⟨h.copy hw c2' (Z3a w r) hp c7',ZhP hw h c2' c1' (Z3a w r) hp c7'⟩
theorem Zj1 {w : Work} (hw : WkOk w) (h : Inv w) {q j : Int} (hq : q ∈ w.queue) (hj : 0 ≤ j ∧ j < hlA w.heap.words q) (e : (w.fwd (loadA w.heap.words (q + 1 + j)).1).2.2 = 0) : Inv (w.in1 (q + 1 + j)) ∧ Ext w (w.in1 (q + 1 + j)) := by
 obtain ⟨i1,x1⟩ := Z5X hw h _ e
 have hq1 := x1.q q hq
 have hl1 := x1.l q hq
 have hr := i1.r q (List.mem_append_right _ hq1)
 have hs := i1.s q (List.mem_append_right _ hq1)
 have hin : 4096 ≤ q + 1 + j ∧ q + 1 + j < 4096 + (w.fwd (loadA w.heap.words (q + 1 + j)).1).1.heap.words.length := by omega
 have hk : ∀ a ∈ (w.fwd (loadA w.heap.words (q + 1 + j)).1).1.old ++ (w.fwd (loadA w.heap.words (q + 1 + j)).1).1.queue,hlA (Z0F (w.fwd (loadA w.heap.words (q + 1 + j)).1).1.heap.words (q + 1 + j) (w.fwd (loadA w.heap.words (q + 1 + j)).1).2.1).1 a = hlA (w.fwd (loadA w.heap.words (q + 1 + j)).1).1.heap.words a := by
  intro a ha
  unfold hlA
  rw [Z0B hin]
  intro hc
  have := hs a ha (by omega)
  omega
 refine ⟨i1.withWords (Z2m hin) (fun a ha => Int.le_of_eq (hk a ha)),x1.trans ⟨rfl,rfl,fun _ h => h,fun x hx => hk x (List.mem_append_right _ hx)⟩⟩
theorem Z4o (h : Header) : ∀ x ∈ Z0f h,0 ≤ x ∧ x < h.length := by
 unfold Z0f
 split
 ·intro x hx
  have := Z4j h _ x hx
  omega
 ·simp
theorem Z6y {w : Work} (hw : WkOk w) (h : Inv w) {q : Int} (hq : q ∈ w.queue) {l : List Int} (hl : ∀ x ∈ l,0 ≤ x ∧ x < hlA w.heap.words q) : ∀ k,k ≤ l.length → (∀ j,j < k → innE w q l j = 0) → Inv (innN w q l k) ∧ Ext w (innN w q l k)
 | 0,_,_ => ⟨h,Ext.rfl' w⟩
 | k + 1,hk,he => by
  have ih := Z6y hw h hq hl k (by omega) (fun j hj => he j (by omega))
  have ok := (Z3P hw q l k (fun j hj => he j (by omega))).1
  have hx := hl _ (getD_mem_iff.2 ⟨k,by omega,rfl⟩)
  have := Zj1 ok ih.1 (ih.2.q q hq) (j := l.getD k default) ⟨hx.1,by rw [ih.2.l q hq]; exact hx.2⟩ (he k (by omega))
  exact ⟨this.1,ih.2.trans this.2⟩
theorem Zb0 {w : Work} (hw : WkOk w) (h : Inv w) (e : (Z0I w).2.2 = 0) : Inv (Z0I w).1 ∧ Ext w (Z0I w).1 := by
 by_cases hs : w.scanned < w.queue.length
 ·have hsc := hw.sc
  have hq : Z2T w ∈ w.queue := getD_mem_iff.2 ⟨w.scanned.toNat,by omega,rfl⟩
  unfold Z0I at e ⊢
  rw [if_pos hs] at e ⊢
  cases hb : (List.range (Z1L w).length).find? (fun k => decide (innE w (Z2T w) (Z1L w) k ≠ 0)) with
  | none =>
   have h0 : ∀ j,j < (Z1L w).length → innE w (Z2T w) (Z1L w) j = 0 := fun j hj => by
    have := List.find?_eq_none.1 hb j (List.mem_range.2 hj)
    simpa using this
   obtain ⟨k1,k2⟩ := Z6y hw h hq (l := Z1L w) (Z4o (hdW w (Z2T w))) (Z1L w).length (Nat.le_refl _) h0
   exact ⟨⟨k1.L,k1.r,k1.s,k1.f,k1.z⟩,⟨k2.c,k2.o,k2.q,k2.l⟩⟩
  | some k =>
   simp only [hb] at e
   have := (List.find?_range_eq_some.1 hb).1
   simp [e] at this
 ·have e : Z0I w = (w,false,0) := by rw [Z0I,if_neg hs]
  rw [e]
  exact ⟨h,Ext.rfl' w⟩
theorem Z62 {w : Work} (hw : WkOk w) (h : Inv w) : ∀ k,(∀ j,j < k → Z2Y w j = false) → Inv (itW w k) ∧ Ext w (itW w k)
 | 0,_ => ⟨h,Ext.rfl' w⟩
 | k + 1,hh => by
  have ih := Z62 hw h k (fun j hj => hh j (by omega))
  have ok := (Z3v hw k (fun j hj => hh j (by omega))).1
  have hk := hh k (by omega)
  simp only [Z2Y,decide_eq_false_iff_not,not_or,Decidable.not_not] at hk
  have := Zb0 ok ih.1 hk.1
  exact ⟨this.1,ih.2.trans this.2⟩
theorem Z9a {w : Work} (hw : WkOk w) (h : Inv w) (e : (allF w).2 = 0) : Inv (allF w).1 ∧ Ext w (allF w).1 := by
 obtain ⟨k,hb⟩ := Z4e hw
 obtain ⟨h1,h2,h3⟩ := List.find?_range_eq_some.1 hb
 have h0 : ∀ j,j < k → Z2Y w j = false := fun j hj => by simpa using h3 j hj
 unfold allF at e ⊢
 rw [hb] at e ⊢
 simp only at e ⊢
 split at e
 ·rename_i c
  rw [if_pos c]
  have i1 := Z62 hw h k h0
  have i2 := Zb0 (Z3v hw k h0).1 i1.1 c
  exact ⟨i2.1,i1.2.trans i2.2⟩
 ·rename_i c
  exact absurd e c
theorem Z4U {w : Work} {roots : List Int} (hw : WkOk w) (h : Inv w) : ∀ k,(∀ j,j < k → Z26 w roots j = 0) → Inv (Z1j w roots k).1 ∧ Ext w (Z1j w roots k).1
 | 0,_ => ⟨h,Ext.rfl' w⟩
 | k + 1,hh => by
  have ih := Z4U hw h k (fun j hj => hh j (by omega))
  have ok := (Z2N (roots := roots) hw k (fun j hj => hh j (by omega))).1
  have := Z5X ok ih.1 (roots.getD k default) (hh k (by omega))
  exact ⟨this.1,ih.2.trans this.2⟩
theorem Z2P {w : Work} {roots : List Int} (hw : WkOk w) (h : Inv w) (e : (rootsF w roots).2.2 = 0) : WkOk (rootsF w roots).1 ∧ Inv (rootsF w roots).1 ∧ Ext w (rootsF w roots).1 ∧ (∀ x ∈ (rootsF w roots).2.1,0 ≤ x ∧ x ≤ 4294967296) ∧ (rootsF w roots).2.1.length = roots.length := by
 unfold rootsF at e ⊢
 cases hb : (List.range roots.length).find? (fun k => decide (Z26 w roots k ≠ 0)) with
 | none =>
  have h0 : ∀ j,j < roots.length → Z26 w roots j = 0 := fun j hj => by
   have := List.find?_eq_none.1 hb j (List.mem_range.2 hj)
   simpa using this
  have k1 := Z2N (roots := roots) hw roots.length h0
  have k2 := Z4U (roots := roots) hw h roots.length h0
  exact ⟨k1.1,k2.1,k2.2,k1.2.1,Z3x w roots _⟩
 | some k =>
  simp only [hb] at e
  have := (List.find?_range_eq_some.1 hb).1
  simp [e] at this
theorem Z5b (sp : Int) : ∀ (l : List Page) (m : Nat),m < Z13 sp l → m < l.length ∧ (l.getD m default).kind = 3 ∧ (l.getD m default).space = sp
 | [],m,h => by simp [Z13] at h
 | p :: l,m,h => by
  unfold Z13 at h
  split at h
  ·rename_i hp
   cases m with
   | zero => exact ⟨by simp,hp⟩
   | succ m =>
    obtain ⟨h1,h2⟩ := Z5b sp l m (by omega)
    exact ⟨by simp; omega,by simpa using h2⟩
  ·omega
theorem Z4b {c : Conf} {n : Int} (h : 1 ≤ need c n) : n ≤ need c n * c.pw := by
 unfold need at h ⊢
 split at h
 ·rename_i hc
  rw [if_pos hc]
  have hb := validB_iff.1 hc.1
  split at h
  ·omega
  ·rename_i hd
   rw [if_neg hd]
   have e := Int.mul_ediv_add_emod (n + c.pw - 1) c.pw
   have l := Int.emod_lt_of_pos (n + c.pw - 1) (b := c.pw) (by omega)
   rw [Int.mul_comm] at e
   omega
 ·omega
theorem Z6q {h : Heap} (hp : Z02 h = true) {j : Nat} (hj : j < h.pages.length) (hk : (h.pages.getD j default).kind = 2) :
  1 ≤ need h.conf (h.pages.getD j default).used ∧ ∀ m : Nat,1 ≤ m → (m : Int) < need h.conf (h.pages.getD j default).used → j + m < h.pages.length ∧ (h.pages.getD (j + m) default).kind = 3 ∧ (h.pages.getD (j + m) default).space = (h.pages.getD j default).space := by
 have hi := properB_iff.1 hp
 obtain ⟨d,_,hc⟩ := Zgi (by omega) hi.2.2.2.2.2 (by omega) j (by omega) hj
 have ht := hc.2.2.2.2.2.2.2.2.2.1 hk
 refine ⟨ht.1, ?_⟩
 intro m h1 h2
 obtain ⟨g1,g2⟩ := Z5b (h.pages.getD j default).space (h.pages.drop (j + 1)) (m - 1) (by omega)
 have g3 : j + m < h.pages.length := by simp at g1; omega
 refine ⟨g3, ?_⟩
 have : (h.pages.drop (j + 1)).getD (m - 1) default = h.pages.getD (j + m) default := by
  rw [List.getD_eq_getElem?_getD,List.getD_eq_getElem?_getD,List.getElem?_drop,show j + 1 + (m - 1) = j + m by omega]
 rw [this] at g2
 exact g2
theorem Z9n {h : Heap} (hp : Z02 h = true) {j : Nat} (hj : j < h.pages.length) (hk : (h.pages.getD j default).kind = 1 ∨ (h.pages.getD j default).kind = 2) : (j : Int) * h.conf.pw + (h.pages.getD j default).used ≤ h.conf.pw * h.conf.pg := by
 have po := Z08 hp
 have pp := Z0D hp hj
 rcases hk with hk | hk
 ·have := Z10 (i := j) (j := h.conf.pg) (pw := h.conf.pw) (by omega) (by omega)
  rw [Int.mul_comm h.conf.pg] at this
  omega
 ·obtain ⟨t1,t2⟩ := Z6q hp hj hk
  have nu := Z4b t1
  have hl : (j : Int) + need h.conf (h.pages.getD j default).used ≤ h.conf.pg := by
   by_cases h1 : need h.conf (h.pages.getD j default).used = 1
   ·omega
   ·have := (t2 (need h.conf (h.pages.getD j default).used - 1).toNat (by omega) (by omega)).1
    omega
  have := Int.mul_le_mul_of_nonneg_right hl (show 0 ≤ h.conf.pw by omega)
  rw [Int.add_mul,Int.mul_comm h.conf.pg] at this
  omega
theorem Z3X {h : Heap} (hp : Z02 h = true) {i j : Nat} (hij : i < j) (hj : j < h.pages.length) (hk : (h.pages.getD i default).kind = 1 ∨ (h.pages.getD i default).kind = 2) (hk' : (h.pages.getD j default).kind ≠ 3) : (i : Int) * h.conf.pw + (h.pages.getD i default).used ≤ j * h.conf.pw := by
 have po := Z08 hp
 have pp := Z0D hp (show i < h.pages.length by omega)
 rcases hk with hk | hk
 ·have := Z10 (i := i) (j := j) (pw := h.conf.pw) (by omega) (by omega)
  omega
 ·obtain ⟨t1,t2⟩ := Z6q hp (show i < h.pages.length by omega) hk
  have nu := Z4b t1
  have hl : (i : Int) + need h.conf (h.pages.getD i default).used ≤ j := by
   by_cases h1 : (i : Int) + need h.conf (h.pages.getD i default).used ≤ j
   ·exact h1
   ·have := (t2 (j - i) (by omega) (by omega)).2
    rw [show i + (j - i) = j by omega] at this
    exact absurd this.1 hk'
  have := Int.mul_le_mul_of_nonneg_right hl (show 0 ≤ h.conf.pw by omega)
  rw [Int.add_mul] at this
  omega
theorem Z8r {c : Conf} {i o : Int} (hv : Z07 c = true) (h1 : 0 ≤ i ∧ i < c.pg) (h2 : 0 ≤ o ∧ o < c.pw) : ofA c (4096 + (i * c.pw + o)) = (i,o,0) := by
 have hb := validB_iff.1 hv
 have hs := Z10 (i := i) (j := c.pg) (pw := c.pw) h1.2 (by omega)
 have h0 : 0 ≤ i * c.pw := Int.mul_nonneg h1.1 (by omega)
 rw [Int.mul_comm c.pg] at hs
 unfold ofA
 rw [if_pos hv,if_pos (by omega),show 4096 + (i * c.pw + o) - 4096 = o + i * c.pw by omega,Int.add_mul_ediv_right _ _ (by omega),Int.add_mul_emod_self_right,Int.ediv_eq_zero_of_lt h2.1 h2.2,Int.emod_eq_of_lt h2.1 h2.2]
 simp
structure OnP (h : Heap) (j : Nat) (a : Int) : Prop where
 k : (h.pages.getD j default).kind = 1 ∨ (h.pages.getD j default).kind = 2
 lo : 4096 + j * h.conf.pw ≤ a
 hi : a < 4096 + j * h.conf.pw + h.conf.pw
 of : (ofA h.conf a).1 = j
 e : a + hlA h.words a < 4096 + j * h.conf.pw + (h.pages.getD j default).used
 z : (h.pages.getD j default).kind = 2 ∨ hlA h.words a + 1 ≤ h.conf.pw
 at' : (atH h a).2 = 0
theorem Zdu {h : Heap} {j : Nat} (hp : Z02 h = true) (hj : j < h.pages.length) (hk : (h.pages.getD j default).kind = 1 ∨ (h.pages.getD j default).kind = 2) : ∀ (f : Nat) (o : Int) (l : List Int),0 ≤ o → ((h.pages.getD j default).kind = 2 → o = 0) → Z31 h j f o = some l →
  (∀ a ∈ l,OnP h j a ∧ 4096 + j * h.conf.pw + o ≤ a) ∧ l.Pairwise (fun a b => a + hlA h.words a < b)
 | 0,o,l,_,_,e => by simp [Z31] at e; subst e; simp
 | f + 1,o,l,h0,h2,e => by
  have po := Z08 hp
  have pp := Z0D hp hj
  unfold Z31 at e
  have hpg : pg h (j : Int) = h.pages.getD j default := by simp [pg]
  rw [hpg] at e
  split at e
  ·rename_i ho
   have hop : o < h.conf.pw := by
    rcases hk with hk | hk
    ·omega
    ·have := h2 hk; omega
   have ea : adr h j o = 4096 + (j * h.conf.pw + o) := by
    unfold adr address
    rw [if_pos po.1,if_pos (inB_iff.2 ⟨by omega,by omega,h0,hop⟩)]
   have eo := Z8r (c := h.conf) (i := j) (o := o) po.1 (by omega) ⟨h0,hop⟩
   split at e
   ·rename_i hat
    have hat' := hat
    rw [ea] at hat'
    have hsz : sizeH (decodeH (loadA h.words (4096 + (j * h.conf.pw + o))).1).1 = hlA h.words (4096 + (j * h.conf.pw + o)) + 1 := by
     rw [sizeH,if_pos (Z2b _)]; rfl
    have hle := Z0g h.words (4096 + (j * h.conf.pw + o))
    have key : ((h.pages.getD j default).kind = 1 → o + (hlA h.words (4096 + (j * h.conf.pw + o)) + 1) ≤ (h.pages.getD j default).used) ∧ ((h.pages.getD j default).kind = 2 → hlA h.words (4096 + (j * h.conf.pw + o)) + 1 = (h.pages.getD j default).used) ∧ sizeH (atH h (4096 + (j * h.conf.pw + o))).1 = hlA h.words (4096 + (j * h.conf.pw + o)) + 1 := by
     unfold atH at hat' ⊢
     rw [if_pos hp] at hat' ⊢
     simp only [eo,hsz,if_true,Int.toNat_natCast] at hat' ⊢
     split at hat'
     ·rename_i g1
      split at hat'
      ·simp at hat'
      ·rename_i g2
       rw [if_pos g1,if_neg g2]
       refine ⟨fun hk1 => ?_,fun hk2 => ?_,hsz⟩
       ·omega
       ·omega
     ·simp at hat'
    have hon : OnP h j (adr h j o) := by
     refine ⟨hk, ?_, ?_, ?_, ?_, ?_,hat⟩
     ·rw [ea]; omega
     ·rw [ea]; omega
     ·rw [ea,eo]
     ·rw [ea]
      rcases hk with hk | hk
      ·have := key.1 hk; omega
      ·have := key.2.1 hk; have := h2 hk; omega
     ·rw [ea]
      rcases hk with hk | hk
      ·have := key.1 hk; omega
      ·exact Or.inl hk
    split at e
    ·cases e
     simp only [List.mem_singleton,List.pairwise_cons,List.not_mem_nil,List.Pairwise.nil]
     refine ⟨?_,by simp⟩
     rintro a rfl
     exact ⟨hon,by rw [ea]; omega⟩
    ·rename_i hk2
     rw [Option.map_eq_some_iff] at e
     obtain ⟨m,hm,rfl⟩ := e
     rw [ea,key.2.2] at hm
     obtain ⟨i1,i2⟩ := Zdu hp hj hk f _ m (by omega) (fun q => absurd q hk2) hm
     constructor
     ·intro a ha
      rcases List.mem_cons.1 ha with rfl | ha
      ·exact ⟨hon,by rw [ea]; omega⟩
      ·have := i1 a ha
       exact ⟨this.1,by omega⟩
     ·rw [List.pairwise_cons]
      refine ⟨fun b hb => ?_,i2⟩
      have := (i1 b hb).2
      rw [ea]; omega
   ·cases e
  ·cases e; simp
theorem Z8I {h : Heap} (hp : Z02 h = true) : ∀ (f i : Nat),i + f = h.pages.length → (Z0x h f i).1.Pairwise (fun a b => a + hlA h.words a < b) ∧ ∀ a ∈ (Z0x h f i).1,∃ j,i ≤ j ∧ j < h.pages.length ∧ OnP h j a
 | 0,i,_ => by simp [Z0x]
 | f + 1,i,hf => by
  have ih := Z8I hp f (i + 1) (by omega)
  have hpg : (Z0t h i).1.Pairwise (fun a b => a + hlA h.words a < b) ∧ ∀ a ∈ (Z0t h i).1,OnP h i a := by
   unfold Z0t
   rw [if_pos hp,if_pos (by omega)]
   have hg : pg h (i : Int) = h.pages.getD i default := by simp [pg]
   rw [hg]
   split
   ·simp
   ·rename_i hk
    cases hw : Z31 h i 256 0 with
    | none => simp
    | some l =>
     have pp := Z0D hp (show i < h.pages.length by omega)
     obtain ⟨w1,w2⟩ := Zdu hp (show i < h.pages.length by omega) (by omega) 256 0 l (by omega) (fun _ => rfl) hw
     exact ⟨w2,fun a ha => (w1 a ha).1⟩
  unfold Z0x
  split
  ·split
   ·simp only
    constructor
    ·rw [List.pairwise_append]
     refine ⟨hpg.1,ih.1,fun a ha b hb => ?_⟩
     have o1 := hpg.2 a ha
     obtain ⟨j,j1,j2,o2⟩ := ih.2 b hb
     have := Z3X hp (show i < j by omega) j2 o1.k (by have := o2.k; omega)
     have := o1.e
     have := o2.lo
     omega
    ·intro a ha
     rcases List.mem_append.1 ha with ha | ha
     ·exact ⟨i,by omega,by omega,hpg.2 a ha⟩
     ·obtain ⟨j,j1,j2,o2⟩ := ih.2 a ha
      exact ⟨j,by omega,j2,o2⟩
   ·simp
  ·simp
theorem Z7y {h : Heap} (hp : Z02 h = true) : (∀ a ∈ (Z03 h).1,∃ j,j < h.pages.length ∧ OnP h j a) ∧ ∀ a ∈ (Z03 h).1,∀ b ∈ (Z03 h).1,a < b → a + hlA h.words a < b := by
 have hs := Z8I hp h.pages.length 0 (by omega)
 have e : Z0J h = Z0x h h.pages.length 0 := by rw [Z0J,if_pos hp]
 rw [← e] at hs
 have h1 : ∀ a ∈ (Z03 h).1,∃ j,j < h.pages.length ∧ OnP h j a := by
  intro a ha
  obtain ⟨j,_,j2,o⟩ := hs.2 a (List.mem_filter.1 ha).1
  exact ⟨j,j2,o⟩
 refine ⟨h1, ?_⟩
 have hpw : (Z03 h).1.Pairwise (fun a b => a + hlA h.words a < b) := List.Pairwise.filter _ hs.1
 intro a ha b hb hab
 obtain ⟨i,hi,ei⟩ := List.mem_iff_getElem.1 ha
 obtain ⟨k,hk,ek⟩ := List.mem_iff_getElem.1 hb
 have hlb := Z0g h.words b
 rcases Nat.lt_trichotomy i k with q | q | q
 ·have := List.pairwise_iff_getElem.1 hpw i k hi hk q
  rw [ei,ek] at this
  exact this
 ·subst q; omega
 ·have := List.pairwise_iff_getElem.1 hpw k i hk hi q
  rw [ei,ek] at this
  omega
theorem Z2O {h : Heap} (hp : Z02 h = true) : Inv (beginW h) := by
 have po := Z08 hp
 have hs := Z7y hp
 have hq : ∀ j,((h.pages.map (begQ (1 - h.space))).getD j default).kind = (h.pages.getD j default).kind ∧ ((h.pages.map (begQ (1 - h.space))).getD j default).used = (h.pages.getD j default).used := by
  intro j
  by_cases hj : j < h.pages.length
  ·have : (h.pages.map (begQ (1 - h.space))).getD j default = begQ (1 - h.space) (h.pages.getD j default) := by simp [List.getD_eq_getElem?_getD,hj]
   rw [this,begQ]
   split
   ·exact ⟨rfl,rfl⟩
   ·exact ⟨rfl,rfl⟩
  ·rw [List.getD_eq_getElem?_getD,List.getD_eq_getElem?_getD,List.getElem?_eq_none (by simp; omega),List.getElem?_eq_none (by omega)]
   exact ⟨rfl,rfl⟩
 refine ⟨po.2.2.2.2.2.1, ?_, ?_, ?_, ?_⟩
 ·intro a ha
  simp only [beginW,List.append_nil] at ha ⊢
  obtain ⟨j,j1,o⟩ := hs.1 a ha
  have h1 := o.lo
  have h2 := o.e
  have h3 := Z9n hp j1 o.k
  have h4 : 0 ≤ (j : Int) * h.conf.pw := Int.mul_nonneg (by omega) (by omega)
  have h5 := po.2.2.2.2.2.1
  omega
 ·intro a ha b hb hab
  simp only [beginW,List.append_nil] at ha hb ⊢
  exact hs.2 a ha b hb hab
 ·intro i hi hc a ha
  simp only [beginW,List.append_nil,List.length_map,List.not_mem_nil,or_false] at hi hc ha ⊢
  rw [(hq i).1] at hc
  have hoc : occP ((h.pages.map (begQ (1 - h.space))).getD i default) = 0 := by rw [occP,(hq i).1,if_pos hc]
  rw [hoc]
  obtain ⟨j,j1,o⟩ := hs.1 a ha
  have hk := o.k
  have hne : i ≠ j := by rintro rfl; omega
  by_cases hlt : i < j
  ·have := Z10 (i := i) (j := j) (pw := h.conf.pw) (by omega) (by omega)
   have := o.lo
   omega
  ·have := Z3X hp (show j < i by omega) hi hk (by omega)
   have := o.e
   omega
 ·intro x hx
  simp only [beginW] at hx ⊢
  obtain ⟨j,j1,o⟩ := hs.1 x hx
  rw [o.of,Int.toNat_natCast,(hq j).1]
  exact o.z
theorem Z2Z {h : Heap} (hw : WOk h.words) (hp : Z02 h = true) : WkOk (beginW h) := by
 have po := Z08 hp
 have ho := Z2l h
 have hr := Z57 h
 have hus : ∀ j,j < h.pages.length → 0 ≤ ((h.pages.map (begQ (1 - h.space))).getD j default).used ∧ ((h.pages.map (begQ (1 - h.space))).getD j default).used ≤ 1024 := by
  intro j hj
  have pp := Z0D hp hj
  have : (h.pages.map (begQ (1 - h.space))).getD j default = begQ (1 - h.space) (h.pages.getD j default) := by simp [List.getD_eq_getElem?_getD,hj]
  rw [this,begQ]
  split
  ·simp only; omega
  ·omega
 refine ⟨hw,po.2.2.2.2.2.2.1,po.1,by simp only [beginW,List.length_map]; exact po.2.2.2.2.2.2.2.1,po.2.2.2.2.2.2.2.2,by simp only [beginW]; omega,hr,by simp [beginW],by simp [beginW],by simp [beginW],by simpa only [beginW,List.length_map] using hus, ?_,by simp [beginW],by simp [beginW],by simp [beginW],by simp [beginW]⟩
 simp only [beginW,muW,List.length_nil]
 have h1 : Zb4 (Z03 h).1 [] ≤ (Z03 h).1.length := List.length_filter_le _ _
 have h2 : ∀ l : List Page,(∀ p ∈ l,Z9C h.conf.pw p ≤ 64) → Z7i h.conf.pw l ≤ 64 * l.length := by
  intro l
  induction l with
  | nil => intro _; simp [Z7i]
  | cons p l ih =>
   intro hl
   have := ih fun q hq => hl q (List.mem_cons_of_mem _ hq)
   have := hl p (List.mem_cons_self)
   simp only [Z7i,List.map_cons,List.sum_cons,List.length_cons] at *
   omega
 have h3 := h2 (h.pages.map (begQ (1 - h.space))) (by
  intro p hp'
  obtain ⟨j,hj,e⟩ := List.mem_iff_getElem.1 hp'
  have := hus j (by simpa using hj)
  rw [show (h.pages.map (begQ (1 - h.space))).getD j default = p by simp only [List.getD_eq_getElem?_getD,List.getElem?_eq_getElem hj,e]; rfl] at this
  unfold Z9C
  split <;> omega)
 simp only [List.length_map] at h3
 omega
structure PgOk (c : Conf) (p : Page) : Prop where
 s : 0 ≤ p.space ∧ p.space ≤ 1
 n : 0 ≤ p.pins ∧ p.pins ≤ 2147483647
 k : 0 ≤ p.kind ∧ p.kind ≤ 3
 k0 : p.kind = 0 → p.space = 0 ∧ p.used = 0 ∧ p.pins = 0
 k1 : p.kind = 1 → 0 ≤ p.used ∧ p.used ≤ c.pw
 k3 : p.kind = 3 → p.used = 0 ∧ p.pins = 0
structure PT (c : Conf) (l : List Page) : Prop where
 b : ∀ i,i < l.length → PgOk c (l.getD i default)
 lg : ∀ i,i < l.length → (l.getD i default).kind = 2 → 1 ≤ need c (l.getD i default).used ∧ ∀ m : Nat,1 ≤ m → (m : Int) < need c (l.getD i default).used → i + m < l.length ∧ (l.getD (i + m) default).kind = 3 ∧ (l.getD (i + m) default).space = (l.getD i default).space
 tl : ∀ i,i < l.length → (l.getD i default).kind = 3 → ∃ j,j < i ∧ (l.getD j default).kind = 2 ∧ (i : Int) < j + need c (l.getD j default).used
def Z4u (c : Conf) (l : List Page) : Nat → Int
 | 0 => 0
 | i + 1 => rdue c l i (Z4u c l i)
theorem ZfU {c : Conf} {l : List Page} : ∀ {f i : Nat},l.length ≤ i + f → (rpB c l f i (Z4u c l i) = true ↔ ∀ j,i ≤ j → j < l.length → rchk c l j (Z4u c l j))
 | 0,i,h => by
  simp only [rpB,true_iff]
  intro j h1 h2
  omega
 | f + 1,i,h => by
  unfold rpB
  by_cases hi : i < l.length
  ·rw [if_pos hi,Bool.and_eq_true,decide_eq_true_eq,show rdue c l i (Z4u c l i) = Z4u c l (i + 1) from rfl,ZfU (f := f) (i := i + 1) (by omega)]
   constructor
   ·rintro ⟨h1,h2⟩ j h3 h4
    by_cases hj : j = i
    ·subst hj; exact h1
    ·exact h2 j (by omega) h4
   ·intro hh
    exact ⟨hh i (Nat.le_refl _) hi,fun j h3 h4 => hh j (by omega) h4⟩
  ·rw [if_neg hi]
   simp only [true_iff]
   intro j h1 h2
   omega
theorem Z7s {c : Conf} {l : List Page} : ∀ i,0 ≤ Z4u c l i → 0 < Z4u c l i → ∃ j,j < i ∧ (l.getD j default).kind = 2 ∧ Z4u c l i = j + need c (l.getD j default).used - i
 | 0,_,h => by simp [Z4u] at h
 | i + 1,h0,h => by
  simp only [Z4u,rdue] at h0 h ⊢
  split at h
  ·rename_i hk
   refine ⟨i,by omega,hk, ?_⟩
   rw [if_pos hk]; omega
  ·rename_i hk
   have h1 : 1 < Z4u c l i := by omega
   obtain ⟨j,j1,j2,j3⟩ := Z7s (c := c) (l := l) i (by omega) (by omega)
   refine ⟨j,by omega,j2, ?_⟩
   rw [if_neg hk]; omega
theorem Z8s (sp : Int) : ∀ (l : List Page) (k : Nat),(∀ m,m < k → m < l.length ∧ (l.getD m default).kind = 3 ∧ (l.getD m default).space = sp) → k ≤ Z13 sp l
 | _,0,_ => Nat.zero_le _
 | [],k + 1,h => by have := (h 0 (by omega)).1; simp at this
 | p :: l,k + 1,h => by
  have h0 := (h 0 (by omega)).2
  simp only [List.getD_cons_zero] at h0
  rw [Z13,if_pos h0]
  have := Z8s sp l k fun m hm => by
   have := h (m + 1) (by omega)
   simpa using this
  omega
theorem PT.due {c : Conf} {l : List Page} (h : PT c l) {i : Nat} (hi : i < l.length) (hk : (l.getD i default).kind = 2) : ∀ m : Nat,(m : Int) < need c (l.getD i default).used → Z4u c l (i + 1 + m) = need c (l.getD i default).used - 1 - m
 | 0,hm => by
  show rdue c l i (Z4u c l i) = _
  rw [rdue,if_pos hk]; omega
 | m + 1,hm => by
  have ih := h.due hi hk m (by omega)
  have ht := ((h.lg i hi hk).2 (m + 1) (by omega) hm).2.1
  show rdue c l (i + 1 + m) (Z4u c l (i + 1 + m)) = _
  rw [rdue,show i + 1 + m = i + (m + 1) by omega,if_neg (by rw [ht]; decide),show i + (m + 1) = i + 1 + m by omega,ih]
  omega
theorem Z6o {c : Conf} {l : List Page} (h : ∀ i,i < l.length → (l.getD i default).kind = 2 → 1 ≤ need c (l.getD i default).used) : ∀ i,i ≤ l.length → 0 ≤ Z4u c l i
 | 0,_ => Int.le_refl _
 | i + 1,hi => by
  have ih := Z6o h i (by omega)
  simp only [Z4u,rdue]
  split
  ·rename_i hk
   have := h i (by omega) hk
   omega
  ·omega
theorem ZjD {c : Conf} {l : List Page} : rpB c l l.length 0 0 = true ↔ PT c l := by
 have e := ZfU (c := c) (l := l) (f := l.length) (i := 0) (by omega)
 rw [show Z4u c l 0 = 0 from rfl] at e
 rw [e]
 constructor
 ·intro h
  have hb : ∀ i,i < l.length → PgOk c (l.getD i default) := by
   intro i hi
   have q := h i (by omega) hi
   unfold rchk at q
   exact ⟨⟨q.2.1,q.2.2.1⟩,⟨q.2.2.2.1,q.2.2.2.2.1⟩,⟨q.2.2.2.2.2.1,q.2.2.2.2.2.2.1⟩,q.2.2.2.2.2.2.2.1,q.2.2.2.2.2.2.2.2.1,q.2.2.2.2.2.2.2.2.2.2⟩
  have hl : ∀ i,i < l.length → (l.getD i default).kind = 2 → 1 ≤ need c (l.getD i default).used ∧ ∀ m : Nat,1 ≤ m → (m : Int) < need c (l.getD i default).used → i + m < l.length ∧ (l.getD (i + m) default).kind = 3 ∧ (l.getD (i + m) default).space = (l.getD i default).space := by
   intro i hi hk
   have q := (h i (by omega) hi).2.2.2.2.2.2.2.2.2.1 hk
   refine ⟨q.1, ?_⟩
   intro m h1 h2
   obtain ⟨g1,g2⟩ := Z5b (l.getD i default).space (l.drop (i + 1)) (m - 1) (by omega)
   have g3 : i + m < l.length := by simp at g1; omega
   have : (l.drop (i + 1)).getD (m - 1) default = l.getD (i + m) default := by
    rw [List.getD_eq_getElem?_getD,List.getD_eq_getElem?_getD,List.getElem?_drop,show i + 1 + (m - 1) = i + m by omega]
   rw [this] at g2
   exact ⟨g3,g2⟩
  refine ⟨hb,hl, ?_⟩
  intro i hi hk
  have q := (h i (by omega) hi).1.1 hk
  obtain ⟨j,j1,j2,j3⟩ := Z7s (c := c) (l := l) i (by omega) q
  exact ⟨j,j1,j2,by omega⟩
 ·intro h j _ hj
  have b := h.b j hj
  have hd := Z6o (fun i hi hk => (h.lg i hi hk).1) j (by omega)
  refine ⟨⟨?_, ?_⟩,b.s.1,b.s.2,b.n.1,b.n.2,b.k.1,b.k.2,b.k0,b.k1, ?_,b.k3⟩
  ·intro hk
   obtain ⟨i,i1,i2,i3⟩ := h.tl j hj hk
   have := h.due (show i < l.length by omega) i2 (j - i - 1) (by omega)
   rw [show i + 1 + (j - i - 1) = j by omega] at this
   omega
  ·intro hp
   obtain ⟨i,i1,i2,i3⟩ := Z7s j hd hp
   have := ((h.lg i (by omega) i2).2 (j - i) (by omega) (by omega)).2.1
   rw [show i + (j - i) = j by omega] at this
   exact this
  ·intro hk
   have q := h.lg j hj hk
   refine ⟨q.1, ?_⟩
   have := Z8s (l.getD j default).space (l.drop (j + 1)) (need c (l.getD j default).used - 1).toNat fun m hm => by
    have r := q.2 (m + 1) (by omega) (by omega)
    have e2 : (l.drop (j + 1)).getD m default = l.getD (j + (m + 1)) default := by
     rw [List.getD_eq_getElem?_getD,List.getD_eq_getElem?_getD,List.getElem?_drop,show j + 1 + m = j + (m + 1) by omega]
    rw [e2]
    exact ⟨by simp; omega,r.2⟩
   omega
theorem Z1d {h : Heap} : Z02 h = true ↔ Z07 h.conf = true ∧ (h.words.length : Int) = h.conf.pw * h.conf.pg ∧ (h.pages.length : Int) = h.conf.pg ∧ (h.space = 0 ∨ h.space = 1) ∧
  (h.bump = -1 ∨ (0 ≤ h.bump ∧ h.bump < h.pages.length ∧ (h.pages.getD h.bump.toNat default).kind = 1)) ∧ PT h.conf h.pages := by
 rw [properB_iff,ZjD]
theorem PT.setPage {c : Conf} {l : List Page} (h : PT c l) {i : Nat} (hi : i < l.length) (hk : (l.getD i default).kind = 0 ∨ (l.getD i default).kind = 1) {p : Page} (hp : PgOk c p) (hpk : p.kind = 0 ∨ p.kind = 1) : PT c (l.set i p) := by
 refine ⟨?_, ?_, ?_⟩
 ·intro j hj
  rw [List.length_set] at hj
  rw [Z0r hi]
  split
  ·exact hp
  ·exact h.b j hj
 ·intro j hj hk2
  rw [List.length_set] at hj
  rw [Z0r hi] at hk2 ⊢
  by_cases hij : i = j
  ·rw [if_pos hij] at hk2; omega
  ·rw [if_neg hij] at hk2 ⊢
   have q := h.lg j hj hk2
   refine ⟨q.1,fun m h1 h2 => ?_⟩
   have r := q.2 m h1 h2
   rw [List.length_set,Z0r hi,if_neg (by rintro rfl; omega)]
   exact r
 ·intro j hj hk3
  rw [List.length_set] at hj
  rw [Z0r hi] at hk3
  by_cases hij : i = j
  ·rw [if_pos hij] at hk3; omega
  ·rw [if_neg hij] at hk3
   obtain ⟨a,a1,a2,a3⟩ := h.tl j hj hk3
   refine ⟨a,a1, ?_⟩
   rw [Z0r hi,if_neg (by rintro rfl; omega)]
   exact ⟨a2,a3⟩
theorem PT.mapPages {c : Conf} {l : List Page} (h : PT c l) (f : Page → Page) (h1 : ∀ p,PgOk c p → PgOk c (f p)) (h2 : ∀ p,PgOk c p → (f p).kind = 2 → p.kind = 2 ∧ (f p).used = p.used)
  (h3 : ∀ p,PgOk c p → (f p).kind = 3 → p.kind = 3) (h4 : ∀ p q,PgOk c p → PgOk c q → p.kind = 2 → q.kind = 3 → q.space = p.space → ((f p).kind = 2 ↔ (f q).kind = 3) ∧ ((f p).kind = 2 → (f q).space = (f p).space)) : PT c (l.map f) := by
 have hg : ∀ j,j < l.length → (l.map f).getD j default = f (l.getD j default) := by
  intro j hj
  simp [List.getD_eq_getElem?_getD,hj]
 refine ⟨?_, ?_, ?_⟩
 ·intro j hj
  rw [List.length_map] at hj
  rw [hg j hj]
  exact h1 _ (h.b j hj)
 ·intro j hj hk
  rw [List.length_map] at hj
  rw [hg j hj] at hk ⊢
  have q := h2 _ (h.b j hj) hk
  have r := h.lg j hj q.1
  rw [q.2]
  refine ⟨r.1,fun m m1 m2 => ?_⟩
  have s := r.2 m m1 m2
  have t := h4 _ _ (h.b j hj) (h.b (j + m) s.1) q.1 s.2.1 s.2.2
  rw [List.length_map,hg _ s.1]
  exact ⟨s.1,t.1.1 hk,t.2 hk⟩
 ·intro j hj hk
  rw [List.length_map] at hj
  rw [hg j hj] at hk
  have q := h3 _ (h.b j hj) hk
  obtain ⟨a,a1,a2,a3⟩ := h.tl j hj q
  have ha : a < l.length := by omega
  have s := (h.lg a ha a2).2 (j - a) (by omega) (by omega)
  rw [show a + (j - a) = j by omega] at s
  have t := h4 _ _ (h.b a ha) (h.b j hj) a2 s.2.1 s.2.2
  have hk2 := t.1.2 hk
  refine ⟨a,a1, ?_⟩
  rw [hg a ha]
  exact ⟨hk2,by rw [(h2 _ (h.b a ha) hk2).2]; exact a3⟩
theorem Z5Q {l : List Page} {i k : Nat} {p q : Page} (hk : 1 ≤ k) (h : i + k ≤ l.length) (j : Nat) : (tookP l i k p q).getD j default = if j = i then p else if i < j ∧ j < i + k then q else l.getD j default := by
 have hl : (wr l (List.replicate k q) i k).length = l.length := Z4x (by simpa using h) (by simp)
 unfold tookP
 rw [List.getD_eq_getElem?_getD,List.getElem?_set]
 by_cases hj : j = i
 ·subst hj
  rw [if_pos rfl,if_pos rfl,if_pos (by omega)]
  rfl
 ·rw [if_neg (fun e => hj e.symm),if_neg hj,Z8U (by simpa using h) (by simp)]
  by_cases h1 : j < i
  ·rw [if_pos h1,if_neg (by omega),List.getD_eq_getElem?_getD]
  ·rw [if_neg h1]
   by_cases h2 : j < i + k
   ·rw [if_pos h2,if_pos (by omega)]
    simp [show j - i < k by omega]
   ·rw [if_neg h2,if_neg (by omega),List.getD_eq_getElem?_getD]
theorem PT.took {c : Conf} {l : List Page} (h : PT c l) {i k : Nat} {n sp : Int} (hk : 1 ≤ k) (hik : i + k ≤ l.length) (hf : ∀ j,j < k → (l.getD (i + j) default).kind = 0) (hn : need c n = k) (hs : sp = 0 ∨ sp = 1) : PT c (tookP l i k ⟨2,sp,n,0⟩ ⟨3,sp,0,0⟩) := by
 have hg := Z5Q (p := ⟨2,sp,n,0⟩) (q := ⟨3,sp,0,0⟩) hk hik
 have hl : (tookP l i k ⟨2,sp,n,0⟩ ⟨3,sp,0,0⟩).length = l.length := Z5w hik
 have hf' : ∀ j,i ≤ j → j < i + k → (l.getD j default).kind = 0 := fun j h1 h2 => by
  have := hf (j - i) (by omega)
  rwa [show i + (j - i) = j by omega] at this
 refine ⟨?_, ?_, ?_⟩
 ·intro j hj
  rw [hl] at hj
  rw [hg]
  split
  ·exact ⟨by simp only; omega,by simp,by simp,by simp,by simp,by simp⟩
  ·split
   ·exact ⟨by simp only; omega,by simp,by simp,by simp,by simp,by simp⟩
   ·exact h.b j hj
 ·intro j hj hk2
  rw [hl] at hj ⊢
  simp only [hg] at hk2 ⊢
  by_cases hji : j = i
  ·subst hji
   simp only [if_pos] at hk2 ⊢
   rw [hn]
   refine ⟨by omega,fun m h1 h2 => ⟨by omega, ?_⟩⟩
   rw [if_neg (by omega),if_pos (by omega)]
   exact ⟨rfl,rfl⟩
  ·rw [if_neg hji] at hk2 ⊢
   by_cases hr : i < j ∧ j < i + k
   ·rw [if_pos hr] at hk2; simp at hk2
   ·rw [if_neg hr] at hk2 ⊢
    have q := h.lg j hj hk2
    refine ⟨q.1,fun m h1 h2 => ?_⟩
    have r := q.2 m h1 h2
    have hne : ¬ (i ≤ j + m ∧ j + m < i + k) := fun hc => by
     have := hf' (j + m) hc.1 hc.2
     omega
    rw [if_neg (by omega),if_neg (by omega)]
    exact r
 ·intro j hj hk3
  rw [hl] at hj
  simp only [hg] at hk3 ⊢
  by_cases hji : j = i
  ·rw [if_pos hji] at hk3; simp at hk3
  ·rw [if_neg hji] at hk3
   by_cases hr : i < j ∧ j < i + k
   ·refine ⟨i,hr.1, ?_⟩
    simp only [if_pos]
    refine ⟨trivial, ?_⟩
    rw [hn]; omega
   ·rw [if_neg hr] at hk3
    obtain ⟨a,a1,a2,a3⟩ := h.tl j hj hk3
    have hne : ¬ (i ≤ a ∧ a < i + k) := fun hc => by
     have := hf' a hc.1 hc.2
     omega
    refine ⟨a,a1, ?_⟩
    rw [if_neg (by omega),if_neg (by omega)]
    exact ⟨a2,a3⟩
theorem Z3c {l : List Page} {i : Nat} {n : Int} : Z1w l i n = l.set i ⟨(l.getD i default).kind,(l.getD i default).space,(l.getD i default).used + n,(l.getD i default).pins⟩ := rfl
theorem Z34 {h : Heap} (hs : h.space = 0 ∨ h.space = 1) (hf : 0 ≤ first h.pages 1) (n : Int) : Z1w (Z2r h) (first h.pages 1).toNat n = h.pages.set (first h.pages 1).toNat ⟨1,h.space,n,0⟩ ∧ (h.pages.getD (first h.pages 1).toNat default).kind = 0 ∧ (first h.pages 1).toNat < h.pages.length := by
 obtain ⟨f1,f2,f3,f4⟩ := Z24 hs hf
 obtain ⟨g1,g2,g3⟩ := Z18 hf
 have hi : (first h.pages 1).toNat < h.pages.length := by omega
 refine ⟨?_, ?_,hi⟩
 ·rw [Z3c,f4,f1,Z7n hi,List.set_set]
  simp
 ·have := freeK_iff.1 g3 0 (by decide)
  simpa using this
structure PutOk (h : Heap) (n : Int) (h' : Heap) (a : Int) : Prop where
 pr : Z02 h' = true
 c : h'.conf = h.conf
 w : h'.words = h.words
 l : h'.pages.length = h.pages.length
 sp : h'.space = h.space
 pin : ∀ p ∈ h'.pages,p.pins = 0 ∨ ∃ q ∈ h.pages,p.pins = q.pins
 lo : 4096 ≤ a
 hi : a + n ≤ 4096 + h.words.length
theorem getD_in {l : List Page} {i : Nat} (h : i < l.length) : l.getD i default ∈ l := by
 rw [List.getD_eq_getElem?_getD,List.getElem?_eq_getElem h]
 exact List.getElem_mem h
theorem Zel {h : Heap} {n : Int} (hp : Z02 h = true) (hn : 1 ≤ n ∧ n ≤ h.conf.pw) (e : (Z0a h n).2.2 = true) : PutOk h n (Z0a h n).1 (Z0a h n).2.1 := by
 have hp' := hp
 rw [Z1d] at hp
 obtain ⟨p1,p2,p3,p4,p5,p6⟩ := hp
 have hb := validB_iff.1 p1
 by_cases hf : Z2C h n
 ·have e7 : Z0a h n = (⟨h.conf,h.words,Z1w h.pages h.bump.toNat n,h.space,h.bump⟩,4096 + h.bump * h.conf.pw + (h.pages.getD h.bump.toNat default).used,true) := by rw [Z0a,if_pos hf]
  unfold Z2C at hf
  have hbi : h.bump.toNat < h.pages.length := by omega
  have hk : (h.pages.getD h.bump.toNat default).kind = 1 := by omega
  have ok := p6.b h.bump.toNat hbi
  have u := ok.k1 hk
  have ha := Z2y p1 (i := h.bump) (by omega) (by omega)
  have hio := Z10 (i := h.bump) (j := h.conf.pg) (pw := h.conf.pw) (by omega) (by omega)
  rw [Int.mul_comm h.conf.pg] at hio
  rw [e7]
  refine ⟨?_,rfl,rfl,by simp [Z1w],rfl, ?_,by simp only; omega,by simp only; omega⟩
  ·rw [Z1d]
   refine ⟨p1,p2,by simp [Z1w,p3],p4, ?_, ?_⟩
   ·refine Or.inr ⟨hf.1,by simp [Z1w]; omega, ?_⟩
    show ((Z1w h.pages h.bump.toNat n).getD h.bump.toNat default).kind = 1
    rw [Z3c,Z0r hbi,if_pos rfl]
    exact hk
   ·exact p6.setPage hbi (Or.inr hk) ⟨ok.s,ok.n,ok.k,fun q => by simp only at q; omega,fun _ => by simp only; omega,fun q => by simp only at q; omega⟩ (Or.inr hk)
  ·intro p hp
   rcases List.mem_or_eq_of_mem_set hp with hp | rfl
   ·exact Or.inr ⟨p,hp,rfl⟩
   ·exact Or.inr ⟨_,getD_in hbi,rfl⟩
 ·by_cases hg : 0 ≤ first h.pages 1 ∧ (Z0H h.pages : Int) < Z0M h.conf
  ·have e7 : Z0a h n = (⟨h.conf,h.words,Z1w (Z2r h) (first h.pages 1).toNat n,h.space,first h.pages 1⟩,4096 + first h.pages 1 * h.conf.pw + ((Z2r h).getD (first h.pages 1).toNat default).used,true) := by rw [Z0a,if_neg hf,if_pos hg]
   obtain ⟨g1,g2,g3⟩ := Z34 p4 hg.1 n
   have g4 := congrArg Page.used (Z24 p4 hg.1).2.2.2
   simp only at g4
   have ha := Z2y p1 (i := first h.pages 1) (by omega) (by omega)
   have hio := Z10 (i := first h.pages 1) (j := h.conf.pg) (pw := h.conf.pw) (by omega) (by omega)
   rw [Int.mul_comm h.conf.pg] at hio
   rw [e7,g1,g4]
   refine ⟨?_,rfl,rfl,by simp,rfl, ?_,by simp only; omega,by simp only; omega⟩
   ·rw [Z1d]
    refine ⟨p1,p2,by simp [p3],p4, ?_, ?_⟩
    ·refine Or.inr ⟨hg.1,by simp only [List.length_set]; omega, ?_⟩
     simp only
     rw [Z0r g3,if_pos rfl]
    ·exact p6.setPage g3 (Or.inl g2) ⟨by simp only; omega,by simp,by simp,by simp,fun _ => by simp only; omega,by simp⟩ (Or.inr rfl)
   ·intro p hp
    rcases List.mem_or_eq_of_mem_set hp with hp | rfl
    ·exact Or.inr ⟨p,hp,rfl⟩
    ·exact Or.inl rfl
  ·rw [Z0a,if_neg hf,if_neg hg] at e
   simp at e
theorem Ze7 {h : Heap} {n : Int} (hp : Z02 h = true) (hk : 1 ≤ need h.conf n) (e : (Z0k h n (need h.conf n)).2.2 = true) : PutOk h n (Z0k h n (need h.conf n)).1 (Z0k h n (need h.conf n)).2.1 := by
 have hp' := hp
 rw [Z1d] at hp
 obtain ⟨p1,p2,p3,p4,p5,p6⟩ := hp
 have hb := validB_iff.1 p1
 by_cases hg : 0 ≤ first h.pages (need h.conf n) ∧ Z0H h.pages + need h.conf n ≤ Z0M h.conf
 ·obtain ⟨g1,g2,g3⟩ := Z18 hg.1
  have el : (Z1M h.conf h.pages (first h.pages (need h.conf n)) h.space n).1 = tookP h.pages (first h.pages (need h.conf n)).toNat (need h.conf n).toNat ⟨2,h.space,n,0⟩ ⟨3,h.space,0,0⟩ := by
   rw [Z1M,if_pos ⟨hk,by omega⟩,Z2f,if_pos (by omega),if_pos g3]
  have e7 : Z0k h n (need h.conf n) = (⟨h.conf,h.words,tookP h.pages (first h.pages (need h.conf n)).toNat (need h.conf n).toNat ⟨2,h.space,n,0⟩ ⟨3,h.space,0,0⟩,h.space,h.bump⟩,4096 + first h.pages (need h.conf n) * h.conf.pw,true) := by rw [Z0k,if_pos hg,el]
  have hf : ∀ j,j < (need h.conf n).toNat → (h.pages.getD ((first h.pages (need h.conf n)).toNat + j) default).kind = 0 := freeK_iff.1 g3
  have hlen : (tookP h.pages (first h.pages (need h.conf n)).toNat (need h.conf n).toNat ⟨2,h.space,n,0⟩ ⟨3,h.space,0,0⟩).length = h.pages.length := Z5w (by omega)
  have hu := Z4b hk
  have h0 : 0 ≤ first h.pages (need h.conf n) * h.conf.pw := Int.mul_nonneg hg.1 (by omega)
  have hio := Int.mul_le_mul_of_nonneg_right (show first h.pages (need h.conf n) + need h.conf n ≤ h.conf.pg by omega) (show 0 ≤ h.conf.pw by omega)
  rw [Int.add_mul,Int.mul_comm h.conf.pg] at hio
  rw [e7]
  refine ⟨?_,rfl,rfl,hlen,rfl, ?_,by simp only; omega,by simp only; omega⟩
  ·rw [Z1d]
   refine ⟨p1,p2,by simp only [hlen]; exact p3,p4, ?_, ?_⟩
   ·simp only [hlen]
    rcases p5 with p5 | p5
    ·exact Or.inl p5
    ·refine Or.inr ⟨p5.1,p5.2.1, ?_⟩
     have hne : ¬ ((first h.pages (need h.conf n)).toNat ≤ h.bump.toNat ∧ h.bump.toNat < (first h.pages (need h.conf n)).toNat + (need h.conf n).toNat) := fun hc => by
      have := hf (h.bump.toNat - (first h.pages (need h.conf n)).toNat) (by omega)
      rw [show (first h.pages (need h.conf n)).toNat + (h.bump.toNat - (first h.pages (need h.conf n)).toNat) = h.bump.toNat by omega] at this
      omega
     rw [Z5Q (by omega) (by omega),if_neg (by omega),if_neg (by omega)]
     exact p5.2.2
   ·exact p6.took (by omega) (by omega) hf (by omega) p4
  ·intro p hp
   rcases List.mem_or_eq_of_mem_set hp with hp | rfl
   ·simp only [wr,List.mem_append] at hp
    rcases hp with (hp | hp) | hp
    ·exact Or.inr ⟨p,List.mem_of_mem_take hp,rfl⟩
    ·have := List.eq_of_mem_replicate (List.mem_of_mem_take hp)
     subst this
     exact Or.inl rfl
    ·exact Or.inr ⟨p,List.mem_of_mem_drop hp,rfl⟩
   ·exact Or.inl rfl
 ·rw [Z0k,if_neg hg] at e
  simp at e
theorem Zc8 {hd : Header} (hv : Z0i hd = true) (hm : 0 ≤ hd.map ∧ hd.map ≤ 4294967295) : WOk (objW hd) ∧ ((objW hd).length : Int) = sizeH hd := by
 have hb := Z90 hv hm.1 hm.2
 constructor
 ·intro x hx
  simp only [objW,List.mem_cons,List.mem_replicate,Z06,if_pos hv] at hx
  rcases hx with rfl | ⟨_,rfl⟩ <;> omega
 ·rw [sizeH,if_pos hv]
  simp [objW]; omega
theorem Z77 {h : Heap} {hd : Header} (hw : WOk h.words) (hm : 0 ≤ hd.map ∧ hd.map ≤ 4294967295) (e : (new7 h hd).2.2 = 0) :
  Z02 h = true ∧ Z1b h.conf hd = true ∧ PutOk h (sizeH hd) (put7 h hd).1 (put7 h hd).2.1 ∧ (put7 h hd).2.2 = true ∧ (new7 h hd).2.1 = (put7 h hd).2.1 ∧ (new7 h hd).1 = { (put7 h hd).1 with words := (Z0b h.words (put7 h hd).2.1 (objW hd)).1 } ∧ Z02 (new7 h hd).1 = true ∧ WOk (new7 h hd).1.words := by
 unfold new7 at e
 split at e
 ·rename_i c1
  split at e
  ·rename_i c2
   obtain ⟨a1,a2,a3,a4,a5⟩ := Z3R c1.2
   have po := Z08 c1.1
   have hput : PutOk h (sizeH hd) (put7 h hd).1 (put7 h hd).2.1 := by
    by_cases hn : 0 < need h.conf (sizeH hd)
    ·have e7 : put7 h hd = Z0k h (sizeH hd) (need h.conf (sizeH hd)) := by rw [put7,if_pos hn]
     rw [e7] at c2 ⊢
     exact Ze7 c1.1 (by omega) c2
    ·have e7 : put7 h hd = Z0a h (sizeH hd) := by rw [put7,if_neg hn]
     rw [e7] at c2 ⊢
     refine Zel c1.1 ⟨a2, ?_⟩ c2
     unfold need at hn a4
     split at a4
     ·rename_i hc
      rw [if_pos hc] at hn
      split at a4
      ·omega
      ·rename_i hd'
       rw [if_neg hd'] at hn
       have e := Int.mul_ediv_add_emod (sizeH hd + h.conf.pw - 1) h.conf.pw
       have hz : (sizeH hd + h.conf.pw - 1) / h.conf.pw = 0 := by omega
       rw [hz] at e
       have := Int.emod_lt_of_pos (sizeH hd + h.conf.pw - 1) (b := h.conf.pw) (by omega)
       omega
     ·omega
   have ho := Zc8 a1 hm
   have hin : 4096 ≤ (put7 h hd).2.1 ∧ (put7 h hd).2.1 - 4096 + (objW hd).length ≤ h.words.length := ⟨hput.lo,by have := hput.hi; omega⟩
   have e2 : Z0b h.words (put7 h hd).2.1 (objW hd) = (spl h.words ((put7 h hd).2.1 - 4096).toNat (objW hd),0) := by rw [Z0b,if_pos hin]
   have hlen : (spl h.words ((put7 h hd).2.1 - 4096).toNat (objW hd)).length = h.words.length := Z3n (by omega)
   have e3 : (Z0u (put7 h hd).1 (put7 h hd).2.1 hd).1 = { (put7 h hd).1 with words := (Z0b h.words (put7 h hd).2.1 (objW hd)).1 } := by
    rw [Z0u,if_pos ⟨hput.pr,a1⟩,hput.w,e2]
    simp
   have e4 : new7 h hd = ((Z0u (put7 h hd).1 (put7 h hd).2.1 hd).1,(put7 h hd).2.1,0) := by rw [new7,if_pos c1,if_pos c2]
   refine ⟨c1.1,c1.2,hput,c2,by rw [e4],by rw [e4]; exact e3, ?_, ?_⟩
   ·rw [e4]
    simp only
    rw [e3,e2]
    have q := hput.pr
    rw [Z1d] at q ⊢
    refine ⟨q.1, ?_,q.2.2.1,q.2.2.2.1,q.2.2.2.2.1,q.2.2.2.2.2⟩
    simp only [hlen]
    have := q.2.1
    rw [hput.w] at this
    exact this
   ·rw [e4]
    simp only
    rw [e3]
    exact Z5r hw ho.1 _
  ·simp at e
 ·simp at e
theorem ZjL {h : Heap} {a : Int} (e : (atH h a).2 = 0) : 4096 ≤ a ∧ a + (atH h a).1.length < 4096 + h.words.length := by
 have k := ZcI e
 have po := Z08 k.1
 have o := Z3B po.1 k.2.1
 have hj : (ofA h.conf a).1.toNat < h.pages.length := by omega
 have hk : (((ofA h.conf a).1.toNat : Nat) : Int) = (ofA h.conf a).1 := by omega
 have h2 := e
 unfold atH at h2 ⊢
 rw [if_pos k.1,if_pos k.2.1] at h2 ⊢
 split at h2
 ·rename_i g1
  split at h2
  ·simp at h2
  ·rename_i g2
   rw [if_pos g1,if_neg g2]
   have hv : Z0i (decodeH (loadA h.words a).1).1 = true := Z2b _
   have hs : sizeH (decodeH (loadA h.words a).1).1 = (decodeH (loadA h.words a).1).1.length + 1 := by rw [sizeH,if_pos hv]
   have hvb := (validH_iff.1 hv).2.2.1
   have ue := Z9n k.1 hj g1.1
   rw [hk] at ue
   have h0 : 0 ≤ (ofA h.conf a).1 * h.conf.pw := Int.mul_nonneg o.1 (by omega)
   have hio := Z10 (i := (ofA h.conf a).1) (j := h.conf.pg) (pw := h.conf.pw) o.2.1 (by omega)
   rw [Int.mul_comm h.conf.pg] at hio
   have hL := po.2.2.2.2.2.1
   refine ⟨by omega, ?_⟩
   simp only
   rcases g1.1 with g | g <;> omega
 ·simp at h2
theorem Z5d {h : Heap} {a i v : Int} (hw : WOk h.words) (hv : 0 ≤ v ∧ v ≤ 18446744073709551615) (e : (getH h a).2 = 0) (hi : 0 ≤ i ∧ i < (getH h a).1.length) : Z0c h a i v = ({ h with words := (Z0F h.words (a + 1 + i) v).1 },0) ∧ Z02 (Z0c h a i v).1 = true ∧ WOk (Z0c h a i v).1.words := by
 have g := Z3T e
 have k := ZjL g.2.1
 rw [← g.1] at k
 have hin : 4096 ≤ a + 1 + i ∧ a + 1 + i < 4096 + h.words.length := by omega
 have hf : (Z1p h a i).2 = 0 := by
  unfold Z1p
  rw [if_pos e,if_pos hi]
  unfold loadA
  rw [if_pos hin]
 have e1 : Z0c h a i v = ({ h with words := (Z0F h.words (a + 1 + i) v).1 },0) := by rw [Z0c,if_pos hf]
 refine ⟨e1, ?_, ?_⟩
 ·rw [e1]
  have q := g.2.2.1
  rw [Z1d] at q ⊢
  refine ⟨q.1, ?_,q.2.2.1,q.2.2.2.1,q.2.2.2.2.1,q.2.2.2.2.2⟩
  simp only [Z2m hin]
  exact q.2.1
 ·rw [e1]
  exact Z6Q hw hv _
def Zik (a : List Int) (i : Nat) : Tg := ⟨tm 26 [(0,Z01 a),(1,Z01 a),(4,bool false),(5,int i)],[],60⟩
theorem Zf8 (a : List Int) (i : Nat) (ha : a.length ≤ 1048576) (hi : i < a.length) : CSpec Tryz.prog (rndF Tryz.f17 0) (Zik a i).st .nrm (Zik a (i + 1)).st := by
 exact sF [] [] (Fl 13 wdv a (Ftb 14 (decide ((↑i : Int) < (↑a.length : Int))) (Fek 19 wdv a (↑i) i (Fek 23 wdv a (↑i) i (Ff 25 (by simp only [bs, *,true_or,or_true,true_and,and_true,not_true_eq_false,not_false_eq_true,Bool.true_eq_false,Bool.false_eq_true] : (a.getD i default != a.getD i default)=false) (Fx 16 i Fz))))))
theorem ZiU (a : List Int) : CSpec Tryz.prog (rndF Tryz.f17 0) (Zik a a.length).st (.ext 0) (Tg.st ⟨tm 26 [],[],60⟩) := by
 exact sF [] [] (Fl 13 wdv a (Ffb 14 (decide ((↑a.length : Int) < (↑a.length : Int))) Fz))
theorem ZhY (a : List Int) (ha : a.length ≤ 1048576) : CSpec Tryz.prog (blkF Tryz.f17 0) (Tg.st ⟨tm 26 [(0,Z01 a),(1,Z01 a),(4,bool false),(5,int 0)],[],60⟩) .nrm (Tg.st ⟨tm 26 [],[],60⟩) :=
 Z0d (S := fun i => (Zik a i).st) a.length (by kernel_rfl) (fun i hi => Zf8 a i ha hi) (ZiU a)
theorem Zga (a : List Int) (ha : a.length ≤ 1048576) : GSpec Tryz.prog 17 [Z01 a,Z01 a] true (bool true) [] := by
 exact gF [] Tryz.func17 [] (Fl 7 wdv a (Fl 9 wdv a (Ff 10 (by simp only [bs, *,true_or,or_true,true_and,and_true,not_true_eq_false,not_false_eq_true,Bool.true_eq_false,Bool.false_eq_true] : ((↑a.length : Int) != (↑a.length : Int))=false) (Fu (@ZhY a ‹_›) Fz))))
theorem ZcT {l : List Page} {i k : Nat} {p q : Page} (hk : 1 ≤ k) (h : i + k ≤ l.length) : spl l i (p :: List.replicate (k - 1) q) = tookP l i k p q := by
 obtain ⟨m,rfl⟩ : ∃ m,k = m + 1 := ⟨k - 1,by omega⟩
 have hl : (List.take i l).length = i := by simp; omega
 rw [tookP,wr,spl,List.take_of_length_le (l := List.replicate (m + 1) q) (by simp),List.append_assoc,List.append_assoc,List.set_append,if_neg (by omega),hl,Nat.sub_self]
 simp [List.replicate_succ]
theorem Z7F {l : List Page} : ∀ {i : Nat},(∀ j,j < i → (l.getD j default).kind = 0) → Z1F l i = 0
 | 0,_ => rfl
 | i + 1,h => by
  have hp : Z17 l i = l.getD i default := by rw [Z5i]; simp
  rw [Z1F,Z7F (fun j hj => h j (by omega)),hp,if_pos (h i (by omega))]
theorem Zeb {l : List Page} {i k : Nat} (h : i + k ≤ l.length) (hf : Z4z l i k = true) : Z0H ((l.drop i).take k) = 0 := by
 refine Z7F fun j hj => ?_
 simp only [List.length_take,List.length_drop] at hj
 have := freeK_iff.1 hf j (by omega)
 rw [List.getD_eq_getElem?_getD] at this ⊢
 rwa [List.getElem?_take,if_pos (by omega),List.getElem?_drop]
theorem Z71 (l : List Page) (hl : l.length ≤ 1048576) (hne : l ≠ []) : GSpec Tryz.prog 74 [Z0o l] true (.ow 0) [.arr 56 4 (l.map Page.dv)] := by
 exact gF [24007] Tryz.func74 [] (Fa (by exact Zf5 hne : List.map Page.dv l ≠ []) (Fs 5 (List.map Page.dv []) (Fa (by (simp [*]; omega) : (List.map Page.dv []).length + (List.map Page.dv l).length≤2 ^ 30) (Fs 7 (List.map Page.dv l) (Fa (by exact Z2c _ : Z1m (List.map Page.dv l)) Fz)))))
theorem ZcK (ps l : List Page) (i : Int) (hl : ps.length ≤ 1048576) (hll : l.length ≤ 1048576) (hi : 0 ≤ i) (h1 : i + l.length ≤ ps.length) (hf : Z4z ps i.toNat l.length = true) (hn : 0 < ps.length) : GSpec Tryz.prog 116 [Z0o ps,int i,Z0o l] true (.tu [.ow 0,int 0]) [.arr 56 4 ((spl ps i.toNat l).map Page.dv)] := by
 have hne : ps ≠ [] := Z5I hn
 have e1 : Z0H (List.take ((i + l.length).toNat - i.toNat) (List.drop i.toNat ps)) = 0 := by
  rw [show (i + l.length).toNat - i.toNat = l.length from by omega]
  exact Zeb (by omega) hf
 have hs : Z0K (List.map Page.dv ps) i.toNat (List.map Page.dv l) = List.map Page.dv (spl ps i.toNat l) := by simp [Z0K,spl]
 exact gF [33030] Tryz.func116 [] (Fh 26 [.els (List.map Page.dv (List.take ((i + (↑l.length : Int)).toNat - i.toNat) (List.drop i.toNat ps)))] (Fh 35 [.els (List.map Page.dv (List.take i.toNat ps ++ l ++ List.drop (i.toNat + l.length) ps))] (FlG 14 (!decide (i < 0)) Page.dv ps (FlG 16 (!decide (i < 0)) Page.dv l (FiG 17 (!decide (i < 0)) ((↑ps.length : Int) - (↑l.length : Int)) (Ffb 19 (decide (i < 0)||decide ((↑ps.length : Int) - (↑l.length : Int) < i)) (Fl 24 Page.dv l (Fi 25 (i + (↑l.length : Int)) (Fa (by (simp only [List.length_map]; omega) : 0≤i∧i≤i + (↑l.length : Int)∧i + (↑l.length : Int)≤(↑(List.map Page.dv ps).length : Int)) (Fa (by simp [e1,spl,List.map_take,List.map_drop,List.map_set,List.map_append,wdv,idv] : List.take ((i + (↑l.length : Int)).toNat - i.toNat) (List.drop i.toNat (List.map Page.dv ps)) =List.map Page.dv (List.take ((i + (↑l.length : Int)).toNat - i.toNat) (List.drop i.toNat ps))) (Fc 27 (@Z2Q (List.take ((i + (↑l.length : Int)).toNat - i.toNat) (List.drop i.toNat ps)) (by (simp [e1,spl, *]; omega))) (Ffb 28 (decide (0 < (↑(Z0H (List.take ((i + (↑l.length : Int)).toNat - i.toNat) (List.drop i.toNat ps))) : Int))) (Fc 30 (@Z71 ps ‹_› ‹_›) (Fa (by (simp only [List.length_map]; omega) : 0≤i∧i≤(↑(List.map Page.dv ps).length : Int)) (Fa (by (simp only [List.length_map]; omega) : (List.map Page.dv l).length≤(↑(List.map Page.dv ps).length : Int).toNat - i.toNat) (Fa (by exact hs : Z0K (List.map Page.dv ps) i.toNat (List.map Page.dv l) =List.map Page.dv (List.take i.toNat ps ++ l ++ List.drop (i.toNat + l.length) ps)) (Fa (by exact Z2c _ : Z1m (List.map Page.dv (List.take i.toNat ps ++ l ++ List.drop (i.toNat + l.length) ps))) Fz)))))))))))))))))
theorem Zkk {l : List Page} {i : Nat} {p q : Page} (h : i + 1 ≤ l.length) : spl l i [p] = tookP l i 1 p q := by
 have := ZcT (l := l) (i := i) (k := 1) (p := p) (q := q) (Nat.le_refl _) h
 simpa using this
theorem Zed (l : List Page) (i sp : Int) (hl : l.length ≤ 1048576) (hs : 0 ≤ sp ∧ sp ≤ 1) (hi : 0 ≤ i ∧ i + 1 ≤ l.length) (hf : Z4z l i.toNat 1 = true) : GSpec Tryz.prog 75 [Z0o l,int i,int sp] true (.tu [.ow 0,int 0]) [.arr 56 4 ((tookP l i.toNat 1 ⟨1,sp,0,0⟩ ⟨0,0,0,0⟩).map Page.dv)] := by
 have e := Zkk (l := l) (i := i.toNat) (p := ⟨1,sp,0,0⟩) (q := ⟨0,0,0,0⟩) (by omega)
 rw [← e]
 have e2 : Z4z l i.toNat ([⟨1,sp,0,0⟩] : List Page).length = true := hf
 have e3 : Z1t ⟨1,sp,0,0⟩ = true := by simp [Z1t]; omega
 exact gF [33018] Tryz.func75 [] (Fc 12 (@Z3L (Page.mk 1 sp 0 0)) (Ffb 13 (!Z1t (Page.mk 1 sp 0 0)) (Fs 17 (List.map Page.dv [Page.mk 1 sp 0 0]) (Fc 18 (@ZcK l ([Page.mk 1 sp 0 0]) i ‹_› (by simp [*]) (by omega) (by simp [*]) ‹_› (by omega)) (Fa (by exact Z2c _ : Z1m (List.map Page.dv (spl l i.toNat [Page.mk 1 sp 0 0]))) Fz)))))
def lrgL (l : List Page) (i sp n k : Int) (j : Nat) : Tg := ⟨tm 45 [(1,Z0o l),(2,int i),(3,int sp),(10,.d (.sl 0 [])),(11,int 0),(13,int k),(14,.ow 40029)],[(40029,.arr 56 4 (((⟨2,sp,n,0⟩ : Page) :: List.replicate j ⟨3,sp,0,0⟩).map Page.dv))],60⟩
theorem ZgX (l : List Page) (i sp n k : Int) (j : Nat) (hj : (j : Int) + 1 < k) (hk : k ≤ 1000) : CSpec Tryz.prog (rndF Tryz.f76 0) (lrgL l i sp n k j).st .nrm (lrgL l i sp n k (j + 1)).st := by
 have e : ((⟨2,sp,n,0⟩ : Page) :: List.replicate (j + 1) ⟨3,sp,0,0⟩) = (⟨2,sp,n,0⟩ :: List.replicate j ⟨3,sp,0,0⟩) ++ [⟨3,sp,0,0⟩] := by rw [List.replicate_succ',List.cons_append]
 exact sF [(488038,40029)] [false,false,false,false,false,false,false,true] (Fh 38 [.els (List.map Page.dv (Page.mk 2 sp n 0 :: List.replicate j (Page.mk 3 sp 0 0) ++ [Page.mk 3 sp 0 0]))] (Fg 31 (by simp only [List.length_map,List.length_append,List.length_take,List.length_drop,List.length_set,List.length_replicate,List.length_nil,List.length_cons] : (↑(List.map Page.dv (Page.mk 2 sp n 0 :: List.replicate j (Page.mk 3 sp 0 0))).length : Int) =(↑(j + 1) : Int)) (Ftb 33 (decide ((↑(j + 1) : Int) < k)) (Fs 37 (List.map Page.dv [Page.mk 3 sp 0 0]) (Fa (by (simp [*]; omega) : (List.map Page.dv (Page.mk 2 sp n 0 :: List.replicate j (Page.mk 3 sp 0 0))).length + (List.map Page.dv [Page.mk 3 sp 0 0]).length≤2 ^ 30) (Fa (by simp [List.map_take,List.map_drop,List.map_set,List.map_append,wdv,idv] : List.map Page.dv (Page.mk 2 sp n 0 :: List.replicate j (Page.mk 3 sp 0 0)) ++ List.map Page.dv [Page.mk 3 sp 0 0] =List.map Page.dv (Page.mk 2 sp n 0 :: List.replicate j (Page.mk 3 sp 0 0) ++ [Page.mk 3 sp 0 0])) (Fr (56 : Int) (Fa (by refine congrArg _ ?_; rw [e] : List.map Page.dv (Page.mk 2 sp n 0 :: List.replicate j (Page.mk 3 sp 0 0) ++ [Page.mk 3 sp 0 0]) =List.map Page.dv (Page.mk 2 sp n 0 :: List.replicate (j + 1) (Page.mk 3 sp 0 0))) Fz))))))))
theorem ZjY (l : List Page) (i sp n k : Int) (h1 : 1 ≤ k) : CSpec Tryz.prog (rndF Tryz.f76 0) (lrgL l i sp n k (k.toNat - 1)).st (.ext 0) (Tg.st ⟨tm 45 [(1,Z0o l),(2,int i),(10,.d (.sl 0 [])),(11,int 0),(14,.ow 40029)],[(40029,.arr 56 4 (((⟨2,sp,n,0⟩ : Page) :: List.replicate (k.toNat - 1) ⟨3,sp,0,0⟩).map Page.dv))],60⟩) := by
 exact sF [] [] (Fg 31 (by simp only [List.length_map,List.length_append,List.length_take,List.length_drop,List.length_set,List.length_replicate,List.length_nil,List.length_cons] : (↑(List.map Page.dv (Page.mk 2 sp n 0 :: List.replicate (k.toNat - 1) (Page.mk 3 sp 0 0))).length : Int) =(↑(k.toNat - 1 + 1) : Int)) (Ffb 33 (decide ((↑(k.toNat - 1 + 1) : Int) < k)) Fz))
theorem Zjy (l : List Page) (i sp n k : Int) (h1 : 1 ≤ k) (hk : k ≤ 1000) : CSpec Tryz.prog (blkF Tryz.f76 0) (Tg.st ⟨tm 45 [(1,Z0o l),(2,int i),(3,int sp),(10,.d (.sl 0 [])),(11,int 0),(13,int k),(14,.ow 40029)],[(40029,.arr 56 4 ([(⟨2,sp,n,0⟩ : Page)].map Page.dv))],60⟩) .nrm (Tg.st ⟨tm 45 [(1,Z0o l),(2,int i),(10,.d (.sl 0 [])),(11,int 0),(14,.ow 40029)],[(40029,.arr 56 4 (((⟨2,sp,n,0⟩ : Page) :: List.replicate (k.toNat - 1) ⟨3,sp,0,0⟩).map Page.dv))],60⟩) :=
 Z0d (S := fun j => (lrgL l i sp n k j).st) (k.toNat - 1) (by kernel_rfl) (fun j hj => ZgX l i sp n k j (by omega) hk) (ZjY l i sp n k h1)
theorem Zes (c : Conf) (l : List Page) (i sp n : Int) (hl : l.length ≤ 1048576) (hs : 0 ≤ sp ∧ sp ≤ 1) (hn : 1 ≤ need c n) (hi : 0 ≤ i ∧ i + need c n ≤ l.length) (hf : Z4z l i.toNat (need c n).toNat = true) : GSpec Tryz.prog 76 [c.av,Z0o l,int i,int sp,int n] true (.tu [.ow 0,int 0]) [.arr 56 4 ((tookP l i.toNat (need c n).toNat ⟨2,sp,n,0⟩ ⟨3,sp,0,0⟩).map Page.dv)] := by
 have e := ZcT (l := l) (i := i.toNat) (k := (need c n).toNat) (p := ⟨2,sp,n,0⟩) (q := ⟨3,sp,0,0⟩) (by omega) (by omega)
 rw [← e]
 have hr := Z1I c n
 have e3 : Z1t ⟨2,sp,n,0⟩ = true := by simp [Z1t]; omega
 exact gF [481042] Tryz.func76 [] (Fc 20 (@Z2d c n) (FcG 25 (!decide (need c n < 1)) (fun hg => by (try simp only [bs] at hg); exact @Z3L (Page.mk 2 sp n 0)) (Ff 27 (by simp [*] : (decide (need c n < 1)||!Z1t (Page.mk 2 sp n 0))=false) (Fs 29 (List.map Page.dv [Page.mk 2 sp n 0]) (Fu (@Zjy l i sp n (need c n) ‹_› (by omega)) (Fc 42 (@ZcK l (Page.mk 2 sp n 0 :: List.replicate ((need c n).toNat - 1) (Page.mk 3 sp 0 0)) i ‹_› (by (simp [*]; omega)) (by omega) (by (simp [*]; omega)) (by grind []) (by omega)) (Fa (by exact Z2c _ : Z1m (List.map Page.dv (spl l i.toNat (Page.mk 2 sp n 0 :: List.replicate ((need c n).toNat - 1) (Page.mk 3 sp 0 0))))) Fz)))))))
theorem ZjA (c : Conf) (hd : Header) : (Z0i hd && hd.kind != 0 && decide (0 ≤ need c (sizeH hd))) = Z1b c hd := by
 have hr := Z1I c (sizeH hd)
 have e : decide (0 ≤ need c (sizeH hd)) = decide (need c (sizeH hd) ≠ -1) := decide_eq_decide.2 (by omega)
 have e3 : (hd.kind != 0) = decide (hd.kind ≠ 0) := by rw [Bool.eq_iff_iff]; simp
 rw [Z1b,e,e3]
theorem Z3s (c : Conf) (hd : Header) (hm : 0 ≤ hd.map ∧ hd.map ≤ 4294967295) : GSpec Tryz.prog 35 [c.av,hd.av] true (bool (Z1b c hd)) [] := by
 refine gspec_ofE [((6 : Nat),[Hint.call true (Sx.bool (Z0i hd)) []]),((15 : Nat),[Hint.call true (int (sizeH hd)) []]),((16 : Nat),[Hint.call true (int (need c (sizeH hd))) []])] [] [] (by decide) Tryz.func35 [false,false,false,false,false,false,false,false,true] (φ := GSpec Tryz.prog 71 [hd.av] true (Sx.bool (Z0i hd)) [] ∧ ((Z0i hd && hd.kind != (0 : Int)) = true → GSpec Tryz.prog 37 [hd.av] true (int (sizeH hd)) []) ∧ ((Z0i hd && hd.kind != (0 : Int)) = true → GSpec Tryz.prog 72 [c.av,int (sizeH hd)] true (int (need c (sizeH hd))) []) ∧ (Z0i hd && hd.kind != (0 : Int) && decide ((0 : Int) ≤ need c (sizeH hd))) = Z1b c hd) ?_ (by kernel_rfl) (by kernel_rfl)
 exact ⟨(@Z39 (hd) ‹_›),(fun hg => by (try simp only [bs] at hg); exact @Z29 (hd) (by (try simp only [bs] at hg); assumption)),(fun hg => by (try simp only [bs] at hg); exact @Z2d (c) (sizeH hd)),(by exact ZjA _ _)⟩
theorem Z9l (h : Heap) (n : Int) (hp : Z02 h = true) (hn : 1 ≤ n ∧ n ≤ 256) (hk : ¬ 0 < need h.conf n) (hf : Z2C h n) : GSpec Tryz.prog 73 [h.av,int n] false (.ic 75 (.ag [int h.bump,int (h.pages.getD h.bump.toNat default).used])) [] := by
 obtain ⟨o1,o2,o3,o4,o5,o6,o7,o8,o9⟩ := Z08 hp
 have hb := (properB_iff.1 hp).2.2.2.2.1
 have hpg := fun hj => Z0D hp (j := h.bump.toNat) hj
 have hli := Z3Q o1
 unfold Z2C at hf
 exact gF [] Tryz.func73 [] (Fc 13 (@Z2Q h.pages (by omega)) (Fc 16 (@Z37 h.conf) (Fc 20 (@Z2d h.conf n) (Ffb 22 (decide (0 < need h.conf n)) (Ftb 46 (decide (0≤h.bump)&&decide ((↑(Z0H h.pages) : Int)≤Z0M h.conf)) (Fe 51 Page.dv h.pages h.bump (FiG 65 ((h.pages.getD h.bump.toNat default).space == h.space) (h.conf.pw - (h.pages.getD h.bump.toNat default).used) (Ftb 67 ((h.pages.getD h.bump.toNat default).space == h.space&&decide (n≤h.conf.pw - (h.pages.getD h.bump.toNat default).used)) Fz))))))))
theorem Z7c (h : Heap) (n : Int) (hp : Z02 h = true) (hn : 1 ≤ n ∧ n ≤ 256) (hk : ¬ 0 < need h.conf n) (hf : ¬ Z2C h n) (hg : 0 ≤ first h.pages 1 ∧ (Z0H h.pages : Int) < Z0M h.conf) : GSpec Tryz.prog 73 [h.av,int n] false (.ic 114 (.ag [int (first h.pages 1)])) [] := by
 obtain ⟨o1,o2,o3,o4,o5,o6,o7,o8,o9⟩ := Z08 hp
 have hb := (properB_iff.1 hp).2.2.2.2.1
 have hpg := fun hj => Z0D hp (j := h.bump.toNat) hj
 have hli := Z3Q o1
 unfold Z2C at hf
 have Q0 {h_ c_ p_} (r_ : Fq h_ c_ p_) := Fc 13 (@Z2Q h.pages (by omega)) (Fc 16 (@Z37 h.conf) (Fc 20 (@Z2d h.conf n) (Ffb 22 (decide (0 < need h.conf n)) r_)))
 rcases bb (decide (0 ≤ h.bump) && decide ((↑(Z0H h.pages) : Int) ≤ Z0M h.conf)) with hc0 | hc0<;>have hc0p:=hc0<;>simp only [bs] at hc0p
 ·obtain ⟨hc0pa,hc0pb⟩ := hc0p
  exact gF [] Tryz.func73 [] (Q0 (Ft 46 hc0 (Fe 51 Page.dv h.pages h.bump (FiG 65 ((h.pages.getD h.bump.toNat default).space == h.space) (h.conf.pw - (h.pages.getD h.bump.toNat default).used) (Ffb 67 ((h.pages.getD h.bump.toNat default).space == h.space&&decide (n≤h.conf.pw - (h.pages.getD h.bump.toNat default).used)) (Fc 76 (@Z3r h.pages (1) (by omega)) (Ftb 83 (decide (0≤first h.pages 1)&&decide ((↑(Z0H h.pages) : Int) < Z0M h.conf)) Fz)))))))
 ·exact gF [] Tryz.func73 [] (Q0 (Ff 46 hc0 (Fc 76 (@Z3r h.pages (1) (by omega)) (Ftb 83 (decide (0≤first h.pages 1)&&decide ((↑(Z0H h.pages) : Int) < Z0M h.conf)) Fz))))
theorem Z86 (h : Heap) (n : Int) (hp : Z02 h = true) (hn : 1 ≤ n ∧ n ≤ 256) (hk : ¬ 0 < need h.conf n) (hf : ¬ Z2C h n) (hg : ¬ (0 ≤ first h.pages 1 ∧ (Z0H h.pages : Int) < Z0M h.conf)) : GSpec Tryz.prog 73 [h.av,int n] false (.d (.sc .nilIface)) [] := by
 obtain ⟨o1,o2,o3,o4,o5,o6,o7,o8,o9⟩ := Z08 hp
 have hb := (properB_iff.1 hp).2.2.2.2.1
 have hpg := fun hj => Z0D hp (j := h.bump.toNat) hj
 have hli := Z3Q o1
 unfold Z2C at hf
 have Q0 {h_ c_ p_} (r_ : Fq h_ c_ p_) := Fc 13 (@Z2Q h.pages (by omega)) (Fc 16 (@Z37 h.conf) (Fc 20 (@Z2d h.conf n) (Ffb 22 (decide (0 < need h.conf n)) r_)))
 rcases bb (decide (0 ≤ h.bump) && decide ((↑(Z0H h.pages) : Int) ≤ Z0M h.conf)) with hc0 | hc0<;>have hc0p:=hc0<;>simp only [bs] at hc0p
 ·obtain ⟨hc0pa,hc0pb⟩ := hc0p
  exact gF [] Tryz.func73 [] (Q0 (Ft 46 hc0 (Fe 51 Page.dv h.pages h.bump (FiG 65 ((h.pages.getD h.bump.toNat default).space == h.space) (h.conf.pw - (h.pages.getD h.bump.toNat default).used) (Ffb 67 ((h.pages.getD h.bump.toNat default).space == h.space&&decide (n≤h.conf.pw - (h.pages.getD h.bump.toNat default).used)) (Fc 76 (@Z3r h.pages (1) (by omega)) (Ffb 83 (decide (0≤first h.pages 1)&&decide ((↑(Z0H h.pages) : Int) < Z0M h.conf)) Fz)))))))
 ·exact gF [] Tryz.func73 [] (Q0 (Ff 46 hc0 (Fc 76 (@Z3r h.pages (1) (by omega)) (Ffb 83 (decide (0≤first h.pages 1)&&decide ((↑(Z0H h.pages) : Int) < Z0M h.conf)) Fz))))
theorem Z95 (h : Heap) (n : Int) (hp : Z02 h = true) (hk : 0 < need h.conf n) (hg : 0 ≤ first h.pages (need h.conf n) ∧ Z0H h.pages + need h.conf n ≤ Z0M h.conf) : GSpec Tryz.prog 73 [h.av,int n] false (.ic 118 (.ag [int (first h.pages (need h.conf n))])) [] := by
 obtain ⟨o1,o2,o3,o4,o5,o6,o7,o8,o9⟩ := Z08 hp
 have hnr := Z1I h.conf n
 have hli := Z3Q o1
 exact gF [] Tryz.func73 [] (Fc 13 (@Z2Q h.pages (by omega)) (Fc 16 (@Z37 h.conf) (Fc 20 (@Z2d h.conf n) (Ftb 22 (decide (0 < need h.conf n)) (Fc 26 (@Z3r h.pages (need h.conf n) (by omega)) (FiG 33 (decide (0≤first h.pages (need h.conf n))) (Z0M h.conf - need h.conf n) (Ftb 35 (decide (0≤first h.pages (need h.conf n))&&decide ((↑(Z0H h.pages) : Int)≤Z0M h.conf - need h.conf n)) Fz)))))))
theorem Zbl (h : Heap) (n : Int) (hp : Z02 h = true) (hk : 0 < need h.conf n) (hg : ¬ (0 ≤ first h.pages (need h.conf n) ∧ Z0H h.pages + need h.conf n ≤ Z0M h.conf)) : GSpec Tryz.prog 73 [h.av,int n] false (.d (.sc .nilIface)) [] := by
 obtain ⟨o1,o2,o3,o4,o5,o6,o7,o8,o9⟩ := Z08 hp
 have hnr := Z1I h.conf n
 have hli := Z3Q o1
 exact gF [] Tryz.func73 [] (Fc 13 (@Z2Q h.pages (by omega)) (Fc 16 (@Z37 h.conf) (Fc 20 (@Z2d h.conf n) (Ftb 22 (decide (0 < need h.conf n)) (Fc 26 (@Z3r h.pages (need h.conf n) (by omega)) (FiG 33 (decide (0≤first h.pages (need h.conf n))) (Z0M h.conf - need h.conf n) (Ffb 35 (decide (0≤first h.pages (need h.conf n))&&decide ((↑(Z0H h.pages) : Int)≤Z0M h.conf - need h.conf n)) Fz)))))))
def putN (h : Heap) (n : Int) : Heap × Int × Bool := if 0 < need h.conf n then Z0k h n (need h.conf n) else Z0a h n
def Z0R (h : Heap) (n : Int) : Int := if 0 < need h.conf n then first h.pages (need h.conf n) else if Z2C h n then h.bump else first h.pages 1
def Z0P (h : Heap) (n : Int) : Int := if 0 < need h.conf n then 0 else if Z2C h n then (h.pages.getD h.bump.toNat default).used else 0
theorem Zad (h : Heap) (n : Int) (hp : Z02 h = true) (hn : 1 ≤ n ∧ n ≤ 256) (hk : ¬ 0 < need h.conf n) (hf : Z2C h n) : GSpec Tryz.prog 36 [h.av,int n] false (.tu [Heap.av ⟨h.conf,h.words,Z1w h.pages h.bump.toNat n,h.space,h.bump⟩,.ag [int h.bump,int (h.pages.getD h.bump.toNat default).used],int 0]) [] := by
 have po := Z08 hp
 have hb := (properB_iff.1 hp).2.2.2.2.1
 have hf' := hf
 unfold Z2C at hf'
 have hne : h.pages ≠ [] := Z5I (by omega)
 have hpg := Z0D hp (j := h.bump.toNat) (by omega)
 exact gF [] Tryz.func36 [] (Fc 17 (@Z9l h n ‹_› ‹_› ‹_› ‹_›) (Fc 26 (@Z71 h.pages (by omega) ‹_›) (Fm 34 Page.dv h.pages h.bump h.bump.toNat (Fi 36 ((h.pages.getD h.bump.toNat default).used + n) (Fm0 Page.dv h.pages h.bump h.bump.toNat (FS 10038 Page.dv h.pages h.bump.toNat (Page.mk (h.pages.getD h.bump.toNat default).kind (h.pages.getD h.bump.toNat default).space ((h.pages.getD h.bump.toNat default).used + n) (h.pages.getD h.bump.toNat default).pins) ((h.pages.getD h.bump.toNat default).dv) Fz))))))
theorem Z84 (h : Heap) (n : Int) (hp : Z02 h = true) (hn : 1 ≤ n ∧ n ≤ 256) (hk : ¬ 0 < need h.conf n) (hf : ¬ Z2C h n) (hg : 0 ≤ first h.pages 1 ∧ (Z0H h.pages : Int) < Z0M h.conf) : GSpec Tryz.prog 36 [h.av,int n] false (.tu [Heap.av ⟨h.conf,h.words,Z1w (Z2r h) (first h.pages 1).toNat n,h.space,first h.pages 1⟩,.ag [int (first h.pages 1),int 0],int 0]) [] := by
 have po := Z08 hp
 obtain ⟨q1,q2,q3,q4⟩ := Z24 (h := h) po.2.2.2.2.2.2.2.2 hg.1
 obtain ⟨r1,r2,r3⟩ := Z18 hg.1
 have r4 : Z4z h.pages (first h.pages 1).toNat 1 = true := r3
 rw [q1] at q2 q4 ⊢
 have q6 := congrArg Page.used q4
 simp only at q6
 exact gF [] Tryz.func36 [true] (Fc 17 (@Z7c h n ‹_› ‹_› ‹_› ‹_› ‹_›) (Fc 54 (@Zed h.pages (first h.pages 1) h.space (by omega) (by omega) (by omega) ‹_›) (Fa (by (simp only [List.length_map]; omega) : 0≤first h.pages 1∧(first h.pages 1).toNat < (List.map Page.dv (tookP h.pages (first h.pages 1).toNat 1 (Page.mk 1 h.space 0 0) (Page.mk 0 0 0 0))).length) (Fa (by exact Z1E (by omega) : (List.map Page.dv (tookP h.pages (first h.pages 1).toNat 1 (Page.mk 1 h.space 0 0) (Page.mk 0 0 0 0)))[(first h.pages 1).toNat]? = some ((tookP h.pages (first h.pages 1).toNat 1 (Page.mk 1 h.space 0 0) (Page.mk 0 0 0 0)).getD (first h.pages 1).toNat default).dv) (FS 10072 Page.dv (tookP h.pages (first h.pages 1).toNat 1 (Page.mk 1 h.space 0 0) (Page.mk 0 0 0 0)) ((first h.pages 1).toNat) (Page.mk ((tookP h.pages (first h.pages 1).toNat 1 (Page.mk 1 h.space 0 0) (Page.mk 0 0 0 0)).getD (first h.pages 1).toNat default).kind ((tookP h.pages (first h.pages 1).toNat 1 (Page.mk 1 h.space 0 0) (Page.mk 0 0 0 0)).getD (first h.pages 1).toNat default).space n ((tookP h.pages (first h.pages 1).toNat 1 (Page.mk 1 h.space 0 0) (Page.mk 0 0 0 0)).getD (first h.pages 1).toNat default).pins) (((tookP h.pages (first h.pages 1).toNat 1 (Page.mk 1 h.space 0 0) (Page.mk 0 0 0 0)).getD (first h.pages 1).toNat default).dv) (Fr h.conf.pw (Fr h.conf.pg (Fr (List.map wdv h.words) (Fa (by refine congrArg _ ?_; (simp only [Z1w,q4]; (repeat' split) <;> first | rfl | omega | (exfalso; omega) | simp_all) : List.map Page.dv ((tookP h.pages (first h.pages 1).toNat 1 (Page.mk 1 h.space 0 0) (Page.mk 0 0 0 0)).set (first h.pages 1).toNat (Page.mk ((tookP h.pages (first h.pages 1).toNat 1 (Page.mk 1 h.space 0 0) (Page.mk 0 0 0 0)).getD (first h.pages 1).toNat default).kind ((tookP h.pages (first h.pages 1).toNat 1 (Page.mk 1 h.space 0 0) (Page.mk 0 0 0 0)).getD (first h.pages 1).toNat default).space n ((tookP h.pages (first h.pages 1).toNat 1 (Page.mk 1 h.space 0 0) (Page.mk 0 0 0 0)).getD (first h.pages 1).toNat default).pins)) =List.map Page.dv (Heap.mk h.conf h.words (Z1w (tookP h.pages (first h.pages 1).toNat 1 (Page.mk 1 h.space 0 0) (Page.mk 0 0 0 0)) (first h.pages 1).toNat n) h.space (first h.pages 1)).pages) (Fr h.space (Fr (first h.pages 1) (Fr (first h.pages 1) (Fr (0 : Int) (Fr (0 : Int) Fz))))))))))))))
theorem Z9V (h : Heap) (n : Int) (hp : Z02 h = true) (hn : 1 ≤ n ∧ n ≤ 256) (hk : ¬ 0 < need h.conf n) (hf : ¬ Z2C h n) (hg : ¬ (0 ≤ first h.pages 1 ∧ (Z0H h.pages : Int) < Z0M h.conf)) : GSpec Tryz.prog 36 [h.av,int n] false (.tu [noHeap.av,.ag [int 0,int 0],int 3]) [] := by
 exact gF [] Tryz.func36 [] (Fc 17 (@Z86 h n ‹_› ‹_› ‹_› ‹_› (by omega)) (Fnl (Fnl Fz)))
theorem ZaD (h : Heap) (n : Int) (hp : Z02 h = true) (hk : 0 < need h.conf n) (hg : 0 ≤ first h.pages (need h.conf n) ∧ Z0H h.pages + need h.conf n ≤ Z0M h.conf) : GSpec Tryz.prog 36 [h.av,int n] false (.tu [Heap.av ⟨h.conf,h.words,(Z1M h.conf h.pages (first h.pages (need h.conf n)) h.space n).1,h.space,h.bump⟩,.ag [int (first h.pages (need h.conf n)),int 0],int 0]) [] := by
 have po := Z08 hp
 obtain ⟨r1,r2,r3⟩ := Z18 hg.1
 have hnr := Z1I h.conf n
 have e : (Z1M h.conf h.pages (first h.pages (need h.conf n)) h.space n).1 = tookP h.pages (first h.pages (need h.conf n)).toNat (need h.conf n).toNat ⟨2,h.space,n,0⟩ ⟨3,h.space,0,0⟩ := by
  rw [Z1M,if_pos (by omega),Z2f,if_pos (by omega),if_pos r3]
 rw [e]
 exact gF [] Tryz.func36 [] (Fc 17 (@Z95 h n ‹_› ‹_› ‹_›) (Fc 96 (@Zes h.conf h.pages (first h.pages (need h.conf n)) h.space n (by omega) (by omega) ‹_› (by omega) ‹_›) Fz))
theorem Zc9 (h : Heap) (n : Int) (hp : Z02 h = true) (hk : 0 < need h.conf n) (hg : ¬ (0 ≤ first h.pages (need h.conf n) ∧ Z0H h.pages + need h.conf n ≤ Z0M h.conf)) : GSpec Tryz.prog 36 [h.av,int n] false (.tu [noHeap.av,.ag [int 0,int 0],int 3]) [] := by
 exact gF [] Tryz.func36 [] (Fc 17 (@Zbl h n ‹_› ‹_› (by omega)) (Fnl (Fnl Fz)))
theorem Zk6 {a v k : Nat} (ha : a < 2 ^ k) (hv : a + v * 2 ^ k < 18446744073709551616) : bits .or .u64 (a : Int) ((v * 2 ^ k : Nat) : Int) = ((a + v * 2 ^ k : Nat) : Int) := by
 rw [bits_or_u64_nat a (v * 2 ^ k) (by omega) (by omega),Nat.mul_comm v,Nat.or_comm,← Nat.two_pow_add_eq_or_of_lt ha,Nat.add_comm]
theorem ZbV {v n : Nat} (hn : n ≤ 64) (hv : v < 2 ^ n) : bits .andNot .u64 (v : Int) (2 ^ n - 1) = 0 := by
 have h64 : (2 : Nat) ^ n ≤ 2 ^ 64 := Nat.pow_le_pow_right (by decide) hn
 have hp : 0 < (2 : Nat) ^ n := Nat.two_pow_pos n
 have e : ((2 : Int) ^ n - 1) = ((2 ^ n - 1 : Nat) : Int) := by
  have : ((2 ^ n : Nat) : Int) = 2 ^ n := by simp
  omega
 rw [e]
 have h1 : (BitVec.ofInt 64 (v : Int)).toNat = v := by
  rw [BitVec.ofInt_natCast,BitVec.toNat_ofNat]; exact Nat.mod_eq_of_lt (by omega)
 have h2 : (BitVec.ofInt 64 ((2 ^ n - 1 : Nat) : Int)).toNat = 2 ^ n - 1 := by
  rw [BitVec.ofInt_natCast,BitVec.toNat_ofNat]; exact Nat.mod_eq_of_lt (by omega)
 show IntKind.u64.wrap ((BitVec.ofInt 64 (v : Int) &&& ~~~ BitVec.ofInt 64 ((2 ^ n - 1 : Nat) : Int)).toNat : Int) = _
 rw [BitVec.toNat_and,BitVec.toNat_not,h1,h2]
 have e2 : 2 ^ 64 - 1 - (2 ^ n - 1) = 2 ^ n * (2 ^ (64 - n) - 1) := by
  have : (2 : Nat) ^ 64 = 2 ^ n * 2 ^ (64 - n) := by rw [← Nat.pow_add]; congr 1; omega
  rw [Nat.mul_sub,Nat.mul_one,← this]; omega
 have e3 : v &&& (2 ^ 64 - 1 - (2 ^ n - 1)) = 0 := by
  rw [e2]
  apply Nat.eq_of_testBit_eq
  intro i
  rw [Nat.testBit_and,Nat.zero_testBit,Nat.testBit_two_pow_mul]
  by_cases hi : n ≤ i
  ·rw [Nat.testBit_lt_two_pow (Nat.lt_of_lt_of_le hv (Nat.pow_le_pow_right (by decide) hi)),Bool.false_and]
  ·simp [hi]
 rw [e3]
 decide
theorem Z6L (v n : Int) (h0 : 0 ≤ v) (hn : 0 ≤ n ∧ n ≤ 64) (hv : v < 2 ^ n.toNat) : GSpec Tryz.prog 147 [u64 v,int n] true (bool true) [] := by
 have e : bits .andNot .u64 v (ones n) = 0 := by
  obtain ⟨a,rfl⟩ := Int.eq_ofNat_of_zero_le h0
  rw [ones,Nat.min_eq_left (by omega)]
  exact ZbV (by omega) (by exact_mod_cast hv)
 exact gF [] Tryz.func147 [true] (Fc 7 (@Zdj n) (Fb ((bits BinOp.andNot IntKind.u64 v (ones n) == 0)=true) Fz))
structure BField where
 width : Int
 value : Int
 deriving DecidableEq,Inhabited
def BField.dv (f : BField) : List DV := [.sc (.int .i64 f.width),.sc (.int .u64 f.value)]
def Z0s (k l m : Int) : List BField := [⟨2,1⟩,⟨2,k⟩,⟨12,l⟩,⟨32,m⟩]
def pk1 (k l m : Int) (i : Nat) : Tg := ⟨tm 55 [(0,.d (.sl 2 ((Z0s k l m).map BField.dv))),(2,u64 0),(3,int 0),(4,int ([64,62,60,48,16].getD i 0)),(11,.d (.sl 2 ((Z0s k l m).map BField.dv))),(12,int (Z0s k l m).length),(13,int i)],[],4⟩
theorem Zhy (k l m : Int) (i : Nat) (hi : i < 4) : CSpec Tryz.prog (rndF Tryz.f117 0) (pk1 k l m i).st .nrm (pk1 k l m (i + 1)).st := by
 have eL : (Z0s k l m).length = 4 := rfl
 have e0 : (Z0s k l m).getD 0 default = ⟨2,1⟩ := rfl
 have e1 : (Z0s k l m).getD 1 default = ⟨2,k⟩ := rfl
 have e2 : (Z0s k l m).getD 2 default = ⟨12,l⟩ := rfl
 have e3 : (Z0s k l m).getD 3 default = ⟨32,m⟩ := rfl
 have h : i = 0 ∨ i = 1 ∨ i = 2 ∨ i = 3 := by omega
 rcases h with rfl | rfl | rfl | rfl
 ·refine stretchE [((15 : Nat),[Hint.el ((Z0s k l m).getD (0 : Nat) default).dv]),((29 : Nat),[Hint.int ((64 : Int) - ((Z0s k l m).getD (0 : Nat) default).width)])] [] [] [] (φ := ((0 : Int) ≤ (↑(0 : Nat) : Int) ∧ (List.map BField.dv (Z0s k l m))[(↑(0 : Nat) : Int).toNat]? = some ((Z0s k l m).getD (0 : Nat) default).dv) ∧ IntKind.i64.wrap ([(64 : Int),(62 : Int),(60 : Int),(48 : Int),(16 : Int)].getD (0 : Nat) (0 : Int) - ((Z0s k l m).getD (0 : Nat) default).width) = (64 : Int) - ((Z0s k l m).getD (0 : Nat) default).width) ?_ (by kernel_rfl) (by kernel_rfl) (by kernel_rfl)
  exact ⟨(by exact elI (by omega) (by omega) (by omega)),rfl⟩
 ·refine stretchE [((15 : Nat),[Hint.el ((Z0s k l m).getD (1 : Nat) default).dv]),((29 : Nat),[Hint.int ((62 : Int) - ((Z0s k l m).getD (1 : Nat) default).width)])] [] [] [] (φ := ((0 : Int) ≤ (↑(1 : Nat) : Int) ∧ (List.map BField.dv (Z0s k l m))[(↑(1 : Nat) : Int).toNat]? = some ((Z0s k l m).getD (1 : Nat) default).dv) ∧ IntKind.i64.wrap ([(64 : Int),(62 : Int),(60 : Int),(48 : Int),(16 : Int)].getD (1 : Nat) (0 : Int) - ((Z0s k l m).getD (1 : Nat) default).width) = (62 : Int) - ((Z0s k l m).getD (1 : Nat) default).width) ?_ (by kernel_rfl) (by kernel_rfl) (by kernel_rfl)
  exact ⟨(by exact elI (by omega) (by omega) (by omega)),rfl⟩
 ·refine stretchE [((15 : Nat),[Hint.el ((Z0s k l m).getD (2 : Nat) default).dv]),((29 : Nat),[Hint.int ((60 : Int) - ((Z0s k l m).getD (2 : Nat) default).width)])] [] [] [] (φ := ((0 : Int) ≤ (↑(2 : Nat) : Int) ∧ (List.map BField.dv (Z0s k l m))[(↑(2 : Nat) : Int).toNat]? = some ((Z0s k l m).getD (2 : Nat) default).dv) ∧ IntKind.i64.wrap ([(64 : Int),(62 : Int),(60 : Int),(48 : Int),(16 : Int)].getD (2 : Nat) (0 : Int) - ((Z0s k l m).getD (2 : Nat) default).width) = (60 : Int) - ((Z0s k l m).getD (2 : Nat) default).width) ?_ (by kernel_rfl) (by kernel_rfl) (by kernel_rfl)
  exact ⟨(by exact elI (by omega) (by omega) (by omega)),rfl⟩
 ·refine stretchE [((15 : Nat),[Hint.el ((Z0s k l m).getD (3 : Nat) default).dv]),((29 : Nat),[Hint.int ((48 : Int) - ((Z0s k l m).getD (3 : Nat) default).width)])] [] [] [] (φ := ((0 : Int) ≤ (↑(3 : Nat) : Int) ∧ (List.map BField.dv (Z0s k l m))[(↑(3 : Nat) : Int).toNat]? = some ((Z0s k l m).getD (3 : Nat) default).dv) ∧ IntKind.i64.wrap ([(64 : Int),(62 : Int),(60 : Int),(48 : Int),(16 : Int)].getD (3 : Nat) (0 : Int) - ((Z0s k l m).getD (3 : Nat) default).width) = (48 : Int) - ((Z0s k l m).getD (3 : Nat) default).width) ?_ (by kernel_rfl) (by kernel_rfl) (by kernel_rfl)
  exact ⟨(by exact elI (by omega) (by omega) (by omega)),rfl⟩
theorem Zk8 (k l m : Int) : CSpec Tryz.prog (rndF Tryz.f117 0) (pk1 k l m 4).st (.ext 0) (Tg.st ⟨tm 55 [(0,.d (.sl 2 ((Z0s k l m).map BField.dv))),(2,u64 0),(3,int 0)],[],4⟩) := by
 have eL : (Z0s k l m).length = 4 := rfl
 refine stretchE [] [] [] [] (φ := True) ?_ (by kernel_rfl) (by kernel_rfl) (by kernel_rfl)
 exact trivial
theorem ZiL (k l m : Int) : CSpec Tryz.prog (blkF Tryz.f117 0) (Tg.st ⟨tm 55 [(0,.d (.sl 2 ((Z0s k l m).map BField.dv))),(2,u64 0),(3,int 0),(4,int 64),(11,.d (.sl 2 ((Z0s k l m).map BField.dv))),(12,int (Z0s k l m).length),(13,int 0)],[],4⟩) .nrm (Tg.st ⟨tm 55 [(0,.d (.sl 2 ((Z0s k l m).map BField.dv))),(2,u64 0),(3,int 0)],[],4⟩) :=
 Z0d (S := fun i => (pk1 k l m i).st) 4 (by kernel_rfl) (fun i hi => Zhy k l m i hi) (Zk8 k l m)
def pkW (k l m : Int) (i : Nat) : Int := [0,1,1 + 4 * k,1 + 4 * k + 16 * l,1 + 4 * k + 16 * l + 65536 * m].getD i 0
def pk2 (k l m : Int) (i : Nat) : Tg := ⟨tm 55 [(2,u64 0),(3,int 0),(7,u64 (pkW k l m i)),(8,int ([0,2,4,16,48].getD i 0)),(31,.d (.sl 2 ((Z0s k l m).map BField.dv))),(32,int (Z0s k l m).length),(33,int i)],[],6⟩
theorem orI (n : Nat) {p a v : Int} (hp : p = ((2 ^ n : Nat) : Int)) (ha : 0 ≤ a) (hv : 0 ≤ v) (h1 : a < p) (h2 : a + v * p < 18446744073709551616) : bits .or .u64 a (IntKind.u64.wrap (v * p)) = a + v * p := by
 obtain ⟨x,rfl⟩ := Int.eq_ofNat_of_zero_le ha
 obtain ⟨y,rfl⟩ := Int.eq_ofNat_of_zero_le hv
 have hm : (y : Int) * p = ((y * 2 ^ n : Nat) : Int) := by rw [hp,Int.natCast_mul]
 rw [hm] at h2 ⊢
 rw [wrapU' (by omega) (by omega)]
 exact Zk6 (by omega) (by omega)
theorem ZhN (k l m : Int) (i : Nat) (h1 : 0 ≤ k ∧ k ≤ 3) (h2 : 0 ≤ l ∧ l ≤ 255) (h3 : 0 ≤ m ∧ m ≤ 4294967295) (hi : i < 4) : CSpec Tryz.prog (rndF Tryz.f117 2) (pk2 k l m i).st .nrm (pk2 k l m (i + 1)).st := by
 have eL : (Z0s k l m).length = 4 := rfl
 have e0 : (Z0s k l m).getD 0 default = ⟨2,1⟩ := rfl
 have e1 : (Z0s k l m).getD 1 default = ⟨2,k⟩ := rfl
 have e2 : (Z0s k l m).getD 2 default = ⟨12,l⟩ := rfl
 have e3 : (Z0s k l m).getD 3 default = ⟨32,m⟩ := rfl
 have h : i = 0 ∨ i = 1 ∨ i = 2 ∨ i = 3 := by omega
 have f1 : bits .or .u64 (pkW k l m 1) (IntKind.u64.wrap (((Z0s k l m).getD 1 default).value * 4)) = pkW k l m (1 + 1) := (orI 2 (a := 1) (v := k) (by decide) (by omega) (by omega) (by omega) (by omega)).trans (by show _ = 1 + 4 * k; omega)
 have f2 : bits .or .u64 (pkW k l m 2) (IntKind.u64.wrap (((Z0s k l m).getD 2 default).value * 16)) = pkW k l m (2 + 1) := (orI 4 (a := 1 + 4 * k) (v := l) (by decide) (by omega) (by omega) (by omega) (by omega)).trans (by show _ = 1 + 4 * k + 16 * l; omega)
 have f3 : bits .or .u64 (pkW k l m 3) (IntKind.u64.wrap (((Z0s k l m).getD 3 default).value * 65536)) = pkW k l m (3 + 1) := (orI 16 (a := 1 + 4 * k + 16 * l) (v := m) (by decide) (by omega) (by omega) (by omega) (by omega)).trans (by show _ = 1 + 4 * k + 16 * l + 65536 * m; omega)
 rcases h with rfl | rfl | rfl | rfl
 ·refine stretchE [((35 : Nat),[Hint.el ((Z0s k l m).getD (0 : Nat) default).dv]),((41 : Nat),[Hint.call true (Sx.bool true) []]),((47 : Nat),[Hint.int (((Z0s k l m).getD (0 : Nat) default).value * (1 : Int))]),((52 : Nat),[Hint.int ((0 : Int) + ((Z0s k l m).getD (0 : Nat) default).width)])] [] [] [] (φ := ((0 : Int) ≤ (↑(0 : Nat) : Int) ∧ (List.map BField.dv (Z0s k l m))[(↑(0 : Nat) : Int).toNat]? = some ((Z0s k l m).getD (0 : Nat) default).dv) ∧ GSpec Tryz.prog 147 [u64 ((Z0s k l m).getD (0 : Nat) default).value,int ((Z0s k l m).getD (0 : Nat) default).width] true (Sx.bool true) [] ∧ IntKind.u64.wrap (((Z0s k l m).getD (0 : Nat) default).value * (2 : Int) ^ min ([(0 : Int),(2 : Int),(4 : Int),(16 : Int),(48 : Int)].getD (0 : Nat) (0 : Int)).toNat (64 : Nat)) = ((Z0s k l m).getD (0 : Nat) default).value * (1 : Int) ∧ (0 : Int) ≤ [(0 : Int),(2 : Int),(4 : Int),(16 : Int),(48 : Int)].getD (0 : Nat) (0 : Int) ∧ IntKind.i64.wrap ([(0 : Int),(2 : Int),(4 : Int),(16 : Int),(48 : Int)].getD (0 : Nat) (0 : Int) + ((Z0s k l m).getD (0 : Nat) default).width) = (0 : Int) + ((Z0s k l m).getD (0 : Nat) default).width) ?_ (by kernel_rfl) (by kernel_rfl) (by kernel_rfl)
  exact ⟨(by exact elI (by omega) (by omega) (by omega)),(@Z6L (((Z0s k l m).getD (0 : Nat) default).value) (((Z0s k l m).getD (0 : Nat) default).width) (by grind [pkW]) (by grind [pkW]) (by grind [pkW])),rfl,(by simp [pkW, *]),rfl⟩
 ·refine stretchE [((35 : Nat),[Hint.el ((Z0s k l m).getD (1 : Nat) default).dv]),((41 : Nat),[Hint.call true (Sx.bool true) []]),((48 : Nat),[Hint.int (bits BinOp.or IntKind.u64 (pkW k l m (1 : Nat)) (IntKind.u64.wrap (((Z0s k l m).getD (1 : Nat) default).value * (4 : Int))))]),((52 : Nat),[Hint.int ((2 : Int) + ((Z0s k l m).getD (1 : Nat) default).width)])] [] [] [false,false,true] (φ := ((0 : Int) ≤ (↑(1 : Nat) : Int) ∧ (List.map BField.dv (Z0s k l m))[(↑(1 : Nat) : Int).toNat]? = some ((Z0s k l m).getD (1 : Nat) default).dv) ∧ GSpec Tryz.prog 147 [u64 ((Z0s k l m).getD (1 : Nat) default).value,int ((Z0s k l m).getD (1 : Nat) default).width] true (Sx.bool true) [] ∧ (0 : Int) ≤ [(0 : Int),(2 : Int),(4 : Int),(16 : Int),(48 : Int)].getD (1 : Nat) (0 : Int) ∧ bits BinOp.or IntKind.u64 (pkW k l m (1 : Nat)) (IntKind.u64.wrap (((Z0s k l m).getD (1 : Nat) default).value * (2 : Int) ^ min ([(0 : Int),(2 : Int),(4 : Int),(16 : Int),(48 : Int)].getD (1 : Nat) (0 : Int)).toNat (64 : Nat))) = bits BinOp.or IntKind.u64 (pkW k l m (1 : Nat)) (IntKind.u64.wrap (((Z0s k l m).getD (1 : Nat) default).value * (4 : Int))) ∧ IntKind.i64.wrap ([(0 : Int),(2 : Int),(4 : Int),(16 : Int),(48 : Int)].getD (1 : Nat) (0 : Int) + ((Z0s k l m).getD (1 : Nat) default).width) = (2 : Int) + ((Z0s k l m).getD (1 : Nat) default).width ∧ bits BinOp.or IntKind.u64 (pkW k l m (1 : Nat)) (IntKind.u64.wrap (((Z0s k l m).getD (1 : Nat) default).value * (4 : Int))) = pkW k l m ((1 : Nat) + (1 : Nat))) ?_ (by kernel_rfl) (by kernel_rfl) (by kernel_rfl)
  exact ⟨(by exact elI (by omega) (by omega) (by omega)),(@Z6L (((Z0s k l m).getD (1 : Nat) default).value) (((Z0s k l m).getD (1 : Nat) default).width) (by simp only [bs, *,true_or,or_true,true_and,and_true,not_true_eq_false,not_false_eq_true,Bool.true_eq_false,Bool.false_eq_true]) (by grind [pkW]) (by grind [pkW])),(by simp [pkW, *]),rfl,rfl,‹_›⟩
 ·refine stretchE [((35 : Nat),[Hint.el ((Z0s k l m).getD (2 : Nat) default).dv]),((41 : Nat),[Hint.call true (Sx.bool true) []]),((48 : Nat),[Hint.int (bits BinOp.or IntKind.u64 (pkW k l m (2 : Nat)) (IntKind.u64.wrap (((Z0s k l m).getD (2 : Nat) default).value * (16 : Int))))]),((52 : Nat),[Hint.int ((4 : Int) + ((Z0s k l m).getD (2 : Nat) default).width)])] [] [] [false,false,true] (φ := ((0 : Int) ≤ (↑(2 : Nat) : Int) ∧ (List.map BField.dv (Z0s k l m))[(↑(2 : Nat) : Int).toNat]? = some ((Z0s k l m).getD (2 : Nat) default).dv) ∧ GSpec Tryz.prog 147 [u64 ((Z0s k l m).getD (2 : Nat) default).value,int ((Z0s k l m).getD (2 : Nat) default).width] true (Sx.bool true) [] ∧ (0 : Int) ≤ [(0 : Int),(2 : Int),(4 : Int),(16 : Int),(48 : Int)].getD (2 : Nat) (0 : Int) ∧ bits BinOp.or IntKind.u64 (pkW k l m (2 : Nat)) (IntKind.u64.wrap (((Z0s k l m).getD (2 : Nat) default).value * (2 : Int) ^ min ([(0 : Int),(2 : Int),(4 : Int),(16 : Int),(48 : Int)].getD (2 : Nat) (0 : Int)).toNat (64 : Nat))) = bits BinOp.or IntKind.u64 (pkW k l m (2 : Nat)) (IntKind.u64.wrap (((Z0s k l m).getD (2 : Nat) default).value * (16 : Int))) ∧ IntKind.i64.wrap ([(0 : Int),(2 : Int),(4 : Int),(16 : Int),(48 : Int)].getD (2 : Nat) (0 : Int) + ((Z0s k l m).getD (2 : Nat) default).width) = (4 : Int) + ((Z0s k l m).getD (2 : Nat) default).width ∧ bits BinOp.or IntKind.u64 (pkW k l m (2 : Nat)) (IntKind.u64.wrap (((Z0s k l m).getD (2 : Nat) default).value * (16 : Int))) = pkW k l m ((2 : Nat) + (1 : Nat))) ?_ (by kernel_rfl) (by kernel_rfl) (by kernel_rfl)
  exact ⟨(by exact elI (by omega) (by omega) (by omega)),(@Z6L (((Z0s k l m).getD (2 : Nat) default).value) (((Z0s k l m).getD (2 : Nat) default).width) (by simp only [bs, *,true_or,or_true,true_and,and_true,not_true_eq_false,not_false_eq_true,Bool.true_eq_false,Bool.false_eq_true]) (by grind [pkW]) (by grind [pkW])),(by simp [pkW, *]),rfl,rfl,‹_›⟩
 ·refine stretchE [((35 : Nat),[Hint.el ((Z0s k l m).getD (3 : Nat) default).dv]),((41 : Nat),[Hint.call true (Sx.bool true) []]),((48 : Nat),[Hint.int (bits BinOp.or IntKind.u64 (pkW k l m (3 : Nat)) (IntKind.u64.wrap (((Z0s k l m).getD (3 : Nat) default).value * (65536 : Int))))]),((52 : Nat),[Hint.int ((16 : Int) + ((Z0s k l m).getD (3 : Nat) default).width)])] [] [] [false,false,true] (φ := ((0 : Int) ≤ (↑(3 : Nat) : Int) ∧ (List.map BField.dv (Z0s k l m))[(↑(3 : Nat) : Int).toNat]? = some ((Z0s k l m).getD (3 : Nat) default).dv) ∧ GSpec Tryz.prog 147 [u64 ((Z0s k l m).getD (3 : Nat) default).value,int ((Z0s k l m).getD (3 : Nat) default).width] true (Sx.bool true) [] ∧ (0 : Int) ≤ [(0 : Int),(2 : Int),(4 : Int),(16 : Int),(48 : Int)].getD (3 : Nat) (0 : Int) ∧ bits BinOp.or IntKind.u64 (pkW k l m (3 : Nat)) (IntKind.u64.wrap (((Z0s k l m).getD (3 : Nat) default).value * (2 : Int) ^ min ([(0 : Int),(2 : Int),(4 : Int),(16 : Int),(48 : Int)].getD (3 : Nat) (0 : Int)).toNat (64 : Nat))) = bits BinOp.or IntKind.u64 (pkW k l m (3 : Nat)) (IntKind.u64.wrap (((Z0s k l m).getD (3 : Nat) default).value * (65536 : Int))) ∧ IntKind.i64.wrap ([(0 : Int),(2 : Int),(4 : Int),(16 : Int),(48 : Int)].getD (3 : Nat) (0 : Int) + ((Z0s k l m).getD (3 : Nat) default).width) = (16 : Int) + ((Z0s k l m).getD (3 : Nat) default).width ∧ bits BinOp.or IntKind.u64 (pkW k l m (3 : Nat)) (IntKind.u64.wrap (((Z0s k l m).getD (3 : Nat) default).value * (65536 : Int))) = pkW k l m ((3 : Nat) + (1 : Nat))) ?_ (by kernel_rfl) (by kernel_rfl) (by kernel_rfl)
  exact ⟨(by exact elI (by omega) (by omega) (by omega)),(@Z6L (((Z0s k l m).getD (3 : Nat) default).value) (((Z0s k l m).getD (3 : Nat) default).width) (by simp only [bs, *,true_or,or_true,true_and,and_true,not_true_eq_false,not_false_eq_true,Bool.true_eq_false,Bool.false_eq_true]) (by grind [pkW]) (by grind [pkW])),(by simp [pkW, *]),rfl,rfl,‹_›⟩
theorem Zk1 (k l m : Int) : CSpec Tryz.prog (rndF Tryz.f117 2) (pk2 k l m 4).st (.ext 2) (Tg.st ⟨tm 55 [(2,u64 0),(3,int 0),(7,u64 (1 + 4 * k + 16 * l + 65536 * m))],[],6⟩) := by
 have eL : (Z0s k l m).length = 4 := rfl
 have ew : pkW k l m 4 = 1 + 4 * k + 16 * l + 65536 * m := rfl
 refine stretchE [] [] [] [] (φ := True) ?_ (by kernel_rfl) (by kernel_rfl) (by kernel_rfl)
 exact trivial
theorem Zjv (k l m : Int) (h1 : 0 ≤ k ∧ k ≤ 3) (h2 : 0 ≤ l ∧ l ≤ 255) (h3 : 0 ≤ m ∧ m ≤ 4294967295) : CSpec Tryz.prog (blkF Tryz.f117 2) (Tg.st ⟨tm 55 [(2,u64 0),(3,int 0),(7,u64 0),(8,int 0),(31,.d (.sl 2 ((Z0s k l m).map BField.dv))),(32,int (Z0s k l m).length),(33,int 0)],[],6⟩) .nrm (Tg.st ⟨tm 55 [(2,u64 0),(3,int 0),(7,u64 (1 + 4 * k + 16 * l + 65536 * m))],[],6⟩) :=
 Z0d (S := fun i => (pk2 k l m i).st) 4 (by kernel_rfl) (fun i hi => ZhN k l m i h1 h2 h3 hi) (Zk1 k l m)
theorem Zh1 (k l m : Int) (h1 : 0 ≤ k ∧ k ≤ 3) (h2 : 0 ≤ l ∧ l ≤ 255) (h3 : 0 ≤ m ∧ m ≤ 4294967295) : GSpec Tryz.prog 117 [.d (.sl 2 ((Z0s k l m).map BField.dv))] true (.tu [u64 (1 + 4 * k + 16 * l + 65536 * m),int 0]) [] := by
 exact gF [] Tryz.func117 [] (Fg 12 (rfl : (↑(List.map BField.dv (Z0s k l m)).length : Int) =(↑(Z0s k l m).length : Int)) (Fu (@ZiL k l m) (Fg 32 (rfl : (↑(List.map BField.dv (Z0s k l m)).length : Int) =(↑(Z0s k l m).length : Int)) (Fu (@Zjv k l m ‹_› ‹_› ‹_›) Fz))))
theorem Z3d (h : Header) (hm : 0 ≤ h.map ∧ h.map ≤ 4294967295) : GSpec Tryz.prog 77 [h.av] true (.tu [u64 (Z06 h).1,int (Z06 h).2]) [] := by
 rcases bb (!Z0i h) with hc0 | hc0<;>have hc0p:=hc0<;>simp only [bs] at hc0p
 ·exact gF [] Tryz.func77 [true] (Fc 5 (@Z39 h ‹_›) (Ft 6 hc0 (Fa (by simp [Z06, *] : 0 =(Z06 h).fst) (Fa (by simp [Z06, *] : 1 =(Z06 h).snd) Fz))))
 ·have hf3 := validH_iff.1 hc0p
  obtain ⟨hf3a,⟨hf3ba,⟨hf3bba,⟨hf3bbba,hf3bbbb⟩⟩⟩⟩ := hf3
  exact gF [] Tryz.func77 [true] (Fc 5 (@Z39 h ‹_›) (Ff 6 hc0 (Fv 10 h.kind (Fv 14 h.length (Fv 18 h.map (Fs 20 (List.map BField.dv [BField.mk 2 1,BField.mk 2 h.kind,BField.mk 12 h.length,BField.mk 32 h.map]) (Fc 21 (@Zh1 h.kind h.length h.map (by omega) (by omega) ‹_›) (Fa (by simp [Z06, *] : (1 :Int) + 4 * h.kind + 16 * h.length + 65536 * h.map =(Z06 h).fst) (Fa (by simp [Z06, *] : 0 =(Z06 h).snd) Fz)))))))))
theorem Z5W (h : Heap) (a : Int) (hd : Header) (hw : WOk h.words) (h0 : 0 ≤ a ∧ a ≤ 18446744073709551615) (hm : 0 ≤ hd.map ∧ hd.map ≤ 4294967295) : GSpec Tryz.prog 39 [h.av,u64 a,hd.av] false (.tu [(Z0u h a hd).1.av,int (Z0u h a hd).2]) [] := by
 by_cases hp : Z02 h = true ∧ (Z06 hd).2 = 0
 ·have ok := Z8n hp.2
  have hz : sizeH hd = hd.length + 1 := by rw [sizeH,if_pos ok.1]
  have po := Z08 hp.1
  have hp1 := hp.1
  have hp2 := hp.2
  have es : (List.replicate (sizeH hd).toNat 0).set 0 (Z06 hd).1 = objW hd := by
   rw [hz,objW,show (hd.length + 1).toNat = hd.length.toNat + 1 from by omega,List.replicate_succ,List.set_cons_zero]
  have el : ((List.replicate (sizeH hd).toNat 0).set 0 (Z06 hd).1).length = hd.length.toNat + 1 := by rw [es]; simp [objW]
  have hne : h.pages ≠ [] := Z5I (by omega)
  by_cases e : (Z0b h.words a ((List.replicate (sizeH hd).toNat 0).set 0 (Z06 hd).1)).2 = 0
  ·have e7 : Z0u h a hd = ({ h with words := (Z0b h.words a ((List.replicate (sizeH hd).toNat 0).set 0 (Z06 hd).1)).1 },0) := by
    rw [es] at e ⊢
    rw [Z0u,if_pos ⟨hp.1,ok.1⟩,if_pos e]
   rw [e7]
   exact gF [] Tryz.func39 [] (Fh 27 [.els (List.map wdv (List.replicate (sizeH hd).toNat 0))] (Fh 10030 [.els (List.map wdv ((List.replicate (sizeH hd).toNat 0).set 0 (Z06 hd).fst))] (Fc 14 (@Z3d hd ‹_›) (FcG 21 (!(Z06 hd).snd != 0) (fun hg => by (try simp only [bs] at hg); exact @Z1q h) (Ff 23 (by simp only [bs, *,true_or,or_true,true_and,and_true,not_true_eq_false,not_false_eq_true,Bool.true_eq_false,Bool.false_eq_true] : ((Z06 hd).snd != 0||!Z02 h)=false) (Fc 26 (@Z29 hd ‹_›) (Fb (0≤sizeH hd∧sizeH hd≤sizeH hd∧sizeH hd * ((↑(nat_lit 7) : Int) + 1)≤2 ^ 48) (Fa (by simp [List.map_take,List.map_drop,List.map_set,List.map_append,wdv,idv] : List.replicate (sizeH hd).toNat [du64 0] =List.map wdv (List.replicate (sizeH hd).toNat 0)) (Fa (by (simp [*]; omega) : (0 :Int)≤0∧Int.toNat 0 < (List.map wdv (List.replicate (sizeH hd).toNat 0)).length) (Fa (by (simp [*]; omega) : Int.toNat 0 < (List.map wdv (List.replicate (sizeH hd).toNat 0)).length) (Fa (by simp [List.map_take,List.map_drop,List.map_set,List.map_append,wdv,idv] : (List.map wdv (List.replicate (sizeH hd).toNat 0)).set (Int.toNat 0) [du64 (Z06 hd).fst] =List.map wdv ((List.replicate (sizeH hd).toNat 0).set 0 (Z06 hd).fst)) (Fc 36 (@Z64 h.words ((List.replicate (sizeH hd).toNat 0).set 0 (Z06 hd).fst) a (by omega) (by omega) ‹_› (by omega)) (Fc 42 (@Z4Z h ((Z0b h.words a ((List.replicate (sizeH hd).toNat 0).set 0 (Z06 hd).fst)).fst) ((Z0b h.words a ((List.replicate (sizeH hd).toNat 0).set 0 (Z06 hd).fst)).snd) (by omega) ‹_› ‹_›) Fz)))))))))))))
  ·have e7 : Z0u h a hd = (noHeap,(Z0b h.words a ((List.replicate (sizeH hd).toNat 0).set 0 (Z06 hd).1)).2) := by
    rw [es] at e ⊢
    rw [Z0u,if_pos ⟨hp.1,ok.1⟩,if_neg e]
   rw [e7]
   exact gF [] Tryz.func39 [] (Fh 27 [.els (List.map wdv (List.replicate (sizeH hd).toNat 0))] (Fh 10030 [.els (List.map wdv ((List.replicate (sizeH hd).toNat 0).set 0 (Z06 hd).fst))] (Fc 14 (@Z3d hd ‹_›) (FcG 21 (!(Z06 hd).snd != 0) (fun hg => by (try simp only [bs] at hg); exact @Z1q h) (Ff 23 (by simp only [bs, *,true_or,or_true,true_and,and_true,not_true_eq_false,not_false_eq_true,Bool.true_eq_false,Bool.false_eq_true] : ((Z06 hd).snd != 0||!Z02 h)=false) (Fc 26 (@Z29 hd ‹_›) (Fb (0≤sizeH hd∧sizeH hd≤sizeH hd∧sizeH hd * ((↑(nat_lit 7) : Int) + 1)≤2 ^ 48) (Fa (by simp [noHeap,List.map_take,List.map_drop,List.map_set,List.map_append,wdv,idv] : List.replicate (sizeH hd).toNat [du64 0] =List.map wdv (List.replicate (sizeH hd).toNat 0)) (Fa (by (simp [noHeap, *]; omega) : (0 :Int)≤0∧Int.toNat 0 < (List.map wdv (List.replicate (sizeH hd).toNat 0)).length) (Fa (by (simp [noHeap, *]; omega) : Int.toNat 0 < (List.map wdv (List.replicate (sizeH hd).toNat 0)).length) (Fa (by simp [noHeap,List.map_take,List.map_drop,List.map_set,List.map_append,wdv,idv] : (List.map wdv (List.replicate (sizeH hd).toNat 0)).set (Int.toNat 0) [du64 (Z06 hd).fst] =List.map wdv ((List.replicate (sizeH hd).toNat 0).set 0 (Z06 hd).fst)) (Fc 36 (@Z64 h.words ((List.replicate (sizeH hd).toNat 0).set 0 (Z06 hd).fst) a (by omega) (by omega) ‹_› (by omega)) (Fc 42 (@Z89 h ((Z0b h.words a ((List.replicate (sizeH hd).toNat 0).set 0 (Z06 hd).fst)).fst) ((Z0b h.words a ((List.replicate (sizeH hd).toNat 0).set 0 (Z06 hd).fst)).snd) ‹_›) Fz)))))))))))))
 ·have e7 : Z0u h a hd = (noHeap,1) := Zae (by
   by_cases q : Z02 h = true
   ·exact .inr fun q2 => hp ⟨q,q2⟩
   ·exact .inl (by simpa using q))
  rw [e7]
  have Q0 {h_ c_ p_} (r_ : Fq h_ c_ p_) := Fc 14 (@Z3d hd ‹_›) (FcG 21 (!(Z06 hd).snd != 0) (fun hg => by (try simp only [bs] at hg); exact @Z1q h) r_)
  rcases bb ((Z06 hd).snd != 0 || !Z02 h) with hc0 | hc0<;>have hc0p:=hc0<;>simp only [bs] at hc0p
  ·exact gF [] Tryz.func39 [] (Q0 (Ft 23 hc0 (Fnl (Fnl Fz))))
  ·obtain ⟨hc0pa,hc0pb⟩ := hc0p
   exact gF [] Tryz.func39 [false,false,false,true] (Fh 27 [.els (List.map wdv (List.replicate (sizeH hd).toNat 0))] (Fh 10030 [.els (List.map wdv ((List.replicate (sizeH hd).toNat 0).set 0 (Z06 hd).fst))] (Q0 (Ff 23 hc0 (Fc 26 (@Z29 hd ‹_›) (Fa (by (simp only [noHeap]; (repeat' split) <;> first | rfl | omega | (exfalso; omega) | simp_all) : 0≤sizeH hd∧sizeH hd≤sizeH hd∧sizeH hd * ((↑(nat_lit 7) : Int) + 1)≤2 ^ 48) (Fa (by simp [noHeap,List.map_take,List.map_drop,List.map_set,List.map_append,wdv,idv] : List.replicate (sizeH hd).toNat [du64 0] =List.map wdv (List.replicate (sizeH hd).toNat 0)) (Fa (by grind [noHeap] : (0 :Int)≤0∧Int.toNat 0 < (List.map wdv (List.replicate (sizeH hd).toNat 0)).length) (Fa (by grind [noHeap] : Int.toNat 0 < (List.map wdv (List.replicate (sizeH hd).toNat 0)).length) (Fa (by simp [noHeap,List.map_take,List.map_drop,List.map_set,List.map_append,wdv,idv] : (List.map wdv (List.replicate (sizeH hd).toNat 0)).set (Int.toNat 0) [du64 (Z06 hd).fst] =List.map wdv ((List.replicate (sizeH hd).toNat 0).set 0 (Z06 hd).fst)) (Fc 36 (@Z64 h.words ((List.replicate (sizeH hd).toNat 0).set 0 (Z06 hd).fst) a (by grind [noHeap]) (by grind [noHeap]) ‹_› (by grind [noHeap])) (Fc 42 (@Z4Z h ((Z0b h.words a ((List.replicate (sizeH hd).toNat 0).set 0 (Z06 hd).fst)).fst) ((Z0b h.words a ((List.replicate (sizeH hd).toNat 0).set 0 (Z06 hd).fst)).snd) (by grind [noHeap]) (by grind [noHeap]) (by grind [noHeap])) (Fa (by (simp only [noHeap]; (repeat' split) <;> first | rfl | omega | (exfalso; omega) | simp_all) : (Heap.mk h.conf (Z0b h.words a ((List.replicate (sizeH hd).toNat 0).set 0 (Z06 hd).fst)).fst h.pages h.space h.bump).conf.pw =0) (Fa (by (simp only [noHeap]; (repeat' split) <;> first | rfl | omega | (exfalso; omega) | simp_all) : (Heap.mk h.conf (Z0b h.words a ((List.replicate (sizeH hd).toNat 0).set 0 (Z06 hd).fst)).fst h.pages h.space h.bump).conf.pg =0) (Fa (by refine congrArg _ ?_; (simp only [noHeap]; (repeat' split) <;> first | rfl | omega | (exfalso; omega) | simp_all) : List.map wdv (Heap.mk h.conf (Z0b h.words a ((List.replicate (sizeH hd).toNat 0).set 0 (Z06 hd).fst)).fst h.pages h.space h.bump).words =List.map wdv (noHeap,1).fst.words) (Fa (by refine congrArg _ ?_; (simp only [noHeap]; (repeat' split) <;> first | rfl | omega | (exfalso; omega) | simp_all) : List.map Page.dv (Heap.mk h.conf (Z0b h.words a ((List.replicate (sizeH hd).toNat 0).set 0 (Z06 hd).fst)).fst h.pages h.space h.bump).pages =List.map Page.dv (noHeap,1).fst.pages) (Fa (by (simp only [noHeap]; (repeat' split) <;> first | rfl | omega | (exfalso; omega) | simp_all) : (Heap.mk h.conf (Z0b h.words a ((List.replicate (sizeH hd).toNat 0).set 0 (Z06 hd).fst)).fst h.pages h.space h.bump).space =0) (Fa (by (simp only [noHeap]; (repeat' split) <;> first | rfl | omega | (exfalso; omega) | simp_all) : (Heap.mk h.conf (Z0b h.words a ((List.replicate (sizeH hd).toNat 0).set 0 (Z06 hd).fst)).fst h.pages h.space h.bump).bump =0) (Fa (by grind [noHeap] : (0 :Int) =1) Fz)))))))))))))))))))
theorem Z9K (h : Heap) (hd : Header) : put7 h hd = putN h (sizeH hd) := rfl
theorem Zh5 {h : Heap} {n : Int} (hp : Z02 h = true) (hn : 1 ≤ n ∧ n ≤ 256) (e : (putN h n).2.2 = true) : (putN h n).2.1 = 4096 + (Z0R h n * h.conf.pw + Z0P h n) ∧ inB h.conf (Z0R h n) (Z0P h n) = true := by
 obtain ⟨o1,o2,o3,o4,o5,o6,o7,o8,o9⟩ := Z08 hp
 have hb := (properB_iff.1 hp).2.2.2.2.1
 rw [inB_iff]
 unfold putN Z0R Z0P at *
 split at e
 ·rename_i hk
  unfold Z0k at e ⊢
  split at e
  ·rename_i hg
   have := (Z18 hg.1).2.1
   simp only [if_pos hk,if_pos hg]
   exact ⟨by omega,by omega,by omega,by omega,by omega⟩
  ·simp at e
 ·rename_i hk
  unfold Z0a at e ⊢
  split at e
  ·rename_i hf
   simp only [if_neg hk,if_pos hf]
   unfold Z2C at hf
   have hpg := Z0D hp (j := h.bump.toNat) (by omega)
   exact ⟨by omega,by omega,by omega,by omega,by omega⟩
  ·rename_i hf
   split at e
   ·rename_i hg
    have q := Z24 (h := h) o9 hg.1
    have q6 := congrArg Page.used q.2.2.2
    simp only at q6
    simp only [if_neg hk,if_neg hf,if_pos hg]
    exact ⟨by rw [q6]; omega,by omega,by omega,by omega,by omega⟩
   ·simp at e
theorem Z5A (h : Heap) (n : Int) (hp : Z02 h = true) (hn : 1 ≤ n ∧ n ≤ 256) (e : (putN h n).2.2 = true) : GSpec Tryz.prog 36 [h.av,int n] false (.tu [(putN h n).1.av,.ag [int (Z0R h n),int (Z0P h n)],int 0]) [] := by
 unfold putN Z0R Z0P at *
 split at e
 ·rename_i hk
  unfold Z0k at e ⊢
  split at e
  ·rename_i hg
   simp only [if_pos hk,if_pos hg]
   exact ZaD h n hp hk hg
  ·simp at e
 ·rename_i hk
  unfold Z0a at e ⊢
  split at e
  ·rename_i hf
   simp only [if_neg hk,if_pos hf]
   exact Zad h n hp hn hk hf
  ·rename_i hf
   split at e
   ·rename_i hg
    simp only [if_neg hk,if_neg hf,if_pos hg]
    exact Z84 h n hp hn hk hf hg
   ·simp at e
theorem ZaF (h : Heap) (n : Int) (hp : Z02 h = true) (hn : 1 ≤ n ∧ n ≤ 256) (e : (putN h n).2.2 = false) : GSpec Tryz.prog 36 [h.av,int n] false (.tu [noHeap.av,.ag [int 0,int 0],int 3]) [] := by
 unfold putN at e
 split at e
 ·rename_i hk
  unfold Z0k at e
  split at e
  ·simp at e
  ·rename_i hg
   exact Zc9 h n hp hk hg
 ·rename_i hk
  unfold Z0a at e
  split at e
  ·simp at e
  ·rename_i hf
   split at e
   ·simp at e
   ·rename_i hg
    exact Z9V h n hp hn hk hf hg
theorem Z6G (h : Heap) (hd : Header) (hw : WOk h.words) (hm : 0 ≤ hd.map ∧ hd.map ≤ 4294967295) : GSpec Tryz.prog 10 [h.av,hd.av] false (.tu [(new7 h hd).1.av,u64 (new7 h hd).2.1,int (new7 h hd).2.2]) [] := by
 by_cases hc : Z02 h = true ∧ Z1b h.conf hd = true
 ·obtain ⟨c1,c2⟩ := hc
  obtain ⟨a1,a2,a3,a4,a5⟩ := Z3R c2
  have po := Z08 c1
  by_cases hf : (putN h (sizeH hd)).2.2 = true
  ·have e0 : (new7 h hd).2.2 = 0 := by rw [new7,if_pos ⟨c1,c2⟩,Z9K,if_pos hf]
   obtain ⟨k1,k2,k3,k4,k5,k6,k7,k8⟩ := Z77 hw hm e0
   rw [Z9K] at k3
   obtain ⟨p1,p2⟩ := Zh5 c1 ⟨a2,a3⟩ hf
   have hwp : WOk (putN h (sizeH hd)).1.words := by rw [k3.w]; exact hw
   have e8 : address h.conf (Z0R h (sizeH hd)) (Z0P h (sizeH hd)) = ((putN h (sizeH hd)).2.1,0) := by rw [address,if_pos po.1,if_pos p2,p1]
   have ei1 := congrArg (fun x => x.1) e8
   have e82 := congrArg (fun x => x.2) e8
   simp only at ei1 e82
   have hlo := k3.lo
   have hhi := k3.hi
   have ei2 : (Z0u (putN h (sizeH hd)).1 (putN h (sizeH hd)).2.1 hd).2 = 0 := by
    have ho := Zc8 a1 hm
    have ew : Z0b (putN h (sizeH hd)).1.words (putN h (sizeH hd)).2.1 (objW hd) = (spl (putN h (sizeH hd)).1.words ((putN h (sizeH hd)).2.1 - 4096).toNat (objW hd),0) := by rw [Z0b,if_pos ⟨hlo,by rw [k3.w]; omega⟩]
    rw [Z0u,if_pos ⟨k3.pr,a1⟩,ew]
    simp
   have ei3 : (Z0u (putN h (sizeH hd)).1 (address h.conf (Z0R h (sizeH hd)) (Z0P h (sizeH hd))).1 hd).2 = 0 := by rw [ei1]; exact ei2
   have e7 : new7 h hd = ((Z0u (putN h (sizeH hd)).1 (putN h (sizeH hd)).2.1 hd).1,(putN h (sizeH hd)).2.1,0) := by rw [new7,if_pos ⟨c1,c2⟩,Z9K,if_pos hf]
   rw [e7]
   refine gspec_ofE [((12 : Nat),[Hint.call true (Sx.bool (Z02 h)) []]),((18 : Nat),[Hint.call true (Sx.bool (Z1b h.conf hd)) []]),((20 : Nat),[Hint.br false]),((25 : Nat),[Hint.call true (int (sizeH hd)) []]),((26 : Nat),[Hint.call false (AV.tu [(putN h (sizeH hd)).fst.av,AV.ag [int (Z0R h (sizeH hd)),int (Z0P h (sizeH hd))],int (0 : Int)]) []]),((41 : Nat),[Hint.call true (Z0O h.conf (Z0R h (sizeH hd)) (Z0P h (sizeH hd))) []]),((45 : Nat),[Hint.br false]),((52 : Nat),[Hint.call false (AV.tu [(Z0u (putN h (sizeH hd)).fst (address h.conf (Z0R h (sizeH hd)) (Z0P h (sizeH hd))).fst hd).fst.av,int (Z0u (putN h (sizeH hd)).fst (address h.conf (Z0R h (sizeH hd)) (Z0P h (sizeH hd))).fst hd).snd]) []]),((56 : Nat),[Hint.br false])] [] [] (by decide) Tryz.func10 [false,false,false,false,false,true] (φ := GSpec Tryz.prog 34 [h.av] true (Sx.bool (Z02 h)) [] ∧ ((!!Z02 h) = true → GSpec Tryz.prog 35 [h.conf.av,hd.av] true (Sx.bool (Z1b h.conf hd)) []) ∧ (!Z02 h || !Z1b h.conf hd) = false ∧ false = false ∧ GSpec Tryz.prog 37 [hd.av] true (int (sizeH hd)) [] ∧ GSpec Tryz.prog 36 [h.av,int (sizeH hd)] false (AV.tu [(putN h (sizeH hd)).fst.av,AV.ag [int (Z0R h (sizeH hd)),int (Z0P h (sizeH hd))],int (0 : Int)]) [] ∧ GSpec Tryz.prog 38 [h.conf.av,int (Z0R h (sizeH hd)),int (Z0P h (sizeH hd))] true (Z0O h.conf (Z0R h (sizeH hd)) (Z0P h (sizeH hd))) [] ∧ ((address h.conf (Z0R h (sizeH hd)) (Z0P h (sizeH hd))).snd != (0 : Int)) = false ∧ false = false ∧ GSpec Tryz.prog 39 [(putN h (sizeH hd)).fst.av,u64 (address h.conf (Z0R h (sizeH hd)) (Z0P h (sizeH hd))).fst,hd.av] false (AV.tu [(Z0u (putN h (sizeH hd)).fst (address h.conf (Z0R h (sizeH hd)) (Z0P h (sizeH hd))).fst hd).fst.av,int (Z0u (putN h (sizeH hd)).fst (address h.conf (Z0R h (sizeH hd)) (Z0P h (sizeH hd))).fst hd).snd]) [] ∧ ((Z0u (putN h (sizeH hd)).fst (address h.conf (Z0R h (sizeH hd)) (Z0P h (sizeH hd))).fst hd).snd != (0 : Int)) = false ∧ false = false ∧ (Z0u (putN h (sizeH hd)).fst (address h.conf (Z0R h (sizeH hd)) (Z0P h (sizeH hd))).fst hd).fst.conf.pw = (Z0u (putN h (sizeH hd)).fst (putN h (sizeH hd)).snd.fst hd).fst.conf.pw ∧ (Z0u (putN h (sizeH hd)).fst (address h.conf (Z0R h (sizeH hd)) (Z0P h (sizeH hd))).fst hd).fst.conf.pg = (Z0u (putN h (sizeH hd)).fst (putN h (sizeH hd)).snd.fst hd).fst.conf.pg ∧ List.map wdv (Z0u (putN h (sizeH hd)).fst (address h.conf (Z0R h (sizeH hd)) (Z0P h (sizeH hd))).fst hd).fst.words = List.map wdv ((Z0u (putN h (sizeH hd)).fst (putN h (sizeH hd)).snd.fst hd).fst,(putN h (sizeH hd)).snd.fst,(0 : Int)).fst.words ∧ List.map Page.dv (Z0u (putN h (sizeH hd)).fst (address h.conf (Z0R h (sizeH hd)) (Z0P h (sizeH hd))).fst hd).fst.pages = List.map Page.dv ((Z0u (putN h (sizeH hd)).fst (putN h (sizeH hd)).snd.fst hd).fst,(putN h (sizeH hd)).snd.fst,(0 : Int)).fst.pages ∧ (Z0u (putN h (sizeH hd)).fst (address h.conf (Z0R h (sizeH hd)) (Z0P h (sizeH hd))).fst hd).fst.space = (Z0u (putN h (sizeH hd)).fst (putN h (sizeH hd)).snd.fst hd).fst.space ∧ (Z0u (putN h (sizeH hd)).fst (address h.conf (Z0R h (sizeH hd)) (Z0P h (sizeH hd))).fst hd).fst.bump = (Z0u (putN h (sizeH hd)).fst (putN h (sizeH hd)).snd.fst hd).fst.bump ∧ (address h.conf (Z0R h (sizeH hd)) (Z0P h (sizeH hd))).fst = (putN h (sizeH hd)).snd.fst ∧ (0 : Int) = (0 : Int)) ?_ (by kernel_rfl) (by kernel_rfl)
   exact ⟨(@Z1q (h)),(fun hg => by (try simp only [bs] at hg); exact @Z3s (h.conf) (hd) (by (try simp only [bs] at hg); assumption)),(by simp only [bs, *,true_or,or_true,true_and,and_true,not_true_eq_false,not_false_eq_true,Bool.true_eq_false,Bool.false_eq_true]),rfl,(@Z29 (hd) ‹_›),(@Z5A (h) (sizeH hd) ‹_› (by omega) ‹_›),(@Z3H (h.conf) (Z0R h (sizeH hd)) (Z0P h (sizeH hd))),(by (simp only [bs]; omega)),rfl,(@Z5W ((putN h (sizeH hd)).fst) ((address h.conf (Z0R h (sizeH hd)) (Z0P h (sizeH hd))).fst) (hd) ‹_› (by omega) ‹_›),(by (simp only [bs]; omega)),rfl,(by simp only [bs, *,true_or,or_true,true_and,and_true,not_true_eq_false,not_false_eq_true,Bool.true_eq_false,Bool.false_eq_true]),(by simp only [bs, *,true_or,or_true,true_and,and_true,not_true_eq_false,not_false_eq_true,Bool.true_eq_false,Bool.false_eq_true]),(by refine congrArg _ ?_; simp [ei1,List.map_take,List.map_drop,List.map_set,List.map_append,wdv,idv]),(by refine congrArg _ ?_; simp [ei1,List.map_take,List.map_drop,List.map_set,List.map_append,wdv,idv]),(by simp only [bs, *,true_or,or_true,true_and,and_true,not_true_eq_false,not_false_eq_true,Bool.true_eq_false,Bool.false_eq_true]),(by simp only [bs, *,true_or,or_true,true_and,and_true,not_true_eq_false,not_false_eq_true,Bool.true_eq_false,Bool.false_eq_true]),‹_›,rfl⟩
  ·have hf' : (putN h (sizeH hd)).2.2 = false := by simpa using hf
   have e7 : new7 h hd = (noHeap,0,3) := by rw [new7,if_pos ⟨c1,c2⟩,Z9K,if_neg hf]
   rw [e7]
   refine gspec_ofE [((12 : Nat),[Hint.call true (Sx.bool (Z02 h)) []]),((18 : Nat),[Hint.call true (Sx.bool (Z1b h.conf hd)) []]),((20 : Nat),[Hint.br false]),((25 : Nat),[Hint.call true (int (sizeH hd)) []]),((26 : Nat),[Hint.call false (AV.tu [noHeap.av,AV.ag [int (0 : Int),int (0 : Int)],int (3 : Int)]) []])] [] [] (by decide) Tryz.func10 [] (φ := GSpec Tryz.prog 34 [h.av] true (Sx.bool (Z02 h)) [] ∧ ((!!Z02 h) = true → GSpec Tryz.prog 35 [h.conf.av,hd.av] true (Sx.bool (Z1b h.conf hd)) []) ∧ (!Z02 h || !Z1b h.conf hd) = false ∧ false = false ∧ GSpec Tryz.prog 37 [hd.av] true (int (sizeH hd)) [] ∧ GSpec Tryz.prog 36 [h.av,int (sizeH hd)] false (AV.tu [noHeap.av,AV.ag [int (0 : Int),int (0 : Int)],int (3 : Int)]) [] ∧ ([] : List (List DV)) = [] ∧ ([] : List (List DV)) = []) ?_ (by kernel_rfl) (by kernel_rfl)
   exact ⟨(@Z1q (h)),(fun hg => by (try simp only [bs] at hg); exact @Z3s (h.conf) (hd) (by (try simp only [bs] at hg); assumption)),(by simp only [bs, *,true_or,or_true,true_and,and_true,not_true_eq_false,not_false_eq_true,Bool.true_eq_false,Bool.false_eq_true]),rfl,(@Z29 (hd) ‹_›),(@ZaF (h) (sizeH hd) ‹_› (by omega) ‹_›),rfl,rfl⟩
 ·have e7 : new7 h hd = (noHeap,0,1) := by rw [new7,if_neg hc]
  rw [e7]
  rcases Bool.eq_false_or_eq_true (!Z02 h || !Z1b h.conf hd) with hc0 | hc0
  ·have hc0p := hc0
   simp only [bs] at hc0p
   refine gspec_ofE [((12 : Nat),[Hint.call true (Sx.bool (Z02 h)) []]),((18 : Nat),[Hint.call true (Sx.bool (Z1b h.conf hd)) []]),((20 : Nat),[Hint.br true])] [] [] (by decide) Tryz.func10 [] (φ := GSpec Tryz.prog 34 [h.av] true (Sx.bool (Z02 h)) [] ∧ ((!!Z02 h) = true → GSpec Tryz.prog 35 [h.conf.av,hd.av] true (Sx.bool (Z1b h.conf hd)) []) ∧ (!Z02 h || !Z1b h.conf hd) = true ∧ true = true ∧ ([] : List (List DV)) = [] ∧ ([] : List (List DV)) = []) ?_ (by kernel_rfl) (by kernel_rfl)
   exact ⟨(@Z1q (h)),(fun hg => by (try simp only [bs] at hg); exact @Z3s (h.conf) (hd) (by (try simp only [bs] at hg); assumption)),‹_›,rfl,rfl,rfl⟩
  ·have hc0p := hc0
   simp only [bs] at hc0p
   obtain ⟨hc0pa,hc0pb⟩ := hc0p
   rcases Bool.eq_false_or_eq_true ((address h.conf (Z0R h (sizeH hd)) (Z0P h (sizeH hd))).snd != (0 : Int)) with hc1 | hc1
   ·have hc1p := hc1
    simp only [bs] at hc1p
    refine gspec_ofE [((12 : Nat),[Hint.call true (Sx.bool (Z02 h)) []]),((18 : Nat),[Hint.call true (Sx.bool (Z1b h.conf hd)) []]),((20 : Nat),[Hint.br false]),((25 : Nat),[Hint.call true (int (sizeH hd)) []]),((26 : Nat),[Hint.call false (AV.tu [(putN h (sizeH hd)).fst.av,AV.ag [int (Z0R h (sizeH hd)),int (Z0P h (sizeH hd))],int (0 : Int)]) []]),((41 : Nat),[Hint.call true (Z0O h.conf (Z0R h (sizeH hd)) (Z0P h (sizeH hd))) []]),((45 : Nat),[Hint.br true])] [] [] (by decide) Tryz.func10 [false,false,false,false,false,true] (φ := GSpec Tryz.prog 34 [h.av] true (Sx.bool (Z02 h)) [] ∧ ((!!Z02 h) = true → GSpec Tryz.prog 35 [h.conf.av,hd.av] true (Sx.bool (Z1b h.conf hd)) []) ∧ (!Z02 h || !Z1b h.conf hd) = false ∧ false = false ∧ GSpec Tryz.prog 37 [hd.av] true (int (sizeH hd)) [] ∧ GSpec Tryz.prog 36 [h.av,int (sizeH hd)] false (AV.tu [(putN h (sizeH hd)).fst.av,AV.ag [int (Z0R h (sizeH hd)),int (Z0P h (sizeH hd))],int (0 : Int)]) [] ∧ GSpec Tryz.prog 38 [h.conf.av,int (Z0R h (sizeH hd)),int (Z0P h (sizeH hd))] true (Z0O h.conf (Z0R h (sizeH hd)) (Z0P h (sizeH hd))) [] ∧ ((address h.conf (Z0R h (sizeH hd)) (Z0P h (sizeH hd))).snd != (0 : Int)) = true ∧ true = true ∧ ([] : List (List DV)) = [] ∧ ([] : List (List DV)) = [] ∧ (0 : Int) = (0 : Int) ∧ (0 : Int) = (0 : Int) ∧ [] = List.map wdv (noHeap,(0 : Int),(1 : Int)).fst.words ∧ [] = List.map Page.dv (noHeap,(0 : Int),(1 : Int)).fst.pages ∧ (0 : Int) = (0 : Int) ∧ (0 : Int) = (0 : Int) ∧ (0 : Int) = (0 : Int) ∧ (address h.conf (Z0R h (sizeH hd)) (Z0P h (sizeH hd))).snd = (1 : Int)) ?_ (by kernel_rfl) (by kernel_rfl)
    exact ⟨(@Z1q (h)),(fun hg => by (try simp only [bs] at hg); exact @Z3s (h.conf) (hd) (by (try simp only [bs] at hg); assumption)),‹_›,rfl,(@Z29 (hd) ‹_›),(@Z5A (h) (sizeH hd) ‹_› (by grind [noHeap]) (by grind [noHeap])),(@Z3H (h.conf) (Z0R h (sizeH hd)) (Z0P h (sizeH hd))),‹_›,rfl,rfl,rfl,rfl,rfl,rfl,rfl,rfl,rfl,rfl,(by grind [noHeap])⟩
   ·have hc1p := hc1
    simp only [bs] at hc1p
    rcases Bool.eq_false_or_eq_true ((Z0u (putN h (sizeH hd)).fst (address h.conf (Z0R h (sizeH hd)) (Z0P h (sizeH hd))).fst hd).snd != (0 : Int)) with hc2 | hc2
    ·have hc2p := hc2
     simp only [bs] at hc2p
     refine gspec_ofE [((12 : Nat),[Hint.call true (Sx.bool (Z02 h)) []]),((18 : Nat),[Hint.call true (Sx.bool (Z1b h.conf hd)) []]),((20 : Nat),[Hint.br false]),((25 : Nat),[Hint.call true (int (sizeH hd)) []]),((26 : Nat),[Hint.call false (AV.tu [(putN h (sizeH hd)).fst.av,AV.ag [int (Z0R h (sizeH hd)),int (Z0P h (sizeH hd))],int (0 : Int)]) []]),((41 : Nat),[Hint.call true (Z0O h.conf (Z0R h (sizeH hd)) (Z0P h (sizeH hd))) []]),((45 : Nat),[Hint.br false]),((52 : Nat),[Hint.call false (AV.tu [(Z0u (putN h (sizeH hd)).fst (address h.conf (Z0R h (sizeH hd)) (Z0P h (sizeH hd))).fst hd).fst.av,int (Z0u (putN h (sizeH hd)).fst (address h.conf (Z0R h (sizeH hd)) (Z0P h (sizeH hd))).fst hd).snd]) []]),((56 : Nat),[Hint.br true])] [] [] (by decide) Tryz.func10 [false,false,false,false,false,true] (φ := GSpec Tryz.prog 34 [h.av] true (Sx.bool (Z02 h)) [] ∧ ((!!Z02 h) = true → GSpec Tryz.prog 35 [h.conf.av,hd.av] true (Sx.bool (Z1b h.conf hd)) []) ∧ (!Z02 h || !Z1b h.conf hd) = false ∧ false = false ∧ GSpec Tryz.prog 37 [hd.av] true (int (sizeH hd)) [] ∧ GSpec Tryz.prog 36 [h.av,int (sizeH hd)] false (AV.tu [(putN h (sizeH hd)).fst.av,AV.ag [int (Z0R h (sizeH hd)),int (Z0P h (sizeH hd))],int (0 : Int)]) [] ∧ GSpec Tryz.prog 38 [h.conf.av,int (Z0R h (sizeH hd)),int (Z0P h (sizeH hd))] true (Z0O h.conf (Z0R h (sizeH hd)) (Z0P h (sizeH hd))) [] ∧ ((address h.conf (Z0R h (sizeH hd)) (Z0P h (sizeH hd))).snd != (0 : Int)) = false ∧ false = false ∧ GSpec Tryz.prog 39 [(putN h (sizeH hd)).fst.av,u64 (address h.conf (Z0R h (sizeH hd)) (Z0P h (sizeH hd))).fst,hd.av] false (AV.tu [(Z0u (putN h (sizeH hd)).fst (address h.conf (Z0R h (sizeH hd)) (Z0P h (sizeH hd))).fst hd).fst.av,int (Z0u (putN h (sizeH hd)).fst (address h.conf (Z0R h (sizeH hd)) (Z0P h (sizeH hd))).fst hd).snd]) [] ∧ ((Z0u (putN h (sizeH hd)).fst (address h.conf (Z0R h (sizeH hd)) (Z0P h (sizeH hd))).fst hd).snd != (0 : Int)) = true ∧ true = true ∧ ([] : List (List DV)) = [] ∧ ([] : List (List DV)) = [] ∧ (0 : Int) = (0 : Int) ∧ (0 : Int) = (0 : Int) ∧ [] = List.map wdv (noHeap,(0 : Int),(1 : Int)).fst.words ∧ [] = List.map Page.dv (noHeap,(0 : Int),(1 : Int)).fst.pages ∧ (0 : Int) = (0 : Int) ∧ (0 : Int) = (0 : Int) ∧ (0 : Int) = (0 : Int) ∧ (Z0u (putN h (sizeH hd)).fst (address h.conf (Z0R h (sizeH hd)) (Z0P h (sizeH hd))).fst hd).snd = (1 : Int)) ?_ (by kernel_rfl) (by kernel_rfl)
     exact ⟨(@Z1q (h)),(fun hg => by (try simp only [bs] at hg); exact @Z3s (h.conf) (hd) (by (try simp only [bs] at hg); assumption)),‹_›,rfl,(@Z29 (hd) ‹_›),(@Z5A (h) (sizeH hd) ‹_› (by grind [noHeap]) (by grind [noHeap])),(@Z3H (h.conf) (Z0R h (sizeH hd)) (Z0P h (sizeH hd))),‹_›,rfl,(@Z5W ((putN h (sizeH hd)).fst) ((address h.conf (Z0R h (sizeH hd)) (Z0P h (sizeH hd))).fst) (hd) (by grind [noHeap]) (by grind [noHeap]) ‹_›),‹_›,rfl,rfl,rfl,rfl,rfl,rfl,rfl,rfl,rfl,rfl,(by grind [noHeap])⟩
    ·have hc2p := hc2
     simp only [bs] at hc2p
     refine gspec_ofE [((12 : Nat),[Hint.call true (Sx.bool (Z02 h)) []]),((18 : Nat),[Hint.call true (Sx.bool (Z1b h.conf hd)) []]),((20 : Nat),[Hint.br false]),((25 : Nat),[Hint.call true (int (sizeH hd)) []]),((26 : Nat),[Hint.call false (AV.tu [(putN h (sizeH hd)).fst.av,AV.ag [int (Z0R h (sizeH hd)),int (Z0P h (sizeH hd))],int (0 : Int)]) []]),((41 : Nat),[Hint.call true (Z0O h.conf (Z0R h (sizeH hd)) (Z0P h (sizeH hd))) []]),((45 : Nat),[Hint.br false]),((52 : Nat),[Hint.call false (AV.tu [(Z0u (putN h (sizeH hd)).fst (address h.conf (Z0R h (sizeH hd)) (Z0P h (sizeH hd))).fst hd).fst.av,int (Z0u (putN h (sizeH hd)).fst (address h.conf (Z0R h (sizeH hd)) (Z0P h (sizeH hd))).fst hd).snd]) []]),((56 : Nat),[Hint.br false])] [] [] (by decide) Tryz.func10 [false,false,false,false,false,true] (φ := GSpec Tryz.prog 34 [h.av] true (Sx.bool (Z02 h)) [] ∧ ((!!Z02 h) = true → GSpec Tryz.prog 35 [h.conf.av,hd.av] true (Sx.bool (Z1b h.conf hd)) []) ∧ (!Z02 h || !Z1b h.conf hd) = false ∧ false = false ∧ GSpec Tryz.prog 37 [hd.av] true (int (sizeH hd)) [] ∧ GSpec Tryz.prog 36 [h.av,int (sizeH hd)] false (AV.tu [(putN h (sizeH hd)).fst.av,AV.ag [int (Z0R h (sizeH hd)),int (Z0P h (sizeH hd))],int (0 : Int)]) [] ∧ GSpec Tryz.prog 38 [h.conf.av,int (Z0R h (sizeH hd)),int (Z0P h (sizeH hd))] true (Z0O h.conf (Z0R h (sizeH hd)) (Z0P h (sizeH hd))) [] ∧ ((address h.conf (Z0R h (sizeH hd)) (Z0P h (sizeH hd))).snd != (0 : Int)) = false ∧ false = false ∧ GSpec Tryz.prog 39 [(putN h (sizeH hd)).fst.av,u64 (address h.conf (Z0R h (sizeH hd)) (Z0P h (sizeH hd))).fst,hd.av] false (AV.tu [(Z0u (putN h (sizeH hd)).fst (address h.conf (Z0R h (sizeH hd)) (Z0P h (sizeH hd))).fst hd).fst.av,int (Z0u (putN h (sizeH hd)).fst (address h.conf (Z0R h (sizeH hd)) (Z0P h (sizeH hd))).fst hd).snd]) [] ∧ ((Z0u (putN h (sizeH hd)).fst (address h.conf (Z0R h (sizeH hd)) (Z0P h (sizeH hd))).fst hd).snd != (0 : Int)) = false ∧ false = false ∧ (Z0u (putN h (sizeH hd)).fst (address h.conf (Z0R h (sizeH hd)) (Z0P h (sizeH hd))).fst hd).fst.conf.pw = (0 : Int) ∧ (Z0u (putN h (sizeH hd)).fst (address h.conf (Z0R h (sizeH hd)) (Z0P h (sizeH hd))).fst hd).fst.conf.pg = (0 : Int) ∧ List.map wdv (Z0u (putN h (sizeH hd)).fst (address h.conf (Z0R h (sizeH hd)) (Z0P h (sizeH hd))).fst hd).fst.words = List.map wdv (noHeap,(0 : Int),(1 : Int)).fst.words ∧ List.map Page.dv (Z0u (putN h (sizeH hd)).fst (address h.conf (Z0R h (sizeH hd)) (Z0P h (sizeH hd))).fst hd).fst.pages = List.map Page.dv (noHeap,(0 : Int),(1 : Int)).fst.pages ∧ (Z0u (putN h (sizeH hd)).fst (address h.conf (Z0R h (sizeH hd)) (Z0P h (sizeH hd))).fst hd).fst.space = (0 : Int) ∧ (Z0u (putN h (sizeH hd)).fst (address h.conf (Z0R h (sizeH hd)) (Z0P h (sizeH hd))).fst hd).fst.bump = (0 : Int) ∧ (address h.conf (Z0R h (sizeH hd)) (Z0P h (sizeH hd))).fst = (0 : Int) ∧ (0 : Int) = (1 : Int)) ?_ (by kernel_rfl) (by kernel_rfl)
     exact ⟨(@Z1q (h)),(fun hg => by (try simp only [bs] at hg); exact @Z3s (h.conf) (hd) (by (try simp only [bs] at hg); assumption)),‹_›,rfl,(@Z29 (hd) ‹_›),(@Z5A (h) (sizeH hd) ‹_› (by grind [noHeap]) (by grind [noHeap])),(@Z3H (h.conf) (Z0R h (sizeH hd)) (Z0P h (sizeH hd))),‹_›,rfl,(@Z5W ((putN h (sizeH hd)).fst) ((address h.conf (Z0R h (sizeH hd)) (Z0P h (sizeH hd))).fst) (hd) (by grind [noHeap]) (by grind [noHeap]) ‹_›),‹_›,rfl,(by grind [noHeap]),(by grind [noHeap]),(by refine congrArg _ ?_; (simp only [noHeap]; (repeat' split) <;> first | rfl | omega | (exfalso; omega) | simp_all)),(by refine congrArg _ ?_; (simp only [noHeap]; (repeat' split) <;> first | rfl | omega | (exfalso; omega) | simp_all)),(by grind [noHeap]),(by grind [noHeap]),(by grind [noHeap]),(by grind [noHeap])⟩
def Zag (h : Heap) : Int := if Z02 h = true ∧ 0 ≤ h.bump then h.conf.pw - (h.pages.getD h.bump.toNat default).used else 0
theorem Zgx (h : Heap) : GSpec Tryz.prog 42 [h.av] true (int (Zag h)) [] := by
 by_cases q : Z02 h = true ∧ 0 ≤ h.bump
 ·obtain ⟨q1,q2⟩ := q
  have po := Z08 q1
  have hb := (properB_iff.1 q1).2.2.2.2.1
  have hpg := Z0D q1 (j := h.bump.toNat) (by omega)
  have e7 : Zag h = h.conf.pw - (h.pages.getD h.bump.toNat default).used := by rw [Zag,if_pos ⟨q1,q2⟩]
  rw [e7]
  exact gF [] Tryz.func42 [] (Fc 4 (@Z1q h) (Ff 10 (by simp [*] : (!Z02 h||decide (h.bump < 0))=false) (Fe 18 Page.dv h.pages h.bump (Fi 21 (h.conf.pw - (h.pages.getD h.bump.toNat default).used) Fz))))
 ·have e7 : Zag h = 0 := by rw [Zag,if_neg q]
  rw [e7]
  by_cases q1 : Z02 h = true
  ·have hb := (properB_iff.1 q1).2.2.2.2.1
   have q2 : h.bump = -1 := by
    have : ¬ 0 ≤ h.bump := fun x => q ⟨q1,x⟩
    omega
   exact gF [] Tryz.func42 [] (Fc 4 (@Z1q h) (Ftb 10 (!Z02 h||decide (h.bump < 0)) Fz))
  ·have q1' : Z02 h = false := by simpa using q1
   exact gF [] Tryz.func42 [] (Fc 4 (@Z1q h) (Ft 10 (by simp only [bs, *,true_or,or_true,true_and,and_true,not_true_eq_false,not_false_eq_true,Bool.true_eq_false,Bool.false_eq_true] : (!Z02 h||decide (h.bump < 0))=true) Fz))
theorem ZeO (n : Int) : GSpec Tryz.prog 41 [int n] true (Header.av ⟨3,n,0⟩) [] := by
 exact gF [] Tryz.func41 [] Fz
theorem Zbn : GSpec Tryz.prog 11 [] true (bool true) [] := by
 have e1 : (new7 (Z1Q ⟨16,8⟩) ⟨3,3,0⟩).2.2 = 0 := by decide +kernel
 have e2 : (new7 (Z1Q ⟨16,8⟩) ⟨3,3,0⟩).2.1 = 4096 := by decide +kernel
 have e3 : (new7 (Z1Q ⟨16,8⟩) ⟨3,3,0⟩).1.bump = 0 := by decide +kernel
 have e4 : Zag (new7 (Z1Q ⟨16,8⟩) ⟨3,3,0⟩).1 = 12 := by decide +kernel
 have hw : WOk (Z1Q ⟨16,8⟩).words := fun x hx => by
  simp [Z1Q] at hx; omega
 have hv : Z07 ⟨16,8⟩ = true := by decide
 exact gF [] Tryz.func11 [] (Fh 14 [.kill (AV.tu [(new7 (Heap.mk (Conf.mk 16 8) (List.replicate 128 0) (List.replicate 8 (Page.mk 0 0 0 0)) 0 (-1 : Int)) (Header.mk 3 3 0)).fst.av,u64 (new7 (Heap.mk (Conf.mk 16 8) (List.replicate 128 0) (List.replicate 8 (Page.mk 0 0 0 0)) 0 (-1 : Int)) (Header.mk 3 3 0)).snd.fst,int (new7 (Heap.mk (Conf.mk 16 8) (List.replicate 128 0) (List.replicate 8 (Page.mk 0 0 0 0)) 0 (-1 : Int)) (Header.mk 3 3 0)).snd.snd])] (Fc 8 (@Zih) (Fc 13 (@ZeO (3)) (Fa (@Z6G (Heap.mk (Conf.mk 16 8) (List.replicate 128 0) (List.replicate 8 (Page.mk 0 0 0 0)) 0 (-1 : Int)) (Header.mk 3 3 0) ‹_› (by (simp only [bs]; omega))) (FcG 31 ((new7 (Heap.mk (Conf.mk 16 8) (List.replicate 128 0) (List.replicate 8 (Page.mk 0 0 0 0)) 0 (-1 : Int)) (Header.mk 3 3 0)).snd.snd == 0&&(new7 (Heap.mk (Conf.mk 16 8) (List.replicate 128 0) (List.replicate 8 (Page.mk 0 0 0 0)) 0 (-1 : Int)) (Header.mk 3 3 0)).snd.fst == 4096&&(new7 (Heap.mk (Conf.mk 16 8) (List.replicate 128 0) (List.replicate 8 (Page.mk 0 0 0 0)) 0 (-1 : Int)) (Header.mk 3 3 0)).fst.bump == 0) (fun hg => by (try simp only [bs] at hg); exact @Zgx (Heap.mk (Conf.mk 16 8) (new7 (Heap.mk (Conf.mk 16 8) (List.replicate 128 0) (List.replicate 8 (Page.mk 0 0 0 0)) 0 (-1 : Int)) (Header.mk 3 3 0)).fst.words (new7 (Heap.mk (Conf.mk 16 8) (List.replicate 128 0) (List.replicate 8 (Page.mk 0 0 0 0)) 0 (-1 : Int)) (Header.mk 3 3 0)).fst.pages 0 0)) Fz)))))
def Z1o (w : Work) (r : Int) : Int := if r ∈ w.queue then r else (Z0q (loadA w.heap.words r).1).1
theorem Z8R (w : Work) (r : Int) (hw : WOk w.heap.words) (hl : w.heap.words.length ≤ 4096) (hq : w.queue.length ≤ 1048576) (h0 : 0 ≤ r ∧ r ≤ 18446744073709551615) : GSpec Tryz.prog 142 [w.av,u64 r] true (u64 (Z1o w r)) [] := by
 have h1 := Z0S hw r
 rcases bb (decide (r ∈ w.queue)) with hc0 | hc0<;>have hc0p:=hc0<;>simp only [bs] at hc0p
 ·exact gF [] Tryz.func142 [true] (Fh 12 [.call true (Sx.bool (decide (r ∈ w.queue))) [],.br true] (Fa (@Z0N w.queue r ‹_›) (Fa hc0 (Fa (by simp [Z1o, *] : r =Z1o w r) Fz))))
 ·exact gF [] Tryz.func142 [true] (Fh 12 [.call true (Sx.bool (decide (r ∈ w.queue))) [],.br false] (Fa (@Z0N w.queue r ‹_›) (Fa hc0 (Fc 19 (@Z1H w.heap.words r (by omega) ‹_›) (Fc 24 (@Z2G ((loadA w.heap.words r).fst) (by omega) (by omega)) (Fa (by simp [Z1o, *] : (Z0q (loadA w.heap.words r).fst).fst =Z1o w r) Fz))))))
theorem Zg1 (w : Work) (a : Int) (hw : WOk w.heap.words) (h1 : w.heap.words.length ≤ 4096) (h0 : 0 ≤ a ∧ a ≤ 18446744073709551615) : GSpec Tryz.prog 163 [w.av,u64 a] true (hdW w a).av [] := by
 have h2 := Z0S hw a
 exact gF [] Tryz.func163 [] (Fc 14 (@Z1H w.heap.words a (by omega) ‹_›) (Fc 19 (@Z2J ((loadA w.heap.words a).fst) (by omega) (by omega)) Fz))
def Z4X (w : Work) (x : Int) : Work := if Z1c w (ofA w.heap.conf x).1 = true ∧ x ∉ w.queue then ⟨⟨w.heap.conf,(Z0b w.heap.words x (objW ⟨0,(hdW w x).length,0⟩)).1,w.heap.pages,w.heap.space,w.heap.bump⟩,w.old,w.taken,w.queue,w.scanned,⟨w.rep.copied,w.rep.kept,w.rep.filled + 1,w.rep.freed,w.rep.cleared,w.rep.steps⟩⟩ else w
def fillN (w : Work) : Nat → Work
 | 0 => w
 | k + 1 => Z4X (fillN w k) (w.old.getD k default)
def Zif (w : Work) (i : Nat) : Tg := ⟨tm 84 [(1,.pt 8001 0 0),(2,.pt 8002 0 0),(3,int i)],[(8002,.box 176 [int 0,int 0,.d (.sl 0 []),.d (.sl 0 []),int 0,int 0,.d (.sl 0 []),.d (.sl 0 []),.d (.sl 0 []),int 0,int 0,int 0,int 0,int 0,int 0,int 0]),(8001,.box 176 w.cells)],60⟩
structure FOk (w : Work) : Prop where
 words : WOk w.heap.words
 wl : w.heap.words.length ≤ 4096
 pl : w.heap.pages.length ≤ 64
 ol : w.old.length ≤ 524288
 o : ∀ x ∈ w.old,0 ≤ x ∧ x ≤ 8192
 tl : w.taken.length ≤ 1000000
 ql : w.queue.length ≤ 1000000
theorem WkOk.fok {w : Work} (h : WkOk w) : FOk w := by
 have h1 := h.mu
 have h2 := h.tl
 have h3 := h.pl
 have h4 := validB_iff.1 h.conf
 exact ⟨h.words,h.wl,by omega,h.ol,h.o,by omega,by omega⟩
theorem Z4P {n : Int} (h : 0 ≤ n ∧ n ≤ 255) : Z06 ⟨0,n,0⟩ = (1 + 16 * n,0) := by
 have hv : Z0i ⟨0,n,0⟩ = true := validH_iff.2 ⟨by simp,by simp,h.1,h.2,by simp⟩
 rw [Z06,if_pos hv]
 simp
section
variable (w : Work) (i : Nat) (hw : FOk w) (hi : i < w.old.length) (hr : 0 ≤ w.rep.filled ∧ w.rep.filled ≤ 1000000)
include hw hi hr
theorem Zgp : CSpec Tryz.prog (rndF Tryz.f144 0) (Zif w i).st .nrm (Zif (Z4X w (w.old.getD i default)) (i + 1)).st := by
 have h1 := hw.words
 have h2 := hw.wl
 have h3 := hw.pl
 have h4 := hw.ol
 have h5 := hw.tl
 have h6 := hw.ql
 have hx := hw.o _ (getD_mem_iff.2 ⟨i,hi,rfl⟩)
 have hm := Z2k (loadA w.heap.words (w.old.getD i default)).1 (Z0S h1 _).1
 have hh : 0 ≤ (hdW w (w.old.getD i default)).length ∧ (hdW w (w.old.getD i default)).length ≤ 255 := Z0g w.heap.words (w.old.getD i default)
 have he := Z4P hh
 by_cases c1 : Z1c w (ofA w.heap.conf (w.old.getD i default)).1 = true
 ·by_cases c2 : w.old.getD i default ∈ w.queue
  ·have e7 : Z4X w (w.old.getD i default) = w := by rw [Z4X,if_neg (by rintro ⟨_,q⟩; exact q c2)]
   rw [e7]
   exact sF [] [] (Fl 13 wdv w.old (Ftb 14 (decide ((↑i : Int) < (↑w.old.length : Int))) (Fek 24 wdv w.old (↑i) i (Fc 26 (@Z47 w.heap.conf (w.old.getD i default) (by omega) (by omega)) (Fc 32 (@Z1P w ((ofA w.heap.conf (w.old.getD i default)).fst) (by omega) (by omega)) (FeG 40 (!!Z1c w (ofA w.heap.conf (w.old.getD i default)).fst) wdv w.old (↑i) i (FcG 42 (!!Z1c w (ofA w.heap.conf (w.old.getD i default)).fst) (fun hg => by (try simp only [bs] at hg); exact @Z0N w.queue (w.old.getD i default) (by (try simp only [bs] at hg); omega)) (Ft 43 (by simp only [bs, *,true_or,or_true,true_and,and_true,not_true_eq_false,not_false_eq_true,Bool.true_eq_false,Bool.false_eq_true] : (!Z1c w (ofA w.heap.conf (w.old.getD i default)).fst||decide (w.old.getD i default ∈ w.queue))=true) (Fx 16 i Fz)))))))))
  ·have e7 : Z4X w (w.old.getD i default) = ⟨⟨w.heap.conf,(Z0b w.heap.words (w.old.getD i default) (objW ⟨0,(hdW w (w.old.getD i default)).length,0⟩)).1,w.heap.pages,w.heap.space,w.heap.bump⟩,w.old,w.taken,w.queue,w.scanned,⟨w.rep.copied,w.rep.kept,w.rep.filled + 1,w.rep.freed,w.rep.cleared,w.rep.steps⟩⟩ := by rw [Z4X,if_pos ⟨c1,c2⟩]
   rw [e7]
   exact sF [] [] (Fh 71 [.els (List.map wdv ([(Z06 (Header.mk 0 (hdW w (w.old.getD i default)).length 0)).fst] ++ List.replicate (hdW w (w.old.getD i default)).length.toNat 0))] (Fl 13 wdv w.old (Ftb 14 (decide ((↑i : Int) < (↑w.old.length : Int))) (Fek 24 wdv w.old (↑i) i (Fc 26 (@Z47 w.heap.conf (w.old.getD i default) (by omega) (by omega)) (Fc 32 (@Z1P w ((ofA w.heap.conf (w.old.getD i default)).fst) (by omega) (by omega)) (FeG 40 (!!Z1c w (ofA w.heap.conf (w.old.getD i default)).fst) wdv w.old (↑i) i (FcG 42 (!!Z1c w (ofA w.heap.conf (w.old.getD i default)).fst) (fun hg => by (try simp only [bs] at hg); exact @Z0N w.queue (w.old.getD i default) (by (try simp only [bs] at hg); omega)) (Ff 43 (by simp only [bs, *,true_or,or_true,true_and,and_true,not_true_eq_false,not_false_eq_true,Bool.true_eq_false,Bool.false_eq_true] : (!Z1c w (ofA w.heap.conf (w.old.getD i default)).fst||decide (w.old.getD i default ∈ w.queue))=false) (Fek 48 wdv w.old (↑i) i (Fc 50 (@Zg1 w (w.old.getD i default) ‹_› ‹_› (by omega)) (Fc 55 (@Z33 (Header.mk 0 (hdW w (w.old.getD i default)).length 0) (by (simp only [bs]; omega))) (Fek 65 wdv w.old (↑i) i (Fs 68 (List.map wdv [(Z06 (Header.mk 0 (hdW w (w.old.getD i default)).length 0)).fst]) (Fa (by grind [objW] : 0≤(hdW w (w.old.getD i default)).length∧(↑(List.map wdv [(Z06 (Header.mk 0 (hdW w (w.old.getD i default)).length 0)).fst]).length : Int) + (hdW w (w.old.getD i default)).length≤2 ^ 30) (Fa (by simp [objW,List.map_take,List.map_drop,List.map_set,List.map_append,wdv,idv] : List.map wdv [(Z06 (Header.mk 0 (hdW w (w.old.getD i default)).length 0)).fst] ++ List.replicate (hdW w (w.old.getD i default)).length.toNat [du64 0] =List.map wdv ([(Z06 (Header.mk 0 (hdW w (w.old.getD i default)).length 0)).fst] ++ List.replicate (hdW w (w.old.getD i default)).length.toNat 0)) (Fc 72 (@Z4i w.heap.words ([(Z06 (Header.mk 0 (hdW w (w.old.getD i default)).length 0)).fst] ++ List.replicate (hdW w (w.old.getD i default)).length.toNat 0) (w.old.getD i default) (by omega) (by omega) (by grind [objW])) (Fi 80 (w.rep.filled + 1) (Fx 16 i Fz)))))))))))))))))))
 ·have e7 : Z4X w (w.old.getD i default) = w := by rw [Z4X,if_neg (by rintro ⟨q,_⟩; exact c1 q)]
  rw [e7]
  exact sF [] [] (Fl 13 wdv w.old (Ftb 14 (decide ((↑i : Int) < (↑w.old.length : Int))) (Fek 24 wdv w.old (↑i) i (Fc 26 (@Z47 w.heap.conf (w.old.getD i default) (by omega) (by omega)) (Fc 32 (@Z1P w ((ofA w.heap.conf (w.old.getD i default)).fst) (by omega) (by omega)) (FeG 40 (!!Z1c w (ofA w.heap.conf (w.old.getD i default)).fst) wdv w.old (↑i) i (FcG 42 (!!Z1c w (ofA w.heap.conf (w.old.getD i default)).fst) (fun hg => by (try simp only [bs] at hg); exact @Z0N w.queue (w.old.getD i default) (by (try simp only [bs] at hg); omega)) (Ft 43 (by simp only [bs, *,true_or,or_true,true_and,and_true,not_true_eq_false,not_false_eq_true,Bool.true_eq_false,Bool.false_eq_true] : (!Z1c w (ofA w.heap.conf (w.old.getD i default)).fst||decide (w.old.getD i default ∈ w.queue))=true) (Fx 16 i Fz)))))))))
end
theorem Zj0 (w : Work) : CSpec Tryz.prog (rndF Tryz.f144 0) (Zif w w.old.length).st (.ext 0) (Tg.st ⟨tm 84 [(1,.pt 8001 0 0),(2,.pt 8002 0 0)],[(8002,.box 176 [int 0,int 0,.d (.sl 0 []),.d (.sl 0 []),int 0,int 0,.d (.sl 0 []),.d (.sl 0 []),.d (.sl 0 []),int 0,int 0,int 0,int 0,int 0,int 0,int 0]),(8001,.box 176 w.cells)],60⟩) := by
 exact sF [] [] (Fl 13 wdv w.old (Ffb 14 (decide ((↑w.old.length : Int) < (↑w.old.length : Int))) Fz))
theorem ZhU (w : Work) (x : Int) : ∃ l n,Z4X w x = ⟨⟨w.heap.conf,l,w.heap.pages,w.heap.space,w.heap.bump⟩,w.old,w.taken,w.queue,w.scanned,⟨w.rep.copied,w.rep.kept,n,w.rep.freed,w.rep.cleared,w.rep.steps⟩⟩ ∧ l.length ≤ w.heap.words.length ∧ (WOk w.heap.words → WOk l) ∧ w.rep.filled ≤ n ∧ n ≤ w.rep.filled + 1 := by
 unfold Z4X
 split
 ·refine ⟨_,_,rfl,Z7j _ _ _,fun h => Z5r h ?_ _,by omega,by omega⟩
  intro y hy
  have hh : 0 ≤ (hdW w x).length ∧ (hdW w x).length ≤ 255 := Z0g w.heap.words x
  simp only [objW,List.mem_cons,List.mem_replicate,Z4P hh] at hy
  rcases hy with rfl | ⟨_,rfl⟩ <;> omega
 ·exact ⟨w.heap.words,w.rep.filled,rfl,Nat.le_refl _,fun h => h,by omega,by omega⟩
theorem Z4T (w : Work) (hw : FOk w) : ∀ k,FOk (fillN w k) ∧ (fillN w k).heap.conf = w.heap.conf ∧ (fillN w k).heap.pages = w.heap.pages ∧ (fillN w k).heap.space = w.heap.space ∧ (fillN w k).heap.bump = w.heap.bump ∧ (fillN w k).old = w.old ∧ (fillN w k).taken = w.taken ∧ (fillN w k).queue = w.queue ∧ (fillN w k).rep.freed = w.rep.freed ∧ (fillN w k).rep.cleared = w.rep.cleared ∧ w.rep.filled ≤ (fillN w k).rep.filled ∧ (fillN w k).rep.filled ≤ w.rep.filled + k
 | 0 => ⟨hw,rfl,rfl,rfl,rfl,rfl,rfl,rfl,rfl,rfl,by simp [fillN],by simp [fillN]⟩
 | k + 1 => by
  obtain ⟨i0,i1,i2,i3,i4,i5,i6,i7,i8,i9,i10,i11⟩ := Z4T w hw k
  obtain ⟨l,n,e,e1,e2,e3,e4⟩ := ZhU (fillN w k) (w.old.getD k default)
  have : fillN w (k + 1) = _ := e
  rw [this]
  have hl := i0.wl
  exact ⟨⟨e2 i0.words,by simp only; omega,i0.pl,i0.ol,i0.o,i0.tl,i0.ql⟩,i1,i2,i3,i4,i5,i6,i7,i8,i9,by simp only; omega,by simp only; omega⟩
section
variable (w : Work) (hw : FOk w) (hr : w.rep.filled = 0)
include hw hr
theorem Zhk : CSpec Tryz.prog (blkF Tryz.f144 0) (Tg.st ⟨tm 84 [(1,.pt 8001 0 0),(2,.pt 8002 0 0),(3,int 0)],[(8002,.box 176 [int 0,int 0,.d (.sl 0 []),.d (.sl 0 []),int 0,int 0,.d (.sl 0 []),.d (.sl 0 []),.d (.sl 0 []),int 0,int 0,int 0,int 0,int 0,int 0,int 0]),(8001,.box 176 w.cells)],60⟩) .nrm (Tg.st ⟨tm 84 [(1,.pt 8001 0 0),(2,.pt 8002 0 0)],[(8002,.box 176 [int 0,int 0,.d (.sl 0 []),.d (.sl 0 []),int 0,int 0,.d (.sl 0 []),.d (.sl 0 []),.d (.sl 0 []),int 0,int 0,int 0,int 0,int 0,int 0,int 0]),(8001,.box 176 (fillN w w.old.length).cells)],60⟩) := by
 have hol := hw.ol
 refine Z0d (S := fun k => (Zif (fillN w k) k).st) w.old.length (by kernel_rfl) (fun k hk => ?_) ?_
 ·have h := Z4T w hw k
  have := Zgp (fillN w k) k h.1 (by rw [h.2.2.2.2.2.1]; exact hk) (by omega)
  rw [h.2.2.2.2.2.1] at this
  exact this
 ·have h := Z4T w hw w.old.length
  have := Zj0 (fillN w w.old.length)
  rw [h.2.2.2.2.2.1] at this
  exact this
theorem Zbf : GSpec Tryz.prog 144 [w.av] false (fillN w w.old.length).av [] := by
 exact gF [] Tryz.func144 [] (Fu (@Zhk w ‹_› ‹_›) Fz)
end
def Z2W (s : Int) (p : Page) : Prop := p.kind ≠ 0 ∧ p.space = s
instance (s : Int) (p : Page) : Decidable (Z2W s p) := by unfold Z2W; infer_instance
def Z1f (s : Int) (p : Page) : Page := if Z2W s p then ⟨0,0,0,0⟩ else p
def Z22 (pw s : Int) (l : List Page) (ws : List Int) : Nat → List Int
 | 0 => ws
 | i + 1 => if Z2W s (l.getD i default) then spl (Z22 pw s l ws i) (i * pw.toNat) (List.replicate pw.toNat 0) else Z22 pw s l ws i
def Z44 (n s : Int) (l : List Page) : Nat → Int
 | 0 => n
 | i + 1 => if Z2W s (l.getD i default) then Z44 n s l i + 1 else Z44 n s l i
def Zeq (w : Work) (ps : List Page) (ws : List Int) (n : Int) (i : Nat) : Tg := ⟨tm 78 [(1,.pt 8001 0 0),(2,.pt 8002 0 0),(3,int i)],[(8001,.box 176 [int w.heap.conf.pw,int w.heap.conf.pg,.ow 24017,.ow 16010,int w.heap.space,int w.heap.bump,Z01 w.old,Z1B w.taken,Z01 w.queue,int w.scanned,int w.rep.copied,int w.rep.kept,int w.rep.filled,int n,int w.rep.cleared,int w.rep.steps]),(24017,.arr 39 1 (ws.map wdv)),(16010,.arr 56 4 (ps.map Page.dv)),(8002,.box 176 [int 0,int 0,.d (.sl 0 []),.d (.sl 0 []),int 0,int 0,.d (.sl 0 []),.d (.sl 0 []),.d (.sl 0 []),int 0,int 0,int 0,int 0,int 0,int 0,int 0])],60⟩
theorem Zh7 (w : Work) (ps : List Page) (ws : List Int) (n : Int) (i : Nat) (hl : ps.length ≤ 64) (hi : i < ps.length) (hb : ¬ Z2W w.heap.space (ps.getD i default)) : CSpec Tryz.prog (rndF Tryz.f143 0) (Zeq w ps ws n i).st .nrm (Zeq w ps ws n (i + 1)).st := by
 unfold Z2W at hb
 have hb' : ¬ ((ps.getD (i : Int).toNat default).kind ≠ 0 ∧ (ps.getD (i : Int).toNat default).space = w.heap.space) := hb
 exact sF [] [] (Fl 24 Page.dv ps (Ftb 25 (decide ((↑i : Int) < (↑ps.length : Int))) (Fm 33 Page.dv ps (↑i) ((↑i : Int).toNat) (Ftb 44 ((ps.getD (↑i : Int).toNat default).kind == 0||(ps.getD (↑i : Int).toNat default).space != w.heap.space) (Fx 27 i Fz)))))
def ZfX (w : Work) (ps : List Page) (ws : List Int) (n : Int) (i k : Nat) : Tg := ⟨tm 78 [(1,.pt 8001 0 0),(2,.pt 8002 0 0),(3,int i),(5,int k)],[(8001,.box 176 [int w.heap.conf.pw,int w.heap.conf.pg,.ow 24017,.ow 16010,int w.heap.space,int w.heap.bump,Z01 w.old,Z1B w.taken,Z01 w.queue,int w.scanned,int w.rep.copied,int w.rep.kept,int w.rep.filled,int n,int w.rep.cleared,int w.rep.steps]),(16010,.arr 56 4 (ps.map Page.dv)),(24017,.arr 39 1 ((wr ws (List.replicate w.heap.conf.pw.toNat 0) (i * w.heap.conf.pw.toNat) k).map wdv)),(8002,.box 176 [int 0,int 0,.d (.sl 0 []),.d (.sl 0 []),int 0,int 0,.d (.sl 0 []),.d (.sl 0 []),.d (.sl 0 []),int 0,int 0,int 0,int 0,int 0,int 0,int 0])],64⟩
section
variable (w : Work) (ps : List Page) (ws : List Int) (n : Int) (i k : Nat) (hp : 0 ≤ w.heap.conf.pw ∧ w.heap.conf.pw ≤ 64) (hi : i ≤ 64) (hl : i * w.heap.conf.pw.toNat + w.heap.conf.pw.toNat ≤ ws.length) (hw : ws.length ≤ 4096)
include hp hi hl hw
theorem ZgG (hk : k < w.heap.conf.pw.toNat) : CSpec Tryz.prog (rndF Tryz.f143 2) (ZfX w ps ws n i k).st .nrm (ZfX w ps ws n i (k + 1)).st := by
 have hs := Z9r (ws := ws) (l := List.replicate w.heap.conf.pw.toNat 0) (i := i * w.heap.conf.pw.toNat) (k := k) (by simpa using hl) (by simpa using hk) (0 : Int)
 rw [show (List.replicate w.heap.conf.pw.toNat (0 : Int)).getD k 0 = 0 by simp [List.getD,hk]] at hs
 have hn := Z4x (ws := ws) (l := List.replicate w.heap.conf.pw.toNat (0 : Int)) (i := i * w.heap.conf.pw.toNat) (k := k) (by simpa using hl) (by simp; omega)
 have em : (i : Int) * w.heap.conf.pw = ((i * w.heap.conf.pw.toNat : Nat) : Int) := by rw [Int.natCast_mul,Int.toNat_of_nonneg hp.1]
 have ei : (i : Int) * w.heap.conf.pw + k = ((i * w.heap.conf.pw.toNat + k : Nat) : Int) := by omega
 exact sF [] [false,false,false,false,false,false,true] (Fh 10076 [.els (List.map wdv ((wr ws (List.replicate w.heap.conf.pw.toNat 0) (i * w.heap.conf.pw.toNat) k).set (↑(i * w.heap.conf.pw.toNat + k) : Int).toNat 0))] (Ftb 62 (decide ((↑k : Int) < w.heap.conf.pw)) (Fi 73 ((↑i : Int) * w.heap.conf.pw) (Fg 75 (by rw [wrapI' (by omega) (by omega)]; omega : IntKind.i64.wrap ((↑i : Int) * w.heap.conf.pw + (↑k : Int)) =(↑(i * w.heap.conf.pw.toNat + k) : Int)) (Fa (by (simp only [List.length_map]; omega) : 0≤(↑(i * w.heap.conf.pw.toNat + k) : Int)∧(↑(i * w.heap.conf.pw.toNat + k) : Int).toNat < (List.map wdv (wr ws (List.replicate w.heap.conf.pw.toNat 0) (i * w.heap.conf.pw.toNat) k)).length) (Fa (by (simp only [List.length_map]; omega) : (↑(i * w.heap.conf.pw.toNat + k) : Int).toNat < (List.map wdv (wr ws (List.replicate w.heap.conf.pw.toNat 0) (i * w.heap.conf.pw.toNat) k)).length) (Fa (by simp [List.map_take,List.map_drop,List.map_set,List.map_append,wdv,idv] : (List.map wdv (wr ws (List.replicate w.heap.conf.pw.toNat 0) (i * w.heap.conf.pw.toNat) k)).set (↑(i * w.heap.conf.pw.toNat + k) : Int).toNat [du64 0] =List.map wdv ((wr ws (List.replicate w.heap.conf.pw.toNat 0) (i * w.heap.conf.pw.toNat) k).set (↑(i * w.heap.conf.pw.toNat + k) : Int).toNat 0)) (Fx 64 k (Fr (39 : Int) (Fa (by refine congrArg _ ?_; exact hs : List.map wdv ((wr ws (List.replicate w.heap.conf.pw.toNat 0) (i * w.heap.conf.pw.toNat) k).set (↑(i * w.heap.conf.pw.toNat + k) : Int).toNat 0) =List.map wdv (wr ws (List.replicate w.heap.conf.pw.toNat 0) (i * w.heap.conf.pw.toNat) (k + 1))) Fz))))))))))
theorem Zjl : CSpec Tryz.prog (rndF Tryz.f143 2) (ZfX w ps ws n i w.heap.conf.pw.toNat).st (.ext 2) (Tg.st ⟨tm 78 [(1,.pt 8001 0 0),(2,.pt 8002 0 0),(3,int i)],[(8001,.box 176 [int w.heap.conf.pw,int w.heap.conf.pg,.ow 24017,.ow 16010,int w.heap.space,int w.heap.bump,Z01 w.old,Z1B w.taken,Z01 w.queue,int w.scanned,int w.rep.copied,int w.rep.kept,int w.rep.filled,int n,int w.rep.cleared,int w.rep.steps]),(16010,.arr 56 4 (ps.map Page.dv)),(24017,.arr 39 1 ((spl ws (i * w.heap.conf.pw.toNat) (List.replicate w.heap.conf.pw.toNat 0)).map wdv)),(8002,.box 176 [int 0,int 0,.d (.sl 0 []),.d (.sl 0 []),int 0,int 0,.d (.sl 0 []),.d (.sl 0 []),.d (.sl 0 []),int 0,int 0,int 0,int 0,int 0,int 0,int 0])],64⟩) := by
 have hs := Zal ws (List.replicate w.heap.conf.pw.toNat (0 : Int)) (i * w.heap.conf.pw.toNat)
 rw [List.length_replicate] at hs
 exact sF [] [false,false,false,false,false,true] (Ffb 62 (decide ((↑w.heap.conf.pw.toNat : Int) < w.heap.conf.pw)) (Fr (39 : Int) (Fa (by refine congrArg _ ?_; assumption : List.map wdv (wr ws (List.replicate w.heap.conf.pw.toNat 0) (i * w.heap.conf.pw.toNat) w.heap.conf.pw.toNat) =List.map wdv (spl ws (i * w.heap.conf.pw.toNat) (List.replicate w.heap.conf.pw.toNat 0))) Fz)))
theorem ZhJ : CSpec Tryz.prog (blkF Tryz.f143 2) (Tg.st ⟨tm 78 [(1,.pt 8001 0 0),(2,.pt 8002 0 0),(3,int i),(5,int 0)],[(8001,.box 176 [int w.heap.conf.pw,int w.heap.conf.pg,.ow 24017,.ow 16010,int w.heap.space,int w.heap.bump,Z01 w.old,Z1B w.taken,Z01 w.queue,int w.scanned,int w.rep.copied,int w.rep.kept,int w.rep.filled,int n,int w.rep.cleared,int w.rep.steps]),(16010,.arr 56 4 (ps.map Page.dv)),(24017,.arr 39 1 (ws.map wdv)),(8002,.box 176 [int 0,int 0,.d (.sl 0 []),.d (.sl 0 []),int 0,int 0,.d (.sl 0 []),.d (.sl 0 []),.d (.sl 0 []),int 0,int 0,int 0,int 0,int 0,int 0,int 0])],64⟩) .nrm (Tg.st ⟨tm 78 [(1,.pt 8001 0 0),(2,.pt 8002 0 0),(3,int i)],[(8001,.box 176 [int w.heap.conf.pw,int w.heap.conf.pg,.ow 24017,.ow 16010,int w.heap.space,int w.heap.bump,Z01 w.old,Z1B w.taken,Z01 w.queue,int w.scanned,int w.rep.copied,int w.rep.kept,int w.rep.filled,int n,int w.rep.cleared,int w.rep.steps]),(16010,.arr 56 4 (ps.map Page.dv)),(24017,.arr 39 1 ((spl ws (i * w.heap.conf.pw.toNat) (List.replicate w.heap.conf.pw.toNat 0)).map wdv)),(8002,.box 176 [int 0,int 0,.d (.sl 0 []),.d (.sl 0 []),int 0,int 0,.d (.sl 0 []),.d (.sl 0 []),.d (.sl 0 []),int 0,int 0,int 0,int 0,int 0,int 0,int 0])],64⟩) := by
 have := Z0d (S := fun k => (ZfX w ps ws n i k).st) w.heap.conf.pw.toNat (by kernel_rfl) (fun k hk => ZgG w ps ws n i k hp hi hl hw hk) (Zjl w ps ws n i hp hi hl hw)
 simp only [ZfX,Z7K] at this
 exact this
end
theorem Zhv (w : Work) (ps : List Page) (ws : List Int) (n : Int) (i : Nat) (hl : ps.length ≤ 64) (hi : i < ps.length) (hb : Z2W w.heap.space (ps.getD i default)) (hp : 0 ≤ w.heap.conf.pw ∧ w.heap.conf.pw ≤ 64) (hs : i * w.heap.conf.pw.toNat + w.heap.conf.pw.toNat ≤ ws.length) (hw : ws.length ≤ 4096) (hn : 0 ≤ n ∧ n ≤ 64) : CSpec Tryz.prog (rndF Tryz.f143 0) (Zeq w ps ws n i).st .nrm (Zeq w (ps.set i ⟨0,0,0,0⟩) (spl ws (i * w.heap.conf.pw.toNat) (List.replicate w.heap.conf.pw.toNat 0)) (n + 1) (i + 1)).st := by
 unfold Z2W at hb
 have hb' : (ps.getD (i : Int).toNat default).kind ≠ 0 ∧ (ps.getD (i : Int).toNat default).space = w.heap.space := hb
 exact sF [] [] (Fh 10050 [.els (List.map Page.dv (ps.set (↑i : Int).toNat (Page.mk 0 0 0 0)))] (Fl 24 Page.dv ps (Ftb 25 (decide ((↑i : Int) < (↑ps.length : Int))) (Fm 33 Page.dv ps (↑i) ((↑i : Int).toNat) (Ffb 44 ((ps.getD (↑i : Int).toNat default).kind == 0||(ps.getD (↑i : Int).toNat default).space != w.heap.space) (Fa (by (simp only [List.length_map]; omega) : 0≤(↑i : Int)∧(↑i : Int).toNat < (List.map Page.dv ps).length) (Fa (by (simp only [List.length_map]; omega) : (↑i : Int).toNat < (List.map Page.dv ps).length) (Fa (by rw [List.map_set]; rfl : (List.map Page.dv ps).set (↑i : Int).toNat [dint 0,dint 0,dint 0,dint 0] =List.map Page.dv (ps.set (↑i : Int).toNat (Page.mk 0 0 0 0))) (Fi 54 (n + 1) (Fu (@ZhJ w (ps.set (↑i : Int).toNat (Page.mk 0 0 0 0)) ws (n + 1) i ‹_› (by omega) ‹_› ‹_›) (Fx 27 i Fz)))))))))))
end Go.Proofs.YtjflpmnenhdeeaaGreat
