/-
 The statement PageGives: part 10.
 Conditions: none.
-/
import Derived.Test.YtolnblaadleknaaGreatM9
set_option maxRecDepth 100000
set_option maxHeartbeats 2000000
set_option linter.all false
namespace Go.Proofs.YtolnblaadleknaaGreat
open Go.Sx
def Work.in1 (w : Work) (a : Int) : Work := ⟨⟨(w.fwd (loadA w.heap.words a).1).1.heap.conf,(storeA (w.fwd (loadA w.heap.words a).1).1.heap.words a (w.fwd (loadA w.heap.words a).1).2.1).1,(w.fwd (loadA w.heap.words a).1).1.heap.pages,(w.fwd (loadA w.heap.words a).1).1.heap.space,(w.fwd (loadA w.heap.words a).1).1.heap.bump⟩,(w.fwd (loadA w.heap.words a).1).1.old,(w.fwd (loadA w.heap.words a).1).1.taken,(w.fwd (loadA w.heap.words a).1).1.queue,(w.fwd (loadA w.heap.words a).1).1.scanned,(w.fwd (loadA w.heap.words a).1).1.rep⟩
def innN (w : Work) (a : Int) (l : List Int) : Nat → Work
 | 0 => w
 | k + 1 => (innN w a l k).in1 (a + 1 + l.getD k default)
def innE (w : Work) (a : Int) (l : List Int) (k : Nat) : Int := ((innN w a l k).fwd (loadA (innN w a l k).heap.words (a + 1 + l.getD k default)).1).2.2
def addrW (w : Work) : Int := w.queue.getD w.scanned.toNat default
def ptrsW (w : Work) : List Int := pointersH (hdW w (addrW w))
def stepD (w : Work) (n : Int) : Work := ⟨w.heap,w.old,w.taken,w.queue,w.scanned + 1,⟨w.rep.copied,w.rep.kept,w.rep.filled,w.rep.freed,w.rep.cleared,w.rep.steps + 1 + n⟩⟩
def stepF (w : Work) : Work × Bool × Int :=
 if w.scanned < w.queue.length then
  match (List.range (ptrsW w).length).find? (fun k => decide (innE w (addrW w) (ptrsW w) k ≠ 0)) with
  | none => (stepD (innN w (addrW w) (ptrsW w) (ptrsW w).length) (ptrsW w).length,true,0)
  | some k => (noWork,false,innE w (addrW w) (ptrsW w) k)
 else (w,false,0)
theorem in1_ok {w : Work} (hw : WkOk w) (a : Int) (e : (w.fwd (loadA w.heap.words a).1).2.2 = 0) : WkOk (w.in1 a) ∧ w.queue.length ≤ (w.in1 a).queue.length ∧ (w.in1 a).scanned = w.scanned ∧ (w.in1 a).rep.steps = w.rep.steps := by
 have hf := fwd_ok hw _ e
 have hl := store_len (w.fwd (loadA w.heap.words a).1).1.heap.words a (w.fwd (loadA w.heap.words a).1).2.1
 have hl2 := hf.1.wl
 exact ⟨hf.1.withWords (wok_store hf.1.words (by omega) a) (by omega),hf.2.2.2.1,hf.2.2.2.2.1,hf.2.2.2.2.2⟩
theorem innN_ok {w : Work} (hw : WkOk w) (a : Int) (l : List Int) : ∀ k,(∀ j,j < k → innE w a l j = 0) → WkOk (innN w a l k) ∧ w.queue.length ≤ (innN w a l k).queue.length ∧ (innN w a l k).scanned = w.scanned ∧ (innN w a l k).rep.steps = w.rep.steps
 | 0,_ => ⟨hw,Nat.le_refl _,rfl,rfl⟩
 | k + 1,h => by
  have ih := innN_ok hw a l k (fun j hj => h j (by omega))
  have hi := in1_ok ih.1 (a + 1 + l.getD k default) (h k (by omega))
  exact ⟨hi.1,Nat.le_trans ih.2.1 hi.2.1,hi.2.2.1.trans ih.2.2.1,hi.2.2.2.trans ih.2.2.2⟩
theorem ptrsUp_range (h : Header) : ∀ i,∀ x ∈ ptrsUp h i,0 ≤ x ∧ x < i
 | 0,x,hx => by simp [ptrsUp] at hx
 | i + 1,x,hx => by
  have ih := ptrsUp_range h i
  simp only [ptrsUp] at hx
  split at hx
  ·rcases List.mem_append.1 hx with hx | hx
   ·have := ih x hx; omega
   ·simp at hx; omega
  ·have := ih x hx; omega
theorem pointersH_range (h : Header) : (pointersH h).length ≤ 255 ∧ ∀ x ∈ pointersH h,0 ≤ x ∧ x ≤ 255 := by
 unfold pointersH
 split
 ·rename_i hv
  have := validH_iff.1 hv
  have hl := ptrsUp_len h h.length.toNat
  exact ⟨by omega,fun x hx => by have := ptrsUp_range h _ x hx; omega⟩
 ·simp
theorem ref11StepA (w : Work) (hw : WkOk w) (hs : ¬ w.scanned < w.queue.length) : GSpec Tryz.prog 208 [w.av] false (.tu [w.av,bool false,int 0]) [] := by
 have h3 := hw.mu
 exact gF [] Tryz.func208 [] (Fl 18 wdv w.queue (Ftb 19 (decide ((↑w.queue.length : Int)≤w.scanned)) Fz))
def stpL (w : Work) (a : Int) (l : List Int) (k : Nat) : Tg := ⟨tm 90 [(1,.pt 8001 0 0),(2,.pt 8002 0 0),(3,bool false),(4,int 0),(5,u64 a),(6,intsV l),(7,int k)],[(8002,.box 100 [int 0,int 0,.d (.sl 0 []),.d (.sl 0 []),int 0,int 0,.d (.sl 0 []),.d (.sl 0 []),.d (.sl 0 []),int 0,int 0,int 0,int 0,int 0,int 0,int 0]),(8001,.box 100 w.cells)],60⟩
section
variable (w : Work) (a : Int) (l : List Int) (k : Nat) (hw : WkOk w) (ha : 0 ≤ a ∧ a ≤ 16384) (hl : l.length ≤ 255) (hr : 0 ≤ l.getD k default ∧ l.getD k default ≤ 255) (hk : k < l.length)
include hw ha hl hr hk
theorem stpRound (e : (w.fwd (loadA w.heap.words (a + 1 + l.getD k default)).1).2.2 = 0) : CSpec Tryz.prog (rndF Tryz.f208 0) (stpL w a l k).st .nrm (stpL (w.in1 (a + 1 + l.getD k default)) a l (k + 1)).st := by
 have h1 := hw.wl
 have h2 := loadA_range hw.words (a + 1 + l.getD k default)
 have h3 := fwd_ok hw _ e
 have h4 := h3.1.wl
 exact sF [] [] (Fl 33 idv l (Ftb 34 (decide ((↑k : Int) < (↑l.length : Int))) (Fv 38 (a + 1) (Fek 41 idv l (↑k) k (Fv 43 (l.getD k default) (Fv 44 (a + 1 + l.getD k default) (Fc 50 (@ref2Load w.heap.words (a + 1 + l.getD k default) (by omega) (by omega)) (Fc 56 (@ref10Forward w ((loadA w.heap.words (a + 1 + l.getD k default)).fst) ‹_› ‹_›) (Ffb 61 ((w.fwd (loadA w.heap.words (a + 1 + l.getD k default)).fst).snd.snd != 0) (Fc 71 (@ref2Store ((w.fwd (loadA w.heap.words (a + 1 + l.getD k default)).fst).fst.heap.words) (a + 1 + l.getD k default) ((w.fwd (loadA w.heap.words (a + 1 + l.getD k default)).fst).snd.fst) (by omega) (by omega)) (Fx 36 k Fz)))))))))))
theorem stpFound (e : ¬ (w.fwd (loadA w.heap.words (a + 1 + l.getD k default)).1).2.2 = 0) : CSpec Tryz.prog (rndF Tryz.f208 0) (stpL w a l k).st .ret (Tg.st ⟨tm 90 [(2,.pt 8002 0 0),(3,bool false),(4,int (w.fwd (loadA w.heap.words (a + 1 + l.getD k default)).1).2.2)],[(8002,.box 100 [int 0,int 0,.d (.sl 0 []),.d (.sl 0 []),int 0,int 0,.d (.sl 0 []),.d (.sl 0 []),.d (.sl 0 []),int 0,int 0,int 0,int 0,int 0,int 0,int 0])],60⟩) := by
 have h1 := hw.wl
 have h2 := loadA_range hw.words (a + 1 + l.getD k default)
 exact sF [] [] (Fl 33 idv l (Ftb 34 (decide ((↑k : Int) < (↑l.length : Int))) (Fv 38 (a + 1) (Fek 41 idv l (↑k) k (Fv 43 (l.getD k default) (Fv 44 (a + 1 + l.getD k default) (Fc 50 (@ref2Load w.heap.words (a + 1 + l.getD k default) (by omega) (by omega)) (Fc 56 (@ref10Forward w ((loadA w.heap.words (a + 1 + l.getD k default)).fst) ‹_› ‹_›) (Ftb 61 ((w.fwd (loadA w.heap.words (a + 1 + l.getD k default)).fst).snd.snd != 0) Fz)))))))))
end
theorem stpEnd (w : Work) (a : Int) (l : List Int) : CSpec Tryz.prog (rndF Tryz.f208 0) (stpL w a l l.length).st (.ext 0) (Tg.st ⟨tm 90 [(1,.pt 8001 0 0),(2,.pt 8002 0 0),(6,intsV l)],[(8002,.box 100 [int 0,int 0,.d (.sl 0 []),.d (.sl 0 []),int 0,int 0,.d (.sl 0 []),.d (.sl 0 []),.d (.sl 0 []),int 0,int 0,int 0,int 0,int 0,int 0,int 0]),(8001,.box 100 w.cells)],60⟩) := by
 exact sF [] [] (Fl 33 idv l (Ffb 34 (decide ((↑l.length : Int) < (↑l.length : Int))) Fz))
section
variable (w : Work) (a : Int) (l : List Int) (hw : WkOk w) (ha : 0 ≤ a ∧ a ≤ 16384) (hl : l.length ≤ 255) (hr : ∀ x ∈ l,0 ≤ x ∧ x ≤ 255)
include hw ha hl hr
theorem stpLoop (hb : (List.range l.length).find? (fun k => decide (innE w a l k ≠ 0)) = none) : CSpec Tryz.prog (blkF Tryz.f208 0) (Tg.st ⟨tm 90 [(1,.pt 8001 0 0),(2,.pt 8002 0 0),(3,bool false),(4,int 0),(5,u64 a),(6,intsV l),(7,int 0)],[(8002,.box 100 [int 0,int 0,.d (.sl 0 []),.d (.sl 0 []),int 0,int 0,.d (.sl 0 []),.d (.sl 0 []),.d (.sl 0 []),int 0,int 0,int 0,int 0,int 0,int 0,int 0]),(8001,.box 100 w.cells)],60⟩) .nrm (Tg.st ⟨tm 90 [(1,.pt 8001 0 0),(2,.pt 8002 0 0),(6,intsV l)],[(8002,.box 100 [int 0,int 0,.d (.sl 0 []),.d (.sl 0 []),int 0,int 0,.d (.sl 0 []),.d (.sl 0 []),.d (.sl 0 []),int 0,int 0,int 0,int 0,int 0,int 0,int 0]),(8001,.box 100 (innN w a l l.length).cells)],60⟩) := by
 have h0 : ∀ j,j < l.length → innE w a l j = 0 := fun j hj => by
  have := List.find?_eq_none.1 hb j (List.mem_range.2 hj)
  simpa using this
 exact loop_ext_of (S := fun k => (stpL (innN w a l k) a l k).st) l.length (by kernel_rfl) (fun k hk => stpRound _ a l k (innN_ok hw a l k fun j hj => h0 j (by omega)).1 ha hl (hr _ (getD_mem_iff.2 ⟨k,hk,rfl⟩)) hk (h0 k hk)) (stpEnd _ a l)
theorem stpLoopT (i : Nat) (hb : (List.range l.length).find? (fun k => decide (innE w a l k ≠ 0)) = some i) : CSpec Tryz.prog (blkF Tryz.f208 0) (Tg.st ⟨tm 90 [(1,.pt 8001 0 0),(2,.pt 8002 0 0),(3,bool false),(4,int 0),(5,u64 a),(6,intsV l),(7,int 0)],[(8002,.box 100 [int 0,int 0,.d (.sl 0 []),.d (.sl 0 []),int 0,int 0,.d (.sl 0 []),.d (.sl 0 []),.d (.sl 0 []),int 0,int 0,int 0,int 0,int 0,int 0,int 0]),(8001,.box 100 w.cells)],60⟩) .ret (Tg.st ⟨tm 90 [(2,.pt 8002 0 0),(3,bool false),(4,int (innE w a l i))],[(8002,.box 100 [int 0,int 0,.d (.sl 0 []),.d (.sl 0 []),int 0,int 0,.d (.sl 0 []),.d (.sl 0 []),.d (.sl 0 []),int 0,int 0,int 0,int 0,int 0,int 0,int 0])],60⟩) := by
 obtain ⟨h1,h2,h3⟩ := List.find?_range_eq_some.1 hb
 have h2 := List.mem_range.1 h2
 have h0 : ∀ j,j < i → innE w a l j = 0 := fun j hj => by simpa using h3 j hj
 exact loop_ret_of (S := fun k => (stpL (innN w a l k) a l k).st) i (by kernel_rfl) (fun k hk => stpRound _ a l k (innN_ok hw a l k fun j hj => h0 j (by omega)).1 ha hl (hr _ (getD_mem_iff.2 ⟨k,by omega,rfl⟩)) (by omega) (h0 k hk)) (stpFound _ a l i (innN_ok hw a l i h0).1 ha hl (hr _ (getD_mem_iff.2 ⟨i,h2,rfl⟩)) h2 (of_decide_eq_true h1))
end
theorem ref11Step (w : Work) (hw : WkOk w) : GSpec Tryz.prog 208 [w.av] false (.tu [(stepF w).1.av,bool (stepF w).2.1,int (stepF w).2.2]) [] := by
 by_cases hs : w.scanned < w.queue.length
 ·have h2 := hw.sc
  have h1 := hw.q _ (getD_mem_iff.2 ⟨w.scanned.toNat,by omega,rfl⟩)
  have h3 := hw.mu
  have h4 := decodeH_map (loadA w.heap.words (w.queue.getD w.scanned.toNat default)).1 (loadA_range hw.words _).1
  have h5 : hdW w (w.queue.getD w.scanned.toNat default) = (decodeH (loadA w.heap.words (w.queue.getD w.scanned.toNat default)).1).1 := rfl
  have h6 := pointersH_range (hdW w (w.queue.getD w.scanned.toNat default))
  rw [← h5] at h4
  unfold stepF
  rw [if_pos hs]
  cases hb : (List.range (ptrsW w).length).find? (fun k => decide (innE w (addrW w) (ptrsW w) k ≠ 0)) with
  | none =>
   have h0 : ∀ j,j < (ptrsW w).length → innE w (addrW w) (ptrsW w) j = 0 := fun j hj => by
    have := List.find?_eq_none.1 hb j (List.mem_range.2 hj)
    simpa using this
   have k1 := innN_ok hw (addrW w) (ptrsW w) (ptrsW w).length h0
   have k2 := k1.1.rs
   have k3 := k1.1.sc
   have k4 := k1.1.mu
   unfold ptrsW addrW at *
   exact gF [] Tryz.func208 [] (Fl 18 wdv w.queue (Ffb 19 (decide ((↑w.queue.length : Int)≤w.scanned)) (Fe 25 wdv w.queue w.scanned (Fc 29 (@ref10Get w (w.queue.getD w.scanned.toNat default) ‹_› (by omega)) (Fc 30 (@ref3Pointers (hdW w (w.queue.getD w.scanned.toNat default)) ‹_›) (Fu (@stpLoop w (w.queue.getD w.scanned.toNat default) (pointersH (hdW w (w.queue.getD w.scanned.toNat default))) ‹_› ‹_› (by omega) (by grind [stepD]) ‹_›) (Fi 78 ((innN w (w.queue.getD w.scanned.toNat default) (pointersH (hdW w (w.queue.getD w.scanned.toNat default))) (pointersH (hdW w (w.queue.getD w.scanned.toNat default))).length).scanned + 1) (Fi 83 ((innN w (w.queue.getD w.scanned.toNat default) (pointersH (hdW w (w.queue.getD w.scanned.toNat default))) (pointersH (hdW w (w.queue.getD w.scanned.toNat default))).length).rep.steps + 1) (Fl 85 idv (pointersH (hdW w (w.queue.getD w.scanned.toNat default))) (Fi 86 ((innN w (w.queue.getD w.scanned.toNat default) (pointersH (hdW w (w.queue.getD w.scanned.toNat default))) (pointersH (hdW w (w.queue.getD w.scanned.toNat default))).length).rep.steps + 1 + (↑(pointersH (hdW w (w.queue.getD w.scanned.toNat default))).length : Int)) Fz))))))))))
  | some k =>
   unfold ptrsW addrW at *
   exact gF [] Tryz.func208 [] (Fl 18 wdv w.queue (Ffb 19 (decide ((↑w.queue.length : Int)≤w.scanned)) (Fe 25 wdv w.queue w.scanned (Fc 29 (@ref10Get w (w.queue.getD w.scanned.toNat default) ‹_› (by omega)) (Fc 30 (@ref3Pointers (hdW w (w.queue.getD w.scanned.toNat default)) ‹_›) (Fu (@stpLoopT w (w.queue.getD w.scanned.toNat default) (pointersH (hdW w (w.queue.getD w.scanned.toNat default))) ‹_› ‹_› (by omega) (by grind [noWork,noHeap]) k ‹_›) (Fnl (Fnl (Fnl (Fnl (Fnl Fz)))))))))))
 ·have e : stepF w = (w,false,0) := by rw [stepF,if_neg hs]
  rw [e]
  exact ref11StepA w hw hs
theorem stepF_ok {w : Work} (hw : WkOk w) (e : (stepF w).2.2 = 0) : WkOk (stepF w).1 ∧ ((stepF w).2.1 = true → (stepF w).1.scanned = w.scanned + 1) := by
 by_cases hs : w.scanned < w.queue.length
 ·unfold stepF at e ⊢
  rw [if_pos hs] at e ⊢
  cases hb : (List.range (ptrsW w).length).find? (fun k => decide (innE w (addrW w) (ptrsW w) k ≠ 0)) with
  | none =>
   have h0 : ∀ j,j < (ptrsW w).length → innE w (addrW w) (ptrsW w) j = 0 := fun j hj => by
    have := List.find?_eq_none.1 hb j (List.mem_range.2 hj)
    simpa using this
   have k1 := innN_ok hw (addrW w) (ptrsW w) (ptrsW w).length h0
   have k2 := k1.1.rs
   have k3 := k1.1.sc
   have k5 := (pointersH_range (hdW w (addrW w))).1
   have k6 := hw.sc
   simp only
   refine ⟨⟨k1.1.words,k1.1.wl,k1.1.conf,k1.1.pl,k1.1.sp,k1.1.ol,k1.1.o,k1.1.tk,k1.1.tl,k1.1.q,k1.1.us,k1.1.mu, ?_,k1.1.rk, ?_,k1.1.r0⟩, ?_⟩
   ·simp only [stepD]; omega
   ·simp only [stepD]; unfold ptrsW at *; omega
   ·intro _; simp only [stepD]; omega
  | some k =>
   simp only [hb] at e
   have := (List.find?_range_eq_some.1 hb).1
   simp [e] at this
 ·have e : stepF w = (w,false,0) := by rw [stepF,if_neg hs]
  rw [e]
  exact ⟨hw,fun h => by cases h⟩
def itW (w : Work) : Nat → Work
 | 0 => w
 | k + 1 => (stepF (itW w k)).1
def bndW (w : Work) : Nat := 1000002 + w.old.length
def stopB (w : Work) (k : Nat) : Bool := decide ((stepF (itW w k)).2.2 ≠ 0 ∨ (stepF (itW w k)).2.1 = false)
def allF (w : Work) : Work × Int := match (List.range (bndW w)).find? (stopB w) with
 | none => (w,0)
 | some k => if (stepF (itW w k)).2.2 = 0 then ((stepF (itW w k)).1,0) else (noWork,(stepF (itW w k)).2.2)
theorem itW_ok {w : Work} (hw : WkOk w) : ∀ k,(∀ j,j < k → stopB w j = false) → WkOk (itW w k) ∧ (itW w k).scanned = w.scanned + k
 | 0,_ => ⟨hw,by simp [itW]⟩
 | k + 1,h => by
  have ih := itW_ok hw k (fun j hj => h j (by omega))
  have hk := h k (by omega)
  simp only [stopB,decide_eq_false_iff_not,not_or,Decidable.not_not] at hk
  have hs := stepF_ok ih.1 hk.1
  refine ⟨hs.1, ?_⟩
  have := hs.2 (by simpa using hk.2)
  simp only [itW]
  omega
theorem allF_some {w : Work} (hw : WkOk w) : ∃ k,(List.range (bndW w)).find? (stopB w) = some k := by
 cases hb : (List.range (bndW w)).find? (stopB w) with
 | some k => exact ⟨k,rfl⟩
 | none =>
  exfalso
  have h0 : ∀ j,j < 1000001 → stopB w j = false := fun j hj => by
   have := List.find?_eq_none.1 hb j (List.mem_range.2 (by unfold bndW; omega))
   simpa using this
  have k := itW_ok hw 1000001 h0
  have h1 := k.1.sc
  have h2 := k.1.mu
  have h3 := hw.sc
  omega
def allL (w : Work) : Tg := ⟨tm 21 [(1,.pt 8001 0 0),(2,.pt 8002 0 0),(3,int 0)],[(8002,.box 100 [int 0,int 0,.d (.sl 0 []),.d (.sl 0 []),int 0,int 0,.d (.sl 0 []),.d (.sl 0 []),.d (.sl 0 []),int 0,int 0,int 0,int 0,int 0,int 0,int 0]),(8001,.box 100 w.cells)],60⟩
section
variable (w : Work) (hw : WkOk w)
include hw
theorem allRound (e : (stepF w).2.2 = 0) (m : (stepF w).2.1 = true) : CSpec Tryz.prog (rndF Tryz.f149 0) (allL w).st .nrm (allL (stepF w).1).st := by
 exact sF [] [] (Fc 9 (@ref11Step w ‹_›) (Ffb 14 ((stepF w).snd.snd != 0) (Ffb 19 (!(stepF w).snd.fst) Fz)))
theorem allStop (e : (stepF w).2.2 = 0) (m : (stepF w).2.1 = false) : CSpec Tryz.prog (rndF Tryz.f149 0) (allL w).st .ret (Tg.st ⟨tm 21 [(2,.pt 8002 0 0),(3,int 0)],[(8002,.box 100 (stepF w).1.cells)],60⟩) := by
 exact sF [] [] (Fc 9 (@ref11Step w ‹_›) (Ffb 14 ((stepF w).snd.snd != 0) (Ftb 19 (!(stepF w).snd.fst) Fz)))
theorem allErr (e : ¬ (stepF w).2.2 = 0) : CSpec Tryz.prog (rndF Tryz.f149 0) (allL w).st .ret (Tg.st ⟨tm 21 [(2,.pt 8002 0 0),(3,int (stepF w).2.2)],[(8002,.box 100 [int 0,int 0,.d (.sl 0 []),.d (.sl 0 []),int 0,int 0,.d (.sl 0 []),.d (.sl 0 []),.d (.sl 0 []),int 0,int 0,int 0,int 0,int 0,int 0,int 0])],60⟩) := by
 exact sF [] [] (Fc 9 (@ref11Step w ‹_›) (Ftb 14 ((stepF w).snd.snd != 0) Fz))
theorem allLoop (k : Nat) (hb : (List.range (bndW w)).find? (stopB w) = some k) (e : (stepF (itW w k)).2.2 = 0) : CSpec Tryz.prog (blkF Tryz.f149 0) (Tg.st ⟨tm 21 [(1,.pt 8001 0 0),(2,.pt 8002 0 0),(3,int 0)],[(8002,.box 100 [int 0,int 0,.d (.sl 0 []),.d (.sl 0 []),int 0,int 0,.d (.sl 0 []),.d (.sl 0 []),.d (.sl 0 []),int 0,int 0,int 0,int 0,int 0,int 0,int 0]),(8001,.box 100 w.cells)],60⟩) .ret (Tg.st ⟨tm 21 [(2,.pt 8002 0 0),(3,int 0)],[(8002,.box 100 (stepF (itW w k)).1.cells)],60⟩) := by
 obtain ⟨h1,h2,h3⟩ := List.find?_range_eq_some.1 hb
 have h0 : ∀ j,j < k → stopB w j = false := fun j hj => by simpa using h3 j hj
 have m : (stepF (itW w k)).2.1 = false := by
  simp only [stopB,decide_eq_true_eq,e] at h1
  simpa using h1
 exact loop_ret_of (S := fun k => (allL (itW w k)).st) k (by kernel_rfl) (fun j hj => by
  have hk := h0 j hj
  simp only [stopB,decide_eq_false_iff_not,not_or,Decidable.not_not] at hk
  exact allRound _ (itW_ok hw j fun i hi => h0 i (by omega)).1 hk.1 (by simpa using hk.2)) (allStop _ (itW_ok hw k h0).1 e m)
theorem allLoopE (k : Nat) (hb : (List.range (bndW w)).find? (stopB w) = some k) (e : ¬ (stepF (itW w k)).2.2 = 0) : CSpec Tryz.prog (blkF Tryz.f149 0) (Tg.st ⟨tm 21 [(1,.pt 8001 0 0),(2,.pt 8002 0 0),(3,int 0)],[(8002,.box 100 [int 0,int 0,.d (.sl 0 []),.d (.sl 0 []),int 0,int 0,.d (.sl 0 []),.d (.sl 0 []),.d (.sl 0 []),int 0,int 0,int 0,int 0,int 0,int 0,int 0]),(8001,.box 100 w.cells)],60⟩) .ret (Tg.st ⟨tm 21 [(2,.pt 8002 0 0),(3,int (stepF (itW w k)).2.2)],[(8002,.box 100 [int 0,int 0,.d (.sl 0 []),.d (.sl 0 []),int 0,int 0,.d (.sl 0 []),.d (.sl 0 []),.d (.sl 0 []),int 0,int 0,int 0,int 0,int 0,int 0,int 0])],60⟩) := by
 obtain ⟨h1,h2,h3⟩ := List.find?_range_eq_some.1 hb
 have h0 : ∀ j,j < k → stopB w j = false := fun j hj => by simpa using h3 j hj
 exact loop_ret_of (S := fun k => (allL (itW w k)).st) k (by kernel_rfl) (fun j hj => by
  have hk := h0 j hj
  simp only [stopB,decide_eq_false_iff_not,not_or,Decidable.not_not] at hk
  exact allRound _ (itW_ok hw j fun i hi => h0 i (by omega)).1 hk.1 (by simpa using hk.2)) (allErr _ (itW_ok hw k h0).1 e)
theorem ref11All : GSpec Tryz.prog 149 [w.av] false (.tu [(allF w).1.av,int (allF w).2]) [] := by
 obtain ⟨k,hb⟩ := allF_some hw
 by_cases e : (stepF (itW w k)).2.2 = 0
 ·have e7 : allF w = ((stepF (itW w k)).1,0) := by rw [allF,hb]; simp only [if_pos e]
  rw [e7]
  exact gF [] Tryz.func149 [] (Fu (@allLoop w ‹_› k ‹_› ‹_›) Fz)
 ·have e7 : allF w = (noWork,(stepF (itW w k)).2.2) := by rw [allF,hb]; simp only [if_neg e]
  rw [e7]
  exact gF [] Tryz.func149 [] (Fu (@allLoopE w ‹_› k ‹_› ‹_›) (Fnl (Fnl (Fnl (Fnl (Fnl Fz))))))
omit hw in
theorem allF_ok (hw : WkOk w) (e : (allF w).2 = 0) : WkOk (allF w).1 := by
 obtain ⟨k,hb⟩ := allF_some hw
 obtain ⟨h1,h2,h3⟩ := List.find?_range_eq_some.1 hb
 have h0 : ∀ j,j < k → stopB w j = false := fun j hj => by simpa using h3 j hj
 unfold allF at e ⊢
 rw [hb] at e ⊢
 simp only at e ⊢
 split at e
 ·rename_i c
  rw [if_pos c]
  exact (stepF_ok (itW_ok hw k h0).1 c).1
 ·rename_i c
  exact absurd e c
end
def hlA (ws : List Int) (a : Int) : Int := (decodeH (loadA ws a).1).1.length
theorem hlA_range (ws : List Int) (a : Int) : 0 ≤ hlA ws a ∧ hlA ws a ≤ 255 := by
 have := validH_iff.1 (decodeH_valid (loadA ws a).1)
 exact ⟨this.2.2.1,this.2.2.2.1⟩
theorem load_write_out {ws l : List Int} {a b : Int} (h : 4096 ≤ a ∧ a - 4096 + l.length ≤ ws.length) (hb : b < a ∨ a + l.length ≤ b) : loadA (writeA ws a l).1 b = loadA ws b := by
 unfold writeA
 rw [if_pos h]
 have hl : (spl ws (a - 4096).toNat l).length = ws.length := spl_len (by omega)
 unfold loadA
 simp only [hl]
 split
 ·have := wr_get (ws := ws) (l := l) (i := (a - 4096).toNat) (k := l.length) (by omega) (Nat.le_refl _) (b - 4096).toNat
  rw [wr_all] at this
  rw [List.getD_eq_getElem?_getD,List.getD_eq_getElem?_getD,this]
  by_cases h1 : (b - 4096).toNat < (a - 4096).toNat
  ·rw [if_pos h1]
  ·rw [if_neg h1,if_neg (by omega)]
 ·rfl
theorem load_write_in {ws l : List Int} {a b : Int} (h : 4096 ≤ a ∧ a - 4096 + l.length ≤ ws.length) (hb : a ≤ b ∧ b < a + l.length) : loadA (writeA ws a l).1 b = (l.getD (b - a).toNat 0,0) := by
 unfold writeA
 rw [if_pos h]
 have hl : (spl ws (a - 4096).toNat l).length = ws.length := spl_len (by omega)
 unfold loadA
 simp only [hl]
 rw [if_pos (by omega)]
 have := wr_get (ws := ws) (l := l) (i := (a - 4096).toNat) (k := l.length) (by omega) (Nat.le_refl _) (b - 4096).toNat
 rw [wr_all] at this
 rw [List.getD_eq_getElem?_getD,List.getD_eq_getElem?_getD,this,if_neg (by omega),if_pos (by omega),show (b - 4096).toNat - (a - 4096).toNat = (b - a).toNat by omega]
theorem store_len_in {ws : List Int} {a v : Int} (h : 4096 ≤ a ∧ a < 4096 + ws.length) : (storeA ws a v).1.length = ws.length := by
 unfold storeA writeA
 rw [if_pos (by simp; omega)]
 exact spl_len (by simp; omega)
theorem load_store_ne {ws : List Int} {a b v : Int} (h : 4096 ≤ a ∧ a < 4096 + ws.length) (hb : b ≠ a) : loadA (storeA ws a v).1 b = loadA ws b :=
 load_write_out (by simp; omega) (by simp; omega)
theorem load_store_eq {ws : List Int} {a v : Int} (h : 4096 ≤ a ∧ a < 4096 + ws.length) : loadA (storeA ws a v).1 a = (v,0) := by
 have := load_write_in (ws := ws) (l := [v]) (a := a) (b := a) (by simp; omega) (by simp; omega)
 rw [storeA,this]
 simp
theorem move_in {ws : List Int} {a b n : Int} (hn : 1 ≤ n) (ha : 4096 ≤ a ∧ a - 4096 + n ≤ ws.length) (hb : 4096 ≤ b ∧ b - 4096 + n ≤ ws.length) :
  (moveA ws a b n).1.length = ws.length ∧ loadA (moveA ws a b n).1 a = ((loadA ws b).1,0) ∧ ∀ x,x < a ∨ a + n ≤ x → loadA (moveA ws a b n).1 x = loadA ws x := by
 have e1 : readA ws b n = ((ws.drop (b - 4096).toNat).take n.toNat,0) := by rw [readA,if_neg (by omega),if_pos hb]
 have e2 : moveA ws a b n = writeA ws a ((ws.drop (b - 4096).toNat).take n.toNat) := by rw [moveA,e1]; simp
 have hl : ((ws.drop (b - 4096).toNat).take n.toNat).length = n.toNat := by simp; omega
 rw [e2]
 refine ⟨?_, ?_, ?_⟩
 ·unfold writeA
  rw [if_pos (by omega)]
  exact spl_len (by omega)
 ·rw [load_write_in (by omega) (by omega)]
  congr 1
  unfold loadA
  rw [if_pos (by omega)]
  simp only [List.getD_eq_getElem?_getD,Int.sub_self,Int.toNat_zero]
  rw [List.getElem?_take_of_lt (by omega),List.getElem?_drop]
  simp
 ·intro x hx
  exact load_write_out (by omega) (by omega)
theorem decode_fwd (a : Int) : (decodeH (4 * a + 2)).1.length = 0 := by
 unfold decodeH
 rw [if_neg]
 ·rfl
 ·rintro ⟨h1,h2⟩
  unfold encodeH at h1 h2
  split at h2
  ·simp only [hdrOf] at h2; omega
  ·simp only at h2; omega
def occP (p : Page) : Int := if p.kind = 0 then 0 else p.used
structure Inv (w : Work) : Prop where
 L : (w.heap.words.length : Int) = w.heap.conf.pw * w.heap.conf.pg
 r : ∀ a ∈ w.old ++ w.queue,4096 ≤ a ∧ a + hlA w.heap.words a < 4096 + w.heap.words.length
 s : ∀ a ∈ w.old ++ w.queue,∀ b ∈ w.old ++ w.queue,a < b → a + hlA w.heap.words a < b
 f : ∀ i : Nat,i < w.heap.pages.length → (w.heap.pages.getD i default).kind = 0 ∨ (i : Int) ∈ w.taken → ∀ a ∈ w.old ++ w.queue,a + hlA w.heap.words a < 4096 + i * w.heap.conf.pw + occP (w.heap.pages.getD i default) ∨ 4096 + i * w.heap.conf.pw + w.heap.conf.pw ≤ a
 z : ∀ x ∈ w.old,(w.heap.pages.getD (ofA w.heap.conf x).1.toNat default).kind = 2 ∨ hlA w.heap.words x + 1 ≤ w.heap.conf.pw
theorem Inv.withWords {w : Work} (h : Inv w) {l : List Int} (hl : l.length = w.heap.words.length) (hh : ∀ a ∈ w.old ++ w.queue,hlA l a ≤ hlA w.heap.words a) : Inv ⟨⟨w.heap.conf,l,w.heap.pages,w.heap.space,w.heap.bump⟩,w.old,w.taken,w.queue,w.scanned,w.rep⟩ := by
 refine ⟨?_, ?_, ?_, ?_, ?_⟩
 ·simp only [hl]; exact h.L
 ·intro a ha
  have h1 := h.r a ha
  have h2 := hh a ha
  simp only [hl]
  omega
 ·intro a ha b hb hab
  have h1 := h.s a ha b hb hab
  have h2 := hh a ha
  simp only
  omega
 ·intro i hi hc a ha
  have h1 := h.f i hi hc a ha
  have h2 := hh a ha
  simp only at *
  omega
 ·intro x hx
  have h1 := h.z x hx
  have h2 := hh x (List.mem_append_left _ hx)
  simp only at *
  omega
theorem Inv.keep {w : Work} (h : Inv w) {r : Int} (hr : r ∈ w.old) : Inv (w.keep r) := by
 have hm : ∀ a,a ∈ w.old ++ (w.queue ++ [r]) → a ∈ w.old ++ w.queue := by
  intro a ha
  simp only [List.mem_append,List.mem_singleton] at ha ⊢
  rcases ha with ha | ha | rfl
  ·exact Or.inl ha
  ·exact Or.inr ha
  ·exact Or.inl hr
 exact ⟨h.L,fun a ha => h.r a (hm a ha),fun a ha b hb => h.s a (hm a ha) b (hm b hb),fun i hi hc a ha => h.f i hi hc a (hm a ha),h.z⟩
theorem Inv.flip {w : Work} (h : Inv w) (i : Nat) : Inv (w.flip i) := by
 have hk : ∀ j,((flipP w.heap.pages i (tailsN w.heap.pages i) (1 - w.heap.space)).getD j default).kind = (w.heap.pages.getD j default).kind ∧ ((flipP w.heap.pages i (tailsN w.heap.pages i) (1 - w.heap.space)).getD j default).used = (w.heap.pages.getD j default).used := by
  intro j
  by_cases hj : j < w.heap.pages.length
  ·rw [flipP_get hj]
   split
   ·exact ⟨rfl,rfl⟩
   ·exact ⟨rfl,rfl⟩
  ·rw [List.getD_eq_getElem?_getD,List.getD_eq_getElem?_getD,List.getElem?_eq_none (by rw [flipP_len]; omega),List.getElem?_eq_none (by omega)]
   exact ⟨rfl,rfl⟩
 refine ⟨h.L,h.r,h.s, ?_, ?_⟩
 ·intro j hj hc a ha
  simp only [Work.flip,flipP_len,occP,hk] at hj hc ha ⊢
  exact h.f j hj hc a ha
 ·intro x hx
  simp only [Work.flip,hk]
  exact h.z x hx
theorem place_more {w : Work} {n : Int} (hw : WkOk w) (hn : 1 ≤ n ∧ n ≤ w.heap.conf.pw) (h : (w.place n).2.2 = true) :
  ∃ (i : Nat) (p : Page) (t : List Int),i < w.heap.pages.length ∧ ((w.heap.pages.getD i default).kind = 0 ∨ ((i : Int) ∈ w.taken ∧ (w.heap.pages.getD i default).kind = 1)) ∧ p.kind = 1 ∧ p.used = occP (w.heap.pages.getD i default) + n ∧ occP (w.heap.pages.getD i default) + n ≤ w.heap.conf.pw ∧ 0 ≤ occP (w.heap.pages.getD i default) ∧ (∀ x ∈ t,x ∈ w.taken ∨ x = (i : Int)) ∧ (w.place n).2.1 = 4096 + i * w.heap.conf.pw + occP (w.heap.pages.getD i default) ∧
  (w.place n).1 = ⟨⟨w.heap.conf,w.heap.words,w.heap.pages.set i p,w.heap.space,w.heap.bump⟩,w.old,t,w.queue,w.scanned,w.rep⟩ := by
 have hb := validB_iff.1 hw.conf
 have hpl := hw.pl
 by_cases hf : fitsW w n
 ·have e : w.place n = (⟨⟨w.heap.conf,w.heap.words,growP w.heap.pages (lastT w).toNat n,w.heap.space,w.heap.bump⟩,w.old,w.taken,w.queue,w.scanned,w.rep⟩,4096 + lastT w * w.heap.conf.pw + (w.heap.pages.getD (lastT w).toNat default).used,true) := by rw [Work.place,if_pos hf]
  unfold fitsW at hf
  have hm := hw.tk _ (lastT_mem hf.1)
  have hu := hw.us (lastT w).toNat (by omega)
  have hk := hm.2.2
  have hup : occP (w.heap.pages.getD (lastT w).toNat default) = (w.heap.pages.getD (lastT w).toNat default).used := by rw [occP,if_neg (by omega)]
  have hc : (((lastT w).toNat : Nat) : Int) = lastT w := by omega
  refine ⟨(lastT w).toNat,⟨(w.heap.pages.getD (lastT w).toNat default).kind,(w.heap.pages.getD (lastT w).toNat default).space,(w.heap.pages.getD (lastT w).toNat default).used + n,(w.heap.pages.getD (lastT w).toNat default).pins⟩,w.taken,by omega,Or.inr ⟨by rw [hc]; exact lastT_mem hf.1,hk⟩,hk,by rw [hup],by rw [hup]; omega,by rw [hup]; omega,fun x hx => Or.inl hx, ?_, ?_⟩
  ·rw [e,hup,hc]
  ·rw [e]; rfl
 ·by_cases hg : 0 ≤ firstW w
  ·have e : w.place n = (⟨⟨w.heap.conf,w.heap.words,growP (freshW w) (firstW w).toNat n,w.heap.space,w.heap.bump⟩,w.old,w.taken ++ [firstW w],w.queue,w.scanned,w.rep⟩,4096 + firstW w * w.heap.conf.pw,true) := by rw [Work.place,if_neg hf,if_pos hg]
   obtain ⟨f1,f2,f3,f4⟩ := freshP_ok (h := ⟨w.heap.conf,w.heap.words,w.heap.pages,1 - w.heap.space,w.heap.bump⟩) (by have := hw.sp; simp only; omega) hg
   obtain ⟨g1,g2,g3⟩ := first_free hg
   simp only at f1 f2 f3 f4
   have hi : (firstW w).toNat < w.heap.pages.length := by unfold firstW; omega
   have hk : (w.heap.pages.getD (firstW w).toNat default).kind = 0 := by
    have := freeK_iff.1 g3 0 (by decide)
    simpa [firstW] using this
   have hup : occP (w.heap.pages.getD (firstW w).toNat default) = 0 := by rw [occP,if_pos hk]
   have hc : (((firstW w).toNat : Nat) : Int) = firstW w := by omega
   have hq : growP (freshW w) (firstW w).toNat n = w.heap.pages.set (firstW w).toNat ⟨1,1 - w.heap.space,n,0⟩ := by
    unfold growP
    have e4 : (freshW w).getD (firstW w).toNat default = ⟨1,1 - w.heap.space,0,0⟩ := f4
    rw [e4]
    have e1 : freshW w = w.heap.pages.set (firstW w).toNat ⟨1,1 - w.heap.space,0,0⟩ := by
     have : freshW w = tookP w.heap.pages (firstW w).toNat 1 ⟨1,1 - w.heap.space,0,0⟩ ⟨0,0,0,0⟩ := f1
     rw [this,tookP_one hi]
    rw [e1,List.set_set]
    simp
   refine ⟨(firstW w).toNat,⟨1,1 - w.heap.space,n,0⟩,w.taken ++ [firstW w],hi,Or.inl hk,rfl,by rw [hup]; simp,by rw [hup]; omega,by rw [hup]; decide, ?_, ?_, ?_⟩
   ·intro x hx
    simp only [List.mem_append,List.mem_singleton] at hx
    rcases hx with hx | rfl
    ·exact Or.inl hx
    ·exact Or.inr hc.symm
   ·rw [e,hup,hc]; simp
   ·rw [e,hq]
  ·rw [Work.place,if_neg hf,if_neg hg] at h
   simp at h
theorem mul_step {i j pw : Int} (h : i < j) (hp : 0 ≤ pw) : i * pw + pw ≤ j * pw := by
 have := Int.mul_le_mul_of_nonneg_right (show i + 1 ≤ j by omega) hp
 rw [Int.add_mul,Int.one_mul] at this
 exact this
theorem Inv.copy {w : Work} (hw : WkOk w) (h : Inv w) {r n : Int} (hr : r ∈ w.old) (hn : n = hlA w.heap.words r + 1) (hp : n ≤ w.heap.conf.pw) (hc : (w.place n).2.2 = true) : Inv ((w.place n).1.copy r (w.place n).2.1 n) := by
 have hlr := hlA_range w.heap.words r
 obtain ⟨i,p,t,h1,h2,h3,h4,h5,h6,h7,h8,e⟩ := place_more hw ⟨by omega,hp⟩ hc
 have hb := validB_iff.1 hw.conf
 have hpl := hw.pl
 have hL := h.L
 have hio : (i : Int) * w.heap.conf.pw + w.heap.conf.pw ≤ w.heap.conf.pw * w.heap.conf.pg := by
  have := mul_step (i := i) (j := w.heap.conf.pg) (pw := w.heap.conf.pw) (by omega) (by omega)
  rw [Int.mul_comm w.heap.conf.pw]; exact this
 have hi0 : 0 ≤ (i : Int) * w.heap.conf.pw := Int.mul_nonneg (by omega) (by omega)
 rw [e,h8]
 generalize hu : occP (w.heap.pages.getD i default) = u at *
 generalize ha : 4096 + (i : Int) * w.heap.conf.pw + u = at'
 have hrr := h.r r (List.mem_append_left _ hr)
 have hf := h.f i h1 (by rcases h2 with h2 | h2; exact Or.inl h2; exact Or.inr h2.1)
 rw [hu] at hf
 obtain ⟨m1,m2,m3⟩ := move_in (ws := w.heap.words) (a := at') (b := r) (n := n) (by omega) (by omega) (by omega)
 have hfr := hf r (List.mem_append_left _ hr)
 have hne : r ≠ at' := by omega
 have hsr : 4096 ≤ r ∧ r < 4096 + (moveA w.heap.words at' r n).1.length := by omega
 have k1 : ∀ a ∈ w.old ++ w.queue,hlA (storeA (moveA w.heap.words at' r n).1 r (4 * at' + 2)).1 a ≤ hlA w.heap.words a := by
  intro a hA
  have hfa := hf a hA
  have hla := hlA_range w.heap.words a
  by_cases hk : a = r
  ·subst hk
   have : hlA (storeA (moveA w.heap.words at' a n).1 a (4 * at' + 2)).1 a = 0 := by
    unfold hlA
    rw [load_store_eq hsr]
    exact decode_fwd at'
   omega
  ·have : hlA (storeA (moveA w.heap.words at' r n).1 r (4 * at' + 2)).1 a = hlA w.heap.words a := by
    unfold hlA
    rw [load_store_ne hsr hk,m3 a (by omega)]
   omega
 have k2 : hlA (storeA (moveA w.heap.words at' r n).1 r (4 * at' + 2)).1 at' = n - 1 := by
  have : hlA (storeA (moveA w.heap.words at' r n).1 r (4 * at' + 2)).1 at' = hlA w.heap.words r := by
   unfold hlA
   rw [load_store_ne hsr (Ne.symm hne),m2]
  omega
 have hlen : (storeA (moveA w.heap.words at' r n).1 r (4 * at' + 2)).1.length = w.heap.words.length := by rw [store_len_in hsr,m1]
 have hmem : ∀ a,a ∈ w.old ++ (w.queue ++ [at']) → a ∈ w.old ++ w.queue ∨ a = at' := by
  intro a hA
  simp only [List.mem_append,List.mem_singleton] at hA ⊢
  rcases hA with hA | hA | hA
  ·exact Or.inl (Or.inl hA)
  ·exact Or.inl (Or.inr hA)
  ·exact Or.inr hA
 refine ⟨?_, ?_, ?_, ?_, ?_⟩
 ·simp only [Work.copy,hlen]; exact hL
 ·intro a hA
  simp only [Work.copy,hlen] at hA ⊢
  rcases hmem a hA with hA | rfl
  ·have q1 := h.r a hA
   have q2 := k1 a hA
   omega
  ·rw [k2]; omega
 ·intro a hA b hB hab
  simp only [Work.copy] at hA hB ⊢
  rcases hmem a hA with hA' | e1 <;> rcases hmem b hB with hB' | e2
  ·have q1 := h.s a hA' b hB' hab
   have q2 := k1 a hA'
   omega
  ·have q1 := hf a hA'
   have q2 := k1 a hA'
   omega
  ·have q1 := hf b hB'
   have q2 := hlA_range w.heap.words b
   rw [e1,k2]; omega
  ·omega
 ·intro j hj hcj a hA
  simp only [Work.copy,List.length_set] at hj hcj hA ⊢
  by_cases hij : i = j
  ·subst hij
   rw [getD_set h1,if_pos rfl]
   have hup : occP p = u + n := by rw [occP,if_neg (by omega),h4]
   rw [hup]
   rcases hmem a hA with hA | rfl
   ·have q1 := hf a hA
    have q2 := k1 a hA
    omega
   ·rw [k2]; omega
  ·rw [getD_set h1,if_neg hij] at hcj ⊢
   have hcj' : (w.heap.pages.getD j default).kind = 0 ∨ (j : Int) ∈ w.taken := by
    rcases hcj with hcj | hcj
    ·exact Or.inl hcj
    ·rcases h7 _ hcj with q | q
     ·exact Or.inr q
     ·omega
   rcases hmem a hA with hA | rfl
   ·have q1 := h.f j hj hcj' a hA
    have q2 := k1 a hA
    omega
   ·rw [k2]
    have hus : 0 ≤ occP (w.heap.pages.getD j default) := by
     have := hw.us j hj
     unfold occP
     split <;> omega
    by_cases hlt : i < j
    ·have := mul_step (i := i) (j := j) (pw := w.heap.conf.pw) (by omega) (by omega)
     omega
    ·have := mul_step (i := j) (j := i) (pw := w.heap.conf.pw) (by omega) (by omega)
     omega
 ·intro x hx
  simp only [Work.copy] at hx ⊢
  have q1 := h.z x hx
  have q2 := k1 x (List.mem_append_left _ hx)
  rw [getD_set h1]
  split
  ·rename_i hxi
   rw [← hxi] at q1
   rcases h2 with h2 | h2 <;> omega
  ·omega
structure Ext (w v : Work) : Prop where
 c : v.heap.conf = w.heap.conf
 o : v.old = w.old
 q : ∀ x ∈ w.queue,x ∈ v.queue
 l : ∀ x ∈ w.queue,hlA v.heap.words x = hlA w.heap.words x
theorem Ext.rfl' (w : Work) : Ext w w := ⟨rfl,rfl,fun _ h => h,fun _ _ => rfl⟩
theorem Ext.trans {u v w : Work} (h1 : Ext u v) (h2 : Ext v w) : Ext u w :=
 ⟨h2.c.trans h1.c,h2.o.trans h1.o,fun x hx => h2.q x (h1.q x hx),fun x hx => (h2.l x (h1.q x hx)).trans (h1.l x hx)⟩
theorem hdW_len (w : Work) (r : Int) : sizeH (hdW w r) = hlA w.heap.words r + 1 := by
 have hv : validH (hdW w r) = true := decodeH_valid _
 rw [sizeH,if_pos hv]
 rfl
theorem copy_ext {w : Work} (hw : WkOk w) (h : Inv w) {r n : Int} (hr : r ∈ w.old) (hq : r ∉ w.queue) (hn : n = hlA w.heap.words r + 1) (hp : n ≤ w.heap.conf.pw) (hc : (w.place n).2.2 = true) : Ext w ((w.place n).1.copy r (w.place n).2.1 n) := by
 have hlr := hlA_range w.heap.words r
 obtain ⟨i,p,t,h1,h2,h3,h4,h5,h6,h7,h8,e⟩ := place_more hw ⟨by omega,hp⟩ hc
 have hb := validB_iff.1 hw.conf
 have hpl := hw.pl
 have hL := h.L
 have hio : (i : Int) * w.heap.conf.pw + w.heap.conf.pw ≤ w.heap.conf.pw * w.heap.conf.pg := by
  have := mul_step (i := i) (j := w.heap.conf.pg) (pw := w.heap.conf.pw) (by omega) (by omega)
  rw [Int.mul_comm w.heap.conf.pw]; exact this
 have hi0 : 0 ≤ (i : Int) * w.heap.conf.pw := Int.mul_nonneg (by omega) (by omega)
 rw [e,h8]
 generalize hu : occP (w.heap.pages.getD i default) = u at *
 generalize ha : 4096 + (i : Int) * w.heap.conf.pw + u = at'
 have hrr := h.r r (List.mem_append_left _ hr)
 have hf := h.f i h1 (by rcases h2 with h2 | h2; exact Or.inl h2; exact Or.inr h2.1)
 rw [hu] at hf
 obtain ⟨m1,m2,m3⟩ := move_in (ws := w.heap.words) (a := at') (b := r) (n := n) (by omega) (by omega) (by omega)
 have hsr : 4096 ≤ r ∧ r < 4096 + (moveA w.heap.words at' r n).1.length := by omega
 refine ⟨rfl,rfl,fun x hx => List.mem_append_left _ hx, ?_⟩
 intro x hx
 have hfx := hf x (List.mem_append_right _ hx)
 have hlx := hlA_range w.heap.words x
 simp only [Work.copy]
 unfold hlA at *
 rw [load_store_ne hsr (fun q => hq (q ▸ hx)),m3 x (by omega)]
theorem fwd_inv {w : Work} (hw : WkOk w) (h : Inv w) (r : Int) (e : (w.fwd r).2.2 = 0) : Inv (w.fwd r).1 ∧ Ext w (w.fwd r).1 := by
 unfold Work.fwd at e ⊢
 split at e
 ·rename_i c1
  rw [if_pos c1]
  exact ⟨h,Ext.rfl' w⟩
 ·rename_i c1
  rw [if_neg c1]
  have c1' : r ∉ w.queue := fun h => c1 (Or.inr h)
  split at e
  ·simp at e
  ·rename_i c2
   rw [if_neg c2]
   have c2' : r ∈ w.old := Decidable.not_not.1 c2
   split at e
   ·rename_i c3
    rw [if_pos c3]
    exact ⟨h,Ext.rfl' w⟩
   ·rename_i c3
    rw [if_neg c3]
    split at e
    ·simp at e
    ·rename_i c4
     rw [if_neg c4]
     split at e
     ·rename_i c5
      rw [if_pos c5]
      exact ⟨h.keep c2',⟨rfl,rfl,fun x hx => List.mem_append_left _ hx,fun _ _ => rfl⟩⟩
     ·rename_i c5
      rw [if_neg c5]
      split at e
      ·rename_i c6
       rw [if_pos c6]
       exact ⟨(h.flip _).keep c2',⟨rfl,rfl,fun x hx => List.mem_append_left _ hx,fun _ _ => rfl⟩⟩
      ·rename_i c6
       rw [if_neg c6]
       split at e
       ·simp at e
       ·rename_i c7
        rw [if_neg c7]
        have c7' : (w.place (sizeH (hdW w r))).2.2 = true := by simpa using c7
        have hz := h.z r c2'
        have hp : sizeH (hdW w r) ≤ w.heap.conf.pw := by
         rw [hdW_len]
         rcases hz with hz | hz
         ·exact absurd hz c6
         ·exact hz
        exact ⟨h.copy hw c2' (hdW_len w r) hp c7',copy_ext hw h c2' c1' (hdW_len w r) hp c7'⟩
theorem in1_inv {w : Work} (hw : WkOk w) (h : Inv w) {q j : Int} (hq : q ∈ w.queue) (hj : 0 ≤ j ∧ j < hlA w.heap.words q) (e : (w.fwd (loadA w.heap.words (q + 1 + j)).1).2.2 = 0) : Inv (w.in1 (q + 1 + j)) ∧ Ext w (w.in1 (q + 1 + j)) := by
 obtain ⟨i1,x1⟩ := fwd_inv hw h _ e
 have hq1 := x1.q q hq
 have hl1 := x1.l q hq
 have hr := i1.r q (List.mem_append_right _ hq1)
 have hs := i1.s q (List.mem_append_right _ hq1)
 have hin : 4096 ≤ q + 1 + j ∧ q + 1 + j < 4096 + (w.fwd (loadA w.heap.words (q + 1 + j)).1).1.heap.words.length := by omega
 have hk : ∀ a ∈ (w.fwd (loadA w.heap.words (q + 1 + j)).1).1.old ++ (w.fwd (loadA w.heap.words (q + 1 + j)).1).1.queue,hlA (storeA (w.fwd (loadA w.heap.words (q + 1 + j)).1).1.heap.words (q + 1 + j) (w.fwd (loadA w.heap.words (q + 1 + j)).1).2.1).1 a = hlA (w.fwd (loadA w.heap.words (q + 1 + j)).1).1.heap.words a := by
  intro a ha
  unfold hlA
  rw [load_store_ne hin]
  intro hc
  have := hs a ha (by omega)
  omega
 refine ⟨i1.withWords (store_len_in hin) (fun a ha => Int.le_of_eq (hk a ha)),x1.trans ⟨rfl,rfl,fun _ h => h,fun x hx => hk x (List.mem_append_right _ hx)⟩⟩
theorem pointersH_lt (h : Header) : ∀ x ∈ pointersH h,0 ≤ x ∧ x < h.length := by
 unfold pointersH
 split
 ·intro x hx
  have := ptrsUp_range h _ x hx
  omega
 ·simp
theorem innN_inv {w : Work} (hw : WkOk w) (h : Inv w) {q : Int} (hq : q ∈ w.queue) {l : List Int} (hl : ∀ x ∈ l,0 ≤ x ∧ x < hlA w.heap.words q) : ∀ k,k ≤ l.length → (∀ j,j < k → innE w q l j = 0) → Inv (innN w q l k) ∧ Ext w (innN w q l k)
 | 0,_,_ => ⟨h,Ext.rfl' w⟩
 | k + 1,hk,he => by
  have ih := innN_inv hw h hq hl k (by omega) (fun j hj => he j (by omega))
  have ok := (innN_ok hw q l k (fun j hj => he j (by omega))).1
  have hx := hl _ (getD_mem_iff.2 ⟨k,by omega,rfl⟩)
  have := in1_inv ok ih.1 (ih.2.q q hq) (j := l.getD k default) ⟨hx.1,by rw [ih.2.l q hq]; exact hx.2⟩ (he k (by omega))
  exact ⟨this.1,ih.2.trans this.2⟩
theorem stepF_inv {w : Work} (hw : WkOk w) (h : Inv w) (e : (stepF w).2.2 = 0) : Inv (stepF w).1 ∧ Ext w (stepF w).1 := by
 by_cases hs : w.scanned < w.queue.length
 ·have hsc := hw.sc
  have hq : addrW w ∈ w.queue := getD_mem_iff.2 ⟨w.scanned.toNat,by omega,rfl⟩
  unfold stepF at e ⊢
  rw [if_pos hs] at e ⊢
  cases hb : (List.range (ptrsW w).length).find? (fun k => decide (innE w (addrW w) (ptrsW w) k ≠ 0)) with
  | none =>
   have h0 : ∀ j,j < (ptrsW w).length → innE w (addrW w) (ptrsW w) j = 0 := fun j hj => by
    have := List.find?_eq_none.1 hb j (List.mem_range.2 hj)
    simpa using this
   obtain ⟨k1,k2⟩ := innN_inv hw h hq (l := ptrsW w) (pointersH_lt (hdW w (addrW w))) (ptrsW w).length (Nat.le_refl _) h0
   exact ⟨⟨k1.L,k1.r,k1.s,k1.f,k1.z⟩,⟨k2.c,k2.o,k2.q,k2.l⟩⟩
  | some k =>
   simp only [hb] at e
   have := (List.find?_range_eq_some.1 hb).1
   simp [e] at this
 ·have e : stepF w = (w,false,0) := by rw [stepF,if_neg hs]
  rw [e]
  exact ⟨h,Ext.rfl' w⟩
theorem itW_inv {w : Work} (hw : WkOk w) (h : Inv w) : ∀ k,(∀ j,j < k → stopB w j = false) → Inv (itW w k) ∧ Ext w (itW w k)
 | 0,_ => ⟨h,Ext.rfl' w⟩
 | k + 1,hh => by
  have ih := itW_inv hw h k (fun j hj => hh j (by omega))
  have ok := (itW_ok hw k (fun j hj => hh j (by omega))).1
  have hk := hh k (by omega)
  simp only [stopB,decide_eq_false_iff_not,not_or,Decidable.not_not] at hk
  have := stepF_inv ok ih.1 hk.1
  exact ⟨this.1,ih.2.trans this.2⟩
theorem allF_inv {w : Work} (hw : WkOk w) (h : Inv w) (e : (allF w).2 = 0) : Inv (allF w).1 ∧ Ext w (allF w).1 := by
 obtain ⟨k,hb⟩ := allF_some hw
 obtain ⟨h1,h2,h3⟩ := List.find?_range_eq_some.1 hb
 have h0 : ∀ j,j < k → stopB w j = false := fun j hj => by simpa using h3 j hj
 unfold allF at e ⊢
 rw [hb] at e ⊢
 simp only at e ⊢
 split at e
 ·rename_i c
  rw [if_pos c]
  have i1 := itW_inv hw h k h0
  have i2 := stepF_inv (itW_ok hw k h0).1 i1.1 c
  exact ⟨i2.1,i1.2.trans i2.2⟩
 ·rename_i c
  exact absurd e c
theorem rootsN_inv {w : Work} {roots : List Int} (hw : WkOk w) (h : Inv w) : ∀ k,(∀ j,j < k → rootsE w roots j = 0) → Inv (rootsN w roots k).1 ∧ Ext w (rootsN w roots k).1
 | 0,_ => ⟨h,Ext.rfl' w⟩
 | k + 1,hh => by
  have ih := rootsN_inv hw h k (fun j hj => hh j (by omega))
  have ok := (rootsN_ok (roots := roots) hw k (fun j hj => hh j (by omega))).1
  have := fwd_inv ok ih.1 (roots.getD k default) (hh k (by omega))
  exact ⟨this.1,ih.2.trans this.2⟩
theorem rootsF_ok {w : Work} {roots : List Int} (hw : WkOk w) (h : Inv w) (e : (rootsF w roots).2.2 = 0) : WkOk (rootsF w roots).1 ∧ Inv (rootsF w roots).1 ∧ Ext w (rootsF w roots).1 ∧ (∀ x ∈ (rootsF w roots).2.1,0 ≤ x ∧ x ≤ 4294967296) ∧ (rootsF w roots).2.1.length = roots.length := by
 unfold rootsF at e ⊢
 cases hb : (List.range roots.length).find? (fun k => decide (rootsE w roots k ≠ 0)) with
 | none =>
  have h0 : ∀ j,j < roots.length → rootsE w roots j = 0 := fun j hj => by
   have := List.find?_eq_none.1 hb j (List.mem_range.2 hj)
   simpa using this
  have k1 := rootsN_ok (roots := roots) hw roots.length h0
  have k2 := rootsN_inv (roots := roots) hw h roots.length h0
  exact ⟨k1.1,k2.1,k2.2,k1.2.1,rootsN_len w roots _⟩
 | some k =>
  simp only [hb] at e
  have := (List.find?_range_eq_some.1 hb).1
  simp [e] at this
theorem tailRun_get (sp : Int) : ∀ (l : List Page) (m : Nat),m < tailRun sp l → m < l.length ∧ (l.getD m default).kind = 3 ∧ (l.getD m default).space = sp
 | [],m,h => by simp [tailRun] at h
 | p :: l,m,h => by
  unfold tailRun at h
  split at h
  ·rename_i hp
   cases m with
   | zero => exact ⟨by simp,hp⟩
   | succ m =>
    obtain ⟨h1,h2⟩ := tailRun_get sp l m (by omega)
    exact ⟨by simp; omega,by simpa using h2⟩
  ·omega
theorem need_used {c : Conf} {n : Int} (h : 1 ≤ need c n) : n ≤ need c n * c.pw := by
 unfold need at h ⊢
 split at h
 ·rename_i hc
  rw [if_pos hc]
  have hb := validB_iff.1 hc.1
  split at h
  ·omega
  ·rename_i hd
   rw [if_neg hd]
   have e := Int.mul_ediv_add_emod (n + c.pw - 1) c.pw
   have l := Int.emod_lt_of_pos (n + c.pw - 1) (b := c.pw) (by omega)
   rw [Int.mul_comm] at e
   omega
 ·omega
theorem proper_tails {h : Heap} (hp : properB h = true) {j : Nat} (hj : j < h.pages.length) (hk : (h.pages.getD j default).kind = 2) :
  1 ≤ need h.conf (h.pages.getD j default).used ∧ ∀ m : Nat,1 ≤ m → (m : Int) < need h.conf (h.pages.getD j default).used → j + m < h.pages.length ∧ (h.pages.getD (j + m) default).kind = 3 ∧ (h.pages.getD (j + m) default).space = (h.pages.getD j default).space := by
 have hi := properB_iff.1 hp
 obtain ⟨d,_,hc⟩ := rpB_all (by omega) hi.2.2.2.2.2 (by omega) j (by omega) hj
 have ht := hc.2.2.2.2.2.2.2.2.2.1 hk
 refine ⟨ht.1, ?_⟩
 intro m h1 h2
 obtain ⟨g1,g2⟩ := tailRun_get (h.pages.getD j default).space (h.pages.drop (j + 1)) (m - 1) (by omega)
 have g3 : j + m < h.pages.length := by simp at g1; omega
 refine ⟨g3, ?_⟩
 have : (h.pages.drop (j + 1)).getD (m - 1) default = h.pages.getD (j + m) default := by
  rw [List.getD_eq_getElem?_getD,List.getD_eq_getElem?_getD,List.getElem?_drop,show j + 1 + (m - 1) = j + m by omega]
 rw [this] at g2
 exact g2
theorem used_end {h : Heap} (hp : properB h = true) {j : Nat} (hj : j < h.pages.length) (hk : (h.pages.getD j default).kind = 1 ∨ (h.pages.getD j default).kind = 2) : (j : Int) * h.conf.pw + (h.pages.getD j default).used ≤ h.conf.pw * h.conf.pg := by
 have po := proper_ok hp
 have pp := proper_page hp hj
 rcases hk with hk | hk
 ·have := mul_step (i := j) (j := h.conf.pg) (pw := h.conf.pw) (by omega) (by omega)
  rw [Int.mul_comm h.conf.pg] at this
  omega
 ·obtain ⟨t1,t2⟩ := proper_tails hp hj hk
  have nu := need_used t1
  have hl : (j : Int) + need h.conf (h.pages.getD j default).used ≤ h.conf.pg := by
   by_cases h1 : need h.conf (h.pages.getD j default).used = 1
   ·omega
   ·have := (t2 (need h.conf (h.pages.getD j default).used - 1).toNat (by omega) (by omega)).1
    omega
  have := Int.mul_le_mul_of_nonneg_right hl (show 0 ≤ h.conf.pw by omega)
  rw [Int.add_mul,Int.mul_comm h.conf.pg] at this
  omega
theorem page_sep {h : Heap} (hp : properB h = true) {i j : Nat} (hij : i < j) (hj : j < h.pages.length) (hk : (h.pages.getD i default).kind = 1 ∨ (h.pages.getD i default).kind = 2) (hk' : (h.pages.getD j default).kind ≠ 3) : (i : Int) * h.conf.pw + (h.pages.getD i default).used ≤ j * h.conf.pw := by
 have po := proper_ok hp
 have pp := proper_page hp (show i < h.pages.length by omega)
 rcases hk with hk | hk
 ·have := mul_step (i := i) (j := j) (pw := h.conf.pw) (by omega) (by omega)
  omega
 ·obtain ⟨t1,t2⟩ := proper_tails hp (show i < h.pages.length by omega) hk
  have nu := need_used t1
  have hl : (i : Int) + need h.conf (h.pages.getD i default).used ≤ j := by
   by_cases h1 : (i : Int) + need h.conf (h.pages.getD i default).used ≤ j
   ·exact h1
   ·have := (t2 (j - i) (by omega) (by omega)).2
    rw [show i + (j - i) = j by omega] at this
    exact absurd this.1 hk'
  have := Int.mul_le_mul_of_nonneg_right hl (show 0 ≤ h.conf.pw by omega)
  rw [Int.add_mul] at this
  omega
theorem ofA_at {c : Conf} {i o : Int} (hv : validB c = true) (h1 : 0 ≤ i ∧ i < c.pg) (h2 : 0 ≤ o ∧ o < c.pw) : ofA c (4096 + (i * c.pw + o)) = (i,o,0) := by
 have hb := validB_iff.1 hv
 have hs := mul_step (i := i) (j := c.pg) (pw := c.pw) h1.2 (by omega)
 have h0 : 0 ≤ i * c.pw := Int.mul_nonneg h1.1 (by omega)
 rw [Int.mul_comm c.pg] at hs
 unfold ofA
 rw [if_pos hv,if_pos (by omega),show 4096 + (i * c.pw + o) - 4096 = o + i * c.pw by omega,Int.add_mul_ediv_right _ _ (by omega),Int.add_mul_emod_self_right,Int.ediv_eq_zero_of_lt h2.1 h2.2,Int.emod_eq_of_lt h2.1 h2.2]
 simp
structure OnP (h : Heap) (j : Nat) (a : Int) : Prop where
 k : (h.pages.getD j default).kind = 1 ∨ (h.pages.getD j default).kind = 2
 lo : 4096 + j * h.conf.pw ≤ a
 hi : a < 4096 + j * h.conf.pw + h.conf.pw
 of : (ofA h.conf a).1 = j
 e : a + hlA h.words a < 4096 + j * h.conf.pw + (h.pages.getD j default).used
 z : (h.pages.getD j default).kind = 2 ∨ hlA h.words a + 1 ≤ h.conf.pw
 at' : (atH h a).2 = 0
theorem walk_sep {h : Heap} {j : Nat} (hp : properB h = true) (hj : j < h.pages.length) (hk : (h.pages.getD j default).kind = 1 ∨ (h.pages.getD j default).kind = 2) : ∀ (f : Nat) (o : Int) (l : List Int),0 ≤ o → ((h.pages.getD j default).kind = 2 → o = 0) → walkP h j f o = some l →
  (∀ a ∈ l,OnP h j a ∧ 4096 + j * h.conf.pw + o ≤ a) ∧ l.Pairwise (fun a b => a + hlA h.words a < b)
 | 0,o,l,_,_,e => by simp [walkP] at e; subst e; simp
 | f + 1,o,l,h0,h2,e => by
  have po := proper_ok hp
  have pp := proper_page hp hj
  unfold walkP at e
  have hpg : pg h (j : Int) = h.pages.getD j default := by simp [pg]
  rw [hpg] at e
  split at e
  ·rename_i ho
   have hop : o < h.conf.pw := by
    rcases hk with hk | hk
    ·omega
    ·have := h2 hk; omega
   have ea : adr h j o = 4096 + (j * h.conf.pw + o) := by
    unfold adr address
    rw [if_pos po.1,if_pos (inB_iff.2 ⟨by omega,by omega,h0,hop⟩)]
   have eo := ofA_at (c := h.conf) (i := j) (o := o) po.1 (by omega) ⟨h0,hop⟩
   split at e
   ·rename_i hat
    have hat' := hat
    rw [ea] at hat'
    have hsz : sizeH (decodeH (loadA h.words (4096 + (j * h.conf.pw + o))).1).1 = hlA h.words (4096 + (j * h.conf.pw + o)) + 1 := by
     rw [sizeH,if_pos (decodeH_valid _)]; rfl
    have hle := hlA_range h.words (4096 + (j * h.conf.pw + o))
    have key : ((h.pages.getD j default).kind = 1 → o + (hlA h.words (4096 + (j * h.conf.pw + o)) + 1) ≤ (h.pages.getD j default).used) ∧ ((h.pages.getD j default).kind = 2 → hlA h.words (4096 + (j * h.conf.pw + o)) + 1 = (h.pages.getD j default).used) ∧ sizeH (atH h (4096 + (j * h.conf.pw + o))).1 = hlA h.words (4096 + (j * h.conf.pw + o)) + 1 := by
     unfold atH at hat' ⊢
     rw [if_pos hp] at hat' ⊢
     simp only [eo,hsz,if_true,Int.toNat_natCast] at hat' ⊢
     split at hat'
     ·rename_i g1
      split at hat'
      ·simp at hat'
      ·rename_i g2
       rw [if_pos g1,if_neg g2]
       refine ⟨fun hk1 => ?_,fun hk2 => ?_,hsz⟩
       ·omega
       ·omega
     ·simp at hat'
    have hon : OnP h j (adr h j o) := by
     refine ⟨hk, ?_, ?_, ?_, ?_, ?_,hat⟩
     ·rw [ea]; omega
     ·rw [ea]; omega
     ·rw [ea,eo]
     ·rw [ea]
      rcases hk with hk | hk
      ·have := key.1 hk; omega
      ·have := key.2.1 hk; have := h2 hk; omega
     ·rw [ea]
      rcases hk with hk | hk
      ·have := key.1 hk; omega
      ·exact Or.inl hk
    split at e
    ·cases e
     simp only [List.mem_singleton,List.pairwise_cons,List.not_mem_nil,List.Pairwise.nil]
     refine ⟨?_,by simp⟩
     rintro a rfl
     exact ⟨hon,by rw [ea]; omega⟩
    ·rename_i hk2
     rw [Option.map_eq_some_iff] at e
     obtain ⟨m,hm,rfl⟩ := e
     rw [ea,key.2.2] at hm
     obtain ⟨i1,i2⟩ := walk_sep hp hj hk f _ m (by omega) (fun q => absurd q hk2) hm
     constructor
     ·intro a ha
      rcases List.mem_cons.1 ha with rfl | ha
      ·exact ⟨hon,by rw [ea]; omega⟩
      ·have := i1 a ha
       exact ⟨this.1,by omega⟩
     ·rw [List.pairwise_cons]
      refine ⟨fun b hb => ?_,i2⟩
      have := (i1 b hb).2
      rw [ea]; omega
   ·cases e
  ·cases e; simp
theorem starts_sep {h : Heap} (hp : properB h = true) : ∀ (f i : Nat),i + f = h.pages.length → (startsR h f i).1.Pairwise (fun a b => a + hlA h.words a < b) ∧ ∀ a ∈ (startsR h f i).1,∃ j,i ≤ j ∧ j < h.pages.length ∧ OnP h j a
 | 0,i,_ => by simp [startsR]
 | f + 1,i,hf => by
  have ih := starts_sep hp f (i + 1) (by omega)
  have hpg : (pageW h i).1.Pairwise (fun a b => a + hlA h.words a < b) ∧ ∀ a ∈ (pageW h i).1,OnP h i a := by
   unfold pageW
   rw [if_pos hp,if_pos (by omega)]
   have hg : pg h (i : Int) = h.pages.getD i default := by simp [pg]
   rw [hg]
   split
   ·simp
   ·rename_i hk
    cases hw : walkP h i 256 0 with
    | none => simp
    | some l =>
     have pp := proper_page hp (show i < h.pages.length by omega)
     obtain ⟨w1,w2⟩ := walk_sep hp (show i < h.pages.length by omega) (by omega) 256 0 l (by omega) (fun _ => rfl) hw
     exact ⟨w2,fun a ha => (w1 a ha).1⟩
  unfold startsR
  split
  ·split
   ·simp only
    constructor
    ·rw [List.pairwise_append]
     refine ⟨hpg.1,ih.1,fun a ha b hb => ?_⟩
     have o1 := hpg.2 a ha
     obtain ⟨j,j1,j2,o2⟩ := ih.2 b hb
     have := page_sep hp (show i < j by omega) j2 o1.k (by have := o2.k; omega)
     have := o1.e
     have := o2.lo
     omega
    ·intro a ha
     rcases List.mem_append.1 ha with ha | ha
     ·exact ⟨i,by omega,by omega,hpg.2 a ha⟩
     ·obtain ⟨j,j1,j2,o2⟩ := ih.2 a ha
      exact ⟨j,by omega,j2,o2⟩
   ·simp
  ·simp
theorem objects_sep {h : Heap} (hp : properB h = true) : (∀ a ∈ (objectsW h).1,∃ j,j < h.pages.length ∧ OnP h j a) ∧ ∀ a ∈ (objectsW h).1,∀ b ∈ (objectsW h).1,a < b → a + hlA h.words a < b := by
 have hs := starts_sep hp h.pages.length 0 (by omega)
 have e : startsW h = startsR h h.pages.length 0 := by rw [startsW,if_pos hp]
 rw [← e] at hs
 have h1 : ∀ a ∈ (objectsW h).1,∃ j,j < h.pages.length ∧ OnP h j a := by
  intro a ha
  obtain ⟨j,_,j2,o⟩ := hs.2 a (List.mem_filter.1 ha).1
  exact ⟨j,j2,o⟩
 refine ⟨h1, ?_⟩
 have hpw : (objectsW h).1.Pairwise (fun a b => a + hlA h.words a < b) := List.Pairwise.filter _ hs.1
 intro a ha b hb hab
 obtain ⟨i,hi,ei⟩ := List.mem_iff_getElem.1 ha
 obtain ⟨k,hk,ek⟩ := List.mem_iff_getElem.1 hb
 have hlb := hlA_range h.words b
 rcases Nat.lt_trichotomy i k with q | q | q
 ·have := List.pairwise_iff_getElem.1 hpw i k hi hk q
  rw [ei,ek] at this
  exact this
 ·subst q; omega
 ·have := List.pairwise_iff_getElem.1 hpw k i hk hi q
  rw [ei,ek] at this
  omega
theorem begin_inv {h : Heap} (hp : properB h = true) : Inv (beginW h) := by
 have po := proper_ok hp
 have hs := objects_sep hp
 have hq : ∀ j,((h.pages.map (begQ (1 - h.space))).getD j default).kind = (h.pages.getD j default).kind ∧ ((h.pages.map (begQ (1 - h.space))).getD j default).used = (h.pages.getD j default).used := by
  intro j
  by_cases hj : j < h.pages.length
  ·have : (h.pages.map (begQ (1 - h.space))).getD j default = begQ (1 - h.space) (h.pages.getD j default) := by simp [List.getD_eq_getElem?_getD,hj]
   rw [this,begQ]
   split
   ·exact ⟨rfl,rfl⟩
   ·exact ⟨rfl,rfl⟩
  ·rw [List.getD_eq_getElem?_getD,List.getD_eq_getElem?_getD,List.getElem?_eq_none (by simp; omega),List.getElem?_eq_none (by omega)]
   exact ⟨rfl,rfl⟩
 refine ⟨po.2.2.2.2.2.1, ?_, ?_, ?_, ?_⟩
 ·intro a ha
  simp only [beginW,List.append_nil] at ha ⊢
  obtain ⟨j,j1,o⟩ := hs.1 a ha
  have h1 := o.lo
  have h2 := o.e
  have h3 := used_end hp j1 o.k
  have h4 : 0 ≤ (j : Int) * h.conf.pw := Int.mul_nonneg (by omega) (by omega)
  have h5 := po.2.2.2.2.2.1
  omega
 ·intro a ha b hb hab
  simp only [beginW,List.append_nil] at ha hb ⊢
  exact hs.2 a ha b hb hab
 ·intro i hi hc a ha
  simp only [beginW,List.append_nil,List.length_map,List.not_mem_nil,or_false] at hi hc ha ⊢
  rw [(hq i).1] at hc
  have hoc : occP ((h.pages.map (begQ (1 - h.space))).getD i default) = 0 := by rw [occP,(hq i).1,if_pos hc]
  rw [hoc]
  obtain ⟨j,j1,o⟩ := hs.1 a ha
  have hk := o.k
  have hne : i ≠ j := by rintro rfl; omega
  by_cases hlt : i < j
  ·have := mul_step (i := i) (j := j) (pw := h.conf.pw) (by omega) (by omega)
   have := o.lo
   omega
  ·have := page_sep hp (show j < i by omega) hi hk (by omega)
   have := o.e
   omega
 ·intro x hx
  simp only [beginW] at hx ⊢
  obtain ⟨j,j1,o⟩ := hs.1 x hx
  rw [o.of,Int.toNat_natCast,(hq j).1]
  exact o.z
theorem begin_ok {h : Heap} (hw : WOk h.words) (hp : properB h = true) : WkOk (beginW h) := by
 have po := proper_ok hp
 have ho := objectsW_len h
 have hr := objectsW_range h
 have hus : ∀ j,j < h.pages.length → 0 ≤ ((h.pages.map (begQ (1 - h.space))).getD j default).used ∧ ((h.pages.map (begQ (1 - h.space))).getD j default).used ≤ 1024 := by
  intro j hj
  have pp := proper_page hp hj
  have : (h.pages.map (begQ (1 - h.space))).getD j default = begQ (1 - h.space) (h.pages.getD j default) := by simp [List.getD_eq_getElem?_getD,hj]
  rw [this,begQ]
  split
  ·simp only; omega
  ·omega
 refine ⟨hw,po.2.2.2.2.2.2.1,po.1,by simp only [beginW,List.length_map]; exact po.2.2.2.2.2.2.2.1,po.2.2.2.2.2.2.2.2,by simp only [beginW]; omega,hr,by simp [beginW],by simp [beginW],by simp [beginW],by simpa only [beginW,List.length_map] using hus, ?_,by simp [beginW],by simp [beginW],by simp [beginW],by simp [beginW]⟩
 simp only [beginW,muW,List.length_nil]
 have h1 : leftN (objectsW h).1 [] ≤ (objectsW h).1.length := List.length_filter_le _ _
 have h2 : ∀ l : List Page,(∀ p ∈ l,roomP h.conf.pw p ≤ 64) → roomL h.conf.pw l ≤ 64 * l.length := by
  intro l
  induction l with
  | nil => intro _; simp [roomL]
  | cons p l ih =>
   intro hl
   have := ih fun q hq => hl q (List.mem_cons_of_mem _ hq)
   have := hl p (List.mem_cons_self)
   simp only [roomL,List.map_cons,List.sum_cons,List.length_cons] at *
   omega
 have h3 := h2 (h.pages.map (begQ (1 - h.space))) (by
  intro p hp'
  obtain ⟨j,hj,e⟩ := List.mem_iff_getElem.1 hp'
  have := hus j (by simpa using hj)
  rw [show (h.pages.map (begQ (1 - h.space))).getD j default = p by simp only [List.getD_eq_getElem?_getD,List.getElem?_eq_getElem hj,e]; rfl] at this
  unfold roomP
  split <;> omega)
 simp only [List.length_map] at h3
 omega
structure PgOk (c : Conf) (p : Page) : Prop where
 s : 0 ≤ p.space ∧ p.space ≤ 1
 n : 0 ≤ p.pins ∧ p.pins ≤ 2147483647
 k : 0 ≤ p.kind ∧ p.kind ≤ 3
 k0 : p.kind = 0 → p.space = 0 ∧ p.used = 0 ∧ p.pins = 0
 k1 : p.kind = 1 → 0 ≤ p.used ∧ p.used ≤ c.pw
 k3 : p.kind = 3 → p.used = 0 ∧ p.pins = 0
structure PT (c : Conf) (l : List Page) : Prop where
 b : ∀ i,i < l.length → PgOk c (l.getD i default)
 lg : ∀ i,i < l.length → (l.getD i default).kind = 2 → 1 ≤ need c (l.getD i default).used ∧ ∀ m : Nat,1 ≤ m → (m : Int) < need c (l.getD i default).used → i + m < l.length ∧ (l.getD (i + m) default).kind = 3 ∧ (l.getD (i + m) default).space = (l.getD i default).space
 tl : ∀ i,i < l.length → (l.getD i default).kind = 3 → ∃ j,j < i ∧ (l.getD j default).kind = 2 ∧ (i : Int) < j + need c (l.getD j default).used
def dueAt (c : Conf) (l : List Page) : Nat → Int
 | 0 => 0
 | i + 1 => rdue c l i (dueAt c l i)
theorem rpB_due {c : Conf} {l : List Page} : ∀ {f i : Nat},l.length ≤ i + f → (rpB c l f i (dueAt c l i) = true ↔ ∀ j,i ≤ j → j < l.length → rchk c l j (dueAt c l j))
 | 0,i,h => by
  simp only [rpB,true_iff]
  intro j h1 h2
  omega
 | f + 1,i,h => by
  unfold rpB
  by_cases hi : i < l.length
  ·rw [if_pos hi,Bool.and_eq_true,decide_eq_true_eq,show rdue c l i (dueAt c l i) = dueAt c l (i + 1) from rfl,rpB_due (f := f) (i := i + 1) (by omega)]
   constructor
   ·rintro ⟨h1,h2⟩ j h3 h4
    by_cases hj : j = i
    ·subst hj; exact h1
    ·exact h2 j (by omega) h4
   ·intro hh
    exact ⟨hh i (Nat.le_refl _) hi,fun j h3 h4 => hh j (by omega) h4⟩
  ·rw [if_neg hi]
   simp only [true_iff]
   intro j h1 h2
   omega
theorem dueAt_pos {c : Conf} {l : List Page} : ∀ i,0 ≤ dueAt c l i → 0 < dueAt c l i → ∃ j,j < i ∧ (l.getD j default).kind = 2 ∧ dueAt c l i = j + need c (l.getD j default).used - i
 | 0,_,h => by simp [dueAt] at h
 | i + 1,h0,h => by
  simp only [dueAt,rdue] at h0 h ⊢
  split at h
  ·rename_i hk
   refine ⟨i,by omega,hk, ?_⟩
   rw [if_pos hk]; omega
  ·rename_i hk
   have h1 : 1 < dueAt c l i := by omega
   obtain ⟨j,j1,j2,j3⟩ := dueAt_pos (c := c) (l := l) i (by omega) (by omega)
   refine ⟨j,by omega,j2, ?_⟩
   rw [if_neg hk]; omega
theorem tailRun_ge (sp : Int) : ∀ (l : List Page) (k : Nat),(∀ m,m < k → m < l.length ∧ (l.getD m default).kind = 3 ∧ (l.getD m default).space = sp) → k ≤ tailRun sp l
 | _,0,_ => Nat.zero_le _
 | [],k + 1,h => by have := (h 0 (by omega)).1; simp at this
 | p :: l,k + 1,h => by
  have h0 := (h 0 (by omega)).2
  simp only [List.getD_cons_zero] at h0
  rw [tailRun,if_pos h0]
  have := tailRun_ge sp l k fun m hm => by
   have := h (m + 1) (by omega)
   simpa using this
  omega
theorem PT.due {c : Conf} {l : List Page} (h : PT c l) {i : Nat} (hi : i < l.length) (hk : (l.getD i default).kind = 2) : ∀ m : Nat,(m : Int) < need c (l.getD i default).used → dueAt c l (i + 1 + m) = need c (l.getD i default).used - 1 - m
 | 0,hm => by
  show rdue c l i (dueAt c l i) = _
  rw [rdue,if_pos hk]; omega
 | m + 1,hm => by
  have ih := h.due hi hk m (by omega)
  have ht := ((h.lg i hi hk).2 (m + 1) (by omega) hm).2.1
  show rdue c l (i + 1 + m) (dueAt c l (i + 1 + m)) = _
  rw [rdue,show i + 1 + m = i + (m + 1) by omega,if_neg (by rw [ht]; decide),show i + (m + 1) = i + 1 + m by omega,ih]
  omega
theorem dueAt_nonneg {c : Conf} {l : List Page} (h : ∀ i,i < l.length → (l.getD i default).kind = 2 → 1 ≤ need c (l.getD i default).used) : ∀ i,i ≤ l.length → 0 ≤ dueAt c l i
 | 0,_ => Int.le_refl _
 | i + 1,hi => by
  have ih := dueAt_nonneg h i (by omega)
  simp only [dueAt,rdue]
  split
  ·rename_i hk
   have := h i (by omega) hk
   omega
  ·omega
theorem PT_iff {c : Conf} {l : List Page} : rpB c l l.length 0 0 = true ↔ PT c l := by
 have e := rpB_due (c := c) (l := l) (f := l.length) (i := 0) (by omega)
 rw [show dueAt c l 0 = 0 from rfl] at e
 rw [e]
 constructor
 ·intro h
  have hb : ∀ i,i < l.length → PgOk c (l.getD i default) := by
   intro i hi
   have q := h i (by omega) hi
   unfold rchk at q
   exact ⟨⟨q.2.1,q.2.2.1⟩,⟨q.2.2.2.1,q.2.2.2.2.1⟩,⟨q.2.2.2.2.2.1,q.2.2.2.2.2.2.1⟩,q.2.2.2.2.2.2.2.1,q.2.2.2.2.2.2.2.2.1,q.2.2.2.2.2.2.2.2.2.2⟩
  have hl : ∀ i,i < l.length → (l.getD i default).kind = 2 → 1 ≤ need c (l.getD i default).used ∧ ∀ m : Nat,1 ≤ m → (m : Int) < need c (l.getD i default).used → i + m < l.length ∧ (l.getD (i + m) default).kind = 3 ∧ (l.getD (i + m) default).space = (l.getD i default).space := by
   intro i hi hk
   have q := (h i (by omega) hi).2.2.2.2.2.2.2.2.2.1 hk
   refine ⟨q.1, ?_⟩
   intro m h1 h2
   obtain ⟨g1,g2⟩ := tailRun_get (l.getD i default).space (l.drop (i + 1)) (m - 1) (by omega)
   have g3 : i + m < l.length := by simp at g1; omega
   have : (l.drop (i + 1)).getD (m - 1) default = l.getD (i + m) default := by
    rw [List.getD_eq_getElem?_getD,List.getD_eq_getElem?_getD,List.getElem?_drop,show i + 1 + (m - 1) = i + m by omega]
   rw [this] at g2
   exact ⟨g3,g2⟩
  refine ⟨hb,hl, ?_⟩
  intro i hi hk
  have q := (h i (by omega) hi).1.1 hk
  obtain ⟨j,j1,j2,j3⟩ := dueAt_pos (c := c) (l := l) i (by omega) q
  exact ⟨j,j1,j2,by omega⟩
 ·intro h j _ hj
  have b := h.b j hj
  have hd := dueAt_nonneg (fun i hi hk => (h.lg i hi hk).1) j (by omega)
  refine ⟨⟨?_, ?_⟩,b.s.1,b.s.2,b.n.1,b.n.2,b.k.1,b.k.2,b.k0,b.k1, ?_,b.k3⟩
  ·intro hk
   obtain ⟨i,i1,i2,i3⟩ := h.tl j hj hk
   have := h.due (show i < l.length by omega) i2 (j - i - 1) (by omega)
   rw [show i + 1 + (j - i - 1) = j by omega] at this
   omega
  ·intro hp
   obtain ⟨i,i1,i2,i3⟩ := dueAt_pos j hd hp
   have := ((h.lg i (by omega) i2).2 (j - i) (by omega) (by omega)).2.1
   rw [show i + (j - i) = j by omega] at this
   exact this
  ·intro hk
   have q := h.lg j hj hk
   refine ⟨q.1, ?_⟩
   have := tailRun_ge (l.getD j default).space (l.drop (j + 1)) (need c (l.getD j default).used - 1).toNat fun m hm => by
    have r := q.2 (m + 1) (by omega) (by omega)
    have e2 : (l.drop (j + 1)).getD m default = l.getD (j + (m + 1)) default := by
     rw [List.getD_eq_getElem?_getD,List.getD_eq_getElem?_getD,List.getElem?_drop,show j + 1 + m = j + (m + 1) by omega]
    rw [e2]
    exact ⟨by simp; omega,r.2⟩
   omega
theorem proper_pt {h : Heap} : properB h = true ↔ validB h.conf = true ∧ (h.words.length : Int) = h.conf.pw * h.conf.pg ∧ (h.pages.length : Int) = h.conf.pg ∧ (h.space = 0 ∨ h.space = 1) ∧
  (h.bump = -1 ∨ (0 ≤ h.bump ∧ h.bump < h.pages.length ∧ (h.pages.getD h.bump.toNat default).kind = 1)) ∧ PT h.conf h.pages := by
 rw [properB_iff,PT_iff]
theorem PT.setPage {c : Conf} {l : List Page} (h : PT c l) {i : Nat} (hi : i < l.length) (hk : (l.getD i default).kind = 0 ∨ (l.getD i default).kind = 1) {p : Page} (hp : PgOk c p) (hpk : p.kind = 0 ∨ p.kind = 1) : PT c (l.set i p) := by
 refine ⟨?_, ?_, ?_⟩
 ·intro j hj
  rw [List.length_set] at hj
  rw [getD_set hi]
  split
  ·exact hp
  ·exact h.b j hj
 ·intro j hj hk2
  rw [List.length_set] at hj
  rw [getD_set hi] at hk2 ⊢
  by_cases hij : i = j
  ·rw [if_pos hij] at hk2; omega
  ·rw [if_neg hij] at hk2 ⊢
   have q := h.lg j hj hk2
   refine ⟨q.1,fun m h1 h2 => ?_⟩
   have r := q.2 m h1 h2
   rw [List.length_set,getD_set hi,if_neg (by rintro rfl; omega)]
   exact r
 ·intro j hj hk3
  rw [List.length_set] at hj
  rw [getD_set hi] at hk3
  by_cases hij : i = j
  ·rw [if_pos hij] at hk3; omega
  ·rw [if_neg hij] at hk3
   obtain ⟨a,a1,a2,a3⟩ := h.tl j hj hk3
   refine ⟨a,a1, ?_⟩
   rw [getD_set hi,if_neg (by rintro rfl; omega)]
   exact ⟨a2,a3⟩
theorem PT.mapPages {c : Conf} {l : List Page} (h : PT c l) (f : Page → Page) (h1 : ∀ p,PgOk c p → PgOk c (f p)) (h2 : ∀ p,PgOk c p → (f p).kind = 2 → p.kind = 2 ∧ (f p).used = p.used)
  (h3 : ∀ p,PgOk c p → (f p).kind = 3 → p.kind = 3) (h4 : ∀ p q,PgOk c p → PgOk c q → p.kind = 2 → q.kind = 3 → q.space = p.space → ((f p).kind = 2 ↔ (f q).kind = 3) ∧ ((f p).kind = 2 → (f q).space = (f p).space)) : PT c (l.map f) := by
 have hg : ∀ j,j < l.length → (l.map f).getD j default = f (l.getD j default) := by
  intro j hj
  simp [List.getD_eq_getElem?_getD,hj]
 refine ⟨?_, ?_, ?_⟩
 ·intro j hj
  rw [List.length_map] at hj
  rw [hg j hj]
  exact h1 _ (h.b j hj)
 ·intro j hj hk
  rw [List.length_map] at hj
  rw [hg j hj] at hk ⊢
  have q := h2 _ (h.b j hj) hk
  have r := h.lg j hj q.1
  rw [q.2]
  refine ⟨r.1,fun m m1 m2 => ?_⟩
  have s := r.2 m m1 m2
  have t := h4 _ _ (h.b j hj) (h.b (j + m) s.1) q.1 s.2.1 s.2.2
  rw [List.length_map,hg _ s.1]
  exact ⟨s.1,t.1.1 hk,t.2 hk⟩
 ·intro j hj hk
  rw [List.length_map] at hj
  rw [hg j hj] at hk
  have q := h3 _ (h.b j hj) hk
  obtain ⟨a,a1,a2,a3⟩ := h.tl j hj q
  have ha : a < l.length := by omega
  have s := (h.lg a ha a2).2 (j - a) (by omega) (by omega)
  rw [show a + (j - a) = j by omega] at s
  have t := h4 _ _ (h.b a ha) (h.b j hj) a2 s.2.1 s.2.2
  have hk2 := t.1.2 hk
  refine ⟨a,a1, ?_⟩
  rw [hg a ha]
  exact ⟨hk2,by rw [(h2 _ (h.b a ha) hk2).2]; exact a3⟩
theorem tookP_get {l : List Page} {i k : Nat} {p q : Page} (hk : 1 ≤ k) (h : i + k ≤ l.length) (j : Nat) : (tookP l i k p q).getD j default = if j = i then p else if i < j ∧ j < i + k then q else l.getD j default := by
 have hl : (wr l (List.replicate k q) i k).length = l.length := wr_len (by simpa using h) (by simp)
 unfold tookP
 rw [List.getD_eq_getElem?_getD,List.getElem?_set]
 by_cases hj : j = i
 ·subst hj
  rw [if_pos rfl,if_pos rfl,if_pos (by omega)]
  rfl
 ·rw [if_neg (fun e => hj e.symm),if_neg hj,wr_get (by simpa using h) (by simp)]
  by_cases h1 : j < i
  ·rw [if_pos h1,if_neg (by omega),List.getD_eq_getElem?_getD]
  ·rw [if_neg h1]
   by_cases h2 : j < i + k
   ·rw [if_pos h2,if_pos (by omega)]
    simp [show j - i < k by omega]
   ·rw [if_neg h2,if_neg (by omega),List.getD_eq_getElem?_getD]
theorem PT.took {c : Conf} {l : List Page} (h : PT c l) {i k : Nat} {n sp : Int} (hk : 1 ≤ k) (hik : i + k ≤ l.length) (hf : ∀ j,j < k → (l.getD (i + j) default).kind = 0) (hn : need c n = k) (hs : sp = 0 ∨ sp = 1) : PT c (tookP l i k ⟨2,sp,n,0⟩ ⟨3,sp,0,0⟩) := by
 have hg := tookP_get (p := ⟨2,sp,n,0⟩) (q := ⟨3,sp,0,0⟩) hk hik
 have hl : (tookP l i k ⟨2,sp,n,0⟩ ⟨3,sp,0,0⟩).length = l.length := tookP_len hik
 have hf' : ∀ j,i ≤ j → j < i + k → (l.getD j default).kind = 0 := fun j h1 h2 => by
  have := hf (j - i) (by omega)
  rwa [show i + (j - i) = j by omega] at this
 refine ⟨?_, ?_, ?_⟩
 ·intro j hj
  rw [hl] at hj
  rw [hg]
  split
  ·exact ⟨by simp only; omega,by simp,by simp,by simp,by simp,by simp⟩
  ·split
   ·exact ⟨by simp only; omega,by simp,by simp,by simp,by simp,by simp⟩
   ·exact h.b j hj
 ·intro j hj hk2
  rw [hl] at hj ⊢
  simp only [hg] at hk2 ⊢
  by_cases hji : j = i
  ·subst hji
   simp only [if_pos] at hk2 ⊢
   rw [hn]
   refine ⟨by omega,fun m h1 h2 => ⟨by omega, ?_⟩⟩
   rw [if_neg (by omega),if_pos (by omega)]
   exact ⟨rfl,rfl⟩
  ·rw [if_neg hji] at hk2 ⊢
   by_cases hr : i < j ∧ j < i + k
   ·rw [if_pos hr] at hk2; simp at hk2
   ·rw [if_neg hr] at hk2 ⊢
    have q := h.lg j hj hk2
    refine ⟨q.1,fun m h1 h2 => ?_⟩
    have r := q.2 m h1 h2
    have hne : ¬ (i ≤ j + m ∧ j + m < i + k) := fun hc => by
     have := hf' (j + m) hc.1 hc.2
     omega
    rw [if_neg (by omega),if_neg (by omega)]
    exact r
 ·intro j hj hk3
  rw [hl] at hj
  simp only [hg] at hk3 ⊢
  by_cases hji : j = i
  ·rw [if_pos hji] at hk3; simp at hk3
  ·rw [if_neg hji] at hk3
   by_cases hr : i < j ∧ j < i + k
   ·refine ⟨i,hr.1, ?_⟩
    simp only [if_pos]
    refine ⟨trivial, ?_⟩
    rw [hn]; omega
   ·rw [if_neg hr] at hk3
    obtain ⟨a,a1,a2,a3⟩ := h.tl j hj hk3
    have hne : ¬ (i ≤ a ∧ a < i + k) := fun hc => by
     have := hf' a hc.1 hc.2
     omega
    refine ⟨a,a1, ?_⟩
    rw [if_neg (by omega),if_neg (by omega)]
    exact ⟨a2,a3⟩
theorem growP_eq {l : List Page} {i : Nat} {n : Int} : growP l i n = l.set i ⟨(l.getD i default).kind,(l.getD i default).space,(l.getD i default).used + n,(l.getD i default).pins⟩ := rfl
theorem fresh_grow {h : Heap} (hs : h.space = 0 ∨ h.space = 1) (hf : 0 ≤ first h.pages 1) (n : Int) : growP (freshP h) (first h.pages 1).toNat n = h.pages.set (first h.pages 1).toNat ⟨1,h.space,n,0⟩ ∧ (h.pages.getD (first h.pages 1).toNat default).kind = 0 ∧ (first h.pages 1).toNat < h.pages.length := by
 obtain ⟨f1,f2,f3,f4⟩ := freshP_ok hs hf
 obtain ⟨g1,g2,g3⟩ := first_free hf
 have hi : (first h.pages 1).toNat < h.pages.length := by omega
 refine ⟨?_, ?_,hi⟩
 ·rw [growP_eq,f4,f1,tookP_one hi,List.set_set]
  simp
 ·have := freeK_iff.1 g3 0 (by decide)
  simpa using this
structure PutOk (h : Heap) (n : Int) (h' : Heap) (a : Int) : Prop where
 pr : properB h' = true
 c : h'.conf = h.conf
 w : h'.words = h.words
 l : h'.pages.length = h.pages.length
 sp : h'.space = h.space
 pin : ∀ p ∈ h'.pages,p.pins = 0 ∨ ∃ q ∈ h.pages,p.pins = q.pins
 lo : 4096 ≤ a
 hi : a + n ≤ 4096 + h.words.length
theorem getD_in {l : List Page} {i : Nat} (h : i < l.length) : l.getD i default ∈ l := by
 rw [List.getD_eq_getElem?_getD,List.getElem?_eq_getElem h]
 exact List.getElem_mem h
theorem small7_put {h : Heap} {n : Int} (hp : properB h = true) (hn : 1 ≤ n ∧ n ≤ h.conf.pw) (e : (small7 h n).2.2 = true) : PutOk h n (small7 h n).1 (small7 h n).2.1 := by
 have hp' := hp
 rw [proper_pt] at hp
 obtain ⟨p1,p2,p3,p4,p5,p6⟩ := hp
 have hb := validB_iff.1 p1
 by_cases hf : fitsB h n
 ·have e7 : small7 h n = (⟨h.conf,h.words,growP h.pages h.bump.toNat n,h.space,h.bump⟩,4096 + h.bump * h.conf.pw + (h.pages.getD h.bump.toNat default).used,true) := by rw [small7,if_pos hf]
  unfold fitsB at hf
  have hbi : h.bump.toNat < h.pages.length := by omega
  have hk : (h.pages.getD h.bump.toNat default).kind = 1 := by omega
  have ok := p6.b h.bump.toNat hbi
  have u := ok.k1 hk
  have ha := at_page p1 (i := h.bump) (by omega) (by omega)
  have hio := mul_step (i := h.bump) (j := h.conf.pg) (pw := h.conf.pw) (by omega) (by omega)
  rw [Int.mul_comm h.conf.pg] at hio
  rw [e7]
  refine ⟨?_,rfl,rfl,by simp [growP],rfl, ?_,by simp only; omega,by simp only; omega⟩
  ·rw [proper_pt]
   refine ⟨p1,p2,by simp [growP,p3],p4, ?_, ?_⟩
   ·refine Or.inr ⟨hf.1,by simp [growP]; omega, ?_⟩
    show ((growP h.pages h.bump.toNat n).getD h.bump.toNat default).kind = 1
    rw [growP_eq,getD_set hbi,if_pos rfl]
    exact hk
   ·exact p6.setPage hbi (Or.inr hk) ⟨ok.s,ok.n,ok.k,fun q => by simp only at q; omega,fun _ => by simp only; omega,fun q => by simp only at q; omega⟩ (Or.inr hk)
  ·intro p hp
   rcases List.mem_or_eq_of_mem_set hp with hp | rfl
   ·exact Or.inr ⟨p,hp,rfl⟩
   ·exact Or.inr ⟨_,getD_in hbi,rfl⟩
 ·by_cases hg : 0 ≤ first h.pages 1 ∧ (inUse h.pages : Int) < limit h.conf
  ·have e7 : small7 h n = (⟨h.conf,h.words,growP (freshP h) (first h.pages 1).toNat n,h.space,first h.pages 1⟩,4096 + first h.pages 1 * h.conf.pw + ((freshP h).getD (first h.pages 1).toNat default).used,true) := by rw [small7,if_neg hf,if_pos hg]
   obtain ⟨g1,g2,g3⟩ := fresh_grow p4 hg.1 n
   have g4 := congrArg Page.used (freshP_ok p4 hg.1).2.2.2
   simp only at g4
   have ha := at_page p1 (i := first h.pages 1) (by omega) (by omega)
   have hio := mul_step (i := first h.pages 1) (j := h.conf.pg) (pw := h.conf.pw) (by omega) (by omega)
   rw [Int.mul_comm h.conf.pg] at hio
   rw [e7,g1,g4]
   refine ⟨?_,rfl,rfl,by simp,rfl, ?_,by simp only; omega,by simp only; omega⟩
   ·rw [proper_pt]
    refine ⟨p1,p2,by simp [p3],p4, ?_, ?_⟩
    ·refine Or.inr ⟨hg.1,by simp only [List.length_set]; omega, ?_⟩
     simp only
     rw [getD_set g3,if_pos rfl]
    ·exact p6.setPage g3 (Or.inl g2) ⟨by simp only; omega,by simp,by simp,by simp,fun _ => by simp only; omega,by simp⟩ (Or.inr rfl)
   ·intro p hp
    rcases List.mem_or_eq_of_mem_set hp with hp | rfl
    ·exact Or.inr ⟨p,hp,rfl⟩
    ·exact Or.inl rfl
  ·rw [small7,if_neg hf,if_neg hg] at e
   simp at e
theorem large7_put {h : Heap} {n : Int} (hp : properB h = true) (hk : 1 ≤ need h.conf n) (e : (large7 h n (need h.conf n)).2.2 = true) : PutOk h n (large7 h n (need h.conf n)).1 (large7 h n (need h.conf n)).2.1 := by
 have hp' := hp
 rw [proper_pt] at hp
 obtain ⟨p1,p2,p3,p4,p5,p6⟩ := hp
 have hb := validB_iff.1 p1
 by_cases hg : 0 ≤ first h.pages (need h.conf n) ∧ inUse h.pages + need h.conf n ≤ limit h.conf
 ·obtain ⟨g1,g2,g3⟩ := first_free hg.1
  have el : (largeP h.conf h.pages (first h.pages (need h.conf n)) h.space n).1 = tookP h.pages (first h.pages (need h.conf n)).toNat (need h.conf n).toNat ⟨2,h.space,n,0⟩ ⟨3,h.space,0,0⟩ := by
   rw [largeP,if_pos ⟨hk,by omega⟩,takeP,if_pos (by omega),if_pos g3]
  have e7 : large7 h n (need h.conf n) = (⟨h.conf,h.words,tookP h.pages (first h.pages (need h.conf n)).toNat (need h.conf n).toNat ⟨2,h.space,n,0⟩ ⟨3,h.space,0,0⟩,h.space,h.bump⟩,4096 + first h.pages (need h.conf n) * h.conf.pw,true) := by rw [large7,if_pos hg,el]
  have hf : ∀ j,j < (need h.conf n).toNat → (h.pages.getD ((first h.pages (need h.conf n)).toNat + j) default).kind = 0 := freeK_iff.1 g3
  have hlen : (tookP h.pages (first h.pages (need h.conf n)).toNat (need h.conf n).toNat ⟨2,h.space,n,0⟩ ⟨3,h.space,0,0⟩).length = h.pages.length := tookP_len (by omega)
  have hu := need_used hk
  have h0 : 0 ≤ first h.pages (need h.conf n) * h.conf.pw := Int.mul_nonneg hg.1 (by omega)
  have hio := Int.mul_le_mul_of_nonneg_right (show first h.pages (need h.conf n) + need h.conf n ≤ h.conf.pg by omega) (show 0 ≤ h.conf.pw by omega)
  rw [Int.add_mul,Int.mul_comm h.conf.pg] at hio
  rw [e7]
  refine ⟨?_,rfl,rfl,hlen,rfl, ?_,by simp only; omega,by simp only; omega⟩
  ·rw [proper_pt]
   refine ⟨p1,p2,by simp only [hlen]; exact p3,p4, ?_, ?_⟩
   ·simp only [hlen]
    rcases p5 with p5 | p5
    ·exact Or.inl p5
    ·refine Or.inr ⟨p5.1,p5.2.1, ?_⟩
     have hne : ¬ ((first h.pages (need h.conf n)).toNat ≤ h.bump.toNat ∧ h.bump.toNat < (first h.pages (need h.conf n)).toNat + (need h.conf n).toNat) := fun hc => by
      have := hf (h.bump.toNat - (first h.pages (need h.conf n)).toNat) (by omega)
      rw [show (first h.pages (need h.conf n)).toNat + (h.bump.toNat - (first h.pages (need h.conf n)).toNat) = h.bump.toNat by omega] at this
      omega
     rw [tookP_get (by omega) (by omega),if_neg (by omega),if_neg (by omega)]
     exact p5.2.2
   ·exact p6.took (by omega) (by omega) hf (by omega) p4
  ·intro p hp
   rcases List.mem_or_eq_of_mem_set hp with hp | rfl
   ·simp only [wr,List.mem_append] at hp
    rcases hp with (hp | hp) | hp
    ·exact Or.inr ⟨p,List.mem_of_mem_take hp,rfl⟩
    ·have := List.eq_of_mem_replicate (List.mem_of_mem_take hp)
     subst this
     exact Or.inl rfl
    ·exact Or.inr ⟨p,List.mem_of_mem_drop hp,rfl⟩
   ·exact Or.inl rfl
 ·rw [large7,if_neg hg] at e
  simp at e
theorem objW_ok {hd : Header} (hv : validH hd = true) (hm : 0 ≤ hd.map ∧ hd.map ≤ 4294967295) : WOk (objW hd) ∧ ((objW hd).length : Int) = sizeH hd := by
 have hb := validH_bounds hv hm.1 hm.2
 constructor
 ·intro x hx
  simp only [objW,List.mem_cons,List.mem_replicate,encodeH,if_pos hv] at hx
  rcases hx with rfl | ⟨_,rfl⟩ <;> omega
 ·rw [sizeH,if_pos hv]
  simp [objW]; omega
theorem new7_ok {h : Heap} {hd : Header} (hw : WOk h.words) (hm : 0 ≤ hd.map ∧ hd.map ≤ 4294967295) (e : (new7 h hd).2.2 = 0) :
  properB h = true ∧ asksH h.conf hd = true ∧ PutOk h (sizeH hd) (put7 h hd).1 (put7 h hd).2.1 ∧ (put7 h hd).2.2 = true ∧ (new7 h hd).2.1 = (put7 h hd).2.1 ∧ (new7 h hd).1 = { (put7 h hd).1 with words := (writeA h.words (put7 h hd).2.1 (objW hd)).1 } ∧ properB (new7 h hd).1 = true ∧ WOk (new7 h hd).1.words := by
 unfold new7 at e
 split at e
 ·rename_i c1
  split at e
  ·rename_i c2
   obtain ⟨a1,a2,a3,a4,a5⟩ := asksH_ok c1.2
   have po := proper_ok c1.1
   have hput : PutOk h (sizeH hd) (put7 h hd).1 (put7 h hd).2.1 := by
    by_cases hn : 0 < need h.conf (sizeH hd)
    ·have e7 : put7 h hd = large7 h (sizeH hd) (need h.conf (sizeH hd)) := by rw [put7,if_pos hn]
     rw [e7] at c2 ⊢
     exact large7_put c1.1 (by omega) c2
    ·have e7 : put7 h hd = small7 h (sizeH hd) := by rw [put7,if_neg hn]
     rw [e7] at c2 ⊢
     refine small7_put c1.1 ⟨a2, ?_⟩ c2
     unfold need at hn a4
     split at a4
     ·rename_i hc
      rw [if_pos hc] at hn
      split at a4
      ·omega
      ·rename_i hd'
       rw [if_neg hd'] at hn
       have e := Int.mul_ediv_add_emod (sizeH hd + h.conf.pw - 1) h.conf.pw
       have hz : (sizeH hd + h.conf.pw - 1) / h.conf.pw = 0 := by omega
       rw [hz] at e
       have := Int.emod_lt_of_pos (sizeH hd + h.conf.pw - 1) (b := h.conf.pw) (by omega)
       omega
     ·omega
   have ho := objW_ok a1 hm
   have hin : 4096 ≤ (put7 h hd).2.1 ∧ (put7 h hd).2.1 - 4096 + (objW hd).length ≤ h.words.length := ⟨hput.lo,by have := hput.hi; omega⟩
   have e2 : writeA h.words (put7 h hd).2.1 (objW hd) = (spl h.words ((put7 h hd).2.1 - 4096).toNat (objW hd),0) := by rw [writeA,if_pos hin]
   have hlen : (spl h.words ((put7 h hd).2.1 - 4096).toNat (objW hd)).length = h.words.length := spl_len (by omega)
   have e3 : (initH (put7 h hd).1 (put7 h hd).2.1 hd).1 = { (put7 h hd).1 with words := (writeA h.words (put7 h hd).2.1 (objW hd)).1 } := by
    rw [initH,if_pos ⟨hput.pr,a1⟩,hput.w,e2]
    simp
   have e4 : new7 h hd = ((initH (put7 h hd).1 (put7 h hd).2.1 hd).1,(put7 h hd).2.1,0) := by rw [new7,if_pos c1,if_pos c2]
   refine ⟨c1.1,c1.2,hput,c2,by rw [e4],by rw [e4]; exact e3, ?_, ?_⟩
   ·rw [e4]
    simp only
    rw [e3,e2]
    have q := hput.pr
    rw [proper_pt] at q ⊢
    refine ⟨q.1, ?_,q.2.2.1,q.2.2.2.1,q.2.2.2.2.1,q.2.2.2.2.2⟩
    simp only [hlen]
    have := q.2.1
    rw [hput.w] at this
    exact this
   ·rw [e4]
    simp only
    rw [e3]
    exact wok_write hw ho.1 _
  ·simp at e
 ·simp at e
theorem atH_in {h : Heap} {a : Int} (e : (atH h a).2 = 0) : 4096 ≤ a ∧ a + (atH h a).1.length < 4096 + h.words.length := by
 have k := atH_ok e
 have po := proper_ok k.1
 have o := ofA_ok po.1 k.2.1
 have hj : (ofA h.conf a).1.toNat < h.pages.length := by omega
 have hk : (((ofA h.conf a).1.toNat : Nat) : Int) = (ofA h.conf a).1 := by omega
 have h2 := e
 unfold atH at h2 ⊢
 rw [if_pos k.1,if_pos k.2.1] at h2 ⊢
 split at h2
 ·rename_i g1
  split at h2
  ·simp at h2
  ·rename_i g2
   rw [if_pos g1,if_neg g2]
   have hv : validH (decodeH (loadA h.words a).1).1 = true := decodeH_valid _
   have hs : sizeH (decodeH (loadA h.words a).1).1 = (decodeH (loadA h.words a).1).1.length + 1 := by rw [sizeH,if_pos hv]
   have hvb := (validH_iff.1 hv).2.2.1
   have ue := used_end k.1 hj g1.1
   rw [hk] at ue
   have h0 : 0 ≤ (ofA h.conf a).1 * h.conf.pw := Int.mul_nonneg o.1 (by omega)
   have hio := mul_step (i := (ofA h.conf a).1) (j := h.conf.pg) (pw := h.conf.pw) o.2.1 (by omega)
   rw [Int.mul_comm h.conf.pg] at hio
   have hL := po.2.2.2.2.2.1
   refine ⟨by omega, ?_⟩
   simp only
   rcases g1.1 with g | g <;> omega
 ·simp at h2
theorem setField_ok {h : Heap} {a i v : Int} (hw : WOk h.words) (hv : 0 ≤ v ∧ v ≤ 18446744073709551615) (e : (getH h a).2 = 0) (hi : 0 ≤ i ∧ i < (getH h a).1.length) : setFieldH h a i v = ({ h with words := (storeA h.words (a + 1 + i) v).1 },0) ∧ properB (setFieldH h a i v).1 = true ∧ WOk (setFieldH h a i v).1.words := by
 have g := getH_ok e
 have k := atH_in g.2.1
 rw [← g.1] at k
 have hin : 4096 ≤ a + 1 + i ∧ a + 1 + i < 4096 + h.words.length := by omega
 have hf : (fieldH h a i).2 = 0 := by
  unfold fieldH
  rw [if_pos e,if_pos hi]
  unfold loadA
  rw [if_pos hin]
 have e1 : setFieldH h a i v = ({ h with words := (storeA h.words (a + 1 + i) v).1 },0) := by rw [setFieldH,if_pos hf]
 refine ⟨e1, ?_, ?_⟩
 ·rw [e1]
  have q := g.2.2.1
  rw [proper_pt] at q ⊢
  refine ⟨q.1, ?_,q.2.2.1,q.2.2.2.1,q.2.2.2.2.1,q.2.2.2.2.2⟩
  simp only [store_len_in hin]
  exact q.2.1
 ·rw [e1]
  exact wok_store hw hv _
theorem spl_took {l : List Page} {i k : Nat} {p q : Page} (hk : 1 ≤ k) (h : i + k ≤ l.length) : spl l i (p :: List.replicate (k - 1) q) = tookP l i k p q := by
 obtain ⟨m,rfl⟩ : ∃ m,k = m + 1 := ⟨k - 1,by omega⟩
 have hl : (List.take i l).length = i := by simp; omega
 rw [tookP,wr,spl,List.take_of_length_le (l := List.replicate (m + 1) q) (by simp),List.append_assoc,List.append_assoc,List.set_append,if_neg (by omega),hl,Nat.sub_self]
 simp [List.replicate_succ]
theorem inUseN_zero {l : List Page} : ∀ {i : Nat},(∀ j,j < i → (l.getD j default).kind = 0) → inUseN l i = 0
 | 0,_ => rfl
 | i + 1,h => by
  have hp : pageAt l i = l.getD i default := by rw [pageAt_getD]; simp
  rw [inUseN,inUseN_zero (fun j hj => h j (by omega)),hp,if_pos (h i (by omega))]
theorem inUse_free {l : List Page} {i k : Nat} (h : i + k ≤ l.length) (hf : freeK l i k = true) : inUse ((l.drop i).take k) = 0 := by
 refine inUseN_zero fun j hj => ?_
 simp only [List.length_take,List.length_drop] at hj
 have := freeK_iff.1 hf j (by omega)
 rw [List.getD_eq_getElem?_getD] at this ⊢
 rwa [List.getElem?_take,if_pos (by omega),List.getElem?_drop]
theorem clonePagesN (l : List Page) (hl : l.length ≤ 1048576) (hne : l ≠ []) : GSpec Tryz.prog 90 [pagesV l] true (.ow 0) [.arr 134 4 (l.map Page.dv)] := by
 exact gF [24007] Tryz.func90 [] (Fa (by exact map_ne hne : List.map Page.dv l ≠ []) (Fs 5 (List.map Page.dv []) (Fa (by (simp [*]; omega) : (List.map Page.dv []).length + (List.map Page.dv l).length≤2 ^ 30) (Fs 7 (List.map Page.dv l) (Fa (by exact flat_pages _ : FlatEls (List.map Page.dv l)) Fz)))))
theorem pageMade (ps l : List Page) (i : Int) (hl : ps.length ≤ 1048576) (hll : l.length ≤ 1048576) (hi : 0 ≤ i) (h1 : i + l.length ≤ ps.length) (hf : freeK ps i.toNat l.length = true) (hn : 0 < ps.length) : GSpec Tryz.prog 89 [pagesV ps,int i,pagesV l] true (.tu [.ow 0,int 0]) [.arr 134 4 ((spl ps i.toNat l).map Page.dv)] := by
 have hne : ps ≠ [] := ne_of_len hn
 have e1 : inUse (List.take ((i + l.length).toNat - i.toNat) (List.drop i.toNat ps)) = 0 := by
  rw [show (i + l.length).toNat - i.toNat = l.length from by omega]
  exact inUse_free (by omega) hf
 have hs : spliceE (List.map Page.dv ps) i.toNat (List.map Page.dv l) = List.map Page.dv (spl ps i.toNat l) := by simp [spliceE,spl]
 exact gF [33030] Tryz.func89 [] (Fh 26 [.els (List.map Page.dv (List.take ((i + (↑l.length : Int)).toNat - i.toNat) (List.drop i.toNat ps)))] (Fh 35 [.els (List.map Page.dv (List.take i.toNat ps ++ l ++ List.drop (i.toNat + l.length) ps))] (FlG 14 (!decide (i < 0)) Page.dv ps (FlG 16 (!decide (i < 0)) Page.dv l (FiG 17 (!decide (i < 0)) ((↑ps.length : Int) - (↑l.length : Int)) (Ffb 19 (decide (i < 0)||decide ((↑ps.length : Int) - (↑l.length : Int) < i)) (Fl 24 Page.dv l (Fi 25 (i + (↑l.length : Int)) (Fa (by (simp only [List.length_map]; omega) : 0≤i∧i≤i + (↑l.length : Int)∧i + (↑l.length : Int)≤(↑(List.map Page.dv ps).length : Int)) (Fa (by simp [e1,spl,List.map_take,List.map_drop,List.map_set,List.map_append,wdv,idv] : List.take ((i + (↑l.length : Int)).toNat - i.toNat) (List.drop i.toNat (List.map Page.dv ps)) =List.map Page.dv (List.take ((i + (↑l.length : Int)).toNat - i.toNat) (List.drop i.toNat ps))) (Fc 27 (@pageInUse (List.take ((i + (↑l.length : Int)).toNat - i.toNat) (List.drop i.toNat ps)) (by (simp [e1,spl, *]; omega))) (Ffb 28 (decide (0 < (↑(inUse (List.take ((i + (↑l.length : Int)).toNat - i.toNat) (List.drop i.toNat ps))) : Int))) (Fc 30 (@clonePagesN ps ‹_› ‹_›) (Fa (by (simp only [List.length_map]; omega) : 0≤i∧i≤(↑(List.map Page.dv ps).length : Int)) (Fa (by (simp only [List.length_map]; omega) : (List.map Page.dv l).length≤(↑(List.map Page.dv ps).length : Int).toNat - i.toNat) (Fa (by exact hs : spliceE (List.map Page.dv ps) i.toNat (List.map Page.dv l) =List.map Page.dv (List.take i.toNat ps ++ l ++ List.drop (i.toNat + l.length) ps)) (Fa (by exact flat_pages _ : FlatEls (List.map Page.dv (List.take i.toNat ps ++ l ++ List.drop (i.toNat + l.length) ps))) Fz)))))))))))))))))
theorem took1 {l : List Page} {i : Nat} {p q : Page} (h : i + 1 ≤ l.length) : spl l i [p] = tookP l i 1 p q := by
 have := spl_took (l := l) (i := i) (k := 1) (p := p) (q := q) (Nat.le_refl _) h
 simpa using this
theorem pageSmallN (l : List Page) (i sp : Int) (hl : l.length ≤ 1048576) (hs : 0 ≤ sp ∧ sp ≤ 1) (hi : 0 ≤ i ∧ i + 1 ≤ l.length) (hf : freeK l i.toNat 1 = true) : GSpec Tryz.prog 237 [pagesV l,int i,int sp] true (.tu [.ow 0,int 0]) [.arr 134 4 ((tookP l i.toNat 1 ⟨1,sp,0,0⟩ ⟨0,0,0,0⟩).map Page.dv)] := by
 have e := took1 (l := l) (i := i.toNat) (p := ⟨1,sp,0,0⟩) (q := ⟨0,0,0,0⟩) (by omega)
 rw [← e]
 have e2 : freeK l i.toNat ([⟨1,sp,0,0⟩] : List Page).length = true := hf
 have e3 : spacedB ⟨1,sp,0,0⟩ = true := by simp [spacedB]; omega
 exact gF [33018] Tryz.func237 [] (Fc 12 (@entrySpaced (Page.mk 1 sp 0 0)) (Ffb 13 (!spacedB (Page.mk 1 sp 0 0)) (Fs 17 (List.map Page.dv [Page.mk 1 sp 0 0]) (Fc 18 (@pageMade l ([Page.mk 1 sp 0 0]) i ‹_› (by simp [*]) (by omega) (by simp [*]) ‹_› (by omega)) (Fa (by exact flat_pages _ : FlatEls (List.map Page.dv (spl l i.toNat [Page.mk 1 sp 0 0]))) Fz)))))
def lrgL (l : List Page) (i sp n k : Int) (j : Nat) : Tg := ⟨tm 45 [(1,pagesV l),(2,int i),(3,int sp),(10,.d (.sl 0 [])),(11,int 0),(13,int k),(14,.ow 40029)],[(40029,.arr 134 4 (((⟨2,sp,n,0⟩ : Page) :: List.replicate j ⟨3,sp,0,0⟩).map Page.dv))],60⟩
theorem lrgRound (l : List Page) (i sp n k : Int) (j : Nat) (hj : (j : Int) + 1 < k) (hk : k ≤ 1000) : CSpec Tryz.prog (rndF Tryz.f20 0) (lrgL l i sp n k j).st .nrm (lrgL l i sp n k (j + 1)).st := by
 have e : ((⟨2,sp,n,0⟩ : Page) :: List.replicate (j + 1) ⟨3,sp,0,0⟩) = (⟨2,sp,n,0⟩ :: List.replicate j ⟨3,sp,0,0⟩) ++ [⟨3,sp,0,0⟩] := by rw [List.replicate_succ',List.cons_append]
 exact sF [(488038,40029)] [false,false,false,false,false,false,false,true] (Fh 38 [.els (List.map Page.dv (Page.mk 2 sp n 0 :: List.replicate j (Page.mk 3 sp 0 0) ++ [Page.mk 3 sp 0 0]))] (Fg 31 (by simp only [List.length_map,List.length_append,List.length_take,List.length_drop,List.length_set,List.length_replicate,List.length_nil,List.length_cons] : (↑(List.map Page.dv (Page.mk 2 sp n 0 :: List.replicate j (Page.mk 3 sp 0 0))).length : Int) =(↑(j + 1) : Int)) (Ftb 33 (decide ((↑(j + 1) : Int) < k)) (Fs 37 (List.map Page.dv [Page.mk 3 sp 0 0]) (Fa (by (simp [*]; omega) : (List.map Page.dv (Page.mk 2 sp n 0 :: List.replicate j (Page.mk 3 sp 0 0))).length + (List.map Page.dv [Page.mk 3 sp 0 0]).length≤2 ^ 30) (Fa (by simp [List.map_take,List.map_drop,List.map_set,List.map_append,wdv,idv] : List.map Page.dv (Page.mk 2 sp n 0 :: List.replicate j (Page.mk 3 sp 0 0)) ++ List.map Page.dv [Page.mk 3 sp 0 0] =List.map Page.dv (Page.mk 2 sp n 0 :: List.replicate j (Page.mk 3 sp 0 0) ++ [Page.mk 3 sp 0 0])) (Fr (134 : Int) (Fa (by refine congrArg _ ?_; rw [e] : List.map Page.dv (Page.mk 2 sp n 0 :: List.replicate j (Page.mk 3 sp 0 0) ++ [Page.mk 3 sp 0 0]) =List.map Page.dv (Page.mk 2 sp n 0 :: List.replicate (j + 1) (Page.mk 3 sp 0 0))) Fz))))))))
theorem lrgEnd (l : List Page) (i sp n k : Int) (h1 : 1 ≤ k) : CSpec Tryz.prog (rndF Tryz.f20 0) (lrgL l i sp n k (k.toNat - 1)).st (.ext 0) (Tg.st ⟨tm 45 [(1,pagesV l),(2,int i),(10,.d (.sl 0 [])),(11,int 0),(14,.ow 40029)],[(40029,.arr 134 4 (((⟨2,sp,n,0⟩ : Page) :: List.replicate (k.toNat - 1) ⟨3,sp,0,0⟩).map Page.dv))],60⟩) := by
 exact sF [] [] (Fg 31 (by simp only [List.length_map,List.length_append,List.length_take,List.length_drop,List.length_set,List.length_replicate,List.length_nil,List.length_cons] : (↑(List.map Page.dv (Page.mk 2 sp n 0 :: List.replicate (k.toNat - 1) (Page.mk 3 sp 0 0))).length : Int) =(↑(k.toNat - 1 + 1) : Int)) (Ffb 33 (decide ((↑(k.toNat - 1 + 1) : Int) < k)) Fz))
theorem lrgLoop (l : List Page) (i sp n k : Int) (h1 : 1 ≤ k) (hk : k ≤ 1000) : CSpec Tryz.prog (blkF Tryz.f20 0) (Tg.st ⟨tm 45 [(1,pagesV l),(2,int i),(3,int sp),(10,.d (.sl 0 [])),(11,int 0),(13,int k),(14,.ow 40029)],[(40029,.arr 134 4 ([(⟨2,sp,n,0⟩ : Page)].map Page.dv))],60⟩) .nrm (Tg.st ⟨tm 45 [(1,pagesV l),(2,int i),(10,.d (.sl 0 [])),(11,int 0),(14,.ow 40029)],[(40029,.arr 134 4 (((⟨2,sp,n,0⟩ : Page) :: List.replicate (k.toNat - 1) ⟨3,sp,0,0⟩).map Page.dv))],60⟩) :=
 loop_ext_of (S := fun j => (lrgL l i sp n k j).st) (k.toNat - 1) (by kernel_rfl) (fun j hj => lrgRound l i sp n k j (by omega) hk) (lrgEnd l i sp n k h1)
theorem pageLargeN (c : Conf) (l : List Page) (i sp n : Int) (hl : l.length ≤ 1048576) (hs : 0 ≤ sp ∧ sp ≤ 1) (hn : 1 ≤ need c n) (hi : 0 ≤ i ∧ i + need c n ≤ l.length) (hf : freeK l i.toNat (need c n).toNat = true) : GSpec Tryz.prog 20 [c.av,pagesV l,int i,int sp,int n] true (.tu [.ow 0,int 0]) [.arr 134 4 ((tookP l i.toNat (need c n).toNat ⟨2,sp,n,0⟩ ⟨3,sp,0,0⟩).map Page.dv)] := by
 have e := spl_took (l := l) (i := i.toNat) (k := (need c n).toNat) (p := ⟨2,sp,n,0⟩) (q := ⟨3,sp,0,0⟩) (by omega) (by omega)
 rw [← e]
 have hr := need_range c n
 have e3 : spacedB ⟨2,sp,n,0⟩ = true := by simp [spacedB]; omega
 exact gF [481042] Tryz.func20 [] (Fc 20 (@pageNeed c n) (FcG 25 (!decide (need c n < 1)) (fun hg => by (try simp only [bs] at hg); exact @entrySpaced (Page.mk 2 sp n 0)) (Ff 27 (by simp [*] : (decide (need c n < 1)||!spacedB (Page.mk 2 sp n 0))=false) (Fs 29 (List.map Page.dv [Page.mk 2 sp n 0]) (Fu (@lrgLoop l i sp n (need c n) ‹_› (by omega)) (Fc 42 (@pageMade l (Page.mk 2 sp n 0 :: List.replicate ((need c n).toNat - 1) (Page.mk 3 sp 0 0)) i ‹_› (by (simp [*]; omega)) (by omega) (by (simp [*]; omega)) (by grind []) (by omega)) (Fa (by exact flat_pages _ : FlatEls (List.map Page.dv (spl l i.toNat (Page.mk 2 sp n 0 :: List.replicate ((need c n).toNat - 1) (Page.mk 3 sp 0 0))))) Fz)))))))
def afterF (w : Work) (r : Int) : Int := if r ∈ w.queue then r else (targetA (loadA w.heap.words r).1).1
theorem ref12after (w : Work) (r : Int) (hw : WOk w.heap.words) (hl : w.heap.words.length ≤ 4096) (hq : w.queue.length ≤ 1048576) (h0 : 0 ≤ r ∧ r ≤ 18446744073709551615) : GSpec Tryz.prog 150 [w.av,u64 r] true (u64 (afterF w r)) [] := by
 have h1 := loadA_range hw r
 rcases bb (decide (r ∈ w.queue)) with hc0 | hc0<;>have hc0p:=hc0<;>simp only [bs] at hc0p
 ·exact gF [] Tryz.func150 [true] (Fh 12 [.call true (Sx.bool (decide (r ∈ w.queue))) [],.br true] (Fa (@ref6Has w.queue r ‹_›) (Fa hc0 (Fa (by simp [afterF, *] : r =afterF w r) Fz))))
 ·exact gF [] Tryz.func150 [true] (Fh 12 [.call true (Sx.bool (decide (r ∈ w.queue))) [],.br false] (Fa (@ref6Has w.queue r ‹_›) (Fa hc0 (Fc 19 (@ref2Load w.heap.words r (by omega) ‹_›) (Fc 24 (@ref3Target ((loadA w.heap.words r).fst) (by omega) (by omega)) (Fa (by simp [afterF, *] : (targetA (loadA w.heap.words r).fst).fst =afterF w r) Fz))))))
theorem ref10GetW (w : Work) (a : Int) (hw : WOk w.heap.words) (h1 : w.heap.words.length ≤ 4096) (h0 : 0 ≤ a ∧ a ≤ 18446744073709551615) : GSpec Tryz.prog 209 [w.av,u64 a] true (hdW w a).av [] := by
 have h2 := loadA_range hw a
 exact gF [] Tryz.func209 [] (Fc 14 (@ref2Load w.heap.words a (by omega) ‹_›) (Fc 19 (@ref3Decode ((loadA w.heap.words a).fst) (by omega) (by omega)) Fz))
def fill1 (w : Work) (x : Int) : Work := if promB w (ofA w.heap.conf x).1 = true ∧ x ∉ w.queue then ⟨⟨w.heap.conf,(writeA w.heap.words x (objW ⟨0,(hdW w x).length,0⟩)).1,w.heap.pages,w.heap.space,w.heap.bump⟩,w.old,w.taken,w.queue,w.scanned,⟨w.rep.copied,w.rep.kept,w.rep.filled + 1,w.rep.freed,w.rep.cleared,w.rep.steps⟩⟩ else w
def fillN (w : Work) : Nat → Work
 | 0 => w
 | k + 1 => fill1 (fillN w k) (w.old.getD k default)
def fillL (w : Work) (i : Nat) : Tg := ⟨tm 84 [(1,.pt 8001 0 0),(2,.pt 8002 0 0),(3,int i)],[(8002,.box 100 [int 0,int 0,.d (.sl 0 []),.d (.sl 0 []),int 0,int 0,.d (.sl 0 []),.d (.sl 0 []),.d (.sl 0 []),int 0,int 0,int 0,int 0,int 0,int 0,int 0]),(8001,.box 100 w.cells)],60⟩
structure FOk (w : Work) : Prop where
 words : WOk w.heap.words
 wl : w.heap.words.length ≤ 4096
 pl : w.heap.pages.length ≤ 64
 ol : w.old.length ≤ 524288
 o : ∀ x ∈ w.old,0 ≤ x ∧ x ≤ 8192
 tl : w.taken.length ≤ 1000000
 ql : w.queue.length ≤ 1000000
theorem WkOk.fok {w : Work} (h : WkOk w) : FOk w := by
 have h1 := h.mu
 have h2 := h.tl
 have h3 := h.pl
 have h4 := validB_iff.1 h.conf
 exact ⟨h.words,h.wl,by omega,h.ol,h.o,by omega,by omega⟩
theorem fill_obj {n : Int} (h : 0 ≤ n ∧ n ≤ 255) : encodeH ⟨0,n,0⟩ = (1 + 16 * n,0) := by
 have hv : validH ⟨0,n,0⟩ = true := validH_iff.2 ⟨by simp,by simp,h.1,h.2,by simp⟩
 rw [encodeH,if_pos hv]
 simp
section
variable (w : Work) (i : Nat) (hw : FOk w) (hi : i < w.old.length) (hr : 0 ≤ w.rep.filled ∧ w.rep.filled ≤ 1000000)
include hw hi hr
theorem fillRound : CSpec Tryz.prog (rndF Tryz.f152 0) (fillL w i).st .nrm (fillL (fill1 w (w.old.getD i default)) (i + 1)).st := by
 have h1 := hw.words
 have h2 := hw.wl
 have h3 := hw.pl
 have h4 := hw.ol
 have h5 := hw.tl
 have h6 := hw.ql
 have hx := hw.o _ (getD_mem_iff.2 ⟨i,hi,rfl⟩)
 have hm := decodeH_map (loadA w.heap.words (w.old.getD i default)).1 (loadA_range h1 _).1
 have hh : 0 ≤ (hdW w (w.old.getD i default)).length ∧ (hdW w (w.old.getD i default)).length ≤ 255 := hlA_range w.heap.words (w.old.getD i default)
 have he := fill_obj hh
 by_cases c1 : promB w (ofA w.heap.conf (w.old.getD i default)).1 = true
 ·by_cases c2 : w.old.getD i default ∈ w.queue
  ·have e7 : fill1 w (w.old.getD i default) = w := by rw [fill1,if_neg (by rintro ⟨_,q⟩; exact q c2)]
   rw [e7]
   exact sF [] [] (Fl 13 wdv w.old (Ftb 14 (decide ((↑i : Int) < (↑w.old.length : Int))) (Fek 24 wdv w.old (↑i) i (Fc 26 (@refOf w.heap.conf (w.old.getD i default) (by omega) (by omega)) (Fc 32 (@ref10Promoted w ((ofA w.heap.conf (w.old.getD i default)).fst) (by omega) (by omega)) (FeG 40 (!!promB w (ofA w.heap.conf (w.old.getD i default)).fst) wdv w.old (↑i) i (FcG 42 (!!promB w (ofA w.heap.conf (w.old.getD i default)).fst) (fun hg => by (try simp only [bs] at hg); exact @ref6Has w.queue (w.old.getD i default) (by (try simp only [bs] at hg); omega)) (Ft 43 (by simp only [bs, *,true_or,or_true,true_and,and_true,not_true_eq_false,not_false_eq_true,Bool.true_eq_false,Bool.false_eq_true] : (!promB w (ofA w.heap.conf (w.old.getD i default)).fst||decide (w.old.getD i default ∈ w.queue))=true) (Fx 16 i Fz)))))))))
  ·have e7 : fill1 w (w.old.getD i default) = ⟨⟨w.heap.conf,(writeA w.heap.words (w.old.getD i default) (objW ⟨0,(hdW w (w.old.getD i default)).length,0⟩)).1,w.heap.pages,w.heap.space,w.heap.bump⟩,w.old,w.taken,w.queue,w.scanned,⟨w.rep.copied,w.rep.kept,w.rep.filled + 1,w.rep.freed,w.rep.cleared,w.rep.steps⟩⟩ := by rw [fill1,if_pos ⟨c1,c2⟩]
   rw [e7]
   exact sF [] [] (Fh 71 [.els (List.map wdv ([(encodeH (Header.mk 0 (hdW w (w.old.getD i default)).length 0)).fst] ++ List.replicate (hdW w (w.old.getD i default)).length.toNat 0))] (Fl 13 wdv w.old (Ftb 14 (decide ((↑i : Int) < (↑w.old.length : Int))) (Fek 24 wdv w.old (↑i) i (Fc 26 (@refOf w.heap.conf (w.old.getD i default) (by omega) (by omega)) (Fc 32 (@ref10Promoted w ((ofA w.heap.conf (w.old.getD i default)).fst) (by omega) (by omega)) (FeG 40 (!!promB w (ofA w.heap.conf (w.old.getD i default)).fst) wdv w.old (↑i) i (FcG 42 (!!promB w (ofA w.heap.conf (w.old.getD i default)).fst) (fun hg => by (try simp only [bs] at hg); exact @ref6Has w.queue (w.old.getD i default) (by (try simp only [bs] at hg); omega)) (Ff 43 (by simp only [bs, *,true_or,or_true,true_and,and_true,not_true_eq_false,not_false_eq_true,Bool.true_eq_false,Bool.false_eq_true] : (!promB w (ofA w.heap.conf (w.old.getD i default)).fst||decide (w.old.getD i default ∈ w.queue))=false) (Fek 48 wdv w.old (↑i) i (Fc 50 (@ref10GetW w (w.old.getD i default) ‹_› ‹_› (by omega)) (Fc 55 (@ref3Encode (Header.mk 0 (hdW w (w.old.getD i default)).length 0) (by (simp only [bs]; omega))) (Fek 65 wdv w.old (↑i) i (Fs 68 (List.map wdv [(encodeH (Header.mk 0 (hdW w (w.old.getD i default)).length 0)).fst]) (Fa (by grind [objW] : 0≤(hdW w (w.old.getD i default)).length∧(↑(List.map wdv [(encodeH (Header.mk 0 (hdW w (w.old.getD i default)).length 0)).fst]).length : Int) + (hdW w (w.old.getD i default)).length≤2 ^ 30) (Fa (by simp [objW,List.map_take,List.map_drop,List.map_set,List.map_append,wdv,idv] : List.map wdv [(encodeH (Header.mk 0 (hdW w (w.old.getD i default)).length 0)).fst] ++ List.replicate (hdW w (w.old.getD i default)).length.toNat [du64 0] =List.map wdv ([(encodeH (Header.mk 0 (hdW w (w.old.getD i default)).length 0)).fst] ++ List.replicate (hdW w (w.old.getD i default)).length.toNat 0)) (Fc 72 (@ref2Write w.heap.words ([(encodeH (Header.mk 0 (hdW w (w.old.getD i default)).length 0)).fst] ++ List.replicate (hdW w (w.old.getD i default)).length.toNat 0) (w.old.getD i default) (by omega) (by omega) (by grind [objW])) (Fi 80 (w.rep.filled + 1) (Fx 16 i Fz)))))))))))))))))))
 ·have e7 : fill1 w (w.old.getD i default) = w := by rw [fill1,if_neg (by rintro ⟨q,_⟩; exact c1 q)]
  rw [e7]
  exact sF [] [] (Fl 13 wdv w.old (Ftb 14 (decide ((↑i : Int) < (↑w.old.length : Int))) (Fek 24 wdv w.old (↑i) i (Fc 26 (@refOf w.heap.conf (w.old.getD i default) (by omega) (by omega)) (Fc 32 (@ref10Promoted w ((ofA w.heap.conf (w.old.getD i default)).fst) (by omega) (by omega)) (FeG 40 (!!promB w (ofA w.heap.conf (w.old.getD i default)).fst) wdv w.old (↑i) i (FcG 42 (!!promB w (ofA w.heap.conf (w.old.getD i default)).fst) (fun hg => by (try simp only [bs] at hg); exact @ref6Has w.queue (w.old.getD i default) (by (try simp only [bs] at hg); omega)) (Ft 43 (by simp only [bs, *,true_or,or_true,true_and,and_true,not_true_eq_false,not_false_eq_true,Bool.true_eq_false,Bool.false_eq_true] : (!promB w (ofA w.heap.conf (w.old.getD i default)).fst||decide (w.old.getD i default ∈ w.queue))=true) (Fx 16 i Fz)))))))))
end
theorem fillEnd (w : Work) : CSpec Tryz.prog (rndF Tryz.f152 0) (fillL w w.old.length).st (.ext 0) (Tg.st ⟨tm 84 [(1,.pt 8001 0 0),(2,.pt 8002 0 0)],[(8002,.box 100 [int 0,int 0,.d (.sl 0 []),.d (.sl 0 []),int 0,int 0,.d (.sl 0 []),.d (.sl 0 []),.d (.sl 0 []),int 0,int 0,int 0,int 0,int 0,int 0,int 0]),(8001,.box 100 w.cells)],60⟩) := by
 exact sF [] [] (Fl 13 wdv w.old (Ffb 14 (decide ((↑w.old.length : Int) < (↑w.old.length : Int))) Fz))
theorem fill1_is (w : Work) (x : Int) : ∃ l n,fill1 w x = ⟨⟨w.heap.conf,l,w.heap.pages,w.heap.space,w.heap.bump⟩,w.old,w.taken,w.queue,w.scanned,⟨w.rep.copied,w.rep.kept,n,w.rep.freed,w.rep.cleared,w.rep.steps⟩⟩ ∧ l.length ≤ w.heap.words.length ∧ (WOk w.heap.words → WOk l) ∧ w.rep.filled ≤ n ∧ n ≤ w.rep.filled + 1 := by
 unfold fill1
 split
 ·refine ⟨_,_,rfl,write_len _ _ _,fun h => wok_write h ?_ _,by omega,by omega⟩
  intro y hy
  have hh : 0 ≤ (hdW w x).length ∧ (hdW w x).length ≤ 255 := hlA_range w.heap.words x
  simp only [objW,List.mem_cons,List.mem_replicate,fill_obj hh] at hy
  rcases hy with rfl | ⟨_,rfl⟩ <;> omega
 ·exact ⟨w.heap.words,w.rep.filled,rfl,Nat.le_refl _,fun h => h,by omega,by omega⟩
theorem fillN_is (w : Work) (hw : FOk w) : ∀ k,FOk (fillN w k) ∧ (fillN w k).heap.conf = w.heap.conf ∧ (fillN w k).heap.pages = w.heap.pages ∧ (fillN w k).heap.space = w.heap.space ∧ (fillN w k).heap.bump = w.heap.bump ∧ (fillN w k).old = w.old ∧ (fillN w k).taken = w.taken ∧ (fillN w k).queue = w.queue ∧ (fillN w k).rep.freed = w.rep.freed ∧ (fillN w k).rep.cleared = w.rep.cleared ∧ w.rep.filled ≤ (fillN w k).rep.filled ∧ (fillN w k).rep.filled ≤ w.rep.filled + k
 | 0 => ⟨hw,rfl,rfl,rfl,rfl,rfl,rfl,rfl,rfl,rfl,by simp [fillN],by simp [fillN]⟩
 | k + 1 => by
  obtain ⟨i0,i1,i2,i3,i4,i5,i6,i7,i8,i9,i10,i11⟩ := fillN_is w hw k
  obtain ⟨l,n,e,e1,e2,e3,e4⟩ := fill1_is (fillN w k) (w.old.getD k default)
  have : fillN w (k + 1) = _ := e
  rw [this]
  have hl := i0.wl
  exact ⟨⟨e2 i0.words,by simp only; omega,i0.pl,i0.ol,i0.o,i0.tl,i0.ql⟩,i1,i2,i3,i4,i5,i6,i7,i8,i9,by simp only; omega,by simp only; omega⟩
section
variable (w : Work) (hw : FOk w) (hr : w.rep.filled = 0)
include hw hr
theorem fillLoop : CSpec Tryz.prog (blkF Tryz.f152 0) (Tg.st ⟨tm 84 [(1,.pt 8001 0 0),(2,.pt 8002 0 0),(3,int 0)],[(8002,.box 100 [int 0,int 0,.d (.sl 0 []),.d (.sl 0 []),int 0,int 0,.d (.sl 0 []),.d (.sl 0 []),.d (.sl 0 []),int 0,int 0,int 0,int 0,int 0,int 0,int 0]),(8001,.box 100 w.cells)],60⟩) .nrm (Tg.st ⟨tm 84 [(1,.pt 8001 0 0),(2,.pt 8002 0 0)],[(8002,.box 100 [int 0,int 0,.d (.sl 0 []),.d (.sl 0 []),int 0,int 0,.d (.sl 0 []),.d (.sl 0 []),.d (.sl 0 []),int 0,int 0,int 0,int 0,int 0,int 0,int 0]),(8001,.box 100 (fillN w w.old.length).cells)],60⟩) := by
 have hol := hw.ol
 refine loop_ext_of (S := fun k => (fillL (fillN w k) k).st) w.old.length (by kernel_rfl) (fun k hk => ?_) ?_
 ·have h := fillN_is w hw k
  have := fillRound (fillN w k) k h.1 (by rw [h.2.2.2.2.2.1]; exact hk) (by omega)
  rw [h.2.2.2.2.2.1] at this
  exact this
 ·have h := fillN_is w hw w.old.length
  have := fillEnd (fillN w w.old.length)
  rw [h.2.2.2.2.2.1] at this
  exact this
theorem ref12fill : GSpec Tryz.prog 152 [w.av] false (fillN w w.old.length).av [] := by
 exact gF [] Tryz.func152 [] (Fu (@fillLoop w ‹_› ‹_›) Fz)
end
def goneB (s : Int) (p : Page) : Prop := p.kind ≠ 0 ∧ p.space = s
instance (s : Int) (p : Page) : Decidable (goneB s p) := by unfold goneB; infer_instance
def freeQ (s : Int) (p : Page) : Page := if goneB s p then ⟨0,0,0,0⟩ else p
def freeWs (pw s : Int) (l : List Page) (ws : List Int) : Nat → List Int
 | 0 => ws
 | i + 1 => if goneB s (l.getD i default) then spl (freeWs pw s l ws i) (i * pw.toNat) (List.replicate pw.toNat 0) else freeWs pw s l ws i
def freeC (n s : Int) (l : List Page) : Nat → Int
 | 0 => n
 | i + 1 => if goneB s (l.getD i default) then freeC n s l i + 1 else freeC n s l i
def freeL (w : Work) (ps : List Page) (ws : List Int) (n : Int) (i : Nat) : Tg := ⟨tm 78 [(1,.pt 8001 0 0),(2,.pt 8002 0 0),(3,int i)],[(8001,.box 100 [int w.heap.conf.pw,int w.heap.conf.pg,.ow 24017,.ow 16010,int w.heap.space,int w.heap.bump,wordsV w.old,intsV w.taken,wordsV w.queue,int w.scanned,int w.rep.copied,int w.rep.kept,int w.rep.filled,int n,int w.rep.cleared,int w.rep.steps]),(24017,.arr 56 1 (ws.map wdv)),(16010,.arr 134 4 (ps.map Page.dv)),(8002,.box 100 [int 0,int 0,.d (.sl 0 []),.d (.sl 0 []),int 0,int 0,.d (.sl 0 []),.d (.sl 0 []),.d (.sl 0 []),int 0,int 0,int 0,int 0,int 0,int 0,int 0])],60⟩
theorem freeSkip (w : Work) (ps : List Page) (ws : List Int) (n : Int) (i : Nat) (hl : ps.length ≤ 64) (hi : i < ps.length) (hb : ¬ goneB w.heap.space (ps.getD i default)) : CSpec Tryz.prog (rndF Tryz.f151 0) (freeL w ps ws n i).st .nrm (freeL w ps ws n (i + 1)).st := by
 unfold goneB at hb
 have hb' : ¬ ((ps.getD (i : Int).toNat default).kind ≠ 0 ∧ (ps.getD (i : Int).toNat default).space = w.heap.space) := hb
 exact sF [] [] (Fl 24 Page.dv ps (Ftb 25 (decide ((↑i : Int) < (↑ps.length : Int))) (Fm 33 Page.dv ps (↑i) ((↑i : Int).toNat) (Ftb 44 ((ps.getD (↑i : Int).toNat default).kind == 0||(ps.getD (↑i : Int).toNat default).space != w.heap.space) (Fx 27 i Fz)))))
def zeroL (w : Work) (ps : List Page) (ws : List Int) (n : Int) (i k : Nat) : Tg := ⟨tm 78 [(1,.pt 8001 0 0),(2,.pt 8002 0 0),(3,int i),(5,int k)],[(8001,.box 100 [int w.heap.conf.pw,int w.heap.conf.pg,.ow 24017,.ow 16010,int w.heap.space,int w.heap.bump,wordsV w.old,intsV w.taken,wordsV w.queue,int w.scanned,int w.rep.copied,int w.rep.kept,int w.rep.filled,int n,int w.rep.cleared,int w.rep.steps]),(16010,.arr 134 4 (ps.map Page.dv)),(24017,.arr 56 1 ((wr ws (List.replicate w.heap.conf.pw.toNat 0) (i * w.heap.conf.pw.toNat) k).map wdv)),(8002,.box 100 [int 0,int 0,.d (.sl 0 []),.d (.sl 0 []),int 0,int 0,.d (.sl 0 []),.d (.sl 0 []),.d (.sl 0 []),int 0,int 0,int 0,int 0,int 0,int 0,int 0])],64⟩
section
variable (w : Work) (ps : List Page) (ws : List Int) (n : Int) (i k : Nat) (hp : 0 ≤ w.heap.conf.pw ∧ w.heap.conf.pw ≤ 64) (hi : i ≤ 64) (hl : i * w.heap.conf.pw.toNat + w.heap.conf.pw.toNat ≤ ws.length) (hw : ws.length ≤ 4096)
include hp hi hl hw
theorem zeroRound (hk : k < w.heap.conf.pw.toNat) : CSpec Tryz.prog (rndF Tryz.f151 2) (zeroL w ps ws n i k).st .nrm (zeroL w ps ws n i (k + 1)).st := by
 have hs := wr_succ (ws := ws) (l := List.replicate w.heap.conf.pw.toNat 0) (i := i * w.heap.conf.pw.toNat) (k := k) (by simpa using hl) (by simpa using hk) (0 : Int)
 rw [show (List.replicate w.heap.conf.pw.toNat (0 : Int)).getD k 0 = 0 by simp [List.getD,hk]] at hs
 have hn := wr_len (ws := ws) (l := List.replicate w.heap.conf.pw.toNat (0 : Int)) (i := i * w.heap.conf.pw.toNat) (k := k) (by simpa using hl) (by simp; omega)
 have em : (i : Int) * w.heap.conf.pw = ((i * w.heap.conf.pw.toNat : Nat) : Int) := by rw [Int.natCast_mul,Int.toNat_of_nonneg hp.1]
 have ei : (i : Int) * w.heap.conf.pw + k = ((i * w.heap.conf.pw.toNat + k : Nat) : Int) := by omega
 exact sF [] [false,false,false,false,false,false,true] (Fh 10076 [.els (List.map wdv ((wr ws (List.replicate w.heap.conf.pw.toNat 0) (i * w.heap.conf.pw.toNat) k).set (↑(i * w.heap.conf.pw.toNat + k) : Int).toNat 0))] (Ftb 62 (decide ((↑k : Int) < w.heap.conf.pw)) (Fi 73 ((↑i : Int) * w.heap.conf.pw) (Fg 75 (by rw [wrapI' (by omega) (by omega)]; omega : IntKind.i64.wrap ((↑i : Int) * w.heap.conf.pw + (↑k : Int)) =(↑(i * w.heap.conf.pw.toNat + k) : Int)) (Fa (by (simp only [List.length_map]; omega) : 0≤(↑(i * w.heap.conf.pw.toNat + k) : Int)∧(↑(i * w.heap.conf.pw.toNat + k) : Int).toNat < (List.map wdv (wr ws (List.replicate w.heap.conf.pw.toNat 0) (i * w.heap.conf.pw.toNat) k)).length) (Fa (by (simp only [List.length_map]; omega) : (↑(i * w.heap.conf.pw.toNat + k) : Int).toNat < (List.map wdv (wr ws (List.replicate w.heap.conf.pw.toNat 0) (i * w.heap.conf.pw.toNat) k)).length) (Fa (by simp [List.map_take,List.map_drop,List.map_set,List.map_append,wdv,idv] : (List.map wdv (wr ws (List.replicate w.heap.conf.pw.toNat 0) (i * w.heap.conf.pw.toNat) k)).set (↑(i * w.heap.conf.pw.toNat + k) : Int).toNat [du64 0] =List.map wdv ((wr ws (List.replicate w.heap.conf.pw.toNat 0) (i * w.heap.conf.pw.toNat) k).set (↑(i * w.heap.conf.pw.toNat + k) : Int).toNat 0)) (Fx 64 k (Fr (56 : Int) (Fa (by refine congrArg _ ?_; exact hs : List.map wdv ((wr ws (List.replicate w.heap.conf.pw.toNat 0) (i * w.heap.conf.pw.toNat) k).set (↑(i * w.heap.conf.pw.toNat + k) : Int).toNat 0) =List.map wdv (wr ws (List.replicate w.heap.conf.pw.toNat 0) (i * w.heap.conf.pw.toNat) (k + 1))) Fz))))))))))
theorem zeroEnd : CSpec Tryz.prog (rndF Tryz.f151 2) (zeroL w ps ws n i w.heap.conf.pw.toNat).st (.ext 2) (Tg.st ⟨tm 78 [(1,.pt 8001 0 0),(2,.pt 8002 0 0),(3,int i)],[(8001,.box 100 [int w.heap.conf.pw,int w.heap.conf.pg,.ow 24017,.ow 16010,int w.heap.space,int w.heap.bump,wordsV w.old,intsV w.taken,wordsV w.queue,int w.scanned,int w.rep.copied,int w.rep.kept,int w.rep.filled,int n,int w.rep.cleared,int w.rep.steps]),(16010,.arr 134 4 (ps.map Page.dv)),(24017,.arr 56 1 ((spl ws (i * w.heap.conf.pw.toNat) (List.replicate w.heap.conf.pw.toNat 0)).map wdv)),(8002,.box 100 [int 0,int 0,.d (.sl 0 []),.d (.sl 0 []),int 0,int 0,.d (.sl 0 []),.d (.sl 0 []),.d (.sl 0 []),int 0,int 0,int 0,int 0,int 0,int 0,int 0])],64⟩) := by
 have hs := wr_all ws (List.replicate w.heap.conf.pw.toNat (0 : Int)) (i * w.heap.conf.pw.toNat)
 rw [List.length_replicate] at hs
 exact sF [] [false,false,false,false,false,true] (Ffb 62 (decide ((↑w.heap.conf.pw.toNat : Int) < w.heap.conf.pw)) (Fr (56 : Int) (Fa (by refine congrArg _ ?_; assumption : List.map wdv (wr ws (List.replicate w.heap.conf.pw.toNat 0) (i * w.heap.conf.pw.toNat) w.heap.conf.pw.toNat) =List.map wdv (spl ws (i * w.heap.conf.pw.toNat) (List.replicate w.heap.conf.pw.toNat 0))) Fz)))
theorem zeroLoop : CSpec Tryz.prog (blkF Tryz.f151 2) (Tg.st ⟨tm 78 [(1,.pt 8001 0 0),(2,.pt 8002 0 0),(3,int i),(5,int 0)],[(8001,.box 100 [int w.heap.conf.pw,int w.heap.conf.pg,.ow 24017,.ow 16010,int w.heap.space,int w.heap.bump,wordsV w.old,intsV w.taken,wordsV w.queue,int w.scanned,int w.rep.copied,int w.rep.kept,int w.rep.filled,int n,int w.rep.cleared,int w.rep.steps]),(16010,.arr 134 4 (ps.map Page.dv)),(24017,.arr 56 1 (ws.map wdv)),(8002,.box 100 [int 0,int 0,.d (.sl 0 []),.d (.sl 0 []),int 0,int 0,.d (.sl 0 []),.d (.sl 0 []),.d (.sl 0 []),int 0,int 0,int 0,int 0,int 0,int 0,int 0])],64⟩) .nrm (Tg.st ⟨tm 78 [(1,.pt 8001 0 0),(2,.pt 8002 0 0),(3,int i)],[(8001,.box 100 [int w.heap.conf.pw,int w.heap.conf.pg,.ow 24017,.ow 16010,int w.heap.space,int w.heap.bump,wordsV w.old,intsV w.taken,wordsV w.queue,int w.scanned,int w.rep.copied,int w.rep.kept,int w.rep.filled,int n,int w.rep.cleared,int w.rep.steps]),(16010,.arr 134 4 (ps.map Page.dv)),(24017,.arr 56 1 ((spl ws (i * w.heap.conf.pw.toNat) (List.replicate w.heap.conf.pw.toNat 0)).map wdv)),(8002,.box 100 [int 0,int 0,.d (.sl 0 []),.d (.sl 0 []),int 0,int 0,.d (.sl 0 []),.d (.sl 0 []),.d (.sl 0 []),int 0,int 0,int 0,int 0,int 0,int 0,int 0])],64⟩) := by
 have := loop_ext_of (S := fun k => (zeroL w ps ws n i k).st) w.heap.conf.pw.toNat (by kernel_rfl) (fun k hk => zeroRound w ps ws n i k hp hi hl hw hk) (zeroEnd w ps ws n i hp hi hl hw)
 simp only [zeroL,wr_zero] at this
 exact this
end
theorem freeTake (w : Work) (ps : List Page) (ws : List Int) (n : Int) (i : Nat) (hl : ps.length ≤ 64) (hi : i < ps.length) (hb : goneB w.heap.space (ps.getD i default)) (hp : 0 ≤ w.heap.conf.pw ∧ w.heap.conf.pw ≤ 64) (hs : i * w.heap.conf.pw.toNat + w.heap.conf.pw.toNat ≤ ws.length) (hw : ws.length ≤ 4096) (hn : 0 ≤ n ∧ n ≤ 64) : CSpec Tryz.prog (rndF Tryz.f151 0) (freeL w ps ws n i).st .nrm (freeL w (ps.set i ⟨0,0,0,0⟩) (spl ws (i * w.heap.conf.pw.toNat) (List.replicate w.heap.conf.pw.toNat 0)) (n + 1) (i + 1)).st := by
 unfold goneB at hb
 have hb' : (ps.getD (i : Int).toNat default).kind ≠ 0 ∧ (ps.getD (i : Int).toNat default).space = w.heap.space := hb
 exact sF [] [] (Fh 10050 [.els (List.map Page.dv (ps.set (↑i : Int).toNat (Page.mk 0 0 0 0)))] (Fl 24 Page.dv ps (Ftb 25 (decide ((↑i : Int) < (↑ps.length : Int))) (Fm 33 Page.dv ps (↑i) ((↑i : Int).toNat) (Ffb 44 ((ps.getD (↑i : Int).toNat default).kind == 0||(ps.getD (↑i : Int).toNat default).space != w.heap.space) (Fa (by (simp only [List.length_map]; omega) : 0≤(↑i : Int)∧(↑i : Int).toNat < (List.map Page.dv ps).length) (Fa (by (simp only [List.length_map]; omega) : (↑i : Int).toNat < (List.map Page.dv ps).length) (Fa (by rw [List.map_set]; rfl : (List.map Page.dv ps).set (↑i : Int).toNat [dint 0,dint 0,dint 0,dint 0] =List.map Page.dv (ps.set (↑i : Int).toNat (Page.mk 0 0 0 0))) (Fi 54 (n + 1) (Fu (@zeroLoop w (ps.set (↑i : Int).toNat (Page.mk 0 0 0 0)) ws (n + 1) i ‹_› (by omega) ‹_› ‹_›) (Fx 27 i Fz)))))))))))
theorem freeWs_len {pw s : Int} {l : List Page} {ws : List Int} (h : l.length * pw.toNat ≤ ws.length) : ∀ i,i ≤ l.length → (freeWs pw s l ws i).length = ws.length
 | 0,_ => rfl
 | i + 1,hi => by
  have ih := freeWs_len (s := s) h i (by omega)
  have hm : (i + 1) * pw.toNat ≤ l.length * pw.toNat := Nat.mul_le_mul_right _ hi
  rw [Nat.add_mul,Nat.one_mul] at hm
  unfold freeWs
  split
  ·rw [spl_len (by simp; omega),ih]
  ·exact ih
theorem freeC_range (n s : Int) (l : List Page) : ∀ i : Nat,n ≤ freeC n s l i ∧ freeC n s l i ≤ n + i
 | 0 => by simp [freeC]
 | i + 1 => by
  have ih := freeC_range n s l i
  unfold freeC
  split <;> omega
def freeW (w : Work) : Work := ⟨⟨w.heap.conf,freeWs w.heap.conf.pw w.heap.space w.heap.pages w.heap.words w.heap.pages.length,w.heap.pages.map (freeQ w.heap.space),w.heap.space,w.heap.bump⟩,w.old,w.taken,w.queue,w.scanned,⟨w.rep.copied,w.rep.kept,w.rep.filled,freeC w.rep.freed w.heap.space w.heap.pages w.heap.pages.length,w.rep.cleared,w.rep.steps⟩⟩
theorem freeEnd (w : Work) (ps : List Page) (ws : List Int) (n : Int) : CSpec Tryz.prog (rndF Tryz.f151 0) (freeL w ps ws n ps.length).st (.ext 0) (Tg.st ⟨tm 78 [(1,.pt 8001 0 0),(2,.pt 8002 0 0)],[(8001,.box 100 [int w.heap.conf.pw,int w.heap.conf.pg,.ow 24017,.ow 16010,int w.heap.space,int w.heap.bump,wordsV w.old,intsV w.taken,wordsV w.queue,int w.scanned,int w.rep.copied,int w.rep.kept,int w.rep.filled,int n,int w.rep.cleared,int w.rep.steps]),(24017,.arr 56 1 (ws.map wdv)),(16010,.arr 134 4 (ps.map Page.dv)),(8002,.box 100 [int 0,int 0,.d (.sl 0 []),.d (.sl 0 []),int 0,int 0,.d (.sl 0 []),.d (.sl 0 []),.d (.sl 0 []),int 0,int 0,int 0,int 0,int 0,int 0,int 0])],60⟩) := by
 exact sF [] [] (Fl 24 Page.dv ps (Ffb 25 (decide ((↑ps.length : Int) < (↑ps.length : Int))) Fz))
section
variable (w : Work) (hl : w.heap.pages.length ≤ 64) (hp : 0 ≤ w.heap.conf.pw ∧ w.heap.conf.pw ≤ 64) (hs : w.heap.pages.length * w.heap.conf.pw.toNat ≤ w.heap.words.length) (hw : w.heap.words.length ≤ 4096) (hr : w.rep.freed = 0)
include hl hp hs hw hr
theorem freeLoop : CSpec Tryz.prog (blkF Tryz.f151 0) (Tg.st ⟨tm 78 [(1,.pt 8001 0 0),(2,.pt 8002 0 0),(3,int 0)],[(8001,.box 100 [int w.heap.conf.pw,int w.heap.conf.pg,.ow 24017,.ow 16010,int w.heap.space,int w.heap.bump,wordsV w.old,intsV w.taken,wordsV w.queue,int w.scanned,int w.rep.copied,int w.rep.kept,int w.rep.filled,int w.rep.freed,int w.rep.cleared,int w.rep.steps]),(24017,.arr 56 1 (w.heap.words.map wdv)),(16010,.arr 134 4 (w.heap.pages.map Page.dv)),(8002,.box 100 [int 0,int 0,.d (.sl 0 []),.d (.sl 0 []),int 0,int 0,.d (.sl 0 []),.d (.sl 0 []),.d (.sl 0 []),int 0,int 0,int 0,int 0,int 0,int 0,int 0])],60⟩) .nrm (Tg.st ⟨tm 78 [(1,.pt 8001 0 0),(2,.pt 8002 0 0)],[(8001,.box 100 [int w.heap.conf.pw,int w.heap.conf.pg,.ow 24017,.ow 16010,int w.heap.space,int w.heap.bump,wordsV w.old,intsV w.taken,wordsV w.queue,int w.scanned,int w.rep.copied,int w.rep.kept,int w.rep.filled,int (freeC w.rep.freed w.heap.space w.heap.pages w.heap.pages.length),int w.rep.cleared,int w.rep.steps]),(24017,.arr 56 1 ((freeWs w.heap.conf.pw w.heap.space w.heap.pages w.heap.words w.heap.pages.length).map wdv)),(16010,.arr 134 4 ((w.heap.pages.map (freeQ w.heap.space)).map Page.dv)),(8002,.box 100 [int 0,int 0,.d (.sl 0 []),.d (.sl 0 []),int 0,int 0,.d (.sl 0 []),.d (.sl 0 []),.d (.sl 0 []),int 0,int 0,int 0,int 0,int 0,int 0,int 0])],60⟩) := by
 refine loop_ext_of (S := fun k => (freeL w (preM (freeQ w.heap.space) w.heap.pages k) (freeWs w.heap.conf.pw w.heap.space w.heap.pages w.heap.words k) (freeC w.rep.freed w.heap.space w.heap.pages k) k).st) w.heap.pages.length (by kernel_rfl) (fun k hk => ?_) ?_
 ·have h1 := preM_len (freeQ w.heap.space) w.heap.pages k
  have h2 := preM_get (freeQ w.heap.space) w.heap.pages (Nat.le_refl k) default
  have h3 := freeWs_len (s := w.heap.space) hs k (by omega)
  have h4 := freeC_range w.rep.freed w.heap.space w.heap.pages k
  by_cases hb : goneB w.heap.space (w.heap.pages.getD k default)
  ·have e1 := preM_succ (freeQ w.heap.space) w.heap.pages hk default
   have e2 : freeWs w.heap.conf.pw w.heap.space w.heap.pages w.heap.words (k + 1) = spl (freeWs w.heap.conf.pw w.heap.space w.heap.pages w.heap.words k) (k * w.heap.conf.pw.toNat) (List.replicate w.heap.conf.pw.toNat 0) := by rw [freeWs,if_pos hb]
   have e3 : freeC w.rep.freed w.heap.space w.heap.pages (k + 1) = freeC w.rep.freed w.heap.space w.heap.pages k + 1 := by rw [freeC,if_pos hb]
   rw [freeQ,if_pos hb] at e1
   rw [← e1,e2,e3]
   have hm : (k + 1) * w.heap.conf.pw.toNat ≤ w.heap.pages.length * w.heap.conf.pw.toNat := Nat.mul_le_mul_right _ hk
   rw [Nat.add_mul,Nat.one_mul] at hm
   exact freeTake w _ _ _ k (by omega) (by omega) (by rw [h2]; exact hb) hp (by omega) (by omega) (by omega)
  ·have e1 := preM_same (freeQ w.heap.space) w.heap.pages hk default (by rw [freeQ,if_neg hb])
   have e2 : freeWs w.heap.conf.pw w.heap.space w.heap.pages w.heap.words (k + 1) = freeWs w.heap.conf.pw w.heap.space w.heap.pages w.heap.words k := by rw [freeWs,if_neg hb]
   have e3 : freeC w.rep.freed w.heap.space w.heap.pages (k + 1) = freeC w.rep.freed w.heap.space w.heap.pages k := by rw [freeC,if_neg hb]
   rw [← e1,e2,e3]
   exact freeSkip w _ _ _ k (by omega) (by omega) (by rw [h2]; exact hb)
 ·have h := freeEnd w (preM (freeQ w.heap.space) w.heap.pages w.heap.pages.length) (freeWs w.heap.conf.pw w.heap.space w.heap.pages w.heap.words w.heap.pages.length) (freeC w.rep.freed w.heap.space w.heap.pages w.heap.pages.length)
  rw [preM_len,preM_all] at h
  simp only [preM_all]
  exact h
theorem ref12free : GSpec Tryz.prog 151 [w.av] false (freeW w).av [] := by
 have h1 := freeWs_len (s := w.heap.space) hs w.heap.pages.length (Nat.le_refl _)
 have h2 := freeC_range w.rep.freed w.heap.space w.heap.pages w.heap.pages.length
 exact gF [] Tryz.func151 [] (Fs 6 (List.map Page.dv []) (Fa (by (simp [freeW, *]; omega) : (List.map Page.dv []).length + (List.map Page.dv w.heap.pages).length≤2 ^ 30) (Fs 10 (List.map Page.dv w.heap.pages) (Fs 13 (List.map wdv []) (Fa (by (simp [freeW, *]; omega) : (List.map wdv []).length + (List.map wdv w.heap.words).length≤2 ^ 30) (Fs 17 (List.map wdv w.heap.words) (Fu (@freeLoop w ‹_› ‹_› ‹_› ‹_› ‹_›) Fz)))))))
end
def rep0 : Rep := ⟨0,0,0,0,0,0⟩
theorem refersF_good {h : Heap} {l : List Int} (e : refersF h l = true) : checkF h = ⟨0,0,0⟩ := by
 simp only [refersF,Bool.and_eq_true,decide_eq_true_eq] at e
 exact e.1
section
variable (h : Heap) (s k : List Int) (hw : WOk h.words) (hs : s.length ≤ 1048575) (hk : k.length ≤ 1048575) (hs2 : ULe s) (hk2 : ULe k)
include hw hs hk hs2 hk2
theorem collectA (hp : properB h = false) : GSpec Tryz.prog 69 [h.av,wordsV s,wordsV k] false (.tu [noHeap.av,wordsV [],wordsV [],.ag rep0.cells,int 1]) [] := by
 exact gF [] Tryz.func69 [] (Fc 20 (@ref4Proper h) (Ftb 21 (!properB h) (Fnl (Fnl (Fnl (Fnl Fz))))))
theorem collectB (hp : properB h = true) (hr : refersF h s = false ∨ refersF h k = false) : GSpec Tryz.prog 69 [h.av,wordsV s,wordsV k] false (.tu [noHeap.av,wordsV [],wordsV [],.ag rep0.cells,int 19]) [] := by
 by_cases h1 : refersF h s = false
 ·exact gF [] Tryz.func69 [] (Fc 20 (@ref4Proper h) (Ffb 21 (!properB h) (Fc 26 (@ref9Refers h s ‹_› (by omega)) (FcG 31 (!!refersF h s) (fun hg => by (try simp only [bs] at hg); exact @refersBad h k (by (try simp only [bs] at hg); assumption) (by (try simp only [bs] at hg); grind [noHeap,rep0])) (Ft 33 (by simp only [bs, *,true_or,or_true,true_and,and_true,not_true_eq_false,not_false_eq_true,Bool.true_eq_false,Bool.false_eq_true] : (!refersF h s||true)=true) (Fnl (Fnl (Fnl (Fnl Fz)))))))))
 ·have h2 : refersF h k = false := by
   rcases hr with hr | hr
   ·exact absurd hr h1
   ·exact hr
  exact gF [] Tryz.func69 [] (Fc 20 (@ref4Proper h) (Ffb 21 (!properB h) (Fc 26 (@ref9Refers h s ‹_› (by omega)) (FcG 31 (!!refersF h s) (fun hg => by (try simp only [bs] at hg); exact @ref9Refers h k (by (try simp only [bs] at hg); assumption) (by (try simp only [bs] at hg); omega)) (Ftb 33 (!refersF h s||!refersF h k) (Fnl (Fnl (Fnl (Fnl Fz)))))))))
theorem collectC (hp : properB h = true) (hr : refersF h s = true) (hr' : refersF h k = true) (e : ¬ (rootsF (beginW h) s).2.2 = 0) : GSpec Tryz.prog 69 [h.av,wordsV s,wordsV k] false (.tu [noHeap.av,wordsV [],wordsV [],.ag rep0.cells,int (rootsF (beginW h) s).2.2]) [] := by
 have hb := begin_ok hw hp
 have hg := refersF_good hr
 exact gF [] Tryz.func69 [] (Fc 20 (@ref4Proper h) (Ffb 21 (!properB h) (Fc 26 (@ref9Refers h s ‹_› (by omega)) (FcG 31 (!!refersF h s) (fun hg => by (try simp only [bs] at hg); exact @ref9Refers h k (by (try simp only [bs] at hg); assumption) (by (try simp only [bs] at hg); omega)) (Ff 33 (by simp only [bs, *,true_or,or_true,true_and,and_true,not_true_eq_false,not_false_eq_true,Bool.true_eq_false,Bool.false_eq_true] : (!refersF h s||!refersF h k)=false) (Fc 38 (@ref10BeginC h ‹_› ‹_› ‹_›) (Fc 44 (@ref11Roots (beginW h) s ‹_› ‹_› ‹_›) (Ftb 49 ((rootsF (beginW h) s).snd.snd != 0) (Fnl (Fnl (Fnl (Fnl Fz))))))))))))
theorem collectD (hp : properB h = true) (hr : refersF h s = true) (hr' : refersF h k = true) (e : (rootsF (beginW h) s).2.2 = 0) (e2 : ¬ (allF (rootsF (beginW h) s).1).2 = 0) : GSpec Tryz.prog 69 [h.av,wordsV s,wordsV k] false (.tu [noHeap.av,wordsV [],wordsV [],.ag rep0.cells,int (allF (rootsF (beginW h) s).1).2]) [] := by
 have hb := begin_ok hw hp
 have hi := begin_inv hp
 have hg := refersF_good hr
 have ho := rootsF_ok (roots := s) hb hi e
 have ho1 := ho.1
 exact gF [] Tryz.func69 [] (Fc 20 (@ref4Proper h) (Ffb 21 (!properB h) (Fc 26 (@ref9Refers h s ‹_› (by omega)) (FcG 31 (!!refersF h s) (fun hg => by (try simp only [bs] at hg); exact @ref9Refers h k (by (try simp only [bs] at hg); assumption) (by (try simp only [bs] at hg); omega)) (Ff 33 (by simp only [bs, *,true_or,or_true,true_and,and_true,not_true_eq_false,not_false_eq_true,Bool.true_eq_false,Bool.false_eq_true] : (!refersF h s||!refersF h k)=false) (Fc 38 (@ref10BeginC h ‹_› ‹_› ‹_›) (Fc 44 (@ref11Roots (beginW h) s ‹_› ‹_› ‹_›) (Ffb 49 ((rootsF (beginW h) s).snd.snd != 0) (Fc 55 (@ref11All ((rootsF (beginW h) s).fst) ‹_›) (Ftb 59 ((allF (rootsF (beginW h) s).fst).snd != 0) (Fnl (Fnl (Fnl (Fnl Fz))))))))))))))
end
def weakTo (w : Work) (x : Int) : Int := if x = 0 then 0 else afterF w x
def weak1 (w : Work) (x : Int) : Work := ⟨w.heap,w.old,w.taken,w.queue,w.scanned,⟨w.rep.copied,w.rep.kept,w.rep.filled,w.rep.freed,if x ≠ 0 ∧ afterF w x = 0 then w.rep.cleared + 1 else w.rep.cleared,w.rep.steps⟩⟩
def weakS (w : Work) (k : List Int) : Nat → Work
 | 0 => w
 | i + 1 => weak1 (weakS w k i) (k.getD i default)
def weakO (w : Work) (k : List Int) : Nat → List Int
 | 0 => []
 | i + 1 => weakO w k i ++ [weakTo (weakS w k i) (k.getD i default)]
theorem weakS_is (w : Work) (k : List Int) : ∀ i,(weakS w k i).heap = w.heap ∧ (weakS w k i).old = w.old ∧ (weakS w k i).taken = w.taken ∧ (weakS w k i).queue = w.queue ∧ (weakS w k i).rep.filled = w.rep.filled ∧ (weakS w k i).rep.freed = w.rep.freed ∧ w.rep.cleared ≤ (weakS w k i).rep.cleared ∧ (weakS w k i).rep.cleared ≤ w.rep.cleared + i
 | 0 => ⟨rfl,rfl,rfl,rfl,rfl,rfl,by simp [weakS],by simp [weakS]⟩
 | i + 1 => by
  obtain ⟨h1,h2,h3,h4,h5,h6,h7,h8⟩ := weakS_is w k i
  refine ⟨h1,h2,h3,h4,h5,h6, ?_, ?_⟩
  ·simp only [weakS,weak1]; split <;> omega
  ·simp only [weakS,weak1]; split <;> omega
theorem weakO_len (w : Work) (k : List Int) : ∀ i,(weakO w k i).length = i
 | 0 => rfl
 | i + 1 => by simp [weakO,weakO_len w k i]
def weakL (w : Work) (k roots out : List Int) (i : Nat) : Tg := ⟨tm 122 [(2,wordsV k),(6,.pt 8006 0 0),(7,.d (.sl 0 [])),(8,.d (.sl 0 [])),(9,.pt 8009 0 0),(10,int 0),(11,.pt 32011 0 0),(13,wordsV roots),(15,.ow 72015),(16,int i)],[(72015,.arr 56 1 (out.map wdv)),(32011,.box 100 w.cells),(8009,.box 95 [int 0,int 0,int 0,int 0,int 0,int 0]),(8006,.box 28 [int 0,int 0,.d (.sl 0 []),.d (.sl 0 []),int 0,int 0])],60⟩
section
variable (w : Work) (k roots out : List Int) (i : Nat) (hw : WOk w.heap.words) (hl : w.heap.words.length ≤ 4096) (hq : w.queue.length ≤ 1048576) (hk : k.length ≤ 1048575) (hx : 0 ≤ k.getD i default ∧ k.getD i default ≤ 18446744073709551615) (ho : out.length ≤ 1048576) (hi : i < k.length) (hc : 0 ≤ w.rep.cleared ∧ w.rep.cleared ≤ 2097152)
include hw hl hq hk hx ho hi hc
theorem weakRound : CSpec Tryz.prog (rndF Tryz.f69 0) (weakL w k roots out i).st .nrm (weakL (weak1 w (k.getD i default)) k roots (out ++ [weakTo w (k.getD i default)]) (i + 1)).st := by
 by_cases h0 : k.getD i default = 0
 ·have e1 : weakTo w (k.getD i default) = 0 := by rw [weakTo,if_pos h0]
  have e2 : weak1 w (k.getD i default) = w := by rw [weak1,if_neg (by rintro ⟨q,_⟩; exact q h0)]
  rw [e1,e2]
  exact sF [(504091,72015)] [] (Fh 91 [.els (List.map wdv (out ++ [0]))] (Fl 65 wdv k (Ftb 66 (decide ((↑i : Int) < (↑k.length : Int))) (Fek 71 wdv k (↑i) i (Ffb 73 (k.getD i default != 0) (Fs 90 (List.map wdv [0]) (Fa (by (simp [*]; omega) : (List.map wdv out).length + (List.map wdv [0]).length≤2 ^ 30) (Fa (by simp [List.map_take,List.map_drop,List.map_set,List.map_append,wdv,idv] : List.map wdv out ++ List.map wdv [0] =List.map wdv (out ++ [0])) (Fx 68 i Fz)))))))))
 ·have e1 : weakTo w (k.getD i default) = afterF w (k.getD i default) := by rw [weakTo,if_neg h0]
  rw [e1]
  by_cases h2 : afterF w (k.getD i default) = 0
  ·have e2 : weak1 w (k.getD i default) = ⟨w.heap,w.old,w.taken,w.queue,w.scanned,⟨w.rep.copied,w.rep.kept,w.rep.filled,w.rep.freed,w.rep.cleared + 1,w.rep.steps⟩⟩ := by rw [weak1,if_pos ⟨h0,h2⟩]
   rw [e2]
   exact sF [(528091,72015)] [] (Fh 91 [.els (List.map wdv (out ++ [afterF w (k.getD i default)]))] (Fl 65 wdv k (Ftb 66 (decide ((↑i : Int) < (↑k.length : Int))) (Fek 71 wdv k (↑i) i (Ftb 73 (k.getD i default != 0) (Fek 77 wdv k (↑i) i (Fc 79 (@ref12after w (k.getD i default) ‹_› ‹_› ‹_› ‹_›) (Ftb 81 (afterF w (k.getD i default) == 0) (Fi 85 (w.rep.cleared + 1) (Fs 90 (List.map wdv [afterF w (k.getD i default)]) (Fa (by (simp [*]; omega) : (List.map wdv out).length + (List.map wdv [afterF w (k.getD i default)]).length≤2 ^ 30) (Fa (by simp [List.map_take,List.map_drop,List.map_set,List.map_append,wdv,idv] : List.map wdv out ++ List.map wdv [afterF w (k.getD i default)] =List.map wdv (out ++ [afterF w (k.getD i default)])) (Fx 68 i Fz)))))))))))))
  ·have e2 : weak1 w (k.getD i default) = w := by rw [weak1,if_neg (by rintro ⟨_,q⟩; exact h2 q)]
   rw [e2]
   exact sF [(520091,72015)] [] (Fh 91 [.els (List.map wdv (out ++ [afterF w (k.getD i default)]))] (Fl 65 wdv k (Ftb 66 (decide ((↑i : Int) < (↑k.length : Int))) (Fek 71 wdv k (↑i) i (Ftb 73 (k.getD i default != 0) (Fek 77 wdv k (↑i) i (Fc 79 (@ref12after w (k.getD i default) ‹_› ‹_› ‹_› ‹_›) (Ffb 81 (afterF w (k.getD i default) == 0) (Fs 90 (List.map wdv [afterF w (k.getD i default)]) (Fa (by (simp [*]; omega) : (List.map wdv out).length + (List.map wdv [afterF w (k.getD i default)]).length≤2 ^ 30) (Fa (by simp [List.map_take,List.map_drop,List.map_set,List.map_append,wdv,idv] : List.map wdv out ++ List.map wdv [afterF w (k.getD i default)] =List.map wdv (out ++ [afterF w (k.getD i default)])) (Fx 68 i Fz))))))))))))
end
theorem weakEnd (w : Work) (k roots out : List Int) : CSpec Tryz.prog (rndF Tryz.f69 0) (weakL w k roots out k.length).st (.ext 0) (Tg.st ⟨tm 122 [(6,.pt 8006 0 0),(7,.d (.sl 0 [])),(8,.d (.sl 0 [])),(9,.pt 8009 0 0),(10,int 0),(11,.pt 32011 0 0),(13,wordsV roots),(15,.ow 72015)],[(72015,.arr 56 1 (out.map wdv)),(32011,.box 100 w.cells),(8009,.box 95 [int 0,int 0,int 0,int 0,int 0,int 0]),(8006,.box 28 [int 0,int 0,.d (.sl 0 []),.d (.sl 0 []),int 0,int 0])],60⟩) := by
 exact sF [] [] (Fl 65 wdv k (Ffb 66 (decide ((↑k.length : Int) < (↑k.length : Int))) Fz))
theorem weakLoop (w : Work) (k roots : List Int) (hw : WOk w.heap.words) (hl : w.heap.words.length ≤ 4096) (hq : w.queue.length ≤ 1048576) (hk : k.length ≤ 1048575) (hx : ULe k) (hc : w.rep.cleared = 0) : CSpec Tryz.prog (blkF Tryz.f69 0) (Tg.st ⟨tm 122 [(2,wordsV k),(6,.pt 8006 0 0),(7,.d (.sl 0 [])),(8,.d (.sl 0 [])),(9,.pt 8009 0 0),(10,int 0),(11,.pt 32011 0 0),(13,wordsV roots),(15,.ow 72015),(16,int 0)],[(72015,.arr 56 1 []),(32011,.box 100 w.cells),(8009,.box 95 [int 0,int 0,int 0,int 0,int 0,int 0]),(8006,.box 28 [int 0,int 0,.d (.sl 0 []),.d (.sl 0 []),int 0,int 0])],60⟩) .nrm (Tg.st ⟨tm 122 [(6,.pt 8006 0 0),(7,.d (.sl 0 [])),(8,.d (.sl 0 [])),(9,.pt 8009 0 0),(10,int 0),(11,.pt 32011 0 0),(13,wordsV roots),(15,.ow 72015)],[(72015,.arr 56 1 ((weakO w k k.length).map wdv)),(32011,.box 100 (weakS w k k.length).cells),(8009,.box 95 [int 0,int 0,int 0,int 0,int 0,int 0]),(8006,.box 28 [int 0,int 0,.d (.sl 0 []),.d (.sl 0 []),int 0,int 0])],60⟩) := by
 refine loop_ext_of (S := fun i => (weakL (weakS w k i) k roots (weakO w k i) i).st) k.length (by kernel_rfl) (fun i hi => ?_) (weakEnd _ k roots _)
 have h := weakS_is w k i
 exact weakRound _ k roots _ i (by rw [h.1]; exact hw) (by rw [h.1]; exact hl) (by rw [h.2.2.2.1]; exact hq) hk (getD_mem hx i) (by rw [weakO_len]; omega) hi (by omega)
abbrev cB (h : Heap) (s k : List Int) : Work := weakS (allF (rootsF (beginW h) s).fst).fst k k.length
abbrev cA (h : Heap) (s k : List Int) : Work := fillN (cB h s k) (cB h s k).old.length
theorem decode_fill {n : Int} (h : 0 ≤ n ∧ n ≤ 255) : (decodeH (1 + 16 * n)).1.length = n := by
 have e : hdrOf (1 + 16 * n) = ⟨0,n,0⟩ := by
  simp only [hdrOf,Header.mk.injEq]
  omega
 have he := fill_obj h
 unfold decodeH
 rw [e,he]
 simp
theorem fill1_inv {w : Work} (h : Inv w) {x : Int} (hx : x ∈ w.old) : Inv (fill1 w x) := by
 unfold fill1
 split
 ·rename_i hc
  have hr := h.r x (List.mem_append_left _ hx)
  have hh := hlA_range w.heap.words x
  have hl : (objW ⟨0,(hdW w x).length,0⟩).length = (hlA w.heap.words x + 1).toNat := by
   show (objW ⟨0,hlA w.heap.words x,0⟩).length = _
   simp [objW]; omega
  have hin : 4096 ≤ x ∧ x - 4096 + (objW ⟨0,(hdW w x).length,0⟩).length ≤ w.heap.words.length := by omega
  have hlen : (writeA w.heap.words x (objW ⟨0,(hdW w x).length,0⟩)).1.length = w.heap.words.length := by
   unfold writeA
   rw [if_pos hin]
   exact spl_len (by omega)
  have := h.withWords hlen (fun a ha => ?_)
  ·exact ⟨this.L,this.r,this.s,this.f,this.z⟩
  ·by_cases he : a = x
   ·subst he
    have : hlA (writeA w.heap.words a (objW ⟨0,(hdW w a).length,0⟩)).1 a = hlA w.heap.words a := by
     have e1 := load_write_in (b := a) hin (by omega)
     unfold hlA at *
     rw [e1]
     have e2 : (objW ⟨0,(hdW w a).length,0⟩).getD (a - a).toNat 0 = 1 + 16 * (decodeH (loadA w.heap.words a).1).1.length := by
      rw [Int.sub_self]
      show (encodeH ⟨0,(hdW w a).length,0⟩).1 = _
      rw [fill_obj (show 0 ≤ (hdW w a).length ∧ (hdW w a).length ≤ 255 from hh)]
      rfl
     rw [e2]
     exact decode_fill hh
    omega
   ·have s1 := h.s a ha x (List.mem_append_left _ hx)
    have s2 := h.s x (List.mem_append_left _ hx) a ha
    have ha0 := hlA_range w.heap.words a
    have : hlA (writeA w.heap.words x (objW ⟨0,(hdW w x).length,0⟩)).1 a = hlA w.heap.words a := by
     have e1 := load_write_out (b := a) hin (by
      rcases Int.lt_or_lt_of_ne he with q | q
      ·exact Or.inl q
      ·have := s2 q; exact Or.inr (by omega))
     unfold hlA
     rw [e1]
    omega
 ·exact h
theorem fillN_inv {w : Work} (hw : FOk w) (h : Inv w) : ∀ k,k ≤ w.old.length → Inv (fillN w k)
 | 0,_ => h
 | k + 1,hk => fill1_inv (fillN_inv hw h k (by omega)) (by rw [(fillN_is w hw k).2.2.2.2.2.1]; exact getD_mem_iff.2 ⟨k,by omega,rfl⟩)
theorem weakS_inv {w : Work} (h : Inv w) (k : List Int) : ∀ i,Inv (weakS w k i)
 | 0 => h
 | i + 1 => by
  have ih := weakS_inv h k i
  exact ⟨ih.L,ih.r,ih.s,ih.f,ih.z⟩
theorem weakS_fok {w : Work} (h : FOk w) (k : List Int) : ∀ i,FOk (weakS w k i)
 | 0 => h
 | i + 1 => by
  have ih := weakS_fok h k i
  exact ⟨ih.words,ih.wl,ih.pl,ih.ol,ih.o,ih.tl,ih.ql⟩
def cW2 (h : Heap) (s : List Int) : Work := (allF (rootsF (beginW h) s).1).1
def cW3 (h : Heap) (s k : List Int) : Work := weakS (cW2 h s) k k.length
def cW4 (h : Heap) (s k : List Int) : Work := fillN (cW3 h s k) (cW3 h s k).old.length
def cW5 (h : Heap) (s k : List Int) : Work := freeW (cW4 h s k)
def endH (w : Work) : Heap := ⟨w.heap.conf,w.heap.words,w.heap.pages,1 - w.heap.space,if 0 < w.taken.length then lastT w else -1⟩
structure COk (h : Heap) (s k : List Int) : Prop where
 w2 : WkOk (cW2 h s)
 i2 : Inv (cW2 h s)
 x2 : Ext (beginW h) (cW2 h s)
 f3 : FOk (cW3 h s k)
 i3 : Inv (cW3 h s k)
 r3 : (cW3 h s k).rep.filled = 0 ∧ (cW3 h s k).rep.freed = 0
 f4 : FOk (cW4 h s k)
 i4 : Inv (cW4 h s k)
 h4 : (cW4 h s k).heap.conf = h.conf ∧ (cW4 h s k).heap.pages = (cW2 h s).heap.pages ∧ (cW4 h s k).heap.space = (cW2 h s).heap.space ∧ (cW4 h s k).taken = (cW2 h s).taken ∧ (cW4 h s k).rep.freed = 0
section
variable (h : Heap) (s k : List Int) (hw : WOk h.words) (hp : properB h = true) (e : (rootsF (beginW h) s).2.2 = 0) (e2 : (allF (rootsF (beginW h) s).1).2 = 0)
include hw hp e e2
theorem cOk : COk h s k := by
 have hb := begin_ok hw hp
 have hi := begin_inv hp
 have ho := rootsF_ok (roots := s) hb hi e
 have w2 : WkOk (cW2 h s) := allF_ok _ ho.1 e2
 have i2 := allF_inv ho.1 ho.2.1 e2
 have x2 : Ext (beginW h) (cW2 h s) := ho.2.2.1.trans i2.2
 have f3 : FOk (cW3 h s k) := weakS_fok w2.fok k _
 have i3 : Inv (cW3 h s k) := weakS_inv i2.1 k _
 obtain ⟨a1,a2,a3,a4,a5,a6,a7,a8⟩ := weakS_is (cW2 h s) k k.length
 have hr0 := w2.r0
 have r3 : (cW3 h s k).rep.filled = 0 ∧ (cW3 h s k).rep.freed = 0 := ⟨a5.trans hr0.1,a6.trans hr0.2.1⟩
 obtain ⟨b0,b1,b2,b3,b4,b5,b6,b7,b8,b9,b10,b11⟩ := fillN_is (cW3 h s k) f3 (cW3 h s k).old.length
 refine ⟨w2,i2.1,x2,f3,i3,r3,b0,fillN_inv f3 i3 _ (Nat.le_refl _), ?_, ?_, ?_, ?_, ?_⟩
 ·show (fillN (cW3 h s k) (cW3 h s k).old.length).heap.conf = _
  rw [b1]
  show (weakS (cW2 h s) k k.length).heap.conf = _
  rw [a1]
  exact x2.c
 ·show (fillN (cW3 h s k) (cW3 h s k).old.length).heap.pages = _
  rw [b2]
  show (weakS (cW2 h s) k k.length).heap.pages = _
  rw [a1]
 ·show (fillN (cW3 h s k) (cW3 h s k).old.length).heap.space = _
  rw [b3]
  show (weakS (cW2 h s) k k.length).heap.space = _
  rw [a1]
 ·show (fillN (cW3 h s k) (cW3 h s k).old.length).taken = _
  rw [b6]
  exact a3
 ·show (fillN (cW3 h s k) (cW3 h s k).old.length).rep.freed = _
  rw [b8]
  exact r3.2
theorem cOk5 : (cW4 h s k).heap.pages.length ≤ 64 ∧ 0 ≤ (cW4 h s k).heap.conf.pw ∧ (cW4 h s k).heap.conf.pw ≤ 64 ∧ (cW4 h s k).heap.pages.length * (cW4 h s k).heap.conf.pw.toNat ≤ (cW4 h s k).heap.words.length ∧ (cW4 h s k).heap.words.length ≤ 4096 := by
 have c := cOk h s k hw hp e e2
 have po := proper_ok hp
 have hL := c.i4.L
 have hpl := c.w2.pl
 have hc2 := c.x2.c
 have hc : (cW2 h s).heap.conf = h.conf := hc2
 rw [hc] at hpl
 rw [c.h4.1] at hL
 have hl4 := c.f4.wl
 rw [c.h4.1,c.h4.2.1]
 refine ⟨by omega,by omega,by omega, ?_,hl4⟩
 have : (((cW2 h s).heap.pages.length * h.conf.pw.toNat : Nat) : Int) = h.conf.pw * h.conf.pg := by
  rw [Int.natCast_mul,Int.toNat_of_nonneg (by omega),hpl,Int.mul_comm]
 omega
end
def collectF (h : Heap) (s k : List Int) : Heap × List Int × List Int × Rep × Int :=
 if properB h = true then
  (if refersF h s = true ∧ refersF h k = true then
   (if (rootsF (beginW h) s).2.2 = 0 then
    (if (allF (rootsF (beginW h) s).1).2 = 0 then (endH (cW5 h s k),(rootsF (beginW h) s).2.1,weakO (cW2 h s) k k.length,(cW5 h s k).rep,0)
    else (noHeap,[],[],rep0,(allF (rootsF (beginW h) s).1).2))
   else (noHeap,[],[],rep0,(rootsF (beginW h) s).2.2))
  else (noHeap,[],[],rep0,19))
 else (noHeap,[],[],rep0,1)
section
variable (h : Heap) (s k : List Int) (hw : WOk h.words) (hs : s.length ≤ 1048575) (hk : k.length ≤ 1048575) (hs2 : ULe s) (hk2 : ULe k)
include hw hs hk hs2 hk2
theorem collectE (hp : properB h = true) (hr : refersF h s = true) (hr' : refersF h k = true) (e : (rootsF (beginW h) s).2.2 = 0) (e2 : (allF (rootsF (beginW h) s).1).2 = 0) : GSpec Tryz.prog 69 [h.av,wordsV s,wordsV k] false (.tu [(endH (cW5 h s k)).av,wordsV (rootsF (beginW h) s).2.1,wordsV (weakO (cW2 h s) k k.length),.ag (cW5 h s k).rep.cells,int 0]) [] := by
 have hb := begin_ok hw hp
 have hi := begin_inv hp
 have hg := refersF_good hr
 have ho := rootsF_ok (roots := s) hb hi e
 have ho1 := ho.1
 have ho4 := ho.2.2.2.2
 have c := cOk h s k hw hp e e2
 obtain ⟨q1,q2,q3,q4,q5⟩ := cOk5 h s k hw hp e e2
 have w2 := c.w2
 have f3 := c.f3
 have r3 := c.r3.1
 obtain ⟨g1,g2,g3,g4,g5⟩ := c.h4
 have v1 := w2.words
 have v2 := w2.wl
 have v3 := w2.mu
 have v4 := w2.tl
 have v5 := w2.sp
 have v6 := w2.r0.2.2
 have v7 := congrArg List.length g4
 have z1 : (freeW (cW4 h s k)).taken = (cW4 h s k).taken := rfl
 have v8 := congrArg List.length z1
 have z2 : (freeW (cW4 h s k)).heap.space = (cW4 h s k).heap.space := rfl
 clear c
 unfold cW4 at *
 unfold cW3 at *
 unfold cW2 at *
 have Q0 {h_ c_ p_} (r_ : Fq h_ c_ p_) := Fc 20 (@ref4Proper h) (Ffb 21 (!properB h) (Fc 26 (@ref9Refers h s ‹_› (by omega)) (FcG 31 (!!refersF h s) (fun hg => by (try simp only [bs] at hg); exact @ref9Refers h k (by (try simp only [bs] at hg); assumption) (by (try simp only [bs] at hg); omega)) (Ff 33 (by simp only [bs, *,true_or,or_true,true_and,and_true,not_true_eq_false,not_false_eq_true,Bool.true_eq_false,Bool.false_eq_true] : (!refersF h s||!refersF h k)=false) (Fc 38 (@ref10BeginC h ‹_› ‹_› ‹_›) (Fc 44 (@ref11Roots (beginW h) s ‹_› ‹_› ‹_›) (Ffb 49 ((rootsF (beginW h) s).snd.snd != 0) (Fc 55 (@ref11All ((rootsF (beginW h) s).fst) ‹_›) (Ffb 59 ((allF (rootsF (beginW h) s).fst).snd != 0) (Fu (@weakLoop ((allF (rootsF (beginW h) s).fst).fst) k ((rootsF (beginW h) s).snd.fst) ‹_› ‹_› (by omega) ‹_› ‹_› ‹_›) (Fc 93 (@ref12fill (weakS (allF (rootsF (beginW h) s).fst).fst k k.length) ‹_› ‹_›) (Fc 94 (@ref12free (fillN (weakS (allF (rootsF (beginW h) s).fst).fst k k.length) (weakS (allF (rootsF (beginW h) s).fst).fst k k.length).old.length) ‹_› (by omega) ‹_› ‹_› ‹_›) (Fi 98 (1 - (freeW (fillN (weakS (allF (rootsF (beginW h) s).fst).fst k k.length) (weakS (allF (rootsF (beginW h) s).fst).fst k k.length).old.length)).heap.space) (Fl 105 idv (freeW (fillN (weakS (allF (rootsF (beginW h) s).fst).fst k k.length) (weakS (allF (rootsF (beginW h) s).fst).fst k k.length).old.length)).taken r_))))))))))))))
 rcases bb (decide (0 < (↑(freeW (fillN (weakS (allF (rootsF (beginW h) s).fst).fst k k.length) (weakS (allF (rootsF (beginW h) s).fst).fst k k.length).old.length)).taken.length : Int))) with hc0 | hc0<;>have hc0p:=hc0<;>simp only [bs] at hc0p
 ·exact gF [] Tryz.func69 [false,false,false,false,false,false,false,false,false,false,false,false,false,false,false,false,false,false,true] (Fh 15 [.own] (Q0 (Ft 107 hc0 (Fi 111 ((↑(freeW (fillN (weakS (allF (rootsF (beginW h) s).fst).fst k k.length) (weakS (allF (rootsF (beginW h) s).fst).fst k k.length).old.length)).taken.length : Int) - 1) (Fek 112 idv ((freeW (fillN (weakS (allF (rootsF (beginW h) s).fst).fst k k.length) (weakS (allF (rootsF (beginW h) s).fst).fst k k.length).old.length)).taken) ((↑(freeW (fillN (weakS (allF (rootsF (beginW h) s).fst).fst k k.length) (weakS (allF (rootsF (beginW h) s).fst).fst k k.length).old.length)).taken.length : Int) - 1) (((↑(freeW (fillN (weakS (allF (rootsF (beginW h) s).fst).fst k k.length) (weakS (allF (rootsF (beginW h) s).fst).fst k k.length).old.length)).taken.length : Int) - 1).toNat) (Fr ((endH (cW5 h s k)).conf.pw) (Fr ((endH (cW5 h s k)).conf.pg) (Fr (List.map wdv (endH (cW5 h s k)).words) (Fr (List.map Page.dv (endH (cW5 h s k)).pages) (Fr ((endH (cW5 h s k)).space) (Fa (by (simp only [endH,cW5,cW4,cW3,cW2,lastT]; (repeat' split) <;> first | rfl | omega | (exfalso; omega) | simp_all) : (freeW (fillN (weakS (allF (rootsF (beginW h) s).fst).fst k k.length) (weakS (allF (rootsF (beginW h) s).fst).fst k k.length).old.length)).taken.getD ((↑(freeW (fillN (weakS (allF (rootsF (beginW h) s).fst).fst k k.length) (weakS (allF (rootsF (beginW h) s).fst).fst k k.length).old.length)).taken.length : Int) - 1).toNat default =(endH (cW5 h s k)).bump) (Fr (List.map wdv (rootsF (beginW h) s).snd.fst) (Fr (List.map wdv (weakO (allF (rootsF (beginW h) s).fst).fst k k.length)) (Fr ((cW5 h s k).rep.copied) (Fr ((cW5 h s k).rep.kept) (Fr ((cW5 h s k).rep.filled) (Fr ((cW5 h s k).rep.freed) (Fr ((cW5 h s k).rep.cleared) (Fr ((cW5 h s k).rep.steps) (Fr (0 : Int) Fz))))))))))))))))))))
 ·exact gF [] Tryz.func69 [false,false,false,false,false,false,false,false,false,false,false,false,false,false,false,false,false,false,true] (Fh 15 [.own] (Q0 (Ff 107 hc0 (Fr ((endH (cW5 h s k)).conf.pw) (Fr ((endH (cW5 h s k)).conf.pg) (Fr (List.map wdv (endH (cW5 h s k)).words) (Fr (List.map Page.dv (endH (cW5 h s k)).pages) (Fr ((endH (cW5 h s k)).space) (Fa (by (simp [endH,cW5,cW4,cW3,cW2,lastT, *]; omega) : (-1 : Int) =(endH (cW5 h s k)).bump) (Fr (List.map wdv (rootsF (beginW h) s).snd.fst) (Fr (List.map wdv (weakO (allF (rootsF (beginW h) s).fst).fst k k.length)) (Fr ((cW5 h s k).rep.copied) (Fr ((cW5 h s k).rep.kept) (Fr ((cW5 h s k).rep.filled) (Fr ((cW5 h s k).rep.freed) (Fr ((cW5 h s k).rep.cleared) (Fr ((cW5 h s k).rep.steps) (Fr (0 : Int) Fz))))))))))))))))))
end
def pinB (w : WorldM) (i : Nat) (n : Int) : WorldM := ⟨⟨w.heap.conf,w.heap.words,w.heap.pages.set i ⟨(w.heap.pages.getD i default).kind,(w.heap.pages.getD i default).space,(w.heap.pages.getD i default).used,(w.heap.pages.getD i default).pins + n⟩,w.heap.space,w.heap.bump⟩,w.strong,w.weak⟩
def pinI (w : WorldM) (t : Tape) : Nat := (ofA w.heap.conf (w.pick t)).1.toNat
def WorldM.pin (w : WorldM) (t : Tape) : WorldM :=
  if (ofA w.heap.conf (w.pick t)).2.2 = 0 then
    (if 0 < (w.heap.pages.getD (pinI w t) default).pins ∧ (w.pickT t).next 2 = 0 then pinB w (pinI w t) (-1)
     else if 0 < (w.heap.pages.getD (pinI w t) default).pins ∨ (w.heap.pages.getD (pinI w t) default).kind = 2 ∨ (crowd w.heap.pages : Int) < w.heap.conf.pg / 4 then pinB w (pinI w t) 1 else w) else w
def WorldM.pinT (w : WorldM) (t : Tape) : Tape := if (ofA w.heap.conf (w.pick t)).2.2 = 0 ∧ 0 < (w.heap.pages.getD (pinI w t) default).pins then (w.pickT t).step 2 else w.pickT t
theorem worldPin (w : WorldM) (t : Tape) (hw : WMok w) (ht : TOk t) (ha : t.at' ≤ 1000000) (hv : validB w.heap.conf = true) (hp : (w.heap.pages.length : Int) = w.heap.conf.pg) (hpn : ∀ j,j < w.heap.pages.length → -1048576 ≤ (w.heap.pages.getD j default).pins ∧ (w.heap.pages.getD j default).pins ≤ 4294967296) : LentSpec Tryz.prog 160 [w.av,.pt 0 0 0] [t.b] (w.pin t).av [(w.pinT t).b] := by
 have hb := validB_iff.1 hv
 have s1 := pickT_at w t
 have k1 := tok_of ht s1.2.2 (by omega) (by omega)
 have p1 := pick_range hw t
 have q1 := hpn (pinI w t)
 have hcr := crowdN_le w.heap.pages w.heap.pages.length
 unfold pinI at q1
 have o1 := fun e => ofA_ok (a := w.pick t) hv e
 by_cases e : (ofA w.heap.conf (w.pick t)).2.2 = 0
 ·have o2 := o1 e
  by_cases c1 : 0 < (w.heap.pages.getD (ofA w.heap.conf (w.pick t)).1.toNat default).pins
  ·have eT : w.pinT t = (w.pickT t).step 2 := by rw [WorldM.pinT,if_pos ⟨e,c1⟩]
   by_cases c2 : (w.pickT t).next 2 = 0
   ·have eP : w.pin t = ⟨⟨w.heap.conf,w.heap.words,w.heap.pages.set (ofA w.heap.conf (w.pick t)).1.toNat ⟨(w.heap.pages.getD (ofA w.heap.conf (w.pick t)).1.toNat default).kind,(w.heap.pages.getD (ofA w.heap.conf (w.pick t)).1.toNat default).space,(w.heap.pages.getD (ofA w.heap.conf (w.pick t)).1.toNat default).used,(w.heap.pages.getD (ofA w.heap.conf (w.pick t)).1.toNat default).pins - 1⟩,w.heap.space,w.heap.bump⟩,w.strong,w.weak⟩ := by rw [WorldM.pin,if_pos e,if_pos ⟨c1,c2⟩]; rfl
    rw [eP,eT]
    exact lF Tryz.func160 [] (Fh 42 [.br true] (Fh 37 [.br true] (Fh 51 [.el (w.heap.pages.getD (ofA w.heap.conf (w.pick t)).fst.toNat default).dv] (Fp 12 (@worldPick w t ‹_› ‹_› (by omega)) (Fc 18 (@refOf w.heap.conf (w.pick t) (by omega) (by omega)) (Ffb 23 ((ofA w.heap.conf (w.pick t)).snd.snd != 0) (Fs 25 (List.map Page.dv []) (Fa (by (simp [*]; omega) : (List.map Page.dv []).length + (List.map Page.dv w.heap.pages).length≤2 ^ 30) (Fs 29 (List.map Page.dv w.heap.pages) (Fm 41 Page.dv w.heap.pages ((ofA w.heap.conf (w.pick t)).fst) ((ofA w.heap.conf (w.pick t)).fst.toNat) (Fb (decide (0 < (w.heap.pages.getD (ofA w.heap.conf (w.pick t)).fst.toNat default).pins)=true) (Fp 45 (@tapeNext (w.pickT t) (2) ‹_› (by omega) (by omega)) (Fb (((w.pickT t).next (2 :Int) == 0)=true) (Fa (by exact el_of (by omega) : (List.map Page.dv w.heap.pages)[(ofA w.heap.conf (w.pick t)).fst.toNat]? = some (w.heap.pages.getD (ofA w.heap.conf (w.pick t)).fst.toNat default).dv) (Fi 52 ((w.heap.pages.getD (ofA w.heap.conf (w.pick t)).fst.toNat default).pins - 1) (Fa (by exact el_of (by omega) : (List.map Page.dv w.heap.pages)[(ofA w.heap.conf (w.pick t)).fst.toNat]? = some (w.heap.pages.getD (ofA w.heap.conf (w.pick t)).fst.toNat default).dv) (FS 10054 Page.dv w.heap.pages ((ofA w.heap.conf (w.pick t)).fst.toNat) (Page.mk (w.heap.pages.getD (ofA w.heap.conf (w.pick t)).fst.toNat default).kind (w.heap.pages.getD (ofA w.heap.conf (w.pick t)).fst.toNat default).space (w.heap.pages.getD (ofA w.heap.conf (w.pick t)).fst.toNat default).used ((w.heap.pages.getD (ofA w.heap.conf (w.pick t)).fst.toNat default).pins - 1)) ((w.heap.pages.getD (ofA w.heap.conf (w.pick t)).fst.toNat default).dv) Fz)))))))))))))))))
   ·have eP : w.pin t = ⟨⟨w.heap.conf,w.heap.words,w.heap.pages.set (ofA w.heap.conf (w.pick t)).1.toNat ⟨(w.heap.pages.getD (ofA w.heap.conf (w.pick t)).1.toNat default).kind,(w.heap.pages.getD (ofA w.heap.conf (w.pick t)).1.toNat default).space,(w.heap.pages.getD (ofA w.heap.conf (w.pick t)).1.toNat default).used,(w.heap.pages.getD (ofA w.heap.conf (w.pick t)).1.toNat default).pins + 1⟩,w.heap.space,w.heap.bump⟩,w.strong,w.weak⟩ := by rw [WorldM.pin,if_pos e,if_neg (fun q => c2 q.2),if_pos (.inl c1)]; rfl
    rw [eP,eT]
    exact lF Tryz.func160 [] (Fh 42 [.br true] (Fh 37 [.br false] (Fh 59 [.el (w.heap.pages.getD (ofA w.heap.conf (w.pick t)).fst.toNat default).dv] (Fh 65 [.el (w.heap.pages.getD (ofA w.heap.conf (w.pick t)).fst.toNat default).dv] (Fh 76 [.int (w.heap.conf.pg / 4)] (Fh 55 [.br true] (Fh 82 [.el (w.heap.pages.getD (ofA w.heap.conf (w.pick t)).fst.toNat default).dv] (Fp 12 (@worldPick w t ‹_› ‹_› (by omega)) (Fc 18 (@refOf w.heap.conf (w.pick t) (by omega) (by omega)) (Ffb 23 ((ofA w.heap.conf (w.pick t)).snd.snd != 0) (Fs 25 (List.map Page.dv []) (Fa (by (simp [*]; omega) : (List.map Page.dv []).length + (List.map Page.dv w.heap.pages).length≤2 ^ 30) (Fs 29 (List.map Page.dv w.heap.pages) (Fm 41 Page.dv w.heap.pages ((ofA w.heap.conf (w.pick t)).fst) ((ofA w.heap.conf (w.pick t)).fst.toNat) (Fb (decide (0 < (w.heap.pages.getD (ofA w.heap.conf (w.pick t)).fst.toNat default).pins)=true) (Fp 45 (@tapeNext (w.pickT t) (2) ‹_› (by omega) (by omega)) (Fb (((w.pickT t).next (2 :Int) == 0)=false) (Fa (by exact el_of (by omega) : (List.map Page.dv w.heap.pages)[(ofA w.heap.conf (w.pick t)).fst.toNat]? = some (w.heap.pages.getD (ofA w.heap.conf (w.pick t)).fst.toNat default).dv) (Fa (by intro hg; (try simp only [bs] at hg); exact el_of (by omega) : (!decide (0 < (w.heap.pages.getD (ofA w.heap.conf (w.pick t)).fst.toNat default).pins)) =true→(List.map Page.dv w.heap.pages)[(ofA w.heap.conf (w.pick t)).fst.toNat]? = some (w.heap.pages.getD (ofA w.heap.conf (w.pick t)).fst.toNat default).dv) (FcG 71 (!(decide (0 < (w.heap.pages.getD (ofA w.heap.conf (w.pick t)).fst.toNat default).pins)||(w.heap.pages.getD (ofA w.heap.conf (w.pick t)).fst.toNat default).kind == 2)) (fun hg => by (try simp only [bs] at hg); exact @madeCrowd w.heap (by (try simp only [bs] at hg); omega)) (Fa (by intro hg; (try simp only [bs] at hg); rw [wrapI' (by omega) (by omega)]; omega : (!(decide (0 < (w.heap.pages.getD (ofA w.heap.conf (w.pick t)).fst.toNat default).pins)||(w.heap.pages.getD (ofA w.heap.conf (w.pick t)).fst.toNat default).kind == 2)) =true→IntKind.i64.wrap (w.heap.conf.pg.tdiv 4) =w.heap.conf.pg / 4) (Fa (by intro hg; (try simp only [bs] at hg); omega : (!(decide (0 < (w.heap.pages.getD (ofA w.heap.conf (w.pick t)).fst.toNat default).pins)||(w.heap.pages.getD (ofA w.heap.conf (w.pick t)).fst.toNat default).kind == 2)) =true→(4 :Int) =0→False) (Fb ((decide (0 < (w.heap.pages.getD (ofA w.heap.conf (w.pick t)).fst.toNat default).pins)||(w.heap.pages.getD (ofA w.heap.conf (w.pick t)).fst.toNat default).kind == 2||decide ((↑(crowd w.heap.pages) : Int) < w.heap.conf.pg / 4))=true) (Fa (by exact el_of (by omega) : (List.map Page.dv w.heap.pages)[(ofA w.heap.conf (w.pick t)).fst.toNat]? = some (w.heap.pages.getD (ofA w.heap.conf (w.pick t)).fst.toNat default).dv) (Fi 83 ((w.heap.pages.getD (ofA w.heap.conf (w.pick t)).fst.toNat default).pins + 1) (Fa (by exact el_of (by omega) : (List.map Page.dv w.heap.pages)[(ofA w.heap.conf (w.pick t)).fst.toNat]? = some (w.heap.pages.getD (ofA w.heap.conf (w.pick t)).fst.toNat default).dv) (FS 10085 Page.dv w.heap.pages ((ofA w.heap.conf (w.pick t)).fst.toNat) (Page.mk (w.heap.pages.getD (ofA w.heap.conf (w.pick t)).fst.toNat default).kind (w.heap.pages.getD (ofA w.heap.conf (w.pick t)).fst.toNat default).space (w.heap.pages.getD (ofA w.heap.conf (w.pick t)).fst.toNat default).used ((w.heap.pages.getD (ofA w.heap.conf (w.pick t)).fst.toNat default).pins + 1)) ((w.heap.pages.getD (ofA w.heap.conf (w.pick t)).fst.toNat default).dv) Fz)))))))))))))))))))))))))))
  ·have eT : w.pinT t = w.pickT t := by rw [WorldM.pinT,if_neg (fun q => c1 q.2)]
   by_cases c3 : (w.heap.pages.getD (ofA w.heap.conf (w.pick t)).1.toNat default).kind = 2 ∨ (crowd w.heap.pages : Int) < w.heap.conf.pg / 4
   ·have eP : w.pin t = ⟨⟨w.heap.conf,w.heap.words,w.heap.pages.set (ofA w.heap.conf (w.pick t)).1.toNat ⟨(w.heap.pages.getD (ofA w.heap.conf (w.pick t)).1.toNat default).kind,(w.heap.pages.getD (ofA w.heap.conf (w.pick t)).1.toNat default).space,(w.heap.pages.getD (ofA w.heap.conf (w.pick t)).1.toNat default).used,(w.heap.pages.getD (ofA w.heap.conf (w.pick t)).1.toNat default).pins + 1⟩,w.heap.space,w.heap.bump⟩,w.strong,w.weak⟩ := by rw [WorldM.pin,if_pos e,if_neg (fun q => c1 q.1),if_pos (.inr c3)]; rfl
    rw [eP,eT]
    exact lF Tryz.func160 [] (Fh 42 [.br false] (Fh 45 [.lent (int ((w.pickT t).next 2)) [((w.pickT t).step 2).b]] (Fh 59 [.el (w.heap.pages.getD (ofA w.heap.conf (w.pick t)).fst.toNat default).dv] (Fh 65 [.el (w.heap.pages.getD (ofA w.heap.conf (w.pick t)).fst.toNat default).dv] (Fh 76 [.int (w.heap.conf.pg / 4)] (Fh 55 [.br true] (Fh 82 [.el (w.heap.pages.getD (ofA w.heap.conf (w.pick t)).fst.toNat default).dv] (Fp 12 (@worldPick w t ‹_› ‹_› (by omega)) (Fc 18 (@refOf w.heap.conf (w.pick t) (by omega) (by omega)) (Ffb 23 ((ofA w.heap.conf (w.pick t)).snd.snd != 0) (Fs 25 (List.map Page.dv []) (Fa (by (simp [*]; omega) : (List.map Page.dv []).length + (List.map Page.dv w.heap.pages).length≤2 ^ 30) (Fs 29 (List.map Page.dv w.heap.pages) (Fm 41 Page.dv w.heap.pages ((ofA w.heap.conf (w.pick t)).fst) ((ofA w.heap.conf (w.pick t)).fst.toNat) (Fb (decide (0 < (w.heap.pages.getD (ofA w.heap.conf (w.pick t)).fst.toNat default).pins)=false) (Fa (by exact el_of (by omega) : (List.map Page.dv w.heap.pages)[(ofA w.heap.conf (w.pick t)).fst.toNat]? = some (w.heap.pages.getD (ofA w.heap.conf (w.pick t)).fst.toNat default).dv) (Fa (by intro hg; (try simp only [bs] at hg); exact el_of (by omega) : (!decide (0 < (w.heap.pages.getD (ofA w.heap.conf (w.pick t)).fst.toNat default).pins)) =true→(List.map Page.dv w.heap.pages)[(ofA w.heap.conf (w.pick t)).fst.toNat]? = some (w.heap.pages.getD (ofA w.heap.conf (w.pick t)).fst.toNat default).dv) (FcG 71 (!(decide (0 < (w.heap.pages.getD (ofA w.heap.conf (w.pick t)).fst.toNat default).pins)||(w.heap.pages.getD (ofA w.heap.conf (w.pick t)).fst.toNat default).kind == 2)) (fun hg => by (try simp only [bs] at hg); exact @madeCrowd w.heap (by (try simp only [bs] at hg); omega)) (Fa (by intro hg; (try simp only [bs] at hg); rw [Int.tdiv_eq_ediv_of_nonneg (by omega),wrapI' (by omega) (by omega)] : (!(decide (0 < (w.heap.pages.getD (ofA w.heap.conf (w.pick t)).fst.toNat default).pins)||(w.heap.pages.getD (ofA w.heap.conf (w.pick t)).fst.toNat default).kind == 2)) =true→IntKind.i64.wrap (w.heap.conf.pg.tdiv 4) =w.heap.conf.pg / 4) (Fa (by intro hg; (try simp only [bs] at hg); omega : (!(decide (0 < (w.heap.pages.getD (ofA w.heap.conf (w.pick t)).fst.toNat default).pins)||(w.heap.pages.getD (ofA w.heap.conf (w.pick t)).fst.toNat default).kind == 2)) =true→(4 :Int) =0→False) (Fb ((decide (0 < (w.heap.pages.getD (ofA w.heap.conf (w.pick t)).fst.toNat default).pins)||(w.heap.pages.getD (ofA w.heap.conf (w.pick t)).fst.toNat default).kind == 2||decide ((↑(crowd w.heap.pages) : Int) < w.heap.conf.pg / 4))=true) (Fa (by exact el_of (by omega) : (List.map Page.dv w.heap.pages)[(ofA w.heap.conf (w.pick t)).fst.toNat]? = some (w.heap.pages.getD (ofA w.heap.conf (w.pick t)).fst.toNat default).dv) (Fi 83 ((w.heap.pages.getD (ofA w.heap.conf (w.pick t)).fst.toNat default).pins + 1) (Fa (by exact el_of (by omega) : (List.map Page.dv w.heap.pages)[(ofA w.heap.conf (w.pick t)).fst.toNat]? = some (w.heap.pages.getD (ofA w.heap.conf (w.pick t)).fst.toNat default).dv) (FS 10085 Page.dv w.heap.pages ((ofA w.heap.conf (w.pick t)).fst.toNat) (Page.mk (w.heap.pages.getD (ofA w.heap.conf (w.pick t)).fst.toNat default).kind (w.heap.pages.getD (ofA w.heap.conf (w.pick t)).fst.toNat default).space (w.heap.pages.getD (ofA w.heap.conf (w.pick t)).fst.toNat default).used ((w.heap.pages.getD (ofA w.heap.conf (w.pick t)).fst.toNat default).pins + 1)) ((w.heap.pages.getD (ofA w.heap.conf (w.pick t)).fst.toNat default).dv) Fz)))))))))))))))))))))))))
   ·have eP : w.pin t = w := by rw [WorldM.pin,if_pos e,if_neg (fun q => c1 q.1),if_neg (fun q => q.elim c1 c3)]
    rw [eP,eT]
    exact lF Tryz.func160 [] (Fh 42 [.br false] (Fh 45 [.lent (int ((w.pickT t).next 2)) [((w.pickT t).step 2).b]] (Fh 59 [.el (w.heap.pages.getD (ofA w.heap.conf (w.pick t)).fst.toNat default).dv] (Fh 65 [.el (w.heap.pages.getD (ofA w.heap.conf (w.pick t)).fst.toNat default).dv] (Fh 76 [.int (w.heap.conf.pg / 4)] (Fh 55 [.br false] (Fp 12 (@worldPick w t ‹_› ‹_› (by omega)) (Fc 18 (@refOf w.heap.conf (w.pick t) (by omega) (by omega)) (Ffb 23 ((ofA w.heap.conf (w.pick t)).snd.snd != 0) (Fs 25 (List.map Page.dv []) (Fa (by (simp [*]; omega) : (List.map Page.dv []).length + (List.map Page.dv w.heap.pages).length≤2 ^ 30) (Fs 29 (List.map Page.dv w.heap.pages) (Fm 41 Page.dv w.heap.pages ((ofA w.heap.conf (w.pick t)).fst) ((ofA w.heap.conf (w.pick t)).fst.toNat) (Fb (decide (0 < (w.heap.pages.getD (ofA w.heap.conf (w.pick t)).fst.toNat default).pins)=false) (Fa (by exact el_of (by omega) : (List.map Page.dv w.heap.pages)[(ofA w.heap.conf (w.pick t)).fst.toNat]? = some (w.heap.pages.getD (ofA w.heap.conf (w.pick t)).fst.toNat default).dv) (Fa (by intro hg; (try simp only [bs] at hg); exact el_of (by omega) : (!decide (0 < (w.heap.pages.getD (ofA w.heap.conf (w.pick t)).fst.toNat default).pins)) =true→(List.map Page.dv w.heap.pages)[(ofA w.heap.conf (w.pick t)).fst.toNat]? = some (w.heap.pages.getD (ofA w.heap.conf (w.pick t)).fst.toNat default).dv) (FcG 71 (!(decide (0 < (w.heap.pages.getD (ofA w.heap.conf (w.pick t)).fst.toNat default).pins)||(w.heap.pages.getD (ofA w.heap.conf (w.pick t)).fst.toNat default).kind == 2)) (fun hg => by (try simp only [bs] at hg); exact @madeCrowd w.heap (by (try simp only [bs] at hg); omega)) (Fa (by intro hg; (try simp only [bs] at hg); rw [Int.tdiv_eq_ediv_of_nonneg (by omega),wrapI' (by omega) (by omega)] : (!(decide (0 < (w.heap.pages.getD (ofA w.heap.conf (w.pick t)).fst.toNat default).pins)||(w.heap.pages.getD (ofA w.heap.conf (w.pick t)).fst.toNat default).kind == 2)) =true→IntKind.i64.wrap (w.heap.conf.pg.tdiv 4) =w.heap.conf.pg / 4) (Fa (by intro hg; (try simp only [bs] at hg); omega : (!(decide (0 < (w.heap.pages.getD (ofA w.heap.conf (w.pick t)).fst.toNat default).pins)||(w.heap.pages.getD (ofA w.heap.conf (w.pick t)).fst.toNat default).kind == 2)) =true→(4 :Int) =0→False) (Fb ((decide (0 < (w.heap.pages.getD (ofA w.heap.conf (w.pick t)).fst.toNat default).pins)||(w.heap.pages.getD (ofA w.heap.conf (w.pick t)).fst.toNat default).kind == 2||decide ((↑(crowd w.heap.pages) : Int) < w.heap.conf.pg / 4))=false) Fz))))))))))))))))))))
 ·have eP : w.pin t = w := by rw [WorldM.pin,if_neg e]
  have eT : w.pinT t = w.pickT t := by rw [WorldM.pinT,if_neg (fun q => e q.1)]
  rw [eP,eT]
  exact lF Tryz.func160 [] (Fp 12 (@worldPick w t ‹_› ‹_› (by omega)) (Fc 18 (@refOf w.heap.conf (w.pick t) (by omega) (by omega)) (Ftb 23 ((ofA w.heap.conf (w.pick t)).snd.snd != 0) Fz)))
theorem ref12Collect (h : Heap) (s k : List Int) (hw : WOk h.words) (hs : s.length ≤ 1048575) (hk : k.length ≤ 1048575) (hs2 : ULe s) (hk2 : ULe k) : GSpec Tryz.prog 69 [h.av,wordsV s,wordsV k] false (.tu [(collectF h s k).1.av,wordsV (collectF h s k).2.1,wordsV (collectF h s k).2.2.1,.ag (collectF h s k).2.2.2.1.cells,int (collectF h s k).2.2.2.2]) [] := by
 unfold collectF
 by_cases hp : properB h = true
 ·rw [if_pos hp]
  by_cases hr : refersF h s = true ∧ refersF h k = true
  ·rw [if_pos hr]
   by_cases e : (rootsF (beginW h) s).2.2 = 0
   ·rw [if_pos e]
    by_cases e2 : (allF (rootsF (beginW h) s).1).2 = 0
    ·rw [if_pos e2]
     exact collectE h s k hw hs hk hs2 hk2 hp hr.1 hr.2 e e2
    ·rw [if_neg e2]
     exact collectD h s k hw hs hk hs2 hk2 hp hr.1 hr.2 e e2
   ·rw [if_neg e]
    exact collectC h s k hw hs hk hs2 hk2 hp hr.1 hr.2 e
  ·rw [if_neg hr]
   refine collectB h s k hw hs hk hs2 hk2 hp ?_
   by_cases q : refersF h s = true
   ·refine Or.inr ?_
    have : ¬ refersF h k = true := fun q2 => hr ⟨q,q2⟩
    simpa using this
   ·exact Or.inl (by simpa using q)
 ·rw [if_neg hp]
  exact collectA h s k hw hs hk hs2 hk2 (by simpa using hp)
def WorldM.collect (w : WorldM) : WorldM := if (collectF w.heap w.strong w.weak).2.2.2.2 = 0 then ⟨(collectF w.heap w.strong w.weak).1,(collectF w.heap w.strong w.weak).2.1,(collectF w.heap w.strong w.weak).2.2.1⟩ else w
theorem worldCollect (w : WorldM) (hw : WOk w.heap.words) (hs : w.strong.length ≤ 1048575) (hk : w.weak.length ≤ 1048575) (hs2 : ULe w.strong) (hk2 : ULe w.weak) : GSpec Tryz.prog 162 [w.av] false w.collect.av [] := by
 by_cases e : (collectF w.heap w.strong w.weak).2.2.2.2 = 0
 ·have e7 : w.collect = ⟨(collectF w.heap w.strong w.weak).1,(collectF w.heap w.strong w.weak).2.1,(collectF w.heap w.strong w.weak).2.2.1⟩ := by rw [WorldM.collect,if_pos e]
  rw [e7]
  exact gF [] Tryz.func162 [] (Fc 15 (@ref12Collect w.heap w.strong w.weak ‹_› ‹_› ‹_› ‹_› ‹_›) (Ftb 22 ((collectF w.heap w.strong w.weak).snd.snd.snd.snd == 0) Fz))
 ·have e7 : w.collect = w := by rw [WorldM.collect,if_neg e]
  rw [e7]
  exact gF [] Tryz.func162 [] (Fc 15 (@ref12Collect w.heap w.strong w.weak ‹_› ‹_› ‹_› ‹_› ‹_›) (Ffb 22 ((collectF w.heap w.strong w.weak).snd.snd.snd.snd == 0) Fz))
section
variable (P : Work → Prop) (hf : ∀ w r,WkOk w → Inv w → P w → (w.fwd r).2.2 = 0 → P (w.fwd r).1)
 (hin : ∀ w q j,WkOk w → Inv w → P w → q ∈ w.queue → 0 ≤ j → j < hlA w.heap.words q → (w.fwd (loadA w.heap.words (q + 1 + j)).1).2.2 = 0 → P (w.in1 (q + 1 + j))) (hsd : ∀ w n,P w → P (stepD w n))
include hin in
theorem innN_P {w : Work} (hw : WkOk w) (h : Inv w) (hp : P w) {q : Int} (hq : q ∈ w.queue) {l : List Int} (hl : ∀ x ∈ l,0 ≤ x ∧ x < hlA w.heap.words q) : ∀ k,k ≤ l.length → (∀ j,j < k → innE w q l j = 0) → P (innN w q l k)
 | 0,_,_ => hp
 | k + 1,hk,he => by
  have ih := innN_P hw h hp hq hl k (by omega) (fun j hj => he j (by omega))
  have ok := (innN_ok hw q l k (fun j hj => he j (by omega))).1
  have iv := innN_inv hw h hq hl k (by omega) (fun j hj => he j (by omega))
  have hx := hl _ (getD_mem_iff.2 ⟨k,by omega,rfl⟩)
  exact hin _ q (l.getD k default) ok iv.1 ih (iv.2.q q hq) hx.1 (by rw [iv.2.l q hq]; exact hx.2) (he k (by omega))
include hin hsd in
theorem stepF_P {w : Work} (hw : WkOk w) (h : Inv w) (hp : P w) (e : (stepF w).2.2 = 0) : P (stepF w).1 := by
 by_cases hs : w.scanned < w.queue.length
 ·have hsc := hw.sc
  have hq : addrW w ∈ w.queue := getD_mem_iff.2 ⟨w.scanned.toNat,by omega,rfl⟩
  unfold stepF at e ⊢
  rw [if_pos hs] at e ⊢
  cases hb : (List.range (ptrsW w).length).find? (fun k => decide (innE w (addrW w) (ptrsW w) k ≠ 0)) with
  | none =>
   have h0 : ∀ j,j < (ptrsW w).length → innE w (addrW w) (ptrsW w) j = 0 := fun j hj => by
    have := List.find?_eq_none.1 hb j (List.mem_range.2 hj)
    simpa using this
   exact hsd _ _ (innN_P P hin hw h hp hq (l := ptrsW w) (pointersH_lt (hdW w (addrW w))) (ptrsW w).length (Nat.le_refl _) h0)
  | some k =>
   simp only [hb] at e
   have := (List.find?_range_eq_some.1 hb).1
   simp [e] at this
 ·have e : stepF w = (w,false,0) := by rw [stepF,if_neg hs]
  rw [e]
  exact hp
include hin hsd in
theorem itW_P {w : Work} (hw : WkOk w) (h : Inv w) (hp : P w) : ∀ k,(∀ j,j < k → stopB w j = false) → P (itW w k)
 | 0,_ => hp
 | k + 1,hh => by
  have ih := itW_P hw h hp k (fun j hj => hh j (by omega))
  have ok := (itW_ok hw k (fun j hj => hh j (by omega))).1
  have iv := (itW_inv hw h k (fun j hj => hh j (by omega))).1
  have hk := hh k (by omega)
  simp only [stopB,decide_eq_false_iff_not,not_or,Decidable.not_not] at hk
  exact stepF_P P hin hsd ok iv ih hk.1
include hin hsd in
theorem allF_P {w : Work} (hw : WkOk w) (h : Inv w) (hp : P w) (e : (allF w).2 = 0) : P (allF w).1 := by
 obtain ⟨k,hb⟩ := allF_some hw
 obtain ⟨h1,h2,h3⟩ := List.find?_range_eq_some.1 hb
 have h0 : ∀ j,j < k → stopB w j = false := fun j hj => by simpa using h3 j hj
 unfold allF at e ⊢
 rw [hb] at e ⊢
 simp only at e ⊢
 split at e
 ·rename_i c
  rw [if_pos c]
  exact stepF_P P hin hsd (itW_ok hw k h0).1 (itW_inv hw h k h0).1 (itW_P P hin hsd hw h hp k h0) c
 ·rename_i c
  exact absurd e c
include hf in
theorem rootsN_P {w : Work} {roots : List Int} (hw : WkOk w) (h : Inv w) (hp : P w) : ∀ k,(∀ j,j < k → rootsE w roots j = 0) → P (rootsN w roots k).1
 | 0,_ => hp
 | k + 1,hh => by
  have ih := rootsN_P hw h hp k (fun j hj => hh j (by omega))
  have ok := (rootsN_ok (roots := roots) hw k (fun j hj => hh j (by omega))).1
  have iv := (rootsN_inv (roots := roots) hw h k (fun j hj => hh j (by omega))).1
  exact hf _ _ ok iv ih (hh k (by omega))
include hf in
theorem rootsF_P {w : Work} {roots : List Int} (hw : WkOk w) (h : Inv w) (hp : P w) (e : (rootsF w roots).2.2 = 0) : P (rootsF w roots).1 := by
 unfold rootsF at e ⊢
 cases hb : (List.range roots.length).find? (fun k => decide (rootsE w roots k ≠ 0)) with
 | none =>
  have h0 : ∀ j,j < roots.length → rootsE w roots j = 0 := fun j hj => by
   have := List.find?_eq_none.1 hb j (List.mem_range.2 hj)
   simpa using this
  exact rootsN_P P hf hw h hp roots.length h0
 | some k =>
  simp only [hb] at e
  have := (List.find?_range_eq_some.1 hb).1
  simp [e] at this
include hf hin hsd in
theorem cW2_P {h : Heap} {s : List Int} (hw : WOk h.words) (hp : properB h = true) (h0 : P (beginW h)) (e : (rootsF (beginW h) s).2.2 = 0) (e2 : (allF (rootsF (beginW h) s).1).2 = 0) : P (cW2 h s) := by
 have hb := begin_ok hw hp
 have hi := begin_inv hp
 have ho := rootsF_ok (roots := s) hb hi e
 exact allF_P P hin hsd ho.1 ho.2.1 (rootsF_P P hf hb hi h0 e) e2
end
theorem tailsN_ge {l : List Page} {i k : Nat} (h : ∀ m,m < k → i + 1 + m < l.length ∧ (l.getD (i + 1 + m) default).kind = 3) : k ≤ tailsN l i := by
 by_cases hc : k ≤ tailsN l i
 ·exact hc
 ·have h1 := h (tailsN l i) (by omega)
  exact absurd h1.2 (tail_end h1.1)
theorem PT.flip {c : Conf} {l : List Page} (h : PT c l) {i : Nat} (hi : i < l.length) (hk : (l.getD i default).kind = 2) {s : Int} (hs : 0 ≤ s ∧ s ≤ 1) : PT c (flipP l i (tailsN l i) s) := by
 have hr : ∀ j,i < j → j ≤ i + tailsN l i → (l.getD j default).kind = 3 := fun j h1 h2 => by
  have := (tail_lt (l := l) (i := i) (m := j - i - 1) (by omega)).2
  rwa [show i + 1 + (j - i - 1) = j by omega] at this
 have hg : ∀ j,j < l.length → ((flipP l i (tailsN l i) s).getD j default).kind = (l.getD j default).kind ∧ ((flipP l i (tailsN l i) s).getD j default).used = (l.getD j default).used ∧ ((flipP l i (tailsN l i) s).getD j default).pins = (l.getD j default).pins := fun j hj => by
  rw [flipP_get hj]
  split
  ·exact ⟨rfl,rfl,rfl⟩
  ·exact ⟨rfl,rfl,rfl⟩
 refine ⟨?_, ?_, ?_⟩
 ·intro j hj
  rw [flipP_len] at hj
  have b := h.b j hj
  rw [flipP_get hj]
  split
  ·rename_i hc
   refine ⟨hs,b.n,b.k,fun q => ?_,b.k1,b.k3⟩
   exfalso
   have q' : (l.getD j default).kind = 0 := q
   by_cases hij : j = i
   ·subst hij; omega
   ·have := hr j (by omega) hc.2; omega
  ·exact b
 ·intro j hj hk2
  rw [flipP_len] at hj ⊢
  rw [(hg j hj).1] at hk2
  rw [(hg j hj).2.1]
  have q := h.lg j hj hk2
  refine ⟨q.1,fun m h1 h2 => ?_⟩
  have r := q.2 m h1 h2
  refine ⟨r.1,by rw [(hg _ r.1).1]; exact r.2.1, ?_⟩
  rw [flipP_get r.1,flipP_get hj]
  by_cases hij : j = i
  ·subst hij
   have hT : (need c (l.getD j default).used - 1).toNat ≤ tailsN l j := tailsN_ge fun m' hm' => by
    have := q.2 (m' + 1) (by omega) (by omega)
    rw [show j + 1 + m' = j + (m' + 1) by omega]
    exact ⟨this.1,this.2.1⟩
   rw [if_pos (by omega),if_pos (by omega)]
   rfl
  ·have hj1 : ¬ (i ≤ j ∧ j ≤ i + tailsN l i) := fun hc => by
    have := hr j (by omega) hc.2; omega
   have hj2 : ¬ (i ≤ j + m ∧ j + m ≤ i + tailsN l i) := fun hc => by
    by_cases hlt : j < i
    ·by_cases he : j + m = i
     ·have := r.2.1; rw [he] at this; omega
     ·have := (q.2 (i - j) (by omega) (by omega)).2.1
      rw [show j + (i - j) = i by omega] at this
      omega
    ·omega
   rw [if_neg hj1,if_neg hj2]
   exact r.2.2
 ·intro j hj hk3
  rw [flipP_len] at hj
  rw [(hg j hj).1] at hk3
  obtain ⟨a,a1,a2,a3⟩ := h.tl j hj hk3
  exact ⟨a,a1,by rw [(hg a (by omega)).1]; exact a2,by rw [(hg a (by omega)).2.1]; exact a3⟩
structure Tab (B : Int) (w : Work) : Prop where
 pt : PT w.heap.conf w.heap.pages
 tk : ∀ x ∈ w.taken,(w.heap.pages.getD x.toNat default).space = 1 - w.heap.space
 pin : ∀ p ∈ w.heap.pages,p.pins ≤ B
theorem Tab.withWords {B : Int} {w : Work} (h : Tab B w) (l : List Int) : Tab B ⟨⟨w.heap.conf,l,w.heap.pages,w.heap.space,w.heap.bump⟩,w.old,w.taken,w.queue,w.scanned,w.rep⟩ := ⟨h.pt,h.tk,h.pin⟩
theorem Tab.place {B : Int} (hB : 0 ≤ B) {w : Work} (hw : WkOk w) (h : Tab B w) {n : Int} (hn : 1 ≤ n ∧ n ≤ w.heap.conf.pw) (hc : (w.place n).2.2 = true) : PT (w.place n).1.heap.conf (w.place n).1.heap.pages ∧ (∀ x ∈ (w.place n).1.taken,((w.place n).1.heap.pages.getD x.toNat default).space = 1 - (w.place n).1.heap.space) ∧ ∀ p ∈ (w.place n).1.heap.pages,p.pins ≤ B := by
 have hsp := hw.sp
 by_cases hf : fitsW w n
 ·have e : w.place n = (⟨⟨w.heap.conf,w.heap.words,growP w.heap.pages (lastT w).toNat n,w.heap.space,w.heap.bump⟩,w.old,w.taken,w.queue,w.scanned,w.rep⟩,4096 + lastT w * w.heap.conf.pw + (w.heap.pages.getD (lastT w).toNat default).used,true) := by rw [Work.place,if_pos hf]
  unfold fitsW at hf
  have hm := hw.tk _ (lastT_mem hf.1)
  have hi : (lastT w).toNat < w.heap.pages.length := by omega
  have ok := h.pt.b _ hi
  have u := ok.k1 hm.2.2
  rw [e]
  refine ⟨h.pt.setPage hi (Or.inr hm.2.2) ⟨ok.s,ok.n,ok.k,fun q => by simp only at q; omega,fun _ => by simp only; omega,fun q => by simp only at q; omega⟩ (Or.inr hm.2.2), ?_, ?_⟩
  ·intro x hx
   simp only
   rw [growP_eq,getD_set hi]
   split
   ·rename_i q
    have := h.tk _ (lastT_mem hf.1)
    simp only
    omega
   ·exact h.tk x hx
  ·intro p hp
   rcases List.mem_or_eq_of_mem_set hp with hp | rfl
   ·exact h.pin p hp
   ·exact h.pin (w.heap.pages.getD (lastT w).toNat default) (getD_in hi)
 ·by_cases hg : 0 ≤ firstW w
  ·have e : w.place n = (⟨⟨w.heap.conf,w.heap.words,growP (freshW w) (firstW w).toNat n,w.heap.space,w.heap.bump⟩,w.old,w.taken ++ [firstW w],w.queue,w.scanned,w.rep⟩,4096 + firstW w * w.heap.conf.pw,true) := by rw [Work.place,if_neg hf,if_pos hg]
   obtain ⟨g1,g2,g3⟩ := fresh_grow (h := ⟨w.heap.conf,w.heap.words,w.heap.pages,1 - w.heap.space,w.heap.bump⟩) (by simp only; omega) hg n
   have g1' : growP (freshW w) (firstW w).toNat n = w.heap.pages.set (firstW w).toNat ⟨1,1 - w.heap.space,n,0⟩ := g1
   have g2' : (w.heap.pages.getD (firstW w).toNat default).kind = 0 := g2
   have g3' : (firstW w).toNat < w.heap.pages.length := g3
   rw [e,g1']
   refine ⟨h.pt.setPage g3' (Or.inl g2') ⟨by simp only; omega,by simp,by simp,by simp,fun _ => by simp only; omega,by simp⟩ (Or.inr rfl), ?_, ?_⟩
   ·intro x hx
    simp only at hx ⊢
    rw [getD_set g3']
    split
    ·rfl
    ·rename_i hne
     rcases List.mem_append.1 hx with hx | hx
     ·exact h.tk x hx
     ·simp at hx; subst hx; exact absurd rfl hne
   ·intro p hp
    rcases List.mem_or_eq_of_mem_set hp with hp | rfl
    ·exact h.pin p hp
    ·exact hB
  ·rw [Work.place,if_neg hf,if_neg hg] at hc
   simp at hc
theorem Tab.fwd {B : Int} (hB : 0 ≤ B) (w : Work) (r : Int) (hw : WkOk w) (hi : Inv w) (h : Tab B w) (e : (w.fwd r).2.2 = 0) : Tab B (w.fwd r).1 := by
 unfold Work.fwd at e ⊢
 split at e
 ·rename_i c1
  rw [if_pos c1]
  exact h
 ·rename_i c1
  rw [if_neg c1]
  split at e
  ·simp at e
  ·rename_i c2
   rw [if_neg c2]
   have c2' : r ∈ w.old := Decidable.not_not.1 c2
   split at e
   ·rename_i c3
    rw [if_pos c3]
    exact h
   ·rename_i c3
    rw [if_neg c3]
    split at e
    ·simp at e
    ·rename_i c4
     rw [if_neg c4]
     split at e
     ·rename_i c5
      rw [if_pos c5]
      exact ⟨h.pt,h.tk,h.pin⟩
     ·rename_i c5
      rw [if_neg c5]
      split at e
      ·rename_i c6
       rw [if_pos c6]
       have hsp := hw.sp
       have o := ofA_ok hw.conf (Decidable.not_not.1 c4)
       have hpl := hw.pl
       have hl : pageW' w r < w.heap.pages.length := by unfold pageW'; omega
       refine ⟨h.pt.flip hl c6 (by omega), ?_, ?_⟩
       ·intro x hx
        have t := hw.tk x hx
        simp only [Work.keep,Work.flip]
        rw [flipP_get (by omega)]
        split
        ·rename_i hc
         exfalso
         by_cases hx' : x.toNat = pageW' w r
         ·rw [hx'] at t; omega
         ·have := (tail_lt (l := w.heap.pages) (i := pageW' w r) (m := x.toNat - pageW' w r - 1) (by omega)).2
          rw [show pageW' w r + 1 + (x.toNat - pageW' w r - 1) = x.toNat by omega] at this
          omega
        ·exact h.tk x hx
       ·intro p hp
        simp only [Work.keep,Work.flip,flipP,List.mem_map,List.mem_range] at hp
        obtain ⟨j,hj,rfl⟩ := hp
        split
        ·exact h.pin (w.heap.pages.getD j default) (getD_in hj)
        ·exact h.pin (w.heap.pages.getD j default) (getD_in hj)
      ·rename_i c6
       rw [if_neg c6]
       split at e
       ·simp at e
       ·rename_i c7
        rw [if_neg c7]
        have c7' : (w.place (sizeH (hdW w r))).2.2 = true := by simpa using c7
        have hz := hi.z r c2'
        have hs := sizeH_hdW w r
        have hp : sizeH (hdW w r) ≤ w.heap.conf.pw := by
         rw [hdW_len]
         rcases hz with hz | hz
         ·exact absurd hz c6
         ·exact hz
        obtain ⟨q1,q2,q3⟩ := h.place hB hw ⟨hs.1,hp⟩ c7'
        exact ⟨q1,q2,q3⟩
theorem begin_tab {B : Int} {h : Heap} (hp : properB h = true) (hb : ∀ p ∈ h.pages,p.pins ≤ B) : Tab B (beginW h) := by
 have hp' := hp
 rw [proper_pt] at hp'
 have hs := hp'.2.2.2.1
 refine ⟨?_,by simp [beginW], ?_⟩
 ·refine hp'.2.2.2.2.2.mapPages _ ?_ ?_ ?_ ?_
  ·intro p hp
   unfold begQ
   split
   ·rename_i hc
    exact ⟨by simp only; omega,hp.n,hp.k,fun q => by simp only at q; omega,hp.k1,fun q => by simp only at q; omega⟩
   ·exact hp
  ·intro p hp hk
   unfold begQ at hk ⊢
   split at hk
   ·rename_i hc; simp only at hk; omega
   ·rename_i hc; rw [if_neg hc]; exact ⟨hk,rfl⟩
  ·intro p hp hk
   unfold begQ at hk
   split at hk
   ·rename_i hc; simp only at hk; omega
   ·exact hk
  ·intro p q hp hq h2 h3 he
   have e1 : begQ (1 - h.space) p = p := by rw [begQ,if_neg (by omega)]
   have e2 : begQ (1 - h.space) q = q := by rw [begQ,if_neg (by omega)]
   rw [e1,e2]
   exact ⟨⟨fun _ => h3,fun _ => h2⟩,fun _ => he⟩
 ·intro p hp
  simp only [beginW,List.mem_map] at hp
  obtain ⟨q,hq,rfl⟩ := hp
  unfold begQ
  split
  ·exact hb q hq
  ·exact hb q hq
theorem cW2_tab {B : Int} (hB : 0 ≤ B) {h : Heap} {s : List Int} (hw : WOk h.words) (hp : properB h = true) (hb : ∀ p ∈ h.pages,p.pins ≤ B) (e : (rootsF (beginW h) s).2.2 = 0) (e2 : (allF (rootsF (beginW h) s).1).2 = 0) : Tab B (cW2 h s) :=
 cW2_P (Tab B) (fun w r hw hi h e => h.fwd hB w r hw hi e) (fun w q j hw hi h hq h0 h1 e => (Tab.fwd hB w _ hw hi h e).withWords _) (fun w n h => ⟨h.pt,h.tk,h.pin⟩) hw hp (begin_tab hp hb) e e2
end Go.Proofs.YtolnblaadleknaaGreat
