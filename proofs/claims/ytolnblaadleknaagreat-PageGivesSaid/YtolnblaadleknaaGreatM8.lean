/-
 The statement PageGives: part 8.
 Conditions: none.
-/
import Derived.Test.YtolnblaadleknaaGreatM7
set_option maxRecDepth 100000
set_option maxHeartbeats 2000000
set_option linter.all false
namespace Go.Proofs.YtolnblaadleknaaGreat
open Go.Sx
def asksH (c : Conf) (hd : Header) : Bool := validH hd && decide (hd.kind ≠ 0) && decide (need c (sizeH hd) ≠ -1)
theorem ref7Asks (c : Conf) (hd : Header) (hm : 0 ≤ hd.map ∧ hd.map ≤ 4294967295) : GSpec Tryz.prog 232 [c.av,hd.av] true (bool (asksH c hd)) [] := by
 refine gspec_ofE [((6 : Nat),[Hint.call true (Sx.bool (validH hd)) []]),((15 : Nat),[Hint.call true (int (sizeH hd)) []]),((16 : Nat),[Hint.call true (int (need c (sizeH hd))) []])] [] [] (by decide) Tryz.func232 [false,false,false,false,false,false,false,false,true] (φ := GSpec Tryz.prog 167 [hd.av] true (Sx.bool (validH hd)) [] ∧ ((validH hd && hd.kind != (0 : Int)) = true → GSpec Tryz.prog 94 [hd.av] true (int (sizeH hd)) []) ∧ ((validH hd && hd.kind != (0 : Int)) = true → GSpec Tryz.prog 19 [c.av,int (sizeH hd)] true (int (need c (sizeH hd))) []) ∧ (validH hd && hd.kind != (0 : Int) && need c (sizeH hd) != (-1 : Int)) = asksH c hd) ?_ (by kernel_rfl) (by kernel_rfl)
 exact ⟨(@ref3Valid (hd) ‹_›),(fun hg => by (try simp only [bs] at hg); exact @ref3Size (hd) (by (try simp only [bs] at hg); assumption)),(fun hg => by (try simp only [bs] at hg); exact @refNeed (c) (sizeH hd)),(by grind [asksH])⟩
def growP (l : List Page) (i : Nat) (n : Int) : List Page := l.set i ⟨(l.getD i default).kind,(l.getD i default).space,(l.getD i default).used + n,(l.getD i default).pins⟩
def fitsB (h : Heap) (n : Int) : Prop := 0 ≤ h.bump ∧ (h.pages.getD h.bump.toNat default).space = h.space ∧ (h.pages.getD h.bump.toNat default).used + n ≤ h.conf.pw ∧ (inUse h.pages : Int) ≤ limit h.conf
instance (h : Heap) (n : Int) : Decidable (fitsB h n) := by unfold fitsB; infer_instance
def freshP (h : Heap) : List Page := (smallP h.pages (first h.pages 1) h.space).1
def small7 (h : Heap) (n : Int) : Heap × Int × Bool :=
 if fitsB h n then (⟨h.conf,h.words,growP h.pages h.bump.toNat n,h.space,h.bump⟩,4096 + h.bump * h.conf.pw + (h.pages.getD h.bump.toNat default).used,true)
 else if 0 ≤ first h.pages 1 ∧ (inUse h.pages : Int) < limit h.conf then
  (⟨h.conf,h.words,growP (freshP h) (first h.pages 1).toNat n,h.space,first h.pages 1⟩,4096 + first h.pages 1 * h.conf.pw + ((freshP h).getD (first h.pages 1).toNat default).used,true)
 else (noHeap,0,false)
theorem tookP_len {l : List Page} {i k : Nat} {p q : Page} (h : i + k ≤ l.length) : (tookP l i k p q).length = l.length := by
 rw [tookP,List.length_set]
 exact wr_len (by simpa using h) (by simp)
theorem freshP_ok {h : Heap} (hs : h.space = 0 ∨ h.space = 1) (hf : 0 ≤ first h.pages 1) : freshP h = tookP h.pages (first h.pages 1).toNat 1 ⟨1,h.space,0,0⟩ ⟨0,0,0,0⟩ ∧ (freshP h).length = h.pages.length ∧ (first h.pages 1) < h.pages.length ∧
  ((freshP h).getD (first h.pages 1).toNat default) = ⟨1,h.space,0,0⟩ := by
 obtain ⟨_,h1,h2⟩ := first_free hf
 have e : freshP h = tookP h.pages (first h.pages 1).toNat 1 ⟨1,h.space,0,0⟩ ⟨0,0,0,0⟩ := by
  rw [freshP,smallP,if_pos (by omega),takeP,if_pos (by omega),if_pos h2]
  rfl
 have hl : (freshP h).length = h.pages.length := by rw [e]; exact tookP_len (by omega)
 refine ⟨e,hl,by omega, ?_⟩
 rw [e,tookP,List.getD_eq_getElem?_getD,List.getElem?_set,if_pos rfl,if_pos (by rw [wr_len (by simp; omega) (by simp)]; omega)]
 rfl
theorem limit_le {c : Conf} (hv : validB c = true) : 2 ≤ limit c ∧ limit c ≤ 16 := by
 have := validB_iff.1 hv
 rw [limit,if_pos hv,tdivI (by omega)]
 omega
theorem at_page {c : Conf} {i : Int} (hv : validB c = true) (h0 : 0 ≤ i) (h1 : i < c.pg) : 0 ≤ i * c.pw ∧ i * c.pw + c.pw ≤ 4096 := by
 have hb := validB_iff.1 hv
 have ha := area hv
 have h2 : 0 ≤ i * c.pw := Int.mul_nonneg h0 (by omega)
 have h3 : (i + 1) * c.pw ≤ c.pg * c.pw := Int.mul_le_mul_of_nonneg_right (by omega) (by omega)
 rw [Int.add_mul,Int.one_mul,Int.mul_comm c.pg] at h3
 omega
theorem ref7Small (h : Heap) (n : Int) (hp : properB h = true) (hn : 1 ≤ n ∧ n ≤ 256) : GSpec Tryz.prog 233 [h.av,int n] false (.tu [(small7 h n).1.av,u64 (small7 h n).2.1,bool (small7 h n).2.2]) [] := by
 have po := proper_ok hp
 obtain ⟨o1,o2,o3,o4,o5,o6,o7,o8,o9⟩ := po
 have hb := (properB_iff.1 hp).2.2.2.2.1
 have hpg := fun hj => proper_page hp (j := h.bump.toNat) hj
 have hr := first_range h.pages 1
 have hfo := fun hf => freshP_ok (h := h) o9 hf
 have hiu := inUseN_range h.pages
 have hli := limit_le o1
 have hm1 : 0 ≤ h.bump → 0 ≤ h.bump * h.conf.pw ∧ h.bump * h.conf.pw + h.conf.pw ≤ 4096 := fun h0 => at_page o1 h0 (by omega)
 have hm2 : 0 ≤ first h.pages 1 → 0 ≤ first h.pages 1 * h.conf.pw ∧ first h.pages 1 * h.conf.pw + h.conf.pw ≤ 4096 := fun h0 => at_page o1 h0 (by have := hfo h0; omega)
 by_cases hf : fitsB h n
 ·have e7 : small7 h n = (⟨h.conf,h.words,growP h.pages h.bump.toNat n,h.space,h.bump⟩,4096 + h.bump * h.conf.pw + (h.pages.getD h.bump.toNat default).used,true) := by rw [small7,if_pos hf]
  unfold fitsB at hf
  rw [e7]
  exact gF [] Tryz.func233 [false,false,false,false,false,false,false,false,false,false,false,false,false,false,false,false,false,false,false,false,false,false,false,false,false] (Fs 11 (List.map Page.dv []) (Fa (by (simp [*]; omega) : (List.map Page.dv []).length + (List.map Page.dv h.pages).length≤2 ^ 30) (Fs 14 (List.map Page.dv h.pages) (Fc 18 (@refLimit h.conf) (Fc 21 (@refInUse h.pages (by omega)) (FmG 32 (!decide (h.bump < 0)) Page.dv h.pages h.bump h.bump.toNat (FmG 43 (!(decide (h.bump < 0)||(h.pages.getD h.bump.toNat default).space != h.space)) Page.dv h.pages h.bump h.bump.toNat (FiG 45 (!(decide (h.bump < 0)||(h.pages.getD h.bump.toNat default).space != h.space)) ((h.pages.getD h.bump.toNat default).used + n) (Ffb 55 (decide (h.bump < 0)||(h.pages.getD h.bump.toNat default).space != h.space||decide (h.conf.pw < (h.pages.getD h.bump.toNat default).used + n)||decide (limit h.conf < (↑(inUse h.pages) : Int))) (Fi 83 (h.bump * h.conf.pw) (Fi 84 (4096 + h.bump * h.conf.pw) (Fm 90 Page.dv h.pages h.bump h.bump.toNat (Fi 91 (4096 + h.bump * h.conf.pw + (h.pages.getD h.bump.toNat default).used) (Fv 92 (4096 + h.bump * h.conf.pw + (h.pages.getD h.bump.toNat default).used) (Fm 101 Page.dv h.pages h.bump h.bump.toNat (Fi 103 ((h.pages.getD h.bump.toNat default).used + n) (Fm0 Page.dv h.pages h.bump h.bump.toNat (FS 10105 Page.dv h.pages h.bump.toNat (Page.mk (h.pages.getD h.bump.toNat default).kind (h.pages.getD h.bump.toNat default).space ((h.pages.getD h.bump.toNat default).used + n) (h.pages.getD h.bump.toNat default).pins) ((h.pages.getD h.bump.toNat default).dv) Fz))))))))))))))))))
 ·by_cases hg : 0 ≤ first h.pages 1 ∧ (inUse h.pages : Int) < limit h.conf
  ·have e7 : small7 h n = (⟨h.conf,h.words,growP (freshP h) (first h.pages 1).toNat n,h.space,first h.pages 1⟩,4096 + first h.pages 1 * h.conf.pw + ((freshP h).getD (first h.pages 1).toNat default).used,true) := by rw [small7,if_neg hf,if_pos hg]
   obtain ⟨q1,q2,q3,q4⟩ := hfo hg.1
   obtain ⟨r1,r2,r3⟩ := first_free hg.1
   have r4 : freeK h.pages (first h.pages 1).toNat 1 = true := r3
   rw [q1] at e7 q2 q4
   have q6 := congrArg Page.used q4
   simp only at q6
   unfold fitsB at hf
   rw [e7]
   exact gF [] Tryz.func233 [false,false,false,false,false,false,false,false,false,false,false,false,false,false,false,false,false,false,false,false,false,false,false,false,false,false,false,false] (Fh 90 [.el ((tookP h.pages (first h.pages 1).toNat 1 (Page.mk 1 h.space 0 0) (Page.mk 0 0 0 0)).getD (first h.pages 1).toNat default).dv] (Fh 101 [.el ((tookP h.pages (first h.pages 1).toNat 1 (Page.mk 1 h.space 0 0) (Page.mk 0 0 0 0)).getD (first h.pages 1).toNat default).dv] (Fs 11 (List.map Page.dv []) (Fa (by (simp [*]; omega) : (List.map Page.dv []).length + (List.map Page.dv h.pages).length≤2 ^ 30) (Fs 14 (List.map Page.dv h.pages) (Fc 18 (@refLimit h.conf) (Fc 21 (@refInUse h.pages (by omega)) (FmG 32 (!decide (h.bump < 0)) Page.dv h.pages h.bump h.bump.toNat (FmG 43 (!(decide (h.bump < 0)||(h.pages.getD h.bump.toNat default).space != h.space)) Page.dv h.pages h.bump h.bump.toNat (FiG 45 (!(decide (h.bump < 0)||(h.pages.getD h.bump.toNat default).space != h.space)) ((h.pages.getD h.bump.toNat default).used + n) (Ftb 55 (decide (h.bump < 0)||(h.pages.getD h.bump.toNat default).space != h.space||decide (h.conf.pw < (h.pages.getD h.bump.toNat default).used + n)||decide (limit h.conf < (↑(inUse h.pages) : Int))) (Fc 58 (@refFirst h.pages (1) (by omega)) (Ffb 65 (decide (first h.pages (1 :Int) < 0)||decide (limit h.conf≤(↑(inUse h.pages) : Int))) (Fc 73 (@ref4SmallN h.pages (first h.pages 1) h.space (by omega) (by omega) (by omega) ‹_›) (Fi 83 (first h.pages 1 * h.conf.pw) (Fi 84 (4096 + first h.pages 1 * h.conf.pw) (Fa (by (simp [*]; omega) : 0≤first h.pages 1∧(first h.pages 1).toNat < (List.map Page.dv (tookP h.pages (first h.pages 1).toNat 1 (Page.mk 1 h.space 0 0) (Page.mk 0 0 0 0))).length) (Fa (by grind [] : (List.map Page.dv (tookP h.pages (first h.pages 1).toNat 1 (Page.mk 1 h.space 0 0) (Page.mk 0 0 0 0)))[(first h.pages 1).toNat]? = some ((tookP h.pages (first h.pages 1).toNat 1 (Page.mk 1 h.space 0 0) (Page.mk 0 0 0 0)).getD (first h.pages 1).toNat default).dv) (Fi 91 (4096 + first h.pages 1 * h.conf.pw + ((tookP h.pages (first h.pages 1).toNat 1 (Page.mk 1 h.space 0 0) (Page.mk 0 0 0 0)).getD (first h.pages 1).toNat default).used) (Fv 92 (4096 + first h.pages 1 * h.conf.pw + ((tookP h.pages (first h.pages 1).toNat 1 (Page.mk 1 h.space 0 0) (Page.mk 0 0 0 0)).getD (first h.pages 1).toNat default).used) (Fa (by (simp [*]; omega) : 0≤first h.pages 1∧(first h.pages 1).toNat < (List.map Page.dv (tookP h.pages (first h.pages 1).toNat 1 (Page.mk 1 h.space 0 0) (Page.mk 0 0 0 0))).length) (Fa (by grind [] : (List.map Page.dv (tookP h.pages (first h.pages 1).toNat 1 (Page.mk 1 h.space 0 0) (Page.mk 0 0 0 0)))[(first h.pages 1).toNat]? = some ((tookP h.pages (first h.pages 1).toNat 1 (Page.mk 1 h.space 0 0) (Page.mk 0 0 0 0)).getD (first h.pages 1).toNat default).dv) (Fi 103 (((tookP h.pages (first h.pages 1).toNat 1 (Page.mk 1 h.space 0 0) (Page.mk 0 0 0 0)).getD (first h.pages 1).toNat default).used + n) (Fa (by (simp [*]; omega) : 0≤first h.pages 1∧(first h.pages 1).toNat < (List.map Page.dv (tookP h.pages (first h.pages 1).toNat 1 (Page.mk 1 h.space 0 0) (Page.mk 0 0 0 0))).length) (Fa (by grind [] : (List.map Page.dv (tookP h.pages (first h.pages 1).toNat 1 (Page.mk 1 h.space 0 0) (Page.mk 0 0 0 0)))[(first h.pages 1).toNat]? = some ((tookP h.pages (first h.pages 1).toNat 1 (Page.mk 1 h.space 0 0) (Page.mk 0 0 0 0)).getD (first h.pages 1).toNat default).dv) (FS 10105 Page.dv (tookP h.pages (first h.pages 1).toNat 1 (Page.mk 1 h.space 0 0) (Page.mk 0 0 0 0)) ((first h.pages 1).toNat) (Page.mk ((tookP h.pages (first h.pages 1).toNat 1 (Page.mk 1 h.space 0 0) (Page.mk 0 0 0 0)).getD (first h.pages 1).toNat default).kind ((tookP h.pages (first h.pages 1).toNat 1 (Page.mk 1 h.space 0 0) (Page.mk 0 0 0 0)).getD (first h.pages 1).toNat default).space (((tookP h.pages (first h.pages 1).toNat 1 (Page.mk 1 h.space 0 0) (Page.mk 0 0 0 0)).getD (first h.pages 1).toNat default).used + n) ((tookP h.pages (first h.pages 1).toNat 1 (Page.mk 1 h.space 0 0) (Page.mk 0 0 0 0)).getD (first h.pages 1).toNat default).pins) (((tookP h.pages (first h.pages 1).toNat 1 (Page.mk 1 h.space 0 0) (Page.mk 0 0 0 0)).getD (first h.pages 1).toNat default).dv) Fz))))))))))))))))))))))))))
  ·have e7 : small7 h n = (noHeap,0,false) := by rw [small7,if_neg hf,if_neg hg]
   unfold fitsB at hf
   rw [e7]
   exact gF [] Tryz.func233 [false,false,false,false,false,false,false,false,false,false,false,false,false,false,false,false,false,false,false,false,false,false,false,false,false,false,false,false] (Fs 11 (List.map Page.dv []) (Fa (by (simp [noHeap, *]; omega) : (List.map Page.dv []).length + (List.map Page.dv h.pages).length≤2 ^ 30) (Fs 14 (List.map Page.dv h.pages) (Fc 18 (@refLimit h.conf) (Fc 21 (@refInUse h.pages (by omega)) (FmG 32 (!decide (h.bump < 0)) Page.dv h.pages h.bump h.bump.toNat (FmG 43 (!(decide (h.bump < 0)||(h.pages.getD h.bump.toNat default).space != h.space)) Page.dv h.pages h.bump h.bump.toNat (FiG 45 (!(decide (h.bump < 0)||(h.pages.getD h.bump.toNat default).space != h.space)) ((h.pages.getD h.bump.toNat default).used + n) (Ftb 55 (decide (h.bump < 0)||(h.pages.getD h.bump.toNat default).space != h.space||decide (h.conf.pw < (h.pages.getD h.bump.toNat default).used + n)||decide (limit h.conf < (↑(inUse h.pages) : Int))) (Fc 58 (@refFirst h.pages (1) (by omega)) (Ftb 65 (decide (first h.pages (1 :Int) < 0)||decide (limit h.conf≤(↑(inUse h.pages) : Int))) (Fnl (Fnl Fz)))))))))))))
def large7 (h : Heap) (n k : Int) : Heap × Int × Bool :=
 if 0 ≤ first h.pages k ∧ inUse h.pages + k ≤ limit h.conf then (⟨h.conf,h.words,(largeP h.conf h.pages (first h.pages k) h.space n).1,h.space,h.bump⟩,4096 + first h.pages k * h.conf.pw,true) else (noHeap,0,false)
theorem ref7Large (h : Heap) (n k : Int) (hp : properB h = true) (hk : k = need h.conf n) (hk1 : 1 ≤ k) : GSpec Tryz.prog 234 [h.av,int n,int k] false (.tu [(large7 h n k).1.av,u64 (large7 h n k).2.1,bool (large7 h n k).2.2]) [] := by
 have po := proper_ok hp
 obtain ⟨o1,o2,o3,o4,o5,o6,o7,o8,o9⟩ := po
 have hr := first_range h.pages k
 have hff : 0 ≤ first h.pages k → first h.pages k + k ≤ h.pages.length := fun hf => (first_free hf).2.1
 have hiu := inUseN_range h.pages
 have hli := limit_le o1
 have hnr := need_range h.conf n
 have hm2 : 0 ≤ first h.pages k → 0 ≤ first h.pages k * h.conf.pw ∧ first h.pages k * h.conf.pw + h.conf.pw ≤ 4096 := fun h0 => at_page o1 h0 (by have := hff h0; omega)
 by_cases hg : 0 ≤ first h.pages k ∧ inUse h.pages + k ≤ limit h.conf
 ·have e7 : large7 h n k = (⟨h.conf,h.words,(largeP h.conf h.pages (first h.pages k) h.space n).1,h.space,h.bump⟩,4096 + first h.pages k * h.conf.pw,true) := by rw [large7,if_pos hg]
  rw [e7]
  exact gF [] Tryz.func234 [false,false,false,false,false,false,false,false,false,false] (Fc 13 (@refFirst h.pages k (by omega)) (FcG 19 (!decide (first h.pages k < 0)) (fun hg => by (try simp only [bs] at hg); exact @refInUse h.pages (by (try simp only [bs] at hg); omega)) (FiG 21 (!decide (first h.pages k < 0)) ((↑(inUse h.pages) : Int) + k) (FcG 24 (!decide (first h.pages k < 0)) (fun hg => by (try simp only [bs] at hg); exact @refLimit h.conf) (Ffb 26 (decide (first h.pages k < 0)||decide (limit h.conf < (↑(inUse h.pages) : Int) + k)) (Fc 37 (@ref4Large h.conf h.pages (first h.pages k) h.space n (by omega)) (Fi 46 (first h.pages k * h.conf.pw) (Fi 47 (4096 + first h.pages k * h.conf.pw) (Fv 48 (4096 + first h.pages k * h.conf.pw) Fz)))))))))
 ·have e7 : large7 h n k = (noHeap,0,false) := by rw [large7,if_neg hg]
  rw [e7]
  exact gF [] Tryz.func234 [false,false,false,false,false,false,false,false,false,false] (Fc 13 (@refFirst h.pages k (by omega)) (FcG 19 (!decide (first h.pages k < 0)) (fun hg => by (try simp only [bs] at hg); exact @refInUse h.pages (by (try simp only [bs] at hg); omega)) (FiG 21 (!decide (first h.pages k < 0)) ((↑(inUse h.pages) : Int) + k) (FcG 24 (!decide (first h.pages k < 0)) (fun hg => by (try simp only [bs] at hg); exact @refLimit h.conf) (Ftb 26 (decide (first h.pages k < 0)||decide (limit h.conf < (↑(inUse h.pages) : Int) + k)) (Fnl (Fnl Fz)))))))
theorem small7_facts {h : Heap} {n : Int} (hp : properB h = true) (hn : 1 ≤ n ∧ n ≤ 256) : 0 ≤ (small7 h n).2.1 ∧ (small7 h n).2.1 ≤ 8192 ∧ ((small7 h n).2.2 = true → (small7 h n).1.words = h.words ∧ 4096 ≤ (small7 h n).2.1) ∧ ((small7 h n).2.2 = false → (small7 h n).1 = noHeap) := by
 obtain ⟨o1,o2,o3,o4,o5,o6,o7,o8,o9⟩ := proper_ok hp
 have hb := (properB_iff.1 hp).2.2.2.2.1
 have hpg := fun hj => proper_page hp (j := h.bump.toNat) hj
 have hfo := fun hf => freshP_ok (h := h) o9 hf
 have hm1 : 0 ≤ h.bump → 0 ≤ h.bump * h.conf.pw ∧ h.bump * h.conf.pw + h.conf.pw ≤ 4096 := fun h0 => at_page o1 h0 (by omega)
 have hm2 : 0 ≤ first h.pages 1 → 0 ≤ first h.pages 1 * h.conf.pw ∧ first h.pages 1 * h.conf.pw + h.conf.pw ≤ 4096 := fun h0 => at_page o1 h0 (by have := hfo h0; omega)
 unfold small7
 split
 ·rename_i hf
  unfold fitsB at hf
  have h1 := hm1 hf.1
  have h2 := hpg (by omega)
  refine ⟨by simp only; omega,by simp only; omega,fun _ => ⟨rfl,by simp only; omega⟩,fun e => by cases e⟩
 ·split
  ·rename_i hg
   have h1 := hm2 hg.1
   have h2 := congrArg Page.used (hfo hg.1).2.2.2
   simp only at h2
   refine ⟨by simp only; omega,by simp only; omega,fun _ => ⟨rfl,by simp only; omega⟩,fun e => by cases e⟩
  ·exact ⟨by simp,by simp,(fun e => nomatch e),fun _ => rfl⟩
theorem large7_facts {h : Heap} {n k : Int} (hp : properB h = true) : 0 ≤ (large7 h n k).2.1 ∧ (large7 h n k).2.1 ≤ 8192 ∧ ((large7 h n k).2.2 = true → (large7 h n k).1.words = h.words ∧ 4096 ≤ (large7 h n k).2.1) ∧ ((large7 h n k).2.2 = false → (large7 h n k).1 = noHeap) := by
 obtain ⟨o1,o2,o3,o4,o5,o6,o7,o8,o9⟩ := proper_ok hp
 unfold large7
 split
 ·rename_i hg
  have h3 := (first_free hg.1)
  have h1 := at_page (c := h.conf) (i := first h.pages k) o1 hg.1 (by omega)
  exact ⟨by simp only; omega,by simp only; omega,fun _ => ⟨rfl,by simp only; omega⟩,fun e => by cases e⟩
 ·exact ⟨by simp,by simp,(fun e => nomatch e),fun _ => rfl⟩
def put7 (h : Heap) (hd : Header) : Heap × Int × Bool := if 0 < need h.conf (sizeH hd) then large7 h (sizeH hd) (need h.conf (sizeH hd)) else small7 h (sizeH hd)
def new7 (h : Heap) (hd : Header) : Heap × Int × Int :=
 if properB h = true ∧ asksH h.conf hd = true then (if (put7 h hd).2.2 = true then ((initH (put7 h hd).1 (put7 h hd).2.1 hd).1,(put7 h hd).2.1,0) else (noHeap,0,3)) else (noHeap,0,1)
theorem wok_nil : WOk [] := fun w h => by simp at h
theorem asksH_ok {c : Conf} {hd : Header} (h : asksH c hd = true) : validH hd = true ∧ 1 ≤ sizeH hd ∧ sizeH hd ≤ 256 ∧ 0 ≤ need c (sizeH hd) ∧ hd.kind ≠ 0 := by
 simp only [asksH,Bool.and_eq_true,decide_eq_true_eq] at h
 have hv := validH_iff.1 h.1.1
 have hn := need_range c (sizeH hd)
 have hs : sizeH hd = hd.length + 1 := by rw [sizeH,if_pos h.1.1]
 exact ⟨h.1.1,by omega,by omega,by omega,h.1.2⟩
theorem ref7New (h : Heap) (hd : Header) (hw : WOk h.words) (hm : 0 ≤ hd.map ∧ hd.map ≤ 4294967295) : GSpec Tryz.prog 190 [h.av,hd.av] false (.tu [(new7 h hd).1.av,u64 (new7 h hd).2.1,int (new7 h hd).2.2]) [] := by
 by_cases hp : properB h = true
 ·cases ha : asksH h.conf hd with
  | false =>
   have e7 : new7 h hd = (noHeap,0,1) := by rw [new7,if_neg (by rw [ha]; simp)]
   rw [e7]
   exact gF [] Tryz.func190 [false,false,false,false,false,false] (Fc 13 (@ref4Proper h) (FcG 19 (!!properB h) (fun hg => by (try simp only [bs] at hg); exact @ref7Asks h.conf hd (by (try simp only [bs] at hg); assumption)) (Ft 21 (by simp [noHeap, *] : (!properB h||!asksH h.conf hd)=true) (Fnl (Fnl Fz)))))
  | true =>
   obtain ⟨a1,a2,a3,a4,a5⟩ := asksH_ok ha
   have f1 := small7_facts hp ⟨a2,a3⟩
   have f2 := large7_facts (n := sizeH hd) (k := need h.conf (sizeH hd)) hp
   have w1 : WOk (small7 h (sizeH hd)).1.words := by
    cases e : (small7 h (sizeH hd)).2.2 with
    | true => rw [(f1.2.2.1 e).1]; exact hw
    | false => rw [f1.2.2.2 e]; exact wok_nil
   have w2 : WOk (large7 h (sizeH hd) (need h.conf (sizeH hd))).1.words := by
    cases e : (large7 h (sizeH hd) (need h.conf (sizeH hd))).2.2 with
    | true => rw [(f2.2.2.1 e).1]; exact hw
    | false => rw [f2.2.2.2 e]; exact wok_nil
   by_cases hn : 0 < need h.conf (sizeH hd)
   ·have e7 : put7 h hd = large7 h (sizeH hd) (need h.conf (sizeH hd)) := by rw [put7,if_pos hn]
    have Q0 {h_ c_ p_} (r_ : Fq h_ c_ p_) := Fc 13 (@ref4Proper h) (FcG 19 (!!properB h) (fun hg => by (try simp only [bs] at hg); exact @ref7Asks h.conf hd (by (try simp only [bs] at hg); assumption)) (Ff 21 (by simp [new7,e7,noHeap, *] : (!properB h||!asksH h.conf hd)=false) (Fc 24 (@ref3Size hd ‹_›) (Fc 28 (@refNeed h.conf (sizeH hd)) (Fc 32 (@ref7Small h (sizeH hd) ‹_› (by omega)) (Ftb 37 (decide (0 < need h.conf (sizeH hd))) (Fc 42 (@ref7Large h (sizeH hd) (need h.conf (sizeH hd)) ‹_› (by rfl) ‹_›) r_)))))))
    rcases bb (!(large7 h (sizeH hd) (need h.conf (sizeH hd))).snd.snd) with hc0 | hc0<;>have hc0p:=hc0<;>simp only [bs] at hc0p
    ·exact gF [] Tryz.func190 [false,false,false,false,false,true] (Q0 (Ft 47 hc0 (Fnl (Fnl (Fa (by simp [new7,e7,noHeap, *] : 0 =(new7 h hd).fst.conf.pw) (Fa (by simp [new7,e7,noHeap, *] : 0 =(new7 h hd).fst.conf.pg) (Fa (by simp [new7,e7,noHeap, *] : [] =List.map wdv (new7 h hd).fst.words) (Fa (by simp [new7,e7,noHeap, *] : [] =List.map Page.dv (new7 h hd).fst.pages) (Fa (by simp [new7,e7,noHeap, *] : 0 =(new7 h hd).fst.space) (Fa (by simp [new7,e7,noHeap, *] : 0 =(new7 h hd).fst.bump) (Fa (by simp [new7,e7,noHeap, *] : 0 =(new7 h hd).snd.fst) (Fa (by simp [new7,e7,noHeap, *] : 3 =(new7 h hd).snd.snd) Fz))))))))))))
    ·exact gF [] Tryz.func190 [false,false,false,false,false,true] (Q0 (Ff 47 hc0 (Fc 53 (@ref5Init ((large7 h (sizeH hd) (need h.conf (sizeH hd))).fst) ((large7 h (sizeH hd) (need h.conf (sizeH hd))).snd.fst) hd ‹_› (by omega) ‹_›) (Fa (by simp [new7,e7,noHeap, *] : (initH (large7 h (sizeH hd) (need h.conf (sizeH hd))).fst (large7 h (sizeH hd) (need h.conf (sizeH hd))).snd.fst hd).fst.conf.pw =(new7 h hd).fst.conf.pw) (Fa (by simp [new7,e7,noHeap, *] : (initH (large7 h (sizeH hd) (need h.conf (sizeH hd))).fst (large7 h (sizeH hd) (need h.conf (sizeH hd))).snd.fst hd).fst.conf.pg =(new7 h hd).fst.conf.pg) (Fa (by refine congrArg _ ?_; simp [new7,e7,noHeap, *] : List.map wdv (initH (large7 h (sizeH hd) (need h.conf (sizeH hd))).fst (large7 h (sizeH hd) (need h.conf (sizeH hd))).snd.fst hd).fst.words =List.map wdv (new7 h hd).fst.words) (Fa (by refine congrArg _ ?_; simp [new7,e7,noHeap, *] : List.map Page.dv (initH (large7 h (sizeH hd) (need h.conf (sizeH hd))).fst (large7 h (sizeH hd) (need h.conf (sizeH hd))).snd.fst hd).fst.pages =List.map Page.dv (new7 h hd).fst.pages) (Fa (by simp [new7,e7,noHeap, *] : (initH (large7 h (sizeH hd) (need h.conf (sizeH hd))).fst (large7 h (sizeH hd) (need h.conf (sizeH hd))).snd.fst hd).fst.space =(new7 h hd).fst.space) (Fa (by simp [new7,e7,noHeap, *] : (initH (large7 h (sizeH hd) (need h.conf (sizeH hd))).fst (large7 h (sizeH hd) (need h.conf (sizeH hd))).snd.fst hd).fst.bump =(new7 h hd).fst.bump) (Fa (by simp [new7,e7,noHeap, *] : (large7 h (sizeH hd) (need h.conf (sizeH hd))).snd.fst =(new7 h hd).snd.fst) (Fa (by simp [new7,e7,noHeap, *] : 0 =(new7 h hd).snd.snd) Fz)))))))))))
   ·have e7 : put7 h hd = small7 h (sizeH hd) := by rw [put7,if_neg hn]
    have Q1 {h_ c_ p_} (r_ : Fq h_ c_ p_) := Fc 13 (@ref4Proper h) (FcG 19 (!!properB h) (fun hg => by (try simp only [bs] at hg); exact @ref7Asks h.conf hd (by (try simp only [bs] at hg); assumption)) (Ff 21 (by simp [new7,e7,noHeap, *] : (!properB h||!asksH h.conf hd)=false) (Fc 24 (@ref3Size hd ‹_›) (Fc 28 (@refNeed h.conf (sizeH hd)) (Fc 32 (@ref7Small h (sizeH hd) ‹_› (by omega)) (Ffb 37 (decide (0 < need h.conf (sizeH hd))) r_))))))
    rcases bb (!(small7 h (sizeH hd)).snd.snd) with hc0 | hc0<;>have hc0p:=hc0<;>simp only [bs] at hc0p
    ·exact gF [] Tryz.func190 [false,false,false,false,false,true] (Q1 (Ft 47 hc0 (Fnl (Fnl (Fa (by simp [new7,e7,noHeap, *] : 0 =(new7 h hd).fst.conf.pw) (Fa (by simp [new7,e7,noHeap, *] : 0 =(new7 h hd).fst.conf.pg) (Fa (by simp [new7,e7,noHeap, *] : [] =List.map wdv (new7 h hd).fst.words) (Fa (by simp [new7,e7,noHeap, *] : [] =List.map Page.dv (new7 h hd).fst.pages) (Fa (by simp [new7,e7,noHeap, *] : 0 =(new7 h hd).fst.space) (Fa (by simp [new7,e7,noHeap, *] : 0 =(new7 h hd).fst.bump) (Fa (by simp [new7,e7,noHeap, *] : 0 =(new7 h hd).snd.fst) (Fa (by simp [new7,e7,noHeap, *] : 3 =(new7 h hd).snd.snd) Fz))))))))))))
    ·exact gF [] Tryz.func190 [false,false,false,false,false,true] (Q1 (Ff 47 hc0 (Fc 53 (@ref5Init ((small7 h (sizeH hd)).fst) ((small7 h (sizeH hd)).snd.fst) hd ‹_› (by omega) ‹_›) (Fa (by simp [new7,e7,noHeap, *] : (initH (small7 h (sizeH hd)).fst (small7 h (sizeH hd)).snd.fst hd).fst.conf.pw =(new7 h hd).fst.conf.pw) (Fa (by simp [new7,e7,noHeap, *] : (initH (small7 h (sizeH hd)).fst (small7 h (sizeH hd)).snd.fst hd).fst.conf.pg =(new7 h hd).fst.conf.pg) (Fa (by refine congrArg _ ?_; simp [new7,e7,noHeap, *] : List.map wdv (initH (small7 h (sizeH hd)).fst (small7 h (sizeH hd)).snd.fst hd).fst.words =List.map wdv (new7 h hd).fst.words) (Fa (by refine congrArg _ ?_; simp [new7,e7,noHeap, *] : List.map Page.dv (initH (small7 h (sizeH hd)).fst (small7 h (sizeH hd)).snd.fst hd).fst.pages =List.map Page.dv (new7 h hd).fst.pages) (Fa (by simp [new7,e7,noHeap, *] : (initH (small7 h (sizeH hd)).fst (small7 h (sizeH hd)).snd.fst hd).fst.space =(new7 h hd).fst.space) (Fa (by simp [new7,e7,noHeap, *] : (initH (small7 h (sizeH hd)).fst (small7 h (sizeH hd)).snd.fst hd).fst.bump =(new7 h hd).fst.bump) (Fa (by simp [new7,e7,noHeap, *] : (small7 h (sizeH hd)).snd.fst =(new7 h hd).snd.fst) (Fa (by simp [new7,e7,noHeap, *] : 0 =(new7 h hd).snd.snd) Fz)))))))))))
 ·have hf : properB h = false := by simpa using hp
  have e7 : new7 h hd = (noHeap,0,1) := by rw [new7,if_neg (by rw [hf]; simp)]
  rw [e7]
  exact gF [] Tryz.func190 [false,false,false,false,false,false] (Fc 13 (@ref4Proper h) (FcG 19 (!!properB h) (fun hg => by (try simp only [bs] at hg); exact @ref7Asks h.conf hd (by (try simp only [bs] at hg); assumption)) (Ft 21 (by simp [noHeap, *] : (!properB h||!asksH h.conf hd)=true) (Fnl (Fnl Fz)))))
end Go.Proofs.YtolnblaadleknaaGreat
namespace Go.Sx
def finP1 (H : Heap) (x : AV) : Option AV := match x with
 | .d x => some (.d x)
 | .rp e o => some (.rp e o)
 | .ow b => match Nat.ble 8000 b with
  | true => match H b with | some (.arr _ s els) => some (.d (.sl s els)) | _ => none
  | false => none
 | .os b o n => match Nat.ble 8000 b with
  | true => match H b with | some (.arr _ s els) => some (.d (.sl s ((els.drop o).take n))) | _ => none
  | false => none
 | _ => none
def finPL (f : AV → Option AV) : List AV → Option (List AV)
 | [] => some []
 | a :: l => match f a,finPL f l with
  | some x,some r => some (x :: r)
  | _,_ => none
def finPA (H : Heap) (a : AV) : Option AV := match a with
 | .ag l => match finPL (finP1 H) l with | some r => some (.ag r) | none => none
 | .ic t x => match finP1 H x with | some r => some (.ic t r) | none => none
 | x => finP1 H x
def finPT (H : Heap) (a : AV) : Option AV := match a with
 | .tu l => match finPL (finPA H) l with | some r => some (.tu r) | none => none
 | x => finPA H x
def isArgL (x : AV) : Bool := match x with
 | .pt 0 0 0 => true
 | x => isPure x
def runL (P : Program) (hints : List (Nat × List Hint)) (cuts : List (Nat × Tg × Ex × Tg)) (fn : Func) (args : List AV) (pre : Blk) (res : AV) (post : Blk) : Option Run :=
 match fn.body with
 | none => none
 | some c => match args.all isArgL with
  | false => none
  | true => match runC P hints cuts c ⟨args ++ List.replicate (fn.ntmps - args.length) .any,hOf [(0,pre)],1⟩ with
   | none => none
   | some r => match r.e with
    | .ext _ => none
    | _ => match resAll P r.s.tmps r.s.H fn.results.toList with
     | none => none
     | some l => match finPT r.s.H (resV l),r.s.H 0,pre,post with
      | some x,some (.box ty cells),.box _ cells0,.box ty1 cells1 => match finPL (finP1 r.s.H) cells with
       | some cs => match Nat.beq cells.length cells0.length with
        | true => some ⟨r.e,r.s,r.ph ++ ((coeT x res).2 ++ (coeL coe1 cs cells1).2),r.eq ++ [((coeT x res).1,res),(encB (.box ty (coeL coe1 cs cells1).1),encB (.box ty1 cells1))]⟩
        | false => none
       | none => none
      | _,_,_,_ => none
def ImL (Im : Nat → Prop) (ρ : Rho) (H : Heap) : Nat → Prop := fun g => Im g ∨ ∃ b β,8000 ≤ b ∧ live H b ∧ ρ b = some β ∧ β.g = some g
section
variable {Ow Im0 : Nat → Prop} {w0 : World} {ρ : Rho} {w : World} {Im : Nat → Prop} {H : Heap} {clk : Nat}
theorem finP_content {x : AV} {v : Value} {s : Nat} {els : List (List DV)} {b : Nat} (I : Inv Ow Im0 w0 ρ w Im H clk) (hx : Rel ρ w Im x v) (h : content H x = some (s,els)) (hb : 8000 ≤ b) (hlive : live H b)
  (hblk : ∀ a n c,v = .slice (some a) n c → n ≠ 0 → ∃ β,ρ b = some β ∧ β.g = some a.block) : RelD w (ImL Im ρ H) (.sl s els) v := by
 obtain ⟨p,c,rfl,hbg,hc,hl,hcell⟩ := content_spec I hx h
 by_cases he : els = []
 ·subst he; exact .slNil _ _ _
 rcases hcell with hcell | ⟨q,rfl,hq,hcell⟩
 ·exact absurd hcell he
 have hn : els.length ≠ 0 := by simpa using he
 obtain ⟨β,hβ,hg⟩ := hblk q _ c rfl hn
 refine .sl s els q els.length c (fun i o => (w.cell? ⟨q.block,q.off + (i * s + o),none⟩).getD undef) rfl hc hbg (hl he) hq (.inr ⟨b,β,hb,hlive,hβ,hg⟩) ?_ ?_
 ·intro i e o y hi ho
  obtain ⟨u,k1,_⟩ := hcell i e o y hi ho
  rw [k1]; rfl
 ·intro i e o y hi ho
  obtain ⟨u,k1,k2⟩ := hcell i e o y hi ho
  rw [k1]
  exact k2.mono (Ext.refl _ _) (fun g hg => .inl hg)
theorem finP1_ok (I : Inv Ow Im0 w0 ρ w Im H clk) {x y : AV} {v : Value} (hx : Rel ρ w Im x v) (h : finP1 H x = some y) : Rel (fun _ => none) w (ImL Im ρ H) y v := by
 unfold finP1 at h
 split at h
 ·cases h
  cases hx with
  | d hx => exact .d (hx.mono (Ext.refl _ _) (fun g hg => .inl hg))
 ·cases h
  cases hx with
  | rp h1 h2 h3 => exact .rp h1 (.inl h2) (fun j x hx => let ⟨v,k1,k2⟩ := h3 j x hx; ⟨v,k1,k2.mono (Ext.refl _ _) (fun g hg => .inl hg)⟩)
 ·rename_i b
  split at h
  rotate_left
  ·cases h
  rename_i hb8
  split at h
  rotate_left
  ·cases h
  rename_i ty s els hb
  cases h
  refine .d (finP_content (b := b) I hx (by simp [content,hb]) (Nat.le_of_ble_eq_true hb8) ⟨_,hb,by simp⟩ fun a n c hv hn => ?_)
  subst hv
  generalize hvv : Value.slice (some a) n c = vv at hx
  cases hx with
  | ow h1 h2 h3 h4 =>
   injection hvv with e1 e2 e3
   rcases h4 with h4 | ⟨g,hg,e,_⟩
   ·omega
   ·rw [← e1] at e; cases e; exact ⟨_,h1,hg⟩
 ·rename_i b oo m
  split at h
  rotate_left
  ·cases h
  rename_i hb8
  split at h
  rotate_left
  ·cases h
  rename_i ty s els hb
  cases h
  refine .d (finP_content (b := b) I hx (by simp [content,hb]) (Nat.le_of_ble_eq_true hb8) ⟨_,hb,by simp⟩ fun a n c hv hn => ?_)
  subst hv
  generalize hvv : Value.slice (some a) n c = vv at hx
  cases hx with
  | os h1 h2 h3 h4 h5 =>
   injection hvv with e1 e2 e3
   rcases h5 with h5 | ⟨g,hg,e,_⟩
   ·omega
   ·rw [← e1] at e; cases e; exact ⟨_,h1,hg⟩
 ·cases h
theorem finPL_spec {f : AV → Option AV} : ∀ {l r : List AV},finPL f l = some r → r.length = l.length ∧ ∀ (i : Nat) (y : AV),r[i]? = some y → ∃ x,l[i]? = some x ∧ f x = some y
 | [],r,h => by simp [finPL] at h; subst h; simp
 | a :: l,r,h => by
  simp only [finPL] at h
  split at h
  rotate_left
  ·cases h
  rename_i x m hx hm
  cases h
  obtain ⟨h1,h2⟩ := finPL_spec hm
  refine ⟨by simp [h1],fun i y hy => ?_⟩
  cases i with
  | zero => simp at hy; subst hy; exact ⟨a,rfl,hx⟩
  | succ i => exact h2 i y (by simpa using hy)
theorem finPA_ok (I : Inv Ow Im0 w0 ρ w Im H clk) {x y : AV} {v : Value} (hx : Rel ρ w Im x v) (h : finPA H x = some y) : Rel (fun _ => none) w (ImL Im ρ H) y v := by
 unfold finPA at h
 split at h
 ·split at h
  rotate_left
  ·cases h
  rename_i r hr
  cases h
  obtain ⟨h1,h2⟩ := finPL_spec hr
  obtain ⟨cs,rfl,k1,k2,k3⟩ := rel_ag hx
  refine .ag _ cs (by omega) k2 fun i a u ha hu => ?_
  obtain ⟨z,m1,m2⟩ := h2 i a ha
  exact finP1_ok I (k3 i z u m1 hu) m2
 ·split at h
  rotate_left
  ·cases h
  rename_i r hr
  cases h
  cases hx with
  | ic hx => exact .ic (finP1_ok I hx hr)
 ·exact finP1_ok I hx h
theorem finPT_ok (I : Inv Ow Im0 w0 ρ w Im H clk) {x y : AV} {v : Value} (hx : Rel ρ w Im x v) (h : finPT H x = some y) : Rel (fun _ => none) w (ImL Im ρ H) y v := by
 unfold finPT at h
 split at h
 ·split at h
  rotate_left
  ·cases h
  rename_i r hr
  cases h
  obtain ⟨h1,h2⟩ := finPL_spec hr
  cases hx with
  | tu _ cs k1 k3 =>
   refine .tu _ cs (by omega) fun i a u ha hu => ?_
   obtain ⟨z,m1,m2⟩ := h2 i a ha
   exact finPA_ok I (k3 i z u m1 hu) m2
 ·exact finPA_ok I hx h
end
theorem lent_of {P : Program} {f : Nat} {fn : Func} {args : List AV} {pre : Blk} {res : AV} {post : Blk} (hints : List (Nat × List Hint)) (cuts : List (Nat × Tg × Ex × Tg))
  (hf : P.funcs[f]? = some fn) (fl : List Bool) {φ : Prop} (hφ : φ) (h1 : oblE fl (runL P hints cuts fn args pre res post) = φ) (h2 : lefE fl (runL P hints cuts fn args pre res post) = rigE fl (runL P hints cuts fn args pre res post)) : LentSpec P f args [pre] res [post] := by
 rw [← h1] at hφ
 obtain ⟨hφ,h2⟩ := oblE_spec hφ h2
 clear h1
 cases hr : runL P hints cuts fn args pre res post with
 | none => rw [hr] at hφ; exact hφ.elim
 | some r =>
  rw [hr] at hφ h2
  have heq : EqP r.eq := eqP_of h2
  have hph : allP r.ph := hφ
  clear h2 hφ
  unfold runL at hr
  split at hr
  ·cases hr
  rename_i c hb
  split at hr
  ·cases hr
  rename_i hpure
  split at hr
  ·cases hr
  rename_i q hq
  split at hr
  ·cases hr
  rename_i hne
  split at hr
  ·cases hr
  rename_i l hl
  split at hr
  rotate_left
  ·cases hr
  rename_i x ty cells ty0 cells0 ty1 cells1 hx hH0
  split at hr
  rotate_left
  ·cases hr
  rename_i cs hcs
  split at hr
  rotate_left
  ·cases hr
  rename_i hlen
  have hlen := Nat.eq_of_beq_eq_true hlen
  cases hr
  obtain ⟨hph1,hph'⟩ := allP_append.1 hph
  obtain ⟨hph2,hph3⟩ := allP_append.1 hph'
  have heq1 := heq.left
  have hxe : (coeT x res).1 = res := heq.right ((coeT x res).1,res) (by simp)
  have hbe0 : encB (.box ty (coeL coe1 cs cells1).1) = encB (.box ty1 cells1) := heq.right (encB (.box ty (coeL coe1 cs cells1).1),encB (.box ty1 cells1)) (by simp)
  have hbe := encB_inj hbe0
  intro w Im ρ vs hIm hsz hρ hinj hbnd hpre hargs
  refine calls_of_wp hf hb ?_
  have hlow : ∀ b β,ρ b = some β → b = 0 := by intro b β h; have := hρ b β h; simp at this; exact this
  have hS : Sys (fun g => ∃ b β,ρ b = some β ∧ β.g = some g) Im w (args ++ List.replicate (fn.ntmps - args.length) .any) (hOf [(0,.box ty0 cells0)]) 1 { tmps := vs ++ Array.replicate (fn.ntmps - vs.size) undef,defers := [] } w := by
   refine ⟨ρ,Im,⟨Kept.refl _ _,(fun b b' β β' g _ _ => hinj b b' β β' g),(fun b β g _ h h' => (hbnd b β g h h').2),(fun b β g h h' => (hbnd b β g h h').1),(fun b β g h h' => .inr ⟨b,β,h,h'⟩),hIm,(fun g h => .inl h),(fun b B h => ?_),(fun b hb _ => ?_),Nat.le_refl 1⟩,⟨by simp [hsz],fun i y v hy hv => ?_,rfl⟩⟩
   ·simp only [hOf] at h
    split at h
    ·rename_i e; cases h; rw [e]; exact hpre 0 _ rfl
    ·cases h
   ·cases hc : ρ b with
    | none => rfl
    | some β => have := hlow b β hc; omega
   ·rw [List.getElem?_append] at hy
    simp only [Array.getElem?_append] at hv
    rw [hsz] at hv
    split at hy
    ·rename_i hi
     rw [if_pos hi] at hv
     exact hargs i y v hy hv
    ·have := List.mem_of_getElem? hy
     rw [(List.mem_replicate.1 this).2]
     exact .any _
  refine wp_mono (runC_ok hq hph1 heq1 _ _ _ _ _ hS) ?_
  rintro e a' w' ⟨rfl,hS'⟩
  have post : a'.defers = [] ∧ ∃ v,(results fn a'.tmps).run P w' = .ok v w' ∧ ∃ u,Ending.returned v = .returned u ∧ Kept (fun g => ∃ b β,ρ b = some β ∧ β.g = some g) w w' ∧ ∃ Im' : Nat → Prop,(∀ g,Im' g → Im g ∨ w.heap.size ≤ g) ∧ (∀ g,Im' g → g < w'.heap.size) ∧
    (∀ (k : Nat) (B : Blk),[Blk.box ty1 cells1][k]? = some B → ∃ β,ρ k = some β ∧ RelB ρ w' Im' β B) ∧ Rel ρ w' Im' res u := by
   obtain ⟨ρ',Im',I,T⟩ := hS'
   obtain ⟨v,h1,h2⟩ := results_ok I T hl
   have hzero : ∀ g κ,ρ 0 = some κ → κ.g = some g → ∃ β',ρ' 0 = some β' ∧ β'.g = some g := by
    intro g κ n1 n2
    obtain ⟨β',k1,k2,k3,g1,ca,k4,_⟩ := I.blk 0 _ hH0
    rcases I.own 0 β' g1 k1 k4 with ⟨_,h⟩ | ⟨b,κ2,m1,m2⟩
    ·omega
    ·have := hlow b κ2 m1
     subst this
     rw [n1] at m1; cases m1
     rw [n2] at m2; cases m2
     exact ⟨β',k1,k4⟩
   have hlent : ∀ g,(∃ b β,ρ b = some β ∧ β.g = some g) → ¬ Im' g := by
    rintro g ⟨b,κ,n1,n2⟩
    have := hlow b κ n1
    subst this
    obtain ⟨β',k1,k4⟩ := hzero g κ n1 n2
    exact I.notIm 0 β' g ⟨_,hH0,by simp⟩ k1 k4
   refine ⟨T.defers,v,h1,v,rfl,I.kept,ImL Im' ρ' q.s.H, ?_, ?_, ?_, ?_⟩
   ·rintro g (hg | ⟨b,β,h8,_,hb,hg⟩)
    ·rcases I.im0 g hg with h | h | h
     ·exact .inl h
     ·exact .inr h
     ·exact absurd hg (hlent g h)
    ·rcases I.own b β g hb hg with ⟨h,_⟩ | ⟨b2,κ,n1,n2⟩
     ·exact .inr h
     ·have := hlow b2 κ n1
      subst this
      obtain ⟨β',k1,k4⟩ := hzero g κ n1 n2
      have := I.inj b 0 β β' g ‹_› ⟨_,hH0,by simp⟩ hb k1 hg k4
      omega
   ·rintro g (hg | ⟨b,β,_,_,hb,hg⟩)
    ·exact I.imb g hg
    ·exact I.bnd b β g hb hg
   ·intro k B hB
    cases k with
    | succ k => simp at hB
    | zero =>
     simp at hB
     subst hB
     obtain ⟨β',k1,k2,k3,g,ca,k4,k5,k6,k7,k8⟩ := I.blk 0 _ hH0
     obtain ⟨β,m1,m2,m3,g2,ca2,m4,m5,m6,m7,m8⟩ := hpre 0 _ rfl
     have hg : g = g2 := by
      rcases I.own 0 β' g k1 k4 with ⟨_,h⟩ | ⟨b,κ,n1,n2⟩
      ·omega
      ·have := hlow b κ n1
       subst this
       rw [m1] at n1; cases n1
       rw [m4] at n2; cases n2; rfl
     refine ⟨β,m1, ?_⟩
     rw [← hbe]
     obtain ⟨f1,f2⟩ := finPL_spec hcs
     obtain ⟨c1,c2⟩ := coeL_spec hph3
     refine ⟨by rw [c1,f1,m2,hlen],m3,g,ca,by rw [m4,hg],k5,by rw [c1,f1]; exact k6,k7,fun o y u hy hu => ?_⟩
     obtain ⟨z,z1,z2⟩ := c2 o y hy
     obtain ⟨z',e1,e2⟩ := f2 o z z1
     have hz := finP1_ok I (k8 o z' u e1 hu) e2
     have hz' : Rel ρ w' (ImL Im' ρ' q.s.H) z u := hz.mono (Ext.refl _ _) (fun _ h => h) (fun b β h => by cases h) (fun b β g h => by cases h)
     rcases z2 with rfl | ⟨r,rfl,hr⟩
     ·exact hz'
     ·exact coe1_rel hz' hr
   ·have hz := finPT_ok I h2 hx
    have hz' : Rel ρ w' (ImL Im' ρ' q.s.H) x v := hz.mono (Ext.refl _ _) (fun _ h => h) (fun b β h => by cases h) (fun b β g h => by cases h)
    have := coeT_rel (r := res) hz' hph2
    rwa [hxe] at this
  cases hqe : q.e with
  | nrm => exact post
  | ret => exact post
  | ext n => exact absurd hqe (hne n)
theorem Fp {hs : List (Nat × List Hint)} {cs : List (Nat × Tg × Ex × Tg)} {φ : Prop} (n : Nat) {P : Program} {f : Nat} {args : List AV} {pre : List Blk} {res : AV} {post : List Blk} (h : LentSpec P f args pre res post) (r : Fq hs cs φ) : Fq ((n,[.lent res post]) :: hs) cs (LentSpec P f args pre res post ∧ φ) := ⟨h,r.p⟩
theorem lF {hs : List (Nat × List Hint)} {cs : List (Nat × Tg × Ex × Tg)} {φ0 : Prop} {P : Program} {f : Nat} {fn : Func} {args : List AV} {pre : Blk} {res : AV} {post : Blk}
  (hf : P.funcs[f]? = some fn) (fl : List Bool) (h : Fq hs cs φ0) (h1 : oblF fl (runL P hs cs fn args pre res post) = φ0 := by kernel_rfl) (h2 : lefE fl (runL P hs cs fn args pre res post) = rigE fl (runL P hs cs fn args pre res post) := by kernel_rfl) : LentSpec P f args [pre] res [post] :=
 lent_of hs cs hf fl (oblF_E (Eq.mpr h1 h.p)) rfl h2
theorem lE {P : Program} {f : Nat} {fn : Func} {args : List AV} {pre : Blk} {res : AV} {post : Blk} (hints : List (Nat × List Hint)) (cuts : List (Nat × Tg × Ex × Tg))
  (hf : P.funcs[f]? = some fn) (fl : List Bool) {φ : Prop} (hφ : φ) (h1 : oblE fl (runL P hints cuts fn args pre res post) = φ := by kernel_rfl) (h2 : lefE fl (runL P hints cuts fn args pre res post) = rigE fl (runL P hints cuts fn args pre res post) := by kernel_rfl) : LentSpec P f args [pre] res [post] :=
 lent_of hints cuts hf fl hφ h1 h2
end Go.Sx
namespace Go.Proofs.YtolnblaadleknaaGreat
open Go.Sx
theorem map_ne {α β : Type} {f : α → β} {l : List α} (h : l ≠ []) : l.map f ≠ [] := by simpa using h
theorem ne_of_len {α : Type} {l : List α} (h : 0 < l.length) : l ≠ [] := by
 rintro rfl
 simp at h
def pg (h : Heap) (i : Int) : Page := h.pages.getD i.toNat default
def adr (h : Heap) (i o : Int) : Int := (address h.conf i o).1
theorem adr_range {h : Heap} (hv : validB h.conf = true) (i o : Int) : 0 ≤ adr h i o ∧ adr h i o ≤ 8192 := by
 have ha := area hv
 unfold adr address
 rw [if_pos hv]
 split
 ·rename_i hb
  have hb := inB_iff.1 hb
  have := inPage hv hb.1 hb.2.1 hb.2.2.1 hb.2.2.2
  simp only; omega
 ·simp
def walkP (h : Heap) (i : Int) : Nat → Int → Option (List Int)
 | 0,_ => some []
 | f + 1,o => if o < (pg h i).used then (if (atH h (adr h i o)).2 = 0 then (if (pg h i).kind = 2 then some [adr h i o] else (walkP h i f (o + sizeH (atH h (adr h i o)).1)).map (adr h i o :: ·)) else none) else some []
def pageL6 (h : Heap) (i o : Int) (acc : List Int) : Tg := ⟨tm 70 [(1,int i),(2,.pt 8002 0 0),(4,.d (.sl 0 [])),(5,int 0),(6,.pt 32006 0 0),(7,.ow 48007),(8,int o)],
 [(48007,.arr 56 1 (acc.map wdv)),(32006,.box 134 [int (pg h i).kind,int (pg h i).space,int (pg h i).used,int (pg h i).pins]),(8002,.box 28 h.cells)],60⟩
def pageT6 (acc : List Int) : Tg := ⟨tm 70 [(7,.ow 48007)],[(48007,.arr 56 1 (acc.map wdv))],60⟩
section
variable (h : Heap) (i o : Int) (acc : List Int) (hw : WOk h.words) (hp : properB h = true) (hl : acc.length ≤ 1048576) (ho : 0 ≤ o ∧ o ≤ 1000)
include hw hp hl ho
theorem page6Next (h1 : o < (pg h i).used) (h2 : (atH h (adr h i o)).2 = 0) (h3 : (pg h i).kind ≠ 2) : CSpec Tryz.prog (rndF Tryz.f29 0) (pageL6 h i o acc).st .nrm (pageL6 h i (o + sizeH (atH h (adr h i o)).1) (acc ++ [adr h i o])).st := by
 have po := proper_ok hp
 have ar := adr_range po.1 i o
 have sz := sizeH_bounds (atH h (adr h i o)).1
 have hm := atH_map hw (adr h i o)
 unfold adr at ar sz hm h2
 exact sF [(512061,48007)] [] (Fh 61 [.els (List.map wdv (acc ++ [(address h.conf i o).fst]))] (Ftb 41 (decide (o < (pg h i).used)) (Fc 47 (@refAddress h.conf i o) (Fc 53 (@ref5At h ((address h.conf i o).fst) ‹_› (by omega)) (Ffb 57 ((atH h (address h.conf i o).fst).snd != 0) (Fs 60 (List.map wdv [(address h.conf i o).fst]) (Fa (by (simp [adr, *]; omega) : (List.map wdv acc).length + (List.map wdv [(address h.conf i o).fst]).length≤2 ^ 30) (Fa (by simp [adr,List.map_take,List.map_drop,List.map_set,List.map_append,wdv,idv] : List.map wdv acc ++ List.map wdv [(address h.conf i o).fst] =List.map wdv (acc ++ [(address h.conf i o).fst])) (Ffb 64 ((pg h i).kind == 2) (Fc 67 (@ref3Size ((atH h (address h.conf i o).fst).fst) ‹_›) (Fi 68 (o + sizeH (atH h (address h.conf i o).fst).fst) Fz)))))))))))
theorem page6Large (h1 : o < (pg h i).used) (h2 : (atH h (adr h i o)).2 = 0) (h3 : (pg h i).kind = 2) : CSpec Tryz.prog (rndF Tryz.f29 0) (pageL6 h i o acc).st (.ext 0) (pageT6 (acc ++ [adr h i o])).st := by
 have po := proper_ok hp
 have ar := adr_range po.1 i o
 have hm := atH_map hw (adr h i o)
 unfold adr at ar hm h2
 exact sF [(512061,48007)] [] (Fh 61 [.els (List.map wdv (acc ++ [(address h.conf i o).fst]))] (Ftb 41 (decide (o < (pg h i).used)) (Fc 47 (@refAddress h.conf i o) (Fc 53 (@ref5At h ((address h.conf i o).fst) ‹_› (by omega)) (Ffb 57 ((atH h (address h.conf i o).fst).snd != 0) (Fs 60 (List.map wdv [(address h.conf i o).fst]) (Fa (by (simp [adr, *]; omega) : (List.map wdv acc).length + (List.map wdv [(address h.conf i o).fst]).length≤2 ^ 30) (Fa (by simp [adr,List.map_take,List.map_drop,List.map_set,List.map_append,wdv,idv] : List.map wdv acc ++ List.map wdv [(address h.conf i o).fst] =List.map wdv (acc ++ [(address h.conf i o).fst])) (Ftb 64 ((pg h i).kind == 2) Fz)))))))))
theorem page6Bad (h1 : o < (pg h i).used) (h2 : ¬ (atH h (adr h i o)).2 = 0) : CSpec Tryz.prog (rndF Tryz.f29 0) (pageL6 h i o acc).st .ret (Tg.st ⟨tm 70 [(4,.d (.sl 0 [])),(5,int 19)],[],60⟩) := by
 have po := proper_ok hp
 have ar := adr_range po.1 i o
 unfold adr at ar h2
 exact sF [] [] (Ftb 41 (decide (o < (pg h i).used)) (Fc 47 (@refAddress h.conf i o) (Fc 53 (@ref5At h ((address h.conf i o).fst) ‹_› (by omega)) (Ftb 57 ((atH h (address h.conf i o).fst).snd != 0) Fz))))
omit hw hp hl ho in
theorem page6End (h1 : (pg h i).used ≤ o) : CSpec Tryz.prog (rndF Tryz.f29 0) (pageL6 h i o acc).st (.ext 0) (pageT6 acc).st := by
 exact sF [] [] (Ffb 41 (decide (o < (pg h i).used)) Fz)
end
theorem sizeH_pos {h : Heap} {a : Int} (e : (atH h a).2 = 0) : 1 ≤ sizeH (atH h a).1 := by
 have := atH_ok e
 rw [sizeH,if_pos this.2.2.2.2.1]
 omega
theorem page6Go (h : Heap) (i : Int) (hw : WOk h.words) (hp : properB h = true) (hu : (pg h i).used ≤ 256) : ∀ (f : Nat) (o : Int) (acc : List Int),(pg h i).used - o ≤ f → 0 ≤ o → o ≤ 1000 → (acc.length : Int) + f ≤ 1000 →
  (∀ l,walkP h i f o = some l → LSpec Tryz.prog Tryz.f29 0 (pageL6 h i o acc).st (.ext 0) (pageT6 (acc ++ l)).st) ∧
  (walkP h i f o = none → LSpec Tryz.prog Tryz.f29 0 (pageL6 h i o acc).st .ret (Tg.st ⟨tm 70 [(4,.d (.sl 0 [])),(5,int 19)],[],60⟩)) := by
 intro f
 induction f with
 | zero =>
  intro o acc h1 h2 h3 h4
  refine ⟨fun l hl => ?_,fun hl => by cases hl⟩
  simp only [walkP,Option.some.injEq] at hl
  subst hl
  rw [List.append_nil]
  exact .endx (page6End h i o acc (by omega))
 | succ f ih =>
  intro o acc h1 h2 h3 h4
  unfold walkP
  by_cases ho : o < (pg h i).used
  ·rw [if_pos ho]
   by_cases ha : (atH h (adr h i o)).2 = 0
   ·rw [if_pos ha]
    by_cases hk : (pg h i).kind = 2
    ·rw [if_pos hk]
     refine ⟨fun l hl => ?_,fun hl => by cases hl⟩
     cases hl
     exact .endx (page6Large h i o acc hw hp (by omega) ⟨h2,by omega⟩ ho ha hk)
    ·rw [if_neg hk]
     have hs := sizeH_pos ha
     have hb := sizeH_bounds (atH h (adr h i o)).1
     have hr := page6Next h i o acc hw hp (by omega) ⟨h2,by omega⟩ ho ha hk
     obtain ⟨i1,i2⟩ := ih (o + sizeH (atH h (adr h i o)).1) (acc ++ [adr h i o]) (by omega) (by omega) (by omega) (by simp; omega)
     refine ⟨fun l hl => ?_,fun hl => ?_⟩
     ·rw [Option.map_eq_some_iff] at hl
      obtain ⟨m,hm,rfl⟩ := hl
      have := i1 m hm
      rw [List.append_assoc] at this
      exact .next hr this
     ·rw [Option.map_eq_none_iff] at hl
      exact .next hr (i2 hl)
   ·rw [if_neg ha]
    exact ⟨fun l hl => (by cases hl),fun _ => .endr (page6Bad h i o acc hw hp (by omega) ⟨h2,by omega⟩ ho ha)⟩
  ·rw [if_neg ho]
   refine ⟨fun l hl => ?_,fun hl => by cases hl⟩
   cases hl
   rw [List.append_nil]
   exact .endx (page6End h i o acc (by omega))
theorem page6Loop (h : Heap) (i : Int) (l : List Int) (hw : WOk h.words) (hp : properB h = true) (hu : (pg h i).used ≤ 256) (hl : walkP h i 256 0 = some l) : CSpec Tryz.prog (blkF Tryz.f29 0) (Tg.st ⟨tm 70 [(1,int i),(2,.pt 8002 0 0),(4,.d (.sl 0 [])),(5,int 0),(6,.pt 32006 0 0),(7,.ow 48007),(8,int 0)],
 [(48007,.arr 56 1 []),(32006,.box 134 [int (h.pages.getD i.toNat default).kind,int (h.pages.getD i.toNat default).space,int (h.pages.getD i.toNat default).used,int (h.pages.getD i.toNat default).pins]),(8002,.box 28 h.cells)],60⟩) .nrm (pageT6 l).st :=
 ((page6Go h i hw hp hu 256 0 [] (by omega) (by omega) (by omega) (by simp)).1 l hl).ext (by kernel_rfl)
theorem page6LoopBad (h : Heap) (i : Int) (hw : WOk h.words) (hp : properB h = true) (hu : (pg h i).used ≤ 256) (hl : walkP h i 256 0 = none) : CSpec Tryz.prog (blkF Tryz.f29 0) (Tg.st ⟨tm 70 [(1,int i),(2,.pt 8002 0 0),(4,.d (.sl 0 [])),(5,int 0),(6,.pt 32006 0 0),(7,.ow 48007),(8,int 0)],
 [(48007,.arr 56 1 []),(32006,.box 134 [int (h.pages.getD i.toNat default).kind,int (h.pages.getD i.toNat default).space,int (h.pages.getD i.toNat default).used,int (h.pages.getD i.toNat default).pins]),(8002,.box 28 h.cells)],60⟩) .ret (Tg.st ⟨tm 70 [(4,.d (.sl 0 [])),(5,int 19)],[],60⟩) :=
 ((page6Go h i hw hp hu 256 0 [] (by omega) (by omega) (by omega) (by simp)).2 hl).ret (by kernel_rfl)
def pageW (h : Heap) (i : Int) : List Int × Int :=
 if properB h = true then (if 0 ≤ i ∧ i < h.pages.length then (if (pg h i).kind = 0 ∨ (pg h i).kind = 3 then ([],0) else (match walkP h i 256 0 with | some l => (l,0) | none => ([],19))) else ([],2)) else ([],1)
theorem ref6Page (h : Heap) (i : Int) (hw : WOk h.words) : GSpec Tryz.prog 29 [h.av,int i] false (.tu [wordsV (pageW h i).1,int (pageW h i).2]) [] := by
 cases hp : properB h with
 | false =>
  have e7 : pageW h i = ([],1) := by rw [pageW,if_neg (by rw [hp]; simp)]
  rw [e7]
  exact gF [] Tryz.func29 [false] (Fc 14 (@ref4Proper h) (Ftb 15 (!properB h) (Fnl Fz)))
 | true =>
  have po := proper_ok hp
  by_cases hi : 0 ≤ i ∧ i < h.pages.length
  ·have pp := proper_page hp (j := i.toNat) (by omega)
   have hu : (pg h i).used ≤ 256 := pp.2.2.2.2.2.2.2.1
   cases hwk : walkP h i 256 0 with
   | none =>
    have e7 : pageW h i = if (h.pages.getD i.toNat default).kind = 0 ∨ (h.pages.getD i.toNat default).kind = 3 then ([],0) else ([],19) := by rw [pageW,if_pos hp,if_pos hi,hwk]; rfl
    have Q0 {h_ c_ p_} (r_ : Fq h_ c_ p_) := Fc 14 (@ref4Proper h) (Ffb 15 (!properB h) (FlG 22 (!decide (i < 0)) Page.dv h.pages (Ffb 24 (decide (i < 0)||decide ((↑h.pages.length : Int)≤i)) (Fe 28 Page.dv h.pages i r_))))
    rcases bb ((h.pages.getD i.toNat default).kind == 0 || (h.pages.getD i.toNat default).kind == 3) with hc0 | hc0<;>have hc0p:=hc0<;>simp only [bs] at hc0p
    ·exact gF [] Tryz.func29 [false,false,false,false,false,false,false,false,true] (Q0 (Ft 37 hc0 (Fnl (Fa (by rw [e7,if_pos (by omega)]; rfl : [] =List.map wdv (pageW h i).fst) (Fa (by rw [e7,if_pos (by omega)] : 0 =(pageW h i).snd) Fz)))))
    ·obtain ⟨hc0pa,hc0pb⟩ := hc0p
     exact gF [] Tryz.func29 [false,false,false,false,false,false,false,false,false,false,false,false,false,false,false,false,false,false,true] (Fh 7 [.own] (Q0 (Ff 37 hc0 (Fu (@page6LoopBad h i ‹_› ‹_› ‹_› ‹_›) (Fnl (Fa (by rw [e7,if_neg (by omega)]; rfl : [] =List.map wdv (pageW h i).fst) (Fa (by rw [e7,if_neg (by omega)] : 19 =(pageW h i).snd) Fz)))))))
   | some l =>
    have e7 : pageW h i = if (h.pages.getD i.toNat default).kind = 0 ∨ (h.pages.getD i.toNat default).kind = 3 then ([],0) else (l,0) := by rw [pageW,if_pos hp,if_pos hi,hwk]; rfl
    have Q1 {h_ c_ p_} (r_ : Fq h_ c_ p_) := Fc 14 (@ref4Proper h) (Ffb 15 (!properB h) (FlG 22 (!decide (i < 0)) Page.dv h.pages (Ffb 24 (decide (i < 0)||decide ((↑h.pages.length : Int)≤i)) (Fe 28 Page.dv h.pages i r_))))
    rcases bb ((h.pages.getD i.toNat default).kind == 0 || (h.pages.getD i.toNat default).kind == 3) with hc0 | hc0<;>have hc0p:=hc0<;>simp only [bs] at hc0p
    ·exact gF [] Tryz.func29 [false,false,false,false,false,false,false,false,true] (Q1 (Ft 37 hc0 (Fnl (Fa (by rw [e7,if_pos (by omega)]; rfl : [] =List.map wdv (pageW h i).fst) (Fa (by rw [e7,if_pos (by omega)] : 0 =(pageW h i).snd) Fz)))))
    ·obtain ⟨hc0pa,hc0pb⟩ := hc0p
     exact gF [] Tryz.func29 [false,false,false,false,false,false,false,false,false,false,false,false,false,false,false,false,false,false,true] (Fh 7 [.own] (Q1 (Ff 37 hc0 (Fu (@page6Loop h i l ‹_› ‹_› ‹_› ‹_›) (Fa (by refine congrArg _ ?_; rw [e7,if_neg (by omega)] : List.map wdv l =List.map wdv (pageW h i).fst) (Fa (by rw [e7,if_neg (by omega)] : 0 =(pageW h i).snd) Fz))))))
  ·have e7 : pageW h i = ([],2) := by rw [pageW,if_pos hp,if_neg hi]
   rw [e7]
   exact gF [] Tryz.func29 [false,false,false,false,false,false] (Fc 14 (@ref4Proper h) (Ffb 15 (!properB h) (FlG 22 (!decide (i < 0)) Page.dv h.pages (Ftb 24 (decide (i < 0)||decide ((↑h.pages.length : Int)≤i)) (Fnl Fz)))))
def hasL (l : List Int) (v : Int) (i : Nat) : Tg := ⟨tm 18 [(0,wordsV l),(1,u64 v),(4,bool false),(5,int i)],[],60⟩
theorem hasRound (l : List Int) (v : Int) (i : Nat) (hl : l.length ≤ 1048576) (hi : i < l.length) (hv : ¬ l.getD i default = v) : CSpec Tryz.prog (rndF Tryz.f104 0) (hasL l v i).st .nrm (hasL l v (i + 1)).st := by
 exact sF [] [] (Fl 8 wdv l (Ftb 9 (decide ((↑i : Int) < (↑l.length : Int))) (Fek 14 wdv l (↑i) i (Ffb 17 (l.getD i default == v) (Fx 11 i Fz)))))
theorem hasFound (l : List Int) (v : Int) (i : Nat) (hl : l.length ≤ 1048576) (hi : i < l.length) (hv : l.getD i default = v) : CSpec Tryz.prog (rndF Tryz.f104 0) (hasL l v i).st .ret (Tg.st ⟨tm 18 [(4,bool true)],[],60⟩) := by
 exact sF [] [] (Fl 8 wdv l (Ftb 9 (decide ((↑i : Int) < (↑l.length : Int))) (Fek 14 wdv l (↑i) i (Ftb 17 (l.getD i default == v) Fz))))
theorem hasEnd (l : List Int) (v : Int) : CSpec Tryz.prog (rndF Tryz.f104 0) (hasL l v l.length).st (.ext 0) (Tg.st ⟨tm 18 [],[],60⟩) := by
 exact sF [] [] (Fl 8 wdv l (Ffb 9 (decide ((↑l.length : Int) < (↑l.length : Int))) Fz))
theorem getD_mem_iff {l : List Int} {v : Int} : v ∈ l ↔ ∃ i,i < l.length ∧ l.getD i default = v := by
 rw [List.mem_iff_getElem]
 constructor
 ·rintro ⟨i,h,e⟩; exact ⟨i,h,by simp [List.getD,h,e]⟩
 ·rintro ⟨i,h,e⟩; exact ⟨i,h,by simpa [List.getD,h] using e⟩
theorem hasLoop (l : List Int) (v : Int) (hl : l.length ≤ 1048576) (h : v ∉ l) : CSpec Tryz.prog (blkF Tryz.f104 0) (Tg.st ⟨tm 18 [(0,wordsV l),(1,u64 v),(4,bool false),(5,int 0)],[],60⟩) .nrm (Tg.st ⟨tm 18 [],[],60⟩) :=
 loop_ext_of (S := fun i => (hasL l v i).st) l.length (by kernel_rfl) (fun i hi => hasRound l v i hl hi fun e => h (getD_mem_iff.2 ⟨i,hi,e⟩)) (hasEnd l v)
theorem hasLoopT (l : List Int) (v : Int) (hl : l.length ≤ 1048576) (h : v ∈ l) : CSpec Tryz.prog (blkF Tryz.f104 0) (Tg.st ⟨tm 18 [(0,wordsV l),(1,u64 v),(4,bool false),(5,int 0)],[],60⟩) .ret (Tg.st ⟨tm 18 [(4,bool true)],[],60⟩) := by
 obtain ⟨i,h1,h2⟩ := least0 (getD_mem_iff.1 h)
 exact loop_ret_of (S := fun i => (hasL l v i).st) i (by kernel_rfl) (fun j hj => hasRound l v j hl (by omega) fun e => by have := h2 j ⟨by omega,e⟩; omega) (hasFound l v i hl h1.1 h1.2)
theorem ref6Has (l : List Int) (v : Int) (hl : l.length ≤ 1048576) : GSpec Tryz.prog 104 [wordsV l,u64 v] true (bool (decide (v ∈ l))) [] := by
 by_cases h : v ∈ l
 ·rw [decide_eq_true h]
  exact gF [] Tryz.func104 [] (Fu (@hasLoopT l v ‹_› ‹_›) Fz)
 ·rw [decide_eq_false h]
  exact gF [] Tryz.func104 [] (Fu (@hasLoop l v ‹_› ‹_›) Fz)
theorem walkP_len {h : Heap} {i : Int} : ∀ {f : Nat} {o : Int} {l : List Int},walkP h i f o = some l → l.length ≤ f
 | 0,o,l,e => by simp [walkP] at e; subst e; simp
 | f + 1,o,l,e => by
  unfold walkP at e
  split at e
  ·split at e
   ·split at e
    ·cases e; simp
    ·rw [Option.map_eq_some_iff] at e
     obtain ⟨m,hm,rfl⟩ := e
     have := walkP_len hm
     simp; omega
   ·cases e
  ·cases e; simp
theorem pageW_len (h : Heap) (i : Int) : (pageW h i).1.length ≤ 256 := by
 unfold pageW
 repeat' split
 all_goals first | (simp; done) | (rename_i e; exact walkP_len e)
def startsR (h : Heap) : Nat → Nat → List Int × Int
 | 0,_ => ([],0)
 | f + 1,i => if (pageW h i).2 = 0 then (if (startsR h f (i + 1)).2 = 0 then ((pageW h i).1 ++ (startsR h f (i + 1)).1,0) else ([],(startsR h f (i + 1)).2)) else ([],(pageW h i).2)
def startsW (h : Heap) : List Int × Int := if properB h = true then startsR h h.pages.length 0 else ([],1)
def startsL (h : Heap) (i : Nat) (acc : List Int) : Tg := ⟨tm 31 [(1,.pt 8001 0 0),(2,.d (.sl 0 [])),(3,int 0),(4,.ow 24004),(5,int i)],[(24004,.arr 56 1 (acc.map wdv)),(8001,.box 28 h.cells)],60⟩
section
variable (h : Heap) (i : Nat) (acc : List Int) (hw : WOk h.words) (hl : h.pages.length ≤ 1048576) (ha : acc.length ≤ 1048576)
include hw hl ha
theorem startsRound (hi : i < h.pages.length) (e : (pageW h i).2 = 0) : CSpec Tryz.prog (rndF Tryz.f32 0) (startsL h i acc).st .nrm (startsL h (i + 1) (acc ++ (pageW h i).1)).st := by
 have hn := pageW_len h i
 exact sF [(504029,24004)] [] (Fh 29 [.els (List.map wdv (acc ++ (pageW h (↑i : Int)).fst))] (Fl 14 Page.dv h.pages (Ftb 15 (decide ((↑i : Int) < (↑h.pages.length : Int))) (Fc 21 (@ref6Page h ((↑i : Int)) ‹_›) (Ffb 25 ((pageW h (↑i : Int)).snd != 0) (Fa (by (simp [*]; omega) : (List.map wdv acc).length + (List.map wdv (pageW h (↑i : Int)).fst).length≤2 ^ 30) (Fa (by simp [List.map_take,List.map_drop,List.map_set,List.map_append,wdv,idv] : List.map wdv acc ++ List.map wdv (pageW h (↑i : Int)).fst =List.map wdv (acc ++ (pageW h (↑i : Int)).fst)) (Fx 17 i Fz))))))))
theorem startsBad (hi : i < h.pages.length) (e : ¬ (pageW h i).2 = 0) : CSpec Tryz.prog (rndF Tryz.f32 0) (startsL h i acc).st .ret (Tg.st ⟨tm 31 [(2,.d (.sl 0 [])),(3,int (pageW h i).2)],[],60⟩) := by
 exact sF [] [] (Fl 14 Page.dv h.pages (Ftb 15 (decide ((↑i : Int) < (↑h.pages.length : Int))) (Fc 21 (@ref6Page h ((↑i : Int)) ‹_›) (Ftb 25 ((pageW h (↑i : Int)).snd != 0) Fz))))
omit hw hl ha in
theorem startsEnd : CSpec Tryz.prog (rndF Tryz.f32 0) (startsL h h.pages.length acc).st (.ext 0) (Tg.st ⟨tm 31 [(4,.ow 24004)],[(24004,.arr 56 1 (acc.map wdv))],60⟩) := by
 exact sF [] [] (Fl 14 Page.dv h.pages (Ffb 15 (decide ((↑h.pages.length : Int) < (↑h.pages.length : Int))) Fz))
end
theorem startsGo (h : Heap) (hw : WOk h.words) (hl : h.pages.length ≤ 1048576) : ∀ (f i : Nat) (acc : List Int),i + f = h.pages.length → acc.length + 256 * f ≤ 1048576 →
  ((startsR h f i).2 = 0 → LSpec Tryz.prog Tryz.f32 0 (startsL h i acc).st (.ext 0) (Tg.st ⟨tm 31 [(4,.ow 24004)],[(24004,.arr 56 1 ((acc ++ (startsR h f i).1).map wdv))],60⟩)) ∧
  (¬ (startsR h f i).2 = 0 → LSpec Tryz.prog Tryz.f32 0 (startsL h i acc).st .ret (Tg.st ⟨tm 31 [(2,.d (.sl 0 [])),(3,int (startsR h f i).2)],[],60⟩)) := by
 intro f
 induction f with
 | zero =>
  intro i acc hi _
  have : i = h.pages.length := by omega
  subst this
  refine ⟨fun _ => ?_,fun e => absurd rfl e⟩
  rw [startsR,List.append_nil]
  exact .endx (startsEnd h acc)
 | succ f ih =>
  intro i acc hi hb
  have hn := pageW_len h i
  unfold startsR
  by_cases e : (pageW h i).2 = 0
  ·rw [if_pos e]
   have hr := startsRound h i acc hw hl (by omega) (by omega) e
   obtain ⟨i1,i2⟩ := ih (i + 1) (acc ++ (pageW h i).1) (by omega) (by simp; omega)
   by_cases e2 : (startsR h f (i + 1)).2 = 0
   ·rw [if_pos e2]
    refine ⟨fun _ => ?_,fun e => absurd rfl e⟩
    have := i1 e2
    rw [List.append_assoc] at this
    exact .next hr this
   ·rw [if_neg e2]
    exact ⟨fun e => absurd e e2,fun _ => .next hr (i2 e2)⟩
  ·rw [if_neg e]
   exact ⟨fun e' => absurd e' e,fun _ => .endr (startsBad h i acc hw hl (by omega) (by omega) e)⟩
theorem startsLoop (h : Heap) (hw : WOk h.words) (hl : h.pages.length ≤ 64) (e : (startsR h h.pages.length 0).2 = 0) : CSpec Tryz.prog (blkF Tryz.f32 0) (Tg.st ⟨tm 31 [(1,.pt 8001 0 0),(2,.d (.sl 0 [])),(3,int 0),(4,.ow 24004),(5,int 0)],[(24004,.arr 56 1 []),(8001,.box 28 h.cells)],60⟩) .nrm
  (Tg.st ⟨tm 31 [(4,.ow 24004)],[(24004,.arr 56 1 ((startsR h h.pages.length 0).1.map wdv))],60⟩) :=
 ((startsGo h hw (by omega) h.pages.length 0 [] (by omega) (by simp; omega)).1 e).ext (by kernel_rfl)
theorem startsLoopBad (h : Heap) (hw : WOk h.words) (hl : h.pages.length ≤ 64) (e : ¬ (startsR h h.pages.length 0).2 = 0) : CSpec Tryz.prog (blkF Tryz.f32 0) (Tg.st ⟨tm 31 [(1,.pt 8001 0 0),(2,.d (.sl 0 [])),(3,int 0),(4,.ow 24004),(5,int 0)],[(24004,.arr 56 1 []),(8001,.box 28 h.cells)],60⟩) .ret
  (Tg.st ⟨tm 31 [(2,.d (.sl 0 [])),(3,int (startsR h h.pages.length 0).2)],[],60⟩) :=
 ((startsGo h hw (by omega) h.pages.length 0 [] (by omega) (by simp; omega)).2 e).ret (by kernel_rfl)
theorem startsR_bad (h : Heap) : ∀ (f i : Nat),¬ (startsR h f i).2 = 0 → (startsR h f i).1 = []
 | 0,i,e => absurd rfl e
 | f + 1,i,e => by
  unfold startsR at e ⊢
  split at e
  ·rename_i h1
   rw [if_pos h1]
   split at e
   ·exact absurd rfl e
   ·rename_i h2; rw [if_neg h2]
  ·rename_i h1; rw [if_neg h1]
theorem ref6Starts (h : Heap) (hw : WOk h.words) : GSpec Tryz.prog 32 [h.av] false (.tu [wordsV (startsW h).1,int (startsW h).2]) [] := by
 cases hp : properB h with
 | false =>
  have e7 : startsW h = ([],1) := by rw [startsW,if_neg (by rw [hp]; simp)]
  rw [e7]
  exact gF [] Tryz.func32 [false] (Fc 9 (@ref4Proper h) (Ftb 10 (!properB h) (Fnl Fz)))
 | true =>
  have po := proper_ok hp
  have e7 : startsW h = startsR h h.pages.length 0 := by rw [startsW,if_pos hp]
  by_cases e : (startsR h h.pages.length 0).2 = 0
  ·exact gF [] Tryz.func32 [false,false,false,false,false,false,false,true] (Fh 4 [.own] (Fc 9 (@ref4Proper h) (Ffb 10 (!properB h) (Fu (@startsLoop h ‹_› (by omega) ‹_›) (Fa (by refine congrArg _ ?_; rw [e7] : List.map wdv (startsR h h.pages.length 0).fst =List.map wdv (startsW h).fst) (Fa (by rw [e7,e] : 0 =(startsW h).snd) Fz))))))
  ·have e8 := startsR_bad h _ _ e
   exact gF [] Tryz.func32 [false,false,false,false,false,false,false,true] (Fh 4 [.own] (Fc 9 (@ref4Proper h) (Ffb 10 (!properB h) (Fu (@startsLoopBad h ‹_› (by omega) ‹_›) (Fnl (Fa (by rw [e7,e8]; rfl : [] =List.map wdv (startsW h).fst) (Fa (by rw [e7] : (startsR h h.pages.length 0).snd =(startsW h).snd) Fz)))))))
theorem walkP_range {h : Heap} (hv : validB h.conf = true) {i : Int} : ∀ {f : Nat} {o : Int} {l : List Int},walkP h i f o = some l → ∀ x ∈ l,0 ≤ x ∧ x ≤ 8192
 | 0,o,l,e => by simp [walkP] at e; subst e; simp
 | f + 1,o,l,e => by
  have ar := adr_range hv i o
  unfold walkP at e
  split at e
  ·split at e
   ·split at e
    ·cases e
     intro x hx
     simp at hx; subst hx; exact ar
    ·rw [Option.map_eq_some_iff] at e
     obtain ⟨m,hm,rfl⟩ := e
     intro x hx
     rcases List.mem_cons.1 hx with rfl | hx
     ·exact ar
     ·exact walkP_range hv hm x hx
   ·cases e
  ·cases e; simp
theorem pageW_range {h : Heap} (hp : properB h = true) (i : Int) : ∀ x ∈ (pageW h i).1,0 ≤ x ∧ x ≤ 8192 := by
 have hv := (proper_ok hp).1
 unfold pageW
 repeat' split
 all_goals first | (simp; done) | (rename_i e; exact walkP_range hv e)
theorem startsR_range {h : Heap} (hp : properB h = true) : ∀ (f i : Nat),∀ x ∈ (startsR h f i).1,0 ≤ x ∧ x ≤ 8192
 | 0,i => by simp [startsR]
 | f + 1,i => by
  unfold startsR
  split
  ·split
   ·intro x hx
    rcases List.mem_append.1 hx with hx | hx
    ·exact pageW_range hp i x hx
    ·exact startsR_range hp f (i + 1) x hx
   ·simp
  ·simp
theorem startsR_len (h : Heap) : ∀ (f i : Nat),(startsR h f i).1.length ≤ 256 * f
 | 0,i => by simp [startsR]
 | f + 1,i => by
  have h1 := pageW_len h i
  have h2 := startsR_len h f (i + 1)
  unfold startsR
  split
  ·split
   ·simp; omega
   ·simp
  ·simp
theorem startsW_range (h : Heap) : ∀ x ∈ (startsW h).1,0 ≤ x ∧ x ≤ 8192 := by
 unfold startsW
 split
 ·exact startsR_range ‹_› _ _
 ·simp
theorem startsW_len (h : Heap) : (startsW h).1.length ≤ 16384 := by
 unfold startsW
 split
 ·rename_i hp
  have := startsR_len h h.pages.length 0
  have := proper_ok hp
  omega
 ·simp
def isObj (h : Heap) (a : Int) : Bool := decide ((atH h a).1.kind ≠ 0)
def objectsW (h : Heap) : List Int × Int := ((startsW h).1.filter (isObj h),(startsW h).2)
theorem objectsW_range (h : Heap) : ∀ x ∈ (objectsW h).1,0 ≤ x ∧ x ≤ 8192 := fun x hx => startsW_range h x (List.mem_filter.1 hx).1
theorem objectsW_len (h : Heap) : (objectsW h).1.length ≤ 16384 := Nat.le_trans (List.length_filter_le _ _) (startsW_len h)
theorem take_getD {l : List Int} {i : Nat} (hi : i < l.length) : l.take (i + 1) = l.take i ++ [l.getD i default] := by
 rw [List.take_succ]
 simp [List.getD,hi]
def objsL (h : Heap) (l : List Int) (ee : Int) (i : Nat) : Tg := ⟨tm 42 [(1,.pt 8001 0 0),(4,wordsV l),(5,int ee),(6,.ow 24006),(7,int i)],[(24006,.arr 56 1 (((l.take i).filter (isObj h)).map wdv)),(8001,.box 28 h.cells)],60⟩
theorem objsRound (h : Heap) (l : List Int) (ee : Int) (i : Nat) (hw : WOk h.words) (hl : l.length ≤ 1048576) (hr : ∀ x ∈ l,0 ≤ x ∧ x ≤ 8192) (hi : i < l.length) : CSpec Tryz.prog (rndF Tryz.f34 0) (objsL h l ee i).st .nrm (objsL h l ee (i + 1)).st := by
 have hx := hr (l.getD i default) (getD_mem_iff.2 ⟨i,hi,rfl⟩)
 have hle : ((l.take i).filter (isObj h)).length ≤ l.length := Nat.le_trans (List.length_filter_le _ _) (by simp; omega)
 have ht := take_getD hi
 by_cases hk : (atH h (l.getD i default)).1.kind = 0
 ·have e : (l.take (i + 1)).filter (isObj h) = (l.take i).filter (isObj h) := by
   have hb : isObj h (l.getD i default) = false := decide_eq_false (by simpa using hk)
   rw [ht,List.filter_append,List.filter_cons,hb,List.filter_nil]; simp
  exact sF [] [false,false,false,false,false,true] (Fl 17 wdv l (Ftb 18 (decide ((↑i : Int) < (↑l.length : Int))) (Fek 25 wdv l (↑i) i (Fc 27 (@ref5At h (l.getD i default) ‹_› (by omega)) (Ffb 32 ((atH h (l.getD i default)).fst.kind != 0) (Fx 20 i (Fr (56 : Int) (Fa (by refine congrArg _ ?_; rw [e] : List.map wdv (List.filter (isObj h) (List.take i l)) =List.map wdv (List.filter (isObj h) (List.take (i + 1) l))) Fz))))))))
 ·have e : (l.take (i + 1)).filter (isObj h) = (l.take i).filter (isObj h) ++ [l.getD i default] := by
   have hb : isObj h (l.getD i default) = true := decide_eq_true hk
   rw [ht,List.filter_append,List.filter_cons,hb,List.filter_nil]; simp
  exact sF [(504039,24006)] [false,false,false,false,false,true] (Fh 39 [.els (List.map wdv (List.filter (isObj h) (List.take i l) ++ [l.getD i default]))] (Fl 17 wdv l (Ftb 18 (decide ((↑i : Int) < (↑l.length : Int))) (Fek 25 wdv l (↑i) i (Fc 27 (@ref5At h (l.getD i default) ‹_› (by omega)) (Ftb 32 ((atH h (l.getD i default)).fst.kind != 0) (Fek 36 wdv l (↑i) i (Fs 38 (List.map wdv [l.getD i default]) (Fa (by (simp [*]; omega) : (List.map wdv (List.filter (isObj h) (List.take i l))).length + (List.map wdv [l.getD i default]).length≤2 ^ 30) (Fa (by simp [List.map_take,List.map_drop,List.map_set,List.map_append,wdv,idv] : List.map wdv (List.filter (isObj h) (List.take i l)) ++ List.map wdv [l.getD i default] =List.map wdv (List.filter (isObj h) (List.take i l) ++ [l.getD i default])) (Fx 20 i (Fr (56 : Int) (Fa (by refine congrArg _ ?_; rw [e] : List.map wdv (List.filter (isObj h) (List.take i l) ++ [l.getD i default]) =List.map wdv (List.filter (isObj h) (List.take (i + 1) l))) Fz)))))))))))))
theorem objsEnd (h : Heap) (l : List Int) (ee : Int) : CSpec Tryz.prog (rndF Tryz.f34 0) (objsL h l ee l.length).st (.ext 0) (Tg.st ⟨tm 42 [(5,int ee),(6,.ow 24006)],[(24006,.arr 56 1 ((l.filter (isObj h)).map wdv))],60⟩) := by
 have e : l.take l.length = l := List.take_length
 exact sF [] [false,false,true] (Fl 17 wdv l (Ffb 18 (decide ((↑l.length : Int) < (↑l.length : Int))) (Fr (56 : Int) (Fa (by refine congrArg _ ?_; rw [e] : List.map wdv (List.filter (isObj h) (List.take l.length l)) =List.map wdv (List.filter (isObj h) l)) Fz))))
theorem objsLoop (h : Heap) (l : List Int) (ee : Int) (hw : WOk h.words) (hl : l.length ≤ 1048576) (hr : ∀ x ∈ l,0 ≤ x ∧ x ≤ 8192) : CSpec Tryz.prog (blkF Tryz.f34 0) (Tg.st ⟨tm 42 [(1,.pt 8001 0 0),(4,wordsV l),(5,int ee),(6,.ow 24006),(7,int 0)],[(24006,.arr 56 1 []),(8001,.box 28 h.cells)],60⟩) .nrm
  (Tg.st ⟨tm 42 [(5,int ee),(6,.ow 24006)],[(24006,.arr 56 1 ((l.filter (isObj h)).map wdv))],60⟩) :=
 loop_ext_of (S := fun i => (objsL h l ee i).st) l.length (by kernel_rfl) (fun i hi => objsRound h l ee i hw hl hr hi) (objsEnd h l ee)
theorem ref6Objects (h : Heap) (hw : WOk h.words) : GSpec Tryz.prog 34 [h.av] false (.tu [wordsV (objectsW h).1,int (objectsW h).2]) [] := by
 have hl := startsW_len h
 have hr := startsW_range h
 exact gF [] Tryz.func34 [] (Fh 6 [.own] (Fc 12 (@ref6Starts h ‹_›) (Fu (@objsLoop h ((startsW h).fst) ((startsW h).snd) ‹_› (by omega) ‹_›) Fz)))
def wordH (h : Heap) (p o : Int) : Int := (loadA h.words (address h.conf p o).1).1
theorem address_range {c : Conf} (hv : validB c = true) (p o : Int) : 0 ≤ (address c p o).1 ∧ (address c p o).1 ≤ 8192 := by
 have ha := area hv
 unfold address
 rw [if_pos hv]
 split
 ·rename_i hb
  have hb := inB_iff.1 hb
  have := inPage hv hb.1 hb.2.1 hb.2.2.1 hb.2.2.2
  simp only; omega
 ·simp
theorem ref6word (h : Heap) (p o : Int) (hp : properB h = true) : GSpec Tryz.prog 245 [h.av,int p,int o] true (u64 (wordH h p o)) [] := by
 have po := proper_ok hp
 have ar := address_range po.1 p o
 exact gF [] Tryz.func245 [] (Fc 16 (@refAddress h.conf p o) (Fc 23 (@ref2Load h.words ((address h.conf p o).fst) (by omega) (by omega)) Fz))
theorem ref6Word (h : Heap) (p o : Int) (hp : properB h = true) : GSpec Tryz.prog 230 [h.av,int p,int o] true (u64 (wordH h p o)) [] := by
 exact gF [] Tryz.func230 [] (Fc 10 (@ref6word h p o ‹_›) Fz)
theorem ref9address (h : Heap) (p o : Int) (hp : properB h = true) (h0 : 0 ≤ p ∧ p < h.conf.pg) (h1 : 0 ≤ o ∧ o ≤ 64) : GSpec Tryz.prog 231 [h.av,int p,int o] true (u64 (4096 + p * h.conf.pw + o)) [] := by
 have po := proper_ok hp
 have ap := at_page po.1 h0.1 h0.2
 exact gF [] Tryz.func231 [] (Fi 11 (p * h.conf.pw) (Fi 12 (4096 + p * h.conf.pw) (Fi 14 (4096 + p * h.conf.pw + o) (Fv 15 (4096 + p * h.conf.pw + o) Fz))))
def headN (l : List Page) : Nat → Nat
 | 0 => 0
 | i + 1 => if (l.getD (i + 1) default).kind = 3 then headN l i else i + 1
theorem page0 {h : Heap} (hp : properB h = true) : (h.pages.getD 0 default).kind ≠ 3 := by
 have hi := properB_iff.1 hp
 have po := proper_ok hp
 have hr := hi.2.2.2.2.2
 rw [rpB_step (by omega) (by omega),Bool.and_eq_true] at hr
 have hc := of_decide_eq_true hr.1
 unfold rchk at hc
 omega
def headL (h : Heap) (i : Nat) : Tg := ⟨tm 15 [(1,int i),(2,.pt 8002 0 0)],[(8002,.box 28 h.cells)],60⟩
theorem headRound (h : Heap) (i : Nat) (hi : i + 1 < h.pages.length) (hl : h.pages.length ≤ 1048576) (hk : (h.pages.getD (i + 1) default).kind = 3) : CSpec Tryz.prog (rndF Tryz.f228 0) (headL h (i + 1)).st .nrm (headL h i).st := by
 have ei : ((i + 1 : Nat) : Int) - 1 = (i : Int) := by omega
 exact sF [] [] (Fek 8 Page.dv h.pages (↑(i + 1) : Int) (i + 1) (Ftb 11 ((h.pages.getD (i + 1) default).kind == 3) (Fg 13 (by rw [wrapI' (by omega) (by omega)]; omega : IntKind.i64.wrap ((↑(i + 1) : Int) - 1) =(↑i : Int)) Fz)))
theorem headEnd (h : Heap) (i : Nat) (hi : i < h.pages.length) (hl : h.pages.length ≤ 1048576) (hk : ¬ (h.pages.getD i default).kind = 3) : CSpec Tryz.prog (rndF Tryz.f228 0) (headL h i).st (.ext 0) (Tg.st ⟨tm 15 [(1,int i)],[],60⟩) := by
 exact sF [] [] (Fek 8 Page.dv h.pages (↑i) i (Ffb 11 ((h.pages.getD i default).kind == 3) Fz))
theorem headGo (h : Heap) (hp : properB h = true) (hl : h.pages.length ≤ 1048576) : ∀ i,i < h.pages.length → LSpec Tryz.prog Tryz.f228 0 (headL h i).st (.ext 0) (Tg.st ⟨tm 15 [(1,int (headN h.pages i))],[],60⟩)
 | 0,hi => .endx (headEnd h 0 hi hl (page0 hp))
 | i + 1,hi => by
  unfold headN
  by_cases hk : (h.pages.getD (i + 1) default).kind = 3
  ·rw [if_pos hk]
   exact .next (headRound h i hi hl hk) (headGo h hp hl i (by omega))
  ·rw [if_neg hk]
   exact .endx (headEnd h (i + 1) hi hl hk)
theorem headLoop (h : Heap) (i : Nat) (hp : properB h = true) (hi : i < h.pages.length) (hl : h.pages.length ≤ 1048576) : CSpec Tryz.prog (blkF Tryz.f228 0) (headL h i).st .nrm (Tg.st ⟨tm 15 [(1,int (headN h.pages i))],[],60⟩) :=
 (headGo h hp hl i hi).ext (by kernel_rfl)
theorem ref9head (h : Heap) (i : Nat) (hp : properB h = true) (hi : i < h.pages.length) : GSpec Tryz.prog 228 [h.av,int i] true (int (headN h.pages i)) [] := by
 have po := proper_ok hp
 exact gF [] Tryz.func228 [] (Fu (@headLoop h i ‹_› ‹_› (by omega)) Fz)
def badClass (h : Heap) (i : Int) (a : Int) : Bool := (decide ((h.pages.getD i.toNat default).kind = 1) && decide (smallWords h.conf < sizeH (atH h a).1)) || (decide ((h.pages.getD i.toNat default).kind = 2) && decide ((atH h a).1.kind = 0))
def classW (h : Heap) (i : Int) (l : List Int) : Int := (l.find? (badClass h i)).getD 0
def classL (h : Heap) (i : Int) (l : List Int) (n : Nat) : Tg := ⟨tm 61 [(1,int i),(2,wordsV l),(3,.pt 8003 0 0),(6,u64 0),(7,int n)],[(8003,.box 28 h.cells)],60⟩
section
variable (h : Heap) (i : Int) (l : List Int) (n : Nat) (hw : WOk h.words) (hl : l.length ≤ 1048576) (hi : 0 ≤ i ∧ i < h.pages.length) (hp : h.pages.length ≤ 1048576) (hr : ∀ x ∈ l,0 ≤ x ∧ x ≤ 8192)
include hw hl hi hp hr
theorem classRound (hn : n < l.length) (hb : badClass h i (l.getD n default) = false) : CSpec Tryz.prog (rndF Tryz.f184 0) (classL h i l n).st .nrm (classL h i l (n + 1)).st := by
 have hx := hr (l.getD n default) (getD_mem_iff.2 ⟨n,hn,rfl⟩)
 have hm := atH_map hw (l.getD n default)
 simp only [badClass,bs] at hb
 exact sF [] [] (Fl 13 wdv l (Ftb 14 (decide ((↑n : Int) < (↑l.length : Int))) (Fek 21 wdv l (↑n) n (Fc 23 (@ref5At h (l.getD n default) ‹_› (by omega)) (Fc 27 (@ref3Size ((atH h (l.getD n default)).fst) ‹_›) (Fc 30 (@refSmallWords h.conf) (Fe 35 Page.dv h.pages i (FeG 47 (!((h.pages.getD i.toNat default).kind == 1&&!decide (sizeH (atH h (l.getD n default)).fst≤smallWords h.conf))) Page.dv h.pages i i.toNat (Ffb 56 ((h.pages.getD i.toNat default).kind == 1&&!decide (sizeH (atH h (l.getD n default)).fst≤smallWords h.conf)||(h.pages.getD i.toNat default).kind == 2&&(atH h (l.getD n default)).fst.kind == 0) (Fx 16 n Fz))))))))))
theorem classFound (hn : n < l.length) (hb : badClass h i (l.getD n default) = true) : CSpec Tryz.prog (rndF Tryz.f184 0) (classL h i l n).st .ret (Tg.st ⟨tm 61 [(6,u64 (l.getD n default))],[],60⟩) := by
 have hx := hr (l.getD n default) (getD_mem_iff.2 ⟨n,hn,rfl⟩)
 have hm := atH_map hw (l.getD n default)
 simp only [badClass,bs] at hb
 refine stretchE [((13 : Nat),[Hint.int (↑l.length : Int)]),((14 : Nat),[Hint.br true]),((21 : Nat),[Hint.el (wdv (l.getD n default))]),((23 : Nat),[Hint.call true (AV.tu [(atH h (l.getD n default)).fst.av,int (atH h (l.getD n default)).snd]) []]),((27 : Nat),[Hint.call true (int (sizeH (atH h (l.getD n default)).fst)) []]),((30 : Nat),[Hint.call true (int (smallWords h.conf)) []]),((35 : Nat),[Hint.el (h.pages.getD i.toNat default).dv]),((47 : Nat),[Hint.el (h.pages.getD i.toNat default).dv]),((56 : Nat),[Hint.br true]),((59 : Nat),[Hint.el (wdv (l.getD n default))])] [] [] [] (φ := (↑(List.map wdv l).length : Int) = (↑l.length : Int) ∧ decide ((↑n : Int) < (↑l.length : Int)) = true ∧ true = true ∧ ((0 : Int) ≤ (↑n : Int) ∧ (List.map wdv l)[(↑n : Int).toNat]? = some (wdv (l.getD n default))) ∧ GSpec Tryz.prog 93 [h.av,u64 (l.getD n default)] true (AV.tu [(atH h (l.getD n default)).fst.av,int (atH h (l.getD n default)).snd]) [] ∧ GSpec Tryz.prog 94 [(atH h (l.getD n default)).fst.av] true (int (sizeH (atH h (l.getD n default)).fst)) [] ∧ GSpec Tryz.prog 87 [h.conf.av] true (int (smallWords h.conf)) [] ∧ ((0 : Int) ≤ i ∧ (List.map Page.dv h.pages)[i.toNat]? = some (h.pages.getD i.toNat default).dv) ∧ ((!((h.pages.getD i.toNat default).kind == (1 : Int) && !decide (sizeH (atH h (l.getD n default)).fst ≤ smallWords h.conf))) = true → (0 : Int) ≤ i ∧ (List.map Page.dv h.pages)[i.toNat]? = some (h.pages.getD i.toNat default).dv) ∧ ((h.pages.getD i.toNat default).kind == (1 : Int) && !decide (sizeH (atH h (l.getD n default)).fst ≤ smallWords h.conf) || (h.pages.getD i.toNat default).kind == (2 : Int) && (atH h (l.getD n default)).fst.kind == (0 : Int)) = true ∧ true = true ∧ (0 : Int) ≤ (↑n : Int) ∧ (List.map wdv l)[(↑n : Int).toNat]? = some (wdv (l.getD n default))) ?_ (by kernel_rfl) (by kernel_rfl) (by kernel_rfl)
 exact ⟨(by simp only [List.length_map]),(by (simp only [bs]; omega)),rfl,(by exact elI (by omega) (by omega) (by omega)),(@ref5At (h) (l.getD n default) ‹_› (by omega)),(@ref3Size ((atH h (l.getD n default)).fst) ‹_›),(@refSmallWords (h.conf)),(by exact elI (by omega) (by omega) (by omega)),(by intro hg; (try simp only [bs] at hg); exact elI (by omega) (by omega) (by omega)),(by (simp only [bs]; omega)),rfl,(by exact elI (by omega) (by omega) (by omega))⟩
omit hw hl hi hp hr in
theorem classEnd : CSpec Tryz.prog (rndF Tryz.f184 0) (classL h i l l.length).st (.ext 0) (Tg.st ⟨tm 61 [(6,u64 0)],[],60⟩) := by
 exact sF [] [] (Fl 13 wdv l (Ffb 14 (decide ((↑l.length : Int) < (↑l.length : Int))) Fz))
end
theorem find_none {l : List Int} {f : Int → Bool} (h : l.find? f = none) : ∀ n,n < l.length → f (l.getD n default) = false := by
 intro n hn
 have := List.find?_eq_none.1 h (l.getD n default) (getD_mem_iff.2 ⟨n,hn,rfl⟩)
 simpa using this
theorem find_some {f : Int → Bool} : ∀ {l : List Int} {x : Int},l.find? f = some x → ∃ n,n < l.length ∧ l.getD n default = x ∧ f x = true ∧ ∀ m,m < n → f (l.getD m default) = false
 | [],x,h => by simp at h
 | a :: l,x,h => by
  rw [List.find?_cons] at h
  split at h
  ·rename_i ha
   cases h
   exact ⟨0,by simp,rfl,ha,fun m hm => by omega⟩
  ·rename_i ha
   obtain ⟨n,h1,h2,h3,h4⟩ := find_some h
   refine ⟨n + 1,by simp; omega,by simpa using h2,h3,fun m hm => ?_⟩
   cases m with
   | zero => simpa using ha
   | succ m => simpa using h4 m (by omega)
theorem classLoop (h : Heap) (i : Int) (l : List Int) (hw : WOk h.words) (hl : l.length ≤ 1048576) (hi : 0 ≤ i ∧ i < h.pages.length) (hp : h.pages.length ≤ 1048576) (hr : ∀ x ∈ l,0 ≤ x ∧ x ≤ 8192) (hf : l.find? (badClass h i) = none) :
  CSpec Tryz.prog (blkF Tryz.f184 0) (Tg.st ⟨tm 61 [(1,int i),(2,wordsV l),(3,.pt 8003 0 0),(6,u64 0),(7,int 0)],[(8003,.box 28 h.cells)],60⟩) .nrm (Tg.st ⟨tm 61 [(6,u64 0)],[],60⟩) :=
 loop_ext_of (S := fun n => (classL h i l n).st) l.length (by kernel_rfl) (fun n hn => classRound h i l n hw hl hi hp hr hn (find_none hf n hn)) (classEnd h i l)
theorem classLoopT (h : Heap) (i : Int) (l : List Int) (x : Int) (hw : WOk h.words) (hl : l.length ≤ 1048576) (hi : 0 ≤ i ∧ i < h.pages.length) (hp : h.pages.length ≤ 1048576) (hr : ∀ x ∈ l,0 ≤ x ∧ x ≤ 8192) (hf : l.find? (badClass h i) = some x) :
  CSpec Tryz.prog (blkF Tryz.f184 0) (Tg.st ⟨tm 61 [(1,int i),(2,wordsV l),(3,.pt 8003 0 0),(6,u64 0),(7,int 0)],[(8003,.box 28 h.cells)],60⟩) .ret (Tg.st ⟨tm 61 [(6,u64 x)],[],60⟩) := by
 obtain ⟨n,h1,h2,h3,h4⟩ := find_some hf
 subst h2
 exact loop_ret_of (S := fun n => (classL h i l n).st) n (by kernel_rfl) (fun m hm => classRound h i l m hw hl hi hp hr (by omega) (h4 m hm)) (classFound h i l n hw hl hi hp hr h1 h3)
theorem ref9class (h : Heap) (i : Int) (l : List Int) (hw : WOk h.words) (hl : l.length ≤ 1048576) (hp : h.pages.length ≤ 1048576) (hi : 0 ≤ i ∧ i < h.pages.length) (hr : ∀ x ∈ l,0 ≤ x ∧ x ≤ 8192) : GSpec Tryz.prog 184 [h.av,int i,wordsV l] true (u64 (classW h i l)) [] := by
 cases hf : l.find? (badClass h i) with
 | none =>
  have e7 : classW h i l = 0 := by rw [classW,hf]; rfl
  exact gF [] Tryz.func184 [false,false,false,false,false,false,true] (Fu (@classLoop h i l ‹_› ‹_› ‹_› ‹_› ‹_› ‹_›) (Fa (by rw [e7] : 0 =classW h i l) Fz))
 | some x =>
  have e7 : classW h i l = x := by rw [classW,hf]; rfl
  exact gF [] Tryz.func184 [false,false,false,false,false,false,true] (Fu (@classLoopT h i l x ‹_› ‹_› ‹_› ‹_› ‹_› ‹_›) (Fa (by rw [e7] : x =classW h i l) Fz))
def bdv (x : Bool) : List DV := [.sc (.bool x)]
def keepN (h : Heap) (a : Int) : Int := if (atH h a).1.kind = 0 then 1 else sizeH (atH h a).1
def coversB (h : Heap) (i : Int) (a : Int) (o : Nat) : Bool := decide (a - 4096 - i * h.conf.pw ≤ o) && decide ((o : Int) < a - 4096 - i * h.conf.pw + keepN h a)
def usedW (h : Heap) (i : Int) (l : List Int) : List Bool := (List.range h.conf.pw.toNat).map fun o => l.any fun a => coversB h i a o
def usedIn (h : Heap) (i : Int) (l : List Int) (a : Int) (w : Nat) : List Bool := (List.range h.conf.pw.toNat).map fun (o : Nat) => (l.any fun a => coversB h i a o) || (decide (a - 4096 - i * h.conf.pw ≤ o) && decide ((o : Int) < a - 4096 - i * h.conf.pw + w))
theorem usedIn_len (h : Heap) (i : Int) (l : List Int) (a : Int) (w : Nat) : (usedIn h i l a w).length = h.conf.pw.toNat := by simp [usedIn]
theorem usedIn_zero (h : Heap) (i : Int) (l : List Int) (a : Int) : usedIn h i l a 0 = usedW h i l := by
 unfold usedIn usedW
 refine List.map_congr_left fun o _ => ?_
 have : (decide (a - 4096 - i * h.conf.pw ≤ (o : Int)) && decide ((o : Int) < a - 4096 - i * h.conf.pw + (0 : Nat))) = false := by
  rw [Bool.and_eq_false_iff]; simp; omega
 rw [this,Bool.or_false]
theorem usedIn_skip {h : Heap} {i : Int} {l : List Int} {a : Int} {w : Nat} (hh : ¬ (0 ≤ a - 4096 + w - i * h.conf.pw ∧ a - 4096 + w - i * h.conf.pw < h.conf.pw)) : usedIn h i l a (w + 1) = usedIn h i l a w := by
 unfold usedIn
 refine List.map_congr_left fun o ho => ?_
 have ho := List.mem_range.1 ho
 congr 1
 rw [Bool.eq_iff_iff]
 simp
 omega
theorem usedIn_set {h : Heap} {i : Int} {l : List Int} {a : Int} {w : Nat} (hh : 0 ≤ a - 4096 + w - i * h.conf.pw ∧ a - 4096 + w - i * h.conf.pw < h.conf.pw) : (usedIn h i l a w).set (a - 4096 + w - i * h.conf.pw).toNat true = usedIn h i l a (w + 1) := by
 apply List.ext_getElem?
 intro j
 rw [List.getElem?_set,usedIn_len]
 unfold usedIn
 by_cases hjl : j < h.conf.pw.toNat
 ·rw [List.getElem?_map,List.getElem?_map,List.getElem?_range hjl,Option.map_some,Option.map_some]
  by_cases hj : (a - 4096 + w - i * h.conf.pw).toNat = j
  ·rw [if_pos hj,if_pos (by omega)]
   congr 1
   symm
   rw [Bool.or_eq_true]
   right
   rw [Bool.and_eq_true,decide_eq_true_eq,decide_eq_true_eq]
   omega
  ·rw [if_neg hj]
   congr 2
   rw [Bool.eq_iff_iff,Bool.and_eq_true,Bool.and_eq_true,decide_eq_true_eq,decide_eq_true_eq,decide_eq_true_eq]
   omega
 ·rw [if_neg (by omega),List.getElem?_map,List.getElem?_map,List.getElem?_eq_none (by simp; omega)]
  rfl
theorem usedIn_all {h : Heap} {i : Int} {l : List Int} {a : Int} (hn : 0 ≤ keepN h a) : usedIn h i l a (keepN h a).toNat = usedW h i (l ++ [a]) := by
 unfold usedIn usedW
 refine List.map_congr_left fun o _ => ?_
 rw [List.any_append]
 congr 1
 simp [coversB]
 rw [Bool.eq_iff_iff]
 simp
 omega
theorem usedW_nil (h : Heap) (i : Int) : usedW h i [] = List.replicate h.conf.pw.toNat false := by
 unfold usedW
 simp [List.map_const']
def usedL (h : Heap) (i : Int) (l : List Int) (k : Nat) : Tg := ⟨tm 69 [(1,int i),(2,wordsV l),(3,.pt 8003 0 0),(7,.ow 16017),(8,int k)],[(16017,.arr 4 1 ((usedW h i (l.take k)).map bdv)),(8003,.box 28 h.cells)],60⟩
def innerL (h : Heap) (i : Int) (l m : List Int) (k : Nat) (n : Int) (w : Nat) : Tg := ⟨tm 69 [(1,int i),(2,wordsV m),(3,.pt 8003 0 0),(7,.ow 16017),(8,int k),(11,int n),(12,int w)],[(16017,.arr 4 1 ((usedIn h i l (m.getD k default) w).map bdv)),(8003,.box 28 h.cells)],60⟩
theorem innerRound (h : Heap) (i : Int) (l m : List Int) (k : Nat) (n : Int) (w : Nat) (hp : properB h = true) (hm : m.length ≤ 1048576) (hi : 0 ≤ i ∧ i < h.pages.length) (hr : 0 ≤ m.getD k default ∧ m.getD k default ≤ 8192) (hk : k < m.length) (hn : n ≤ 256) (hw : w < n) : CSpec Tryz.prog (rndF Tryz.f229 2) (innerL h i l m k n w).st .nrm (innerL h i l m k n (w + 1)).st := by
 have po := proper_ok hp
 have ap := at_page po.1 hi.1 (by omega)
 have hlen := usedIn_len h i l (m.getD k default) w
 by_cases hh : 0 ≤ m.getD k default - 4096 + w - i * h.conf.pw ∧ m.getD k default - 4096 + w - i * h.conf.pw < h.conf.pw
 ·have e := usedIn_set (l := l) hh
  exact sF [] [false,false,false,false,false,false,false,false,false,false,false,true] (Fh 10067 [.els (List.map bdv ((usedIn h i l (m.getD k default) w).set (m.getD k default - 4096 + (↑w : Int) - i * h.conf.pw).toNat true))] (Ftb 40 (decide ((↑w : Int) < n)) (Fek 45 wdv m (↑k) k (Fi 47 (m.getD k default) (Fi 48 (m.getD k default - 4096) (Fi 50 (m.getD k default - 4096 + (↑w : Int)) (Fi 55 (i * h.conf.pw) (Fi 56 (m.getD k default - 4096 + (↑w : Int) - i * h.conf.pw) (FlG 62 (decide (0≤m.getD k default - 4096 + (↑w : Int) - i * h.conf.pw)) bdv (usedIn h i l (m.getD k default) w) (Ftb 64 (decide (0≤m.getD k default - 4096 + (↑w : Int) - i * h.conf.pw)&&decide (m.getD k default - 4096 + (↑w : Int) - i * h.conf.pw < (↑(usedIn h i l (m.getD k default) w).length : Int))) (Fa (by grind [] : 0≤m.getD k default - 4096 + (↑w : Int) - i * h.conf.pw∧(m.getD k default - 4096 + (↑w : Int) - i * h.conf.pw).toNat < (List.map bdv (usedIn h i l (m.getD k default) w)).length) (Fa (by grind [] : (m.getD k default - 4096 + (↑w : Int) - i * h.conf.pw).toNat < (List.map bdv (usedIn h i l (m.getD k default) w)).length) (Fa (by rw [List.map_set]; rfl : (List.map bdv (usedIn h i l (m.getD k default) w)).set (m.getD k default - 4096 + (↑w : Int) - i * h.conf.pw).toNat [DV.sc (Value.bool true)] =List.map bdv ((usedIn h i l (m.getD k default) w).set (m.getD k default - 4096 + (↑w : Int) - i * h.conf.pw).toNat true)) (Fx 42 w (Fr (4 : Int) (Fa (by refine congrArg _ ?_; exact e : List.map bdv ((usedIn h i l (m.getD k default) w).set (m.getD k default - 4096 + (↑w : Int) - i * h.conf.pw).toNat true) =List.map bdv (usedIn h i l (m.getD k default) (w + 1))) Fz))))))))))))))))
 ·have e := usedIn_skip (l := l) hh
  exact sF [] [false,false,false,false,false,false,false,false,false,false,false,true] (Ftb 40 (decide ((↑w : Int) < n)) (Fek 45 wdv m (↑k) k (Fi 47 (m.getD k default) (Fi 48 (m.getD k default - 4096) (Fi 50 (m.getD k default - 4096 + (↑w : Int)) (Fi 55 (i * h.conf.pw) (Fi 56 (m.getD k default - 4096 + (↑w : Int) - i * h.conf.pw) (FlG 62 (decide (0≤m.getD k default - 4096 + (↑w : Int) - i * h.conf.pw)) bdv (usedIn h i l (m.getD k default) w) (Ffb 64 (decide (0≤m.getD k default - 4096 + (↑w : Int) - i * h.conf.pw)&&decide (m.getD k default - 4096 + (↑w : Int) - i * h.conf.pw < (↑(usedIn h i l (m.getD k default) w).length : Int))) (Fx 42 w (Fr (4 : Int) (Fa (by refine congrArg _ ?_; rw [e] : List.map bdv (usedIn h i l (m.getD k default) w) =List.map bdv (usedIn h i l (m.getD k default) (w + 1))) Fz))))))))))))
theorem innerEnd (h : Heap) (i : Int) (l m : List Int) (k : Nat) (n : Int) (w : Nat) (hn : n ≤ w) : CSpec Tryz.prog (rndF Tryz.f229 2) (innerL h i l m k n w).st (.ext 2) (Tg.st ⟨tm 69 [(1,int i),(2,wordsV m),(3,.pt 8003 0 0),(7,.ow 16017),(8,int k)],[(16017,.arr 4 1 ((usedIn h i l (m.getD k default) w).map bdv)),(8003,.box 28 h.cells)],60⟩) := by
 exact sF [] [] (Ffb 40 (decide ((↑w : Int) < n)) Fz)
theorem innerLoop (h : Heap) (i : Int) (m : List Int) (k : Nat) (n : Int) (hp : properB h = true) (hm : m.length ≤ 1048576) (hi : 0 ≤ i ∧ i < h.pages.length) (hr : 0 ≤ m.getD k default ∧ m.getD k default ≤ 8192) (hk : k < m.length) (hn : 0 ≤ n ∧ n ≤ 256) (he : n = keepN h (m.getD k default)) : CSpec Tryz.prog (blkF Tryz.f229 2) (Tg.st ⟨tm 69 [(1,int i),(2,wordsV m),(3,.pt 8003 0 0),(7,.ow 16017),(8,int k),(11,int n),(12,int 0)],[(16017,.arr 4 1 ((usedW h i (m.take k)).map bdv)),(8003,.box 28 h.cells)],60⟩) .nrm
  (Tg.st ⟨tm 69 [(1,int i),(2,wordsV m),(3,.pt 8003 0 0),(7,.ow 16017),(8,int k)],[(16017,.arr 4 1 ((usedW h i (m.take (k + 1))).map bdv)),(8003,.box 28 h.cells)],60⟩) := by
 have := loop_ext_of (S := fun w => (innerL h i (m.take k) m k n w).st) n.toNat (by kernel_rfl) (fun w hw => innerRound h i (m.take k) m k n w hp hm hi hr hk hn.2 (by omega)) (innerEnd h i (m.take k) m k n n.toNat (by omega))
 have e1 : usedIn h i (m.take k) (m.getD k default) n.toNat = usedW h i (m.take (k + 1)) := by
  rw [take_getD hk,he]
  exact usedIn_all (by omega)
 rw [e1] at this
 simp only [innerL,usedIn_zero] at this
 exact this
theorem usedRound (h : Heap) (i : Int) (l : List Int) (k : Nat) (hw : WOk h.words) (hp : properB h = true) (hl : l.length ≤ 1048576) (hi : 0 ≤ i ∧ i < h.pages.length) (hr : ∀ x ∈ l,0 ≤ x ∧ x ≤ 8192) (hk : k < l.length) : CSpec Tryz.prog (rndF Tryz.f229 0) (usedL h i l k).st .nrm (usedL h i l (k + 1)).st := by
 have po := proper_ok hp
 have hx := hr (l.getD k default) (getD_mem_iff.2 ⟨k,hk,rfl⟩)
 have hm := atH_map hw (l.getD k default)
 have hs := sizeH_bounds (atH h (l.getD k default)).1
 by_cases hf : (atH h (l.getD k default)).1.kind = 0
 ·have e : keepN h (l.getD k default) = 1 := by rw [keepN,if_pos hf]
  exact sF [] [] (Fl 20 wdv l (Ftb 21 (decide ((↑k : Int) < (↑l.length : Int))) (Fek 28 wdv l (↑k) k (Fc 30 (@ref5At h (l.getD k default) ‹_› (by omega)) (Fc 34 (@ref3Size ((atH h (l.getD k default)).fst) ‹_›) (Ftb 37 ((atH h (l.getD k default)).fst.kind == 0) (Fu (@innerLoop h i l k (1) ‹_› ‹_› ‹_› ‹_› ‹_› (by omega) (by omega)) (Fx 23 k Fz))))))))
 ·have e : keepN h (l.getD k default) = sizeH (atH h (l.getD k default)).1 := by rw [keepN,if_neg hf]
  exact sF [] [] (Fl 20 wdv l (Ftb 21 (decide ((↑k : Int) < (↑l.length : Int))) (Fek 28 wdv l (↑k) k (Fc 30 (@ref5At h (l.getD k default) ‹_› (by omega)) (Fc 34 (@ref3Size ((atH h (l.getD k default)).fst) ‹_›) (Ffb 37 ((atH h (l.getD k default)).fst.kind == 0) (Fu (@innerLoop h i l k (sizeH (atH h (l.getD k default)).fst) ‹_› ‹_› ‹_› ‹_› ‹_› ‹_› (by omega)) (Fx 23 k Fz))))))))
theorem usedEnd (h : Heap) (i : Int) (l : List Int) : CSpec Tryz.prog (rndF Tryz.f229 0) (usedL h i l l.length).st (.ext 0) (Tg.st ⟨tm 69 [(7,.ow 16017)],[(16017,.arr 4 1 ((usedW h i l).map bdv))],60⟩) := by
 have e : l.take l.length = l := List.take_length
 exact sF [] [false,true] (Fl 20 wdv l (Ffb 21 (decide ((↑l.length : Int) < (↑l.length : Int))) (Fr (4 : Int) (Fa (by refine congrArg _ ?_; rw [e] : List.map bdv (usedW h i (List.take l.length l)) =List.map bdv (usedW h i l)) Fz))))
theorem usedLoop (h : Heap) (i : Int) (l : List Int) (hw : WOk h.words) (hp : properB h = true) (hl : l.length ≤ 1048576) (hi : 0 ≤ i ∧ i < h.pages.length) (hr : ∀ x ∈ l,0 ≤ x ∧ x ≤ 8192) : CSpec Tryz.prog (blkF Tryz.f229 0) (Tg.st ⟨tm 69 [(1,int i),(2,wordsV l),(3,.pt 8003 0 0),(7,.ow 16017),(8,int 0)],[(16017,.arr 4 1 ((List.replicate h.conf.pw.toNat false).map bdv)),(8003,.box 28 h.cells)],60⟩) .nrm
  (Tg.st ⟨tm 69 [(7,.ow 16017)],[(16017,.arr 4 1 ((usedW h i l).map bdv))],60⟩) := by
 have := loop_ext_of (S := fun k => (usedL h i l k).st) l.length (by kernel_rfl) (fun k hk => usedRound h i l k hw hp hl hi hr hk) (usedEnd h i l)
 simp only [usedL,List.take_zero,usedW_nil] at this
 exact this
theorem ref9used (h : Heap) (i : Int) (l : List Int) (hw : WOk h.words) (hp : properB h = true) (hl : l.length ≤ 1048576) (hi : 0 ≤ i ∧ i < h.pages.length) (hr : ∀ x ∈ l,0 ≤ x ∧ x ≤ 8192) : GSpec Tryz.prog 229 [h.av,int i,wordsV l] false (.d (.sl 1 ((usedW h i l).map bdv))) [] := by
 have po := proper_ok hp
 exact gF [] Tryz.func229 [] (Fh 17 [.els (List.map bdv (List.replicate h.conf.pw.toNat false))] (Fb (0≤h.conf.pw∧h.conf.pw≤h.conf.pw∧h.conf.pw * ((↑(nat_lit 0) : Int) + 1)≤2 ^ 48) (Fa (by rw [List.map_replicate]; rfl : List.replicate h.conf.pw.toNat [DV.sc (Value.bool false)] =List.map bdv (List.replicate h.conf.pw.toNat false)) (Fu (@usedLoop h i l ‹_› ‹_› ‹_› ‹_› ‹_›) Fz))))
def usedP (h : Heap) (i : Nat) : List Bool := usedW h i (pageW h (headN h.pages i : Nat)).1
theorem usedP_len (h : Heap) (i : Nat) : (usedP h i).length = h.conf.pw.toNat := by simp [usedP,usedW]
theorem headN_le (l : List Page) : ∀ i,headN l i ≤ i
 | 0 => Nat.le_refl _
 | i + 1 => by
  have := headN_le l i
  unfold headN
  split <;> omega
def dirtL (h : Heap) (i : Nat) (u : List Bool) (k : Nat) : Tg := ⟨tm 43 [(1,int i),(2,.pt 8002 0 0),(4,u64 0),(7,.d (.sl 1 (u.map bdv))),(8,int k)],[(8002,.box 28 h.cells)],60⟩
section
variable (h : Heap) (i : Nat) (u : List Bool) (k : Nat) (hp : properB h = true) (hi : i < h.pages.length) (hu : u.length ≤ 64)
include hp hi hu
theorem dirtRound (hk : k < u.length) (hd : u.getD k default = true ∨ wordH h i k = 0) : CSpec Tryz.prog (rndF Tryz.f185 0) (dirtL h i u k).st .nrm (dirtL h i u (k + 1)).st := by
 have po := proper_ok hp
 rcases hd with hd | hd
 ·exact sF [] [] (Fl 23 bdv u (Ftb 24 (decide ((↑k : Int) < (↑u.length : Int))) (Fek 29 bdv u (↑k) k (FcG 36 (!u.getD k default) (fun hg => by (try simp only [bs] at hg); exact @ref6Word h ((↑i : Int)) ((↑k : Int)) (by (try simp only [bs] at hg); assumption)) (Ff 38 (by simp only [bs, *,true_or,or_true,true_and,and_true,not_true_eq_false,not_false_eq_true,Bool.true_eq_false,Bool.false_eq_true] : (!u.getD k default&&wordH h (↑i : Int) (↑k : Int) != 0)=false) (Fx 26 k Fz))))))
 ·exact sF [] [] (Fl 23 bdv u (Ftb 24 (decide ((↑k : Int) < (↑u.length : Int))) (Fek 29 bdv u (↑k) k (FcG 36 (!u.getD k default) (fun hg => by (try simp only [bs] at hg); exact @ref6Word h ((↑i : Int)) ((↑k : Int)) (by (try simp only [bs] at hg); assumption)) (Ffb 38 (!u.getD k default&&wordH h (↑i : Int) (↑k : Int) != 0) (Fx 26 k Fz))))))
theorem dirtFound (hk : k < u.length) (hd : u.getD k default = false ∧ ¬ wordH h i k = 0) : CSpec Tryz.prog (rndF Tryz.f185 0) (dirtL h i u k).st .ret (Tg.st ⟨tm 43 [(4,u64 (4096 + i * h.conf.pw + k))],[],60⟩) := by
 have po := proper_ok hp
 obtain ⟨hd1,hd2⟩ := hd
 exact sF [] [] (Fl 23 bdv u (Ftb 24 (decide ((↑k : Int) < (↑u.length : Int))) (Fek 29 bdv u (↑k) k (FcG 36 (!u.getD k default) (fun hg => by (try simp only [bs] at hg); exact @ref6Word h ((↑i : Int)) ((↑k : Int)) (by (try simp only [bs] at hg); assumption)) (Ft 38 (by simp only [bs, *,true_or,or_true,true_and,and_true,not_true_eq_false,not_false_eq_true,Bool.true_eq_false,Bool.false_eq_true] : (!u.getD k default&&wordH h (↑i : Int) (↑k : Int) != 0)=true) (Fc 42 (@ref9address h ((↑i : Int)) ((↑k : Int)) ‹_› (by omega) (by omega)) Fz))))))
omit hp hi hu in
theorem dirtEnd : CSpec Tryz.prog (rndF Tryz.f185 0) (dirtL h i u u.length).st (.ext 0) (Tg.st ⟨tm 43 [(4,u64 0)],[],60⟩) := by
 exact sF [] [] (Fl 23 bdv u (Ffb 24 (decide ((↑u.length : Int) < (↑u.length : Int))) Fz))
end
def badD (h : Heap) (i : Nat) (u : List Bool) (k : Nat) : Bool := !u.getD k default && decide (wordH h i k ≠ 0)
def dirtV (h : Heap) (i : Nat) (u : List Bool) : Int := match (List.range u.length).find? (badD h i u) with | some k => 4096 + i * h.conf.pw + k | none => 0
theorem dirtLoop (h : Heap) (i : Nat) (u : List Bool) (hp : properB h = true) (hi : i < h.pages.length) (hu : u.length ≤ 64) (hf : (List.range u.length).find? (badD h i u) = none) :
  CSpec Tryz.prog (blkF Tryz.f185 0) (Tg.st ⟨tm 43 [(1,int i),(2,.pt 8002 0 0),(4,u64 0),(7,.d (.sl 1 (u.map bdv))),(8,int 0)],[(8002,.box 28 h.cells)],60⟩) .nrm (Tg.st ⟨tm 43 [(4,u64 0)],[],60⟩) := by
 refine loop_ext_of (S := fun k => (dirtL h i u k).st) u.length (by kernel_rfl) (fun k hk => dirtRound h i u k hp hi hu hk ?_) (dirtEnd h i u)
 have := List.find?_eq_none.1 hf k (List.mem_range.2 hk)
 simp only [badD,bs] at this
 cases hb : u.getD k default with
 | true => exact .inl rfl
 | false =>
  rw [hb] at this
  exact .inr (by simpa using this)
theorem dirtLoopT (h : Heap) (i : Nat) (u : List Bool) (k : Nat) (hp : properB h = true) (hi : i < h.pages.length) (hu : u.length ≤ 64) (hf : (List.range u.length).find? (badD h i u) = some k) :
  CSpec Tryz.prog (blkF Tryz.f185 0) (Tg.st ⟨tm 43 [(1,int i),(2,.pt 8002 0 0),(4,u64 0),(7,.d (.sl 1 (u.map bdv))),(8,int 0)],[(8002,.box 28 h.cells)],60⟩) .ret (Tg.st ⟨tm 43 [(4,u64 (4096 + i * h.conf.pw + k))],[],60⟩) := by
 obtain ⟨h1,h2,h3⟩ := List.find?_range_eq_some.1 hf
 have h2 := List.mem_range.1 h2
 refine loop_ret_of (S := fun k => (dirtL h i u k).st) k (by kernel_rfl) (fun m hm => dirtRound h i u m hp hi hu (by omega) ?_) (dirtFound h i u k hp hi hu h2 ?_)
 ·have := h3 m hm
  simp only [badD,bs] at this
  cases hb : u.getD m default with
  | true => exact .inl rfl
  | false =>
   rw [hb] at this
   exact .inr (by simpa using this)
 ·simp only [badD,bs] at h1
  exact ⟨h1.1,h1.2⟩
theorem ref9dirt (h : Heap) (i : Nat) (hw : WOk h.words) (hp : properB h = true) (hi : i < h.pages.length) : GSpec Tryz.prog 185 [h.av,int i] true (u64 (dirtV h i (usedP h i))) [] := by
 have po := proper_ok hp
 have hh := headN_le h.pages i
 have hn := pageW_len h (headN h.pages i : Nat)
 have hr := pageW_range hp (headN h.pages i : Nat)
 have hl := usedP_len h i
 unfold usedP at hl ⊢
 cases hf : (List.range (usedW h i (pageW h (headN h.pages i : Nat)).1).length).find? (badD h i (usedW h i (pageW h (headN h.pages i : Nat)).1)) with
 | none =>
  have e7 : dirtV h i (usedW h i (pageW h (headN h.pages i : Nat)).1) = 0 := by rw [dirtV,hf]
  exact gF [] Tryz.func185 [false,false,false,false,false,false,true] (Fc 13 (@ref9head h i ‹_› ‹_›) (Fc 14 (@ref6Page h ((↑(headN h.pages i) : Int)) ‹_›) (Fc 20 (@ref9used h ((↑i : Int)) ((pageW h (↑(headN h.pages i) : Int)).fst) ‹_› ‹_› (by omega) (by omega) ‹_›) (Fu (@dirtLoop h i (usedW h (↑i : Int) (pageW h (↑(headN h.pages i) : Int)).fst) ‹_› ‹_› (by omega) ‹_›) (Fa (by rw [e7] : 0 =dirtV h i (usedW h (↑i : Int) (pageW h (↑(headN h.pages i) : Int)).fst)) Fz)))))
 | some k =>
  have e7 : dirtV h i (usedW h i (pageW h (headN h.pages i : Nat)).1) = 4096 + i * h.conf.pw + k := by rw [dirtV,hf]
  exact gF [] Tryz.func185 [false,false,false,false,false,false,true] (Fc 13 (@ref9head h i ‹_› ‹_›) (Fc 14 (@ref6Page h ((↑(headN h.pages i) : Int)) ‹_›) (Fc 20 (@ref9used h ((↑i : Int)) ((pageW h (↑(headN h.pages i) : Int)).fst) ‹_› ‹_› (by omega) (by omega) ‹_›) (Fu (@dirtLoopT h i (usedW h (↑i : Int) (pageW h (↑(headN h.pages i) : Int)).fst) k ‹_› ‹_› (by omega) ‹_›) (Fa (by rw [e7] : 4096 + (↑i : Int) * h.conf.pw + (↑k : Int) =dirtV h i (usedW h (↑i : Int) (pageW h (↑(headN h.pages i) : Int)).fst)) Fz)))))
structure Finding where
 fault : Int
 page : Int
 addr : Int
 deriving DecidableEq,Inhabited
def Finding.av (f : Finding) : AV := .ag [int f.fault,int f.page,u64 f.addr]
def pageF (h : Heap) (i : Nat) : Finding :=
 if (h.pages.getD i default).kind ≠ 0 ∧ (h.pages.getD i default).space ≠ h.space then ⟨2,i,0⟩
 else if (pageW h (i : Int)).2 ≠ 0 then ⟨3,i,0⟩
 else if classW h (i : Int) (pageW h (i : Int)).1 ≠ 0 then ⟨5,i,classW h (i : Int) (pageW h (i : Int)).1⟩
 else if dirtV h i (usedP h i) ≠ 0 then ⟨4,i,dirtV h i (usedP h i)⟩ else ⟨0,0,0⟩
theorem ref9page (h : Heap) (i : Nat) (hw : WOk h.words) (hp : properB h = true) (hi : i < h.pages.length) : GSpec Tryz.prog 110 [h.av,int i] true (pageF h i).av [] := by
 have po := proper_ok hp
 have hn := pageW_len h (i : Int)
 have hr := pageW_range hp (i : Int)
 have Q0 {h_ c_ p_} (r_ : Fq h_ c_ p_) := Fek 12 Page.dv h.pages (↑i) i (FeG 20 ((h.pages.getD i default).kind != 0) Page.dv h.pages (↑i) i r_)
 rcases bb ((h.pages.getD i default).kind != 0 && (h.pages.getD i default).space != h.space) with hc0 | hc0<;>have hc0p:=hc0<;>simp only [bs] at hc0p
 ·obtain ⟨hc0pa,hc0pb⟩ := hc0p
  exact gF [] Tryz.func110 [false,false,false,false,false,false,false,false,false,true] (Q0 (Ft 26 hc0 (Fa (by (simp only [pageF]; (repeat' split) <;> first | rfl | omega | (exfalso; omega) | simp_all) : 2 =(pageF h i).fault) (Fa (by (simp only [pageF]; (repeat' split) <;> first | rfl | omega | (exfalso; omega) | simp_all) : (↑i : Int) =(pageF h i).page) (Fa (by (simp only [pageF]; (repeat' split) <;> first | rfl | omega | (exfalso; omega) | simp_all) : 0 =(pageF h i).addr) Fz)))))
 ·have Q1 {h_ c_ p_} (r_ : Fq h_ c_ p_) := Q0 (Ff 26 hc0 (Fc 32 (@ref6Page h ((↑i : Int)) ‹_›) r_))
  rcases bb ((pageW h (↑i : Int)).snd != 0) with hc1 | hc1<;>have hc1p:=hc1<;>simp only [bs] at hc1p
  ·exact gF [] Tryz.func110 [false,false,false,false,false,false,false,false,false,true] (Q1 (Ft 36 hc1 (Fa (by (simp only [pageF]; (repeat' split) <;> first | rfl | omega | (exfalso; omega) | simp_all) : 3 =(pageF h i).fault) (Fa (by (simp only [pageF]; (repeat' split) <;> first | rfl | omega | (exfalso; omega) | simp_all) : (↑i : Int) =(pageF h i).page) (Fa (by (simp only [pageF]; (repeat' split) <;> first | rfl | omega | (exfalso; omega) | simp_all) : 0 =(pageF h i).addr) Fz)))))
  ·have Q2 {h_ c_ p_} (r_ : Fq h_ c_ p_) := Q1 (Ff 36 hc1 (Fc 42 (@ref9class h ((↑i : Int)) ((pageW h (↑i : Int)).fst) ‹_› (by omega) (by omega) (by omega) ‹_›) r_))
   rcases bb (classW h (↑i : Int) (pageW h (↑i : Int)).fst != 0) with hc2 | hc2<;>have hc2p:=hc2<;>simp only [bs] at hc2p
   ·exact gF [] Tryz.func110 [false,false,false,false,false,false,false,false,false,true] (Q2 (Ft 44 hc2 (Fa (by (simp only [pageF]; (repeat' split) <;> first | rfl | omega | (exfalso; omega) | simp_all) : 5 =(pageF h i).fault) (Fa (by (simp only [pageF]; (repeat' split) <;> first | rfl | omega | (exfalso; omega) | simp_all) : (↑i : Int) =(pageF h i).page) (Fa (by (simp only [pageF]; (repeat' split) <;> first | rfl | omega | (exfalso; omega) | simp_all) : classW h (↑i : Int) (pageW h (↑i : Int)).fst =(pageF h i).addr) Fz)))))
   ·have Q3 {h_ c_ p_} (r_ : Fq h_ c_ p_) := Q2 (Ff 44 hc2 (Fc 50 (@ref9dirt h i ‹_› ‹_› ‹_›) r_))
    rcases bb (dirtV h i (usedP h i) != 0) with hc3 | hc3<;>have hc3p:=hc3<;>simp only [bs] at hc3p
    ·exact gF [] Tryz.func110 [false,false,false,false,false,false,false,false,false,true] (Q3 (Ft 52 hc3 (Fa (by (simp only [pageF]; (repeat' split) <;> first | rfl | omega | (exfalso; omega) | simp_all) : 4 =(pageF h i).fault) (Fa (by (simp only [pageF]; (repeat' split) <;> first | rfl | omega | (exfalso; omega) | simp_all) : (↑i : Int) =(pageF h i).page) (Fa (by (simp only [pageF]; (repeat' split) <;> first | rfl | omega | (exfalso; omega) | simp_all) : dirtV h i (usedP h i) =(pageF h i).addr) Fz)))))
    ·exact gF [] Tryz.func110 [false,false,false,false,false,false,false,false,false,true] (Q3 (Ff 52 hc3 (Fa (by (simp only [pageF]; (repeat' split) <;> first | rfl | omega | (exfalso; omega) | simp_all) : 0 =(pageF h i).fault) (Fa (by (simp only [pageF]; (repeat' split) <;> first | rfl | omega | (exfalso; omega) | simp_all) : 0 =(pageF h i).page) (Fa (by (simp only [pageF]; (repeat' split) <;> first | rfl | omega | (exfalso; omega) | simp_all) : 0 =(pageF h i).addr) Fz)))))
def ptr9L (h : Heap) (all : List Int) (i : Nat) : Tg := ⟨tm 89 [(1,.pt 8001 0 0),(2,.pt 8002 0 0),(3,wordsV all),(5,int i)],[(8002,.box 72 [int 0,int 0,u64 0]),(8001,.box 28 h.cells)],60⟩
def ptrBB (hd : Header) (fs all : List Int) (k : Nat) : Bool := pointerH hd k && decide (fs.getD k default ≠ 0) && !decide (fs.getD k default ∈ all)
def inn9L (h : Heap) (all fs : List Int) (hd : Header) (i k : Nat) : Tg := ⟨tm 89 [(1,.pt 8001 0 0),(2,.pt 8002 0 0),(3,wordsV all),(5,int i),(6,.pt 488006 0 0),(8,wordsV fs),(10,int k)],[(488006,.box 143 [int hd.kind,int hd.length,u32 hd.map]),(8002,.box 72 [int 0,int 0,u64 0]),(8001,.box 28 h.cells)],64⟩
section
variable (h : Heap) (all fs : List Int) (hd : Header) (i k : Nat) (hm : 0 ≤ hd.map ∧ hd.map ≤ 4294967295) (hl : all.length ≤ 1048576) (hf : fs.length ≤ 4096) (hr : 0 ≤ all.getD i default ∧ all.getD i default ≤ 8192) (hi : i < all.length)
include hm hl hf hr hi
theorem inn9Round (hk : k < fs.length) (hb : ptrBB hd fs all k = false) : CSpec Tryz.prog (rndF Tryz.f111 2) (inn9L h all fs hd i k).st .nrm (inn9L h all fs hd i (k + 1)).st := by
 simp only [ptrBB,bs] at hb
 rcases hb with (hb | hb) | hb
 ·exact sF [] [] (Fl 46 wdv fs (Ftb 47 (decide ((↑k : Int) < (↑fs.length : Int))) (Fc 52 (@ref3Pointer hd ((↑k : Int)) ‹_›) (FeG 56 (pointerH hd (↑k : Int)) wdv fs (↑k) k (FeG 64 (pointerH hd (↑k : Int)&&fs.getD k default != 0) wdv fs (↑k) k (FcG 66 (pointerH hd (↑k : Int)&&fs.getD k default != 0) (fun hg => by (try simp only [bs] at hg); exact @ref6Has all (fs.getD k default) (by (try simp only [bs] at hg); assumption)) (Ff 68 (by simp only [bs, *,true_or,or_true,true_and,and_true,not_true_eq_false,not_false_eq_true,Bool.true_eq_false,Bool.false_eq_true] : (pointerH hd (↑k : Int)&&fs.getD k default != 0&&!decide (fs.getD k default ∈ all))=false) (Fx 49 k Fz))))))))
 ·exact sF [] [] (Fl 46 wdv fs (Ftb 47 (decide ((↑k : Int) < (↑fs.length : Int))) (Fc 52 (@ref3Pointer hd ((↑k : Int)) ‹_›) (FeG 56 (pointerH hd (↑k : Int)) wdv fs (↑k) k (FeG 64 (pointerH hd (↑k : Int)&&fs.getD k default != 0) wdv fs (↑k) k (FcG 66 (pointerH hd (↑k : Int)&&fs.getD k default != 0) (fun hg => by (try simp only [bs] at hg); exact @ref6Has all (fs.getD k default) (by (try simp only [bs] at hg); assumption)) (Ffb 68 (pointerH hd (↑k : Int)&&fs.getD k default != 0&&!decide (fs.getD k default ∈ all)) (Fx 49 k Fz))))))))
 ·exact sF [] [] (Fl 46 wdv fs (Ftb 47 (decide ((↑k : Int) < (↑fs.length : Int))) (Fc 52 (@ref3Pointer hd ((↑k : Int)) ‹_›) (FeG 56 (pointerH hd (↑k : Int)) wdv fs (↑k) k (FeG 64 (pointerH hd (↑k : Int)&&fs.getD k default != 0) wdv fs (↑k) k (FcG 66 (pointerH hd (↑k : Int)&&fs.getD k default != 0) (fun hg => by (try simp only [bs] at hg); exact @ref6Has all (fs.getD k default) (by (try simp only [bs] at hg); assumption)) (Ff 68 (by simp only [bs, *,true_or,or_true,true_and,and_true,not_true_eq_false,not_false_eq_true,Bool.true_eq_false,Bool.false_eq_true] : (pointerH hd (↑k : Int)&&fs.getD k default != 0&&!decide (fs.getD k default ∈ all))=false) (Fx 49 k Fz))))))))
theorem inn9Found (hk : k < fs.length) (hb : ptrBB hd fs all k = true) : CSpec Tryz.prog (rndF Tryz.f111 2) (inn9L h all fs hd i k).st .ret (Tg.st ⟨tm 89 [(2,.pt 8002 0 0)],[(8002,.box 72 [int 6,int (ofA h.conf (all.getD i default + 1 + k)).1,u64 (all.getD i default + 1 + k)])],64⟩) := by
 simp only [ptrBB,bs] at hb
 obtain ⟨⟨hb1,hb2⟩,hb3⟩ := hb
 exact sF [] [] (Fl 46 wdv fs (Ftb 47 (decide ((↑k : Int) < (↑fs.length : Int))) (Fc 52 (@ref3Pointer hd ((↑k : Int)) ‹_›) (FeG 56 (pointerH hd (↑k : Int)) wdv fs (↑k) k (FeG 64 (pointerH hd (↑k : Int)&&fs.getD k default != 0) wdv fs (↑k) k (FcG 66 (pointerH hd (↑k : Int)&&fs.getD k default != 0) (fun hg => by (try simp only [bs] at hg); exact @ref6Has all (fs.getD k default) (by (try simp only [bs] at hg); assumption)) (Ft 68 (by simp only [bs, *,true_or,or_true,true_and,and_true,not_true_eq_false,not_false_eq_true,Bool.true_eq_false,Bool.false_eq_true] : (pointerH hd (↑k : Int)&&fs.getD k default != 0&&!decide (fs.getD k default ∈ all))=true) (Fek 71 wdv all (↑i) i (Fv 73 (all.getD i default + 1) (Fv 75 (↑k) (Fv 76 (all.getD i default + 1 + (↑k : Int)) (Fc 81 (@refOf h.conf (all.getD i default + 1 + (↑k : Int)) (by omega) (by omega)) Fz))))))))))))
omit hm hl hf hr hi in
theorem inn9End : CSpec Tryz.prog (rndF Tryz.f111 2) (inn9L h all fs hd i fs.length).st (.ext 2) (Tg.st ⟨tm 89 [(1,.pt 8001 0 0),(2,.pt 8002 0 0),(3,wordsV all),(5,int i)],[(8002,.box 72 [int 0,int 0,u64 0]),(8001,.box 28 h.cells)],64⟩) := by
 exact sF [] [] (Fl 46 wdv fs (Ffb 47 (decide ((↑fs.length : Int) < (↑fs.length : Int))) Fz))
end
section
variable (h : Heap) (all fs : List Int) (hd : Header) (i : Nat) (hm : 0 ≤ hd.map ∧ hd.map ≤ 4294967295) (hl : all.length ≤ 1048576) (hf : fs.length ≤ 4096) (hr : 0 ≤ all.getD i default ∧ all.getD i default ≤ 8192) (hi : i < all.length)
include hm hl hf hr hi
theorem inn9Loop (hb : (List.range fs.length).find? (ptrBB hd fs all) = none) : CSpec Tryz.prog (blkF Tryz.f111 2) (Tg.st ⟨tm 89 [(1,.pt 8001 0 0),(2,.pt 8002 0 0),(3,wordsV all),(5,int i),(6,.pt 488006 0 0),(8,wordsV fs),(10,int 0)],[(488006,.box 143 [int hd.kind,int hd.length,u32 hd.map]),(8002,.box 72 [int 0,int 0,u64 0]),(8001,.box 28 h.cells)],64⟩) .nrm (Tg.st ⟨tm 89 [(1,.pt 8001 0 0),(2,.pt 8002 0 0),(3,wordsV all),(5,int i)],[(8002,.box 72 [int 0,int 0,u64 0]),(8001,.box 28 h.cells)],64⟩) := by
 refine loop_ext_of (S := fun k => (inn9L h all fs hd i k).st) fs.length (by kernel_rfl) (fun k hk => inn9Round h all fs hd i k hm hl hf hr hi hk ?_) (inn9End h all fs hd i)
 have := List.find?_eq_none.1 hb k (List.mem_range.2 hk)
 simpa using this
theorem inn9LoopT (k : Nat) (hb : (List.range fs.length).find? (ptrBB hd fs all) = some k) : CSpec Tryz.prog (blkF Tryz.f111 2) (Tg.st ⟨tm 89 [(1,.pt 8001 0 0),(2,.pt 8002 0 0),(3,wordsV all),(5,int i),(6,.pt 488006 0 0),(8,wordsV fs),(10,int 0)],[(488006,.box 143 [int hd.kind,int hd.length,u32 hd.map]),(8002,.box 72 [int 0,int 0,u64 0]),(8001,.box 28 h.cells)],64⟩) .ret (Tg.st ⟨tm 89 [(2,.pt 8002 0 0)],[(8002,.box 72 [int 6,int (ofA h.conf (all.getD i default + 1 + k)).1,u64 (all.getD i default + 1 + k)])],64⟩) := by
 obtain ⟨h1,h2,h3⟩ := List.find?_range_eq_some.1 hb
 have h2 := List.mem_range.1 h2
 refine loop_ret_of (S := fun k => (inn9L h all fs hd i k).st) k (by kernel_rfl) (fun m hm' => inn9Round h all fs hd i m hm hl hf hr hi (by omega) ?_) (inn9Found h all fs hd i k hm hl hf hr hi h2 h1)
 have := h3 m hm'
 simpa using this
end
theorem fieldsH_len (h : Heap) (a : Int) : (fieldsH h a).1.length ≤ 4096 := by
 unfold fieldsH
 split
 ·rename_i e
  have po := proper_ok (getH_ok e).2.2.1
  have := readA_len h.words (a + 1) (getH h a).1.length
  omega
 ·simp
def ptrFound (h : Heap) (all : List Int) (i : Nat) : Option Nat := (List.range (fieldsH h (all.getD i default)).1.length).find? (ptrBB (getH h (all.getD i default)).1 (fieldsH h (all.getD i default)).1 all)
section
variable (h : Heap) (all : List Int) (i : Nat) (hw : WOk h.words) (hl : all.length ≤ 1048576) (hr : 0 ≤ all.getD i default ∧ all.getD i default ≤ 8192) (hi : i < all.length)
include hw hl hr hi
theorem ptr9Round (hb : ptrFound h all i = none) : CSpec Tryz.prog (rndF Tryz.f111 0) (ptr9L h all i).st .nrm (ptr9L h all (i + 1)).st := by
 have hm := getH_map hw (all.getD i default)
 have hf : (fieldsH h (all.getD i default)).1.length ≤ 4096 := fieldsH_len h _
 unfold ptrFound at hb
 exact sF [] [] (Fl 22 wdv all (Ftb 23 (decide ((↑i : Int) < (↑all.length : Int))) (Fek 30 wdv all (↑i) i (Fc 32 (@ref5Get h (all.getD i default) ‹_› (by omega)) (Fek 39 wdv all (↑i) i (Fc 41 (@ref5Fields h (all.getD i default) ‹_› (by omega)) (Fu (@inn9Loop h all ((fieldsH h (all.getD i default)).fst) ((getH h (all.getD i default)).fst) i ‹_› ‹_› ‹_› ‹_› ‹_› ‹_›) (Fx 25 i Fz))))))))
theorem ptr9Found (k : Nat) (hb : ptrFound h all i = some k) : CSpec Tryz.prog (rndF Tryz.f111 0) (ptr9L h all i).st .ret (Tg.st ⟨tm 89 [(2,.pt 8002 0 0)],[(8002,.box 72 [int 6,int (ofA h.conf (all.getD i default + 1 + k)).1,u64 (all.getD i default + 1 + k)])],60⟩) := by
 have hm := getH_map hw (all.getD i default)
 have hf : (fieldsH h (all.getD i default)).1.length ≤ 4096 := fieldsH_len h _
 unfold ptrFound at hb
 exact sF [] [] (Fl 22 wdv all (Ftb 23 (decide ((↑i : Int) < (↑all.length : Int))) (Fek 30 wdv all (↑i) i (Fc 32 (@ref5Get h (all.getD i default) ‹_› (by omega)) (Fek 39 wdv all (↑i) i (Fc 41 (@ref5Fields h (all.getD i default) ‹_› (by omega)) (Fu (@inn9LoopT h all ((fieldsH h (all.getD i default)).fst) ((getH h (all.getD i default)).fst) i ‹_› ‹_› ‹_› ‹_› ‹_› k ‹_›) Fz)))))))
end
theorem ptr9End (h : Heap) (all : List Int) : CSpec Tryz.prog (rndF Tryz.f111 0) (ptr9L h all all.length).st (.ext 0) (Tg.st ⟨tm 89 [(2,.pt 8002 0 0)],[(8002,.box 72 [int 0,int 0,u64 0])],60⟩) := by
 exact sF [] [] (Fl 22 wdv all (Ffb 23 (decide ((↑all.length : Int) < (↑all.length : Int))) Fz))
def pointersF (h : Heap) (all : List Int) : Finding :=
 match (List.range all.length).find? (fun i => (ptrFound h all i).isSome) with
 | none => ⟨0,0,0⟩
 | some i => ⟨6,(ofA h.conf (all.getD i default + 1 + ((ptrFound h all i).getD 0 : Nat))).1,all.getD i default + 1 + ((ptrFound h all i).getD 0 : Nat)⟩
section
variable (h : Heap) (all : List Int) (hw : WOk h.words) (hl : all.length ≤ 1048576) (hr : ∀ x ∈ all,0 ≤ x ∧ x ≤ 8192)
include hw hl hr
theorem ptr9Loop (hb : (List.range all.length).find? (fun i => (ptrFound h all i).isSome) = none) : CSpec Tryz.prog (blkF Tryz.f111 0) (Tg.st ⟨tm 89 [(1,.pt 8001 0 0),(2,.pt 8002 0 0),(3,wordsV all),(5,int 0)],[(8002,.box 72 [int 0,int 0,u64 0]),(8001,.box 28 h.cells)],60⟩) .nrm (Tg.st ⟨tm 89 [(2,.pt 8002 0 0)],[(8002,.box 72 [int 0,int 0,u64 0])],60⟩) := by
 refine loop_ext_of (S := fun k => (ptr9L h all k).st) all.length (by kernel_rfl) (fun k hk => ptr9Round h all k hw hl (hr _ (getD_mem_iff.2 ⟨k,hk,rfl⟩)) hk ?_) (ptr9End h all)
 have := List.find?_eq_none.1 hb k (List.mem_range.2 hk)
 simpa using this
theorem ptr9LoopT (i k : Nat) (hb : (List.range all.length).find? (fun i => (ptrFound h all i).isSome) = some i) (hk' : ptrFound h all i = some k) : CSpec Tryz.prog (blkF Tryz.f111 0) (Tg.st ⟨tm 89 [(1,.pt 8001 0 0),(2,.pt 8002 0 0),(3,wordsV all),(5,int 0)],[(8002,.box 72 [int 0,int 0,u64 0]),(8001,.box 28 h.cells)],60⟩) .ret (Tg.st ⟨tm 89 [(2,.pt 8002 0 0)],[(8002,.box 72 [int 6,int (ofA h.conf (all.getD i default + 1 + k)).1,u64 (all.getD i default + 1 + k)])],60⟩) := by
 obtain ⟨h1,h2,h3⟩ := List.find?_range_eq_some.1 hb
 have h2 := List.mem_range.1 h2
 refine loop_ret_of (S := fun k => (ptr9L h all k).st) i (by kernel_rfl) (fun m hm' => ptr9Round h all m hw hl (hr _ (getD_mem_iff.2 ⟨m,by omega,rfl⟩)) (by omega) ?_) (ptr9Found h all i hw hl (hr _ (getD_mem_iff.2 ⟨i,h2,rfl⟩)) h2 k hk')
 have := h3 m hm'
 simpa using this
end
theorem ref9pointers (h : Heap) (hw : WOk h.words) : GSpec Tryz.prog 111 [h.av] true (pointersF h (objectsW h).1).av [] := by
 have hl := objectsW_len h
 have hr := objectsW_range h
 cases hb : (List.range (objectsW h).1.length).find? (fun i => (ptrFound h (objectsW h).1 i).isSome) with
 | none =>
  have e : pointersF h (objectsW h).1 = ⟨0,0,0⟩ := by simp only [pointersF,hb]
  rw [e]
  exact gF [] Tryz.func111 [] (Fc 17 (@ref6Objects h ‹_›) (Fu (@ptr9Loop h ((objectsW h).fst) ‹_› (by omega) ‹_› ‹_›) Fz))
 | some i =>
  have h1 := (List.find?_range_eq_some.1 hb).1
  obtain ⟨k,hk⟩ := Option.isSome_iff_exists.1 h1
  have e : pointersF h (objectsW h).1 = ⟨6,(ofA h.conf ((objectsW h).1.getD i default + 1 + (k : Nat))).1,(objectsW h).1.getD i default + 1 + (k : Nat)⟩ := by simp only [pointersF,hb,hk,Option.getD_some]
  rw [e]
  exact gF [] Tryz.func111 [] (Fc 17 (@ref6Objects h ‹_›) (Fu (@ptr9LoopT h ((objectsW h).fst) ‹_› (by omega) ‹_› i k ‹_› ‹_›) Fz))
theorem checkBad (h : Heap) (hw : WOk h.words) (hp : properB h = false) : GSpec Tryz.prog 43 [h.av] true (Finding.mk 1 0 0).av [] := by
 exact gF [] Tryz.func43 [] (Fc 9 (@ref4Proper h) (Ftb 10 (!properB h) Fz))
def chkL (h : Heap) (i : Nat) : Tg := ⟨tm 65 [(1,.pt 8001 0 0),(2,.pt 8002 0 0),(3,int i)],[(8002,.box 72 [int 0,int 0,u64 0]),(8001,.box 28 h.cells)],60⟩
section
variable (h : Heap) (i : Nat) (hw : WOk h.words) (hp : properB h = true)
include hw hp
theorem chkRound (hi : i < h.pages.length) (hb : (pageF h i).fault = 0) : CSpec Tryz.prog (rndF Tryz.f43 0) (chkL h i).st .nrm (chkL h (i + 1)).st := by
 have po := proper_ok hp
 exact sF [] [] (Fl 15 Page.dv h.pages (Ftb 16 (decide ((↑i : Int) < (↑h.pages.length : Int))) (Fc 21 (@ref9page h i ‹_› ‹_› ‹_›) (Ffb 24 ((pageF h i).fault != 0) (Fx 18 i Fz)))))
theorem chkFound (hi : i < h.pages.length) (hb : (pageF h i).fault ≠ 0) : CSpec Tryz.prog (rndF Tryz.f43 0) (chkL h i).st .ret (Tg.st ⟨tm 65 [(2,.pt 8002 0 0)],[(8002,.box 72 [int (pageF h i).fault,int (pageF h i).page,u64 (pageF h i).addr])],60⟩) := by
 have po := proper_ok hp
 exact sF [] [] (Fl 15 Page.dv h.pages (Ftb 16 (decide ((↑i : Int) < (↑h.pages.length : Int))) (Fc 21 (@ref9page h i ‹_› ‹_› ‹_›) (Ftb 24 ((pageF h i).fault != 0) Fz))))
end
theorem chkEnd (h : Heap) (hp : properB h = true) : CSpec Tryz.prog (rndF Tryz.f43 0) (chkL h h.pages.length).st (.ext 0) (Tg.st ⟨tm 65 [(1,.pt 8001 0 0),(2,.pt 8002 0 0)],[(8002,.box 72 [int 0,int 0,u64 0]),(8001,.box 28 h.cells)],60⟩) := by
 have po := proper_ok hp
 exact sF [] [] (Fl 15 Page.dv h.pages (Ffb 16 (decide ((↑h.pages.length : Int) < (↑h.pages.length : Int))) Fz))
def pagesF (h : Heap) : Option Nat := (List.range h.pages.length).find? (fun i => decide ((pageF h i).fault ≠ 0))
section
variable (h : Heap) (hw : WOk h.words) (hp : properB h = true)
include hw hp
theorem chkLoop (hb : pagesF h = none) : CSpec Tryz.prog (blkF Tryz.f43 0) (Tg.st ⟨tm 65 [(1,.pt 8001 0 0),(2,.pt 8002 0 0),(3,int 0)],[(8002,.box 72 [int 0,int 0,u64 0]),(8001,.box 28 h.cells)],60⟩) .nrm (Tg.st ⟨tm 65 [(1,.pt 8001 0 0),(2,.pt 8002 0 0)],[(8002,.box 72 [int 0,int 0,u64 0]),(8001,.box 28 h.cells)],60⟩) := by
 refine loop_ext_of (S := fun k => (chkL h k).st) h.pages.length (by kernel_rfl) (fun k hk => chkRound h k hw hp hk ?_) (chkEnd h hp)
 have := List.find?_eq_none.1 hb k (List.mem_range.2 hk)
 simpa using this
theorem chkLoopT (i : Nat) (hb : pagesF h = some i) : CSpec Tryz.prog (blkF Tryz.f43 0) (Tg.st ⟨tm 65 [(1,.pt 8001 0 0),(2,.pt 8002 0 0),(3,int 0)],[(8002,.box 72 [int 0,int 0,u64 0]),(8001,.box 28 h.cells)],60⟩) .ret (Tg.st ⟨tm 65 [(2,.pt 8002 0 0)],[(8002,.box 72 [int (pageF h i).fault,int (pageF h i).page,u64 (pageF h i).addr])],60⟩) := by
 obtain ⟨h1,h2,h3⟩ := List.find?_range_eq_some.1 hb
 have h2 := List.mem_range.1 h2
 refine loop_ret_of (S := fun k => (chkL h k).st) i (by kernel_rfl) (fun m hm' => chkRound h m hw hp (by omega) ?_) (chkFound h i hw hp h2 (by simpa using h1))
 have := h3 m hm'
 simpa using this
end
theorem checkPage (h : Heap) (hw : WOk h.words) (hp : properB h = true) (i : Nat) (hb : pagesF h = some i) : GSpec Tryz.prog 43 [h.av] true (pageF h i).av [] := by
 exact gF [] Tryz.func43 [] (Fc 9 (@ref4Proper h) (Ffb 10 (!properB h) (Fu (@chkLoopT h ‹_› ‹_› i ‹_›) Fz)))
theorem checkPtr (h : Heap) (hw : WOk h.words) (hp : properB h = true) (hb : pagesF h = none) (hq : (pointersF h (objectsW h).1).fault ≠ 0) : GSpec Tryz.prog 43 [h.av] true (pointersF h (objectsW h).1).av [] := by
 exact gF [] Tryz.func43 [] (Fc 9 (@ref4Proper h) (Ffb 10 (!properB h) (Fu (@chkLoop h ‹_› ‹_› ‹_›) (Fc 27 (@ref9pointers h ‹_›) (Ftb 30 ((pointersF h (objectsW h).fst).fault != 0) Fz)))))
structure Tape where
 l : List Int
 at' : Int
 deriving Inhabited
def Tape.b (t : Tape) : Blk := .box 66 [.d (.sl 1 (t.l.map idv)),int t.at']
def TOk (t : Tape) : Prop := t.l.length ≤ 140737488355328 ∧ 0 ≤ t.at' ∧ t.at' ≤ 1048576
def Tape.next (t : Tape) (n : Int) : Int := if n < 1 then 0 else (if t.at' < t.l.length then t.l.getD t.at'.toNat default else t.at' * 7 + 3) % n
def Tape.step (t : Tape) (n : Int) : Tape := if n < 1 then t else ⟨t.l,t.at' + 1⟩
theorem tmod_range (v : Int) {n : Int} (h : 1 ≤ n) : -n < v.tmod n ∧ v.tmod n < n := by
 by_cases hv : 0 ≤ v
 ·rw [Int.tmod_eq_emod_of_nonneg hv]
  have := Int.emod_nonneg v (b := n) (by omega)
  have := Int.emod_lt_of_pos v (b := n) (by omega)
  omega
 ·have e : v.tmod n = -((-v).tmod n) := by rw [Int.neg_tmod]; omega
  rw [e,Int.tmod_eq_emod_of_nonneg (by omega)]
  have := Int.emod_nonneg (-v) (b := n) (by omega)
  have := Int.emod_lt_of_pos (-v) (b := n) (by omega)
  omega
theorem tmod_tmod (v : Int) {n : Int} (h : 1 ≤ n) : (v.tmod n + n).tmod n = v % n := by
 have hr := tmod_range v h
 rw [Int.tmod_eq_emod_of_nonneg (by omega),Int.add_emod_right]
 by_cases hv : 0 ≤ v
 ·rw [Int.tmod_eq_emod_of_nonneg hv,Int.emod_emod]
 ·have e : v = n * v.tdiv n + v.tmod n := (Int.mul_tdiv_add_tmod v n).symm
  conv => rhs; rw [e]
  rw [Int.mul_add_emod_self_left]
theorem tapeNext (t : Tape) (n : Int) (ht : TOk t) (hn : n ≤ 1099511627776) (hn0 : -1099511627776 ≤ n) : LentSpec Tryz.prog 107 [.pt 0 0 0,int n] [t.b] (int (t.next n)) [(t.step n).b] := by
 unfold TOk at ht
 have h1 := fun h => tmod_range (t.l.getD t.at'.toNat default) (n := n) h
 have h2 := fun h => tmod_tmod (t.l.getD t.at'.toNat default) (n := n) h
 have h3 : 1 ≤ n → 0 ≤ (t.at' * 7 + 3) % n ∧ (t.at' * 7 + 3) % n < n := fun h => ⟨Int.emod_nonneg _ (by omega),Int.emod_lt_of_pos _ (by omega)⟩
 have h4 : ((t.at' * 7 + 3) % n + n) % n = (t.at' * 7 + 3) % n := by rw [Int.add_emod_right,Int.emod_emod]
 rcases bb (decide (n < 1)) with hc0 | hc0<;>have hc0p:=hc0<;>simp only [bs] at hc0p
 ·exact lF Tryz.func107 [true,true] (Ft 7 hc0 (Fa (by simp [Tape.next,Tape.step, *] : 0 =t.next n) (Fr (66 : Int) (Fa (by refine congrArg _ ?_; simp [Tape.next,Tape.step, *] : List.map idv t.l =List.map idv (t.step n).l) (Fa (by simp [Tape.next,Tape.step, *] : t.at' = (t.step n).at') Fz)))))
 ·have Q0 {h_ c_ p_} (r_ : Fq h_ c_ p_) := Ff 7 hc0 (Fi 12 (t.at' * 7) (Fi 13 (t.at' * (7 :Int) + 3) (Fl 22 idv t.l r_)))
  rcases bb (decide (t.at' < (↑t.l.length : Int))) with hc1 | hc1<;>have hc1p:=hc1<;>simp only [bs] at hc1p
  ·exact lF Tryz.func107 [true,true] (Q0 (Ft 23 hc1 (Fe 32 idv t.l t.at' (Fi 38 (t.at' + 1) (Fo (n ≠ 0) (Fi 45 ((t.l.getD t.at'.toNat default).tmod n + n) (Fg 47 (by exact Int.tmod_eq_emod_of_nonneg (by omega) : ((t.l.getD t.at'.toNat default).tmod n + n).tmod n =((t.l.getD t.at'.toNat default).tmod n + n) % n) (Fo (n ≠ 0) (Fa (by grind [Tape.next,Tape.step] : ((t.l.getD t.at'.toNat default).tmod n + n) % n =t.next n) (Fr (66 : Int) (Fa (by refine congrArg _ ?_; simp [Tape.next,Tape.step, *] : List.map idv t.l =List.map idv (t.step n).l) (Fa (by simp [Tape.next,Tape.step, *] : t.at' + 1 =(t.step n).at') Fz))))))))))))
  ·exact lF Tryz.func107 [true,true] (Q0 (Ff 23 hc1 (Fi 38 (t.at' + 1) (Fg 43 (by exact Int.tmod_eq_emod_of_nonneg (by omega) : (t.at' * (7 :Int) + 3).tmod n =(t.at' * (7 :Int) + 3) % n) (Fo (n ≠ 0) (Fi 45 ((t.at' * (7 :Int) + 3) % n + n) (Fg 47 (by exact Int.tmod_eq_emod_of_nonneg (by omega) : ((t.at' * (7 :Int) + 3) % n + n).tmod n =((t.at' * (7 :Int) + 3) % n + n) % n) (Fo (n ≠ 0) (Fa (by simp [Tape.next,Tape.step, *] : ((t.at' * (7 :Int) + 3) % n + n) % n =t.next n) (Fr (66 : Int) (Fa (by refine congrArg _ ?_; simp [Tape.next,Tape.step, *] : List.map idv t.l =List.map idv (t.step n).l) (Fa (by simp [Tape.next,Tape.step, *] : t.at' + 1 =(t.step n).at') Fz))))))))))))
theorem tapeDone (t : Tape) (ht : TOk t) : LentSpec Tryz.prog 76 [.pt 0 0 0] [t.b] (bool (decide ((t.l.length : Int) ≤ t.at'))) [t.b] := by
 exact lF Tryz.func76 [] (Fl 11 idv t.l Fz)
def Tape.conf (t : Tape) : Conf := ⟨[16,16,20,32].getD (t.next 4).toNat default,[8,12,16,20,24].getD ((t.step 4).next 5).toNat default⟩
theorem next_range (t : Tape) {n : Int} (h : 1 ≤ n) : 0 ≤ t.next n ∧ t.next n < n := by
 unfold Tape.next
 rw [if_neg (by omega)]
 exact ⟨Int.emod_nonneg _ (by omega),Int.emod_lt_of_pos _ (by omega)⟩
theorem step_ok {t : Tape} (ht : TOk t) (n : Int) (h : t.at' < 1048576) : TOk (t.step n) := by
 unfold TOk at ht ⊢
 unfold Tape.step
 split
 ·exact ht
 ·simp only; omega
theorem tapeConf (t : Tape) (ht : TOk t) (ha : t.at' ≤ 1000000) : LentSpec Tryz.prog 157 [.pt 0 0 0] [t.b] (t.conf.av) [((t.step 4).step 5).b] := by
 have h1 := next_range t (n := 4) (by decide)
 have h2 := next_range (t.step 4) (n := 5) (by decide)
 have h3 := step_ok ht 4 (by omega)
 exact lF Tryz.func157 [] (Fh 7 [.el (idv ([16,16,20,32].getD (t.next 4).toNat default))] (Fh 12 [.el (idv ([8,12,16,20,24].getD ((t.step 4).next 5).toNat default))] (Fs 3 (List.map idv [16,16,20,32]) (Fp 5 (@tapeNext t (4) ‹_› (by omega) (by omega)) (Fa (by simp [Tape.conf, *] : 0≤t.next 4∧(t.next 4).toNat < (List.map idv [16,16,20,32]).length) (Fa (by grind [Tape.conf] : (List.map idv [16,16,20,32])[(t.next 4).toNat]? = some (idv ([16,16,20,32].getD (t.next 4).toNat default))) (Fs 8 (List.map idv [8,12,16,20,24]) (Fp 10 (@tapeNext (t.step 4) (5) ‹_› (by omega) (by omega)) (Fa (by simp [Tape.conf, *] : 0≤(t.step 4).next 5∧((t.step 4).next 5).toNat < (List.map idv [8,12,16,20,24]).length) (Fa (by grind [Tape.conf] : (List.map idv [8,12,16,20,24])[((t.step 4).next 5).toNat]? = some (idv ([8,12,16,20,24].getD ((t.step 4).next 5).toNat default))) Fz))))))))))
structure WorldM where
 heap : Heap
 strong : List Int
 weak : List Int
 deriving Inhabited
def WorldM.cells (w : WorldM) : List AV := w.heap.cells ++ [wordsV w.strong,wordsV w.weak]
def WorldM.av (w : WorldM) : AV := .ag w.cells
theorem tape_conf_valid (t : Tape) : validB t.conf = true := by
 have h1 := next_range t (n := 4) (by decide)
 have h2 := next_range (t.step 4) (n := 5) (by decide)
 unfold Tape.conf
 generalize t.next 4 = a at h1
 generalize (t.step 4).next 5 = b at h2
 have ha : a = 0 ∨ a = 1 ∨ a = 2 ∨ a = 3 := by omega
 have hb : b = 0 ∨ b = 1 ∨ b = 2 ∨ b = 3 ∨ b = 4 := by omega
 rcases ha with rfl | rfl | rfl | rfl <;> rcases hb with rfl | rfl | rfl | rfl | rfl <;> decide
theorem step_at {t : Tape} (n : Int) : t.at' ≤ (t.step n).at' ∧ (t.step n).at' ≤ t.at' + 1 ∧ (t.step n).l = t.l := by
 unfold Tape.step
 split
 ·exact ⟨by omega,by omega,rfl⟩
 ·exact ⟨by simp only; omega,by simp only; omega,rfl⟩
theorem tok_of {t u : Tape} (ht : TOk t) (hl : u.l = t.l) (h1 : t.at' ≤ u.at') (h2 : u.at' ≤ 1048576) : TOk u := by
 unfold TOk at ht ⊢
 rw [hl]; omega
def Tape.empty (t : Tape) : WorldM := ⟨newHeap t.conf,[],[]⟩
theorem tapeEmpty (t : Tape) (ht : TOk t) (ha : t.at' ≤ 1000000) : LentSpec Tryz.prog 75 [.pt 0 0 0] [t.b] (t.empty.av) [((t.step 4).step 5).b] := by
 have hv := tape_conf_valid t
 exact lF Tryz.func75 [] (Fp 7 (@tapeConf t ‹_› ‹_›) (Fc 8 (@refNew_ok t.conf ‹_›) (Fnl (Fnl Fz))))
def hdr1 (t : Tape) (c : Conf) : Int := if (t.step (smallWords c)).next 12 = 0 then smallWords c + ((t.step (smallWords c)).step 12).next c.pw else t.next (smallWords c)
def hdr1T (t : Tape) (c : Conf) : Tape := if (t.step (smallWords c)).next 12 = 0 then ((t.step (smallWords c)).step 12).step c.pw else (t.step (smallWords c)).step 12
def Tape.header (t : Tape) (c : Conf) : Header := if (hdr1T t c).next 4 = 0 then ⟨2,hdr1 t c,0⟩ else if (hdr1T t c).next 4 = 1 then ⟨3,hdr1 t c,0⟩ else ⟨1,min (hdr1 t c) 32,((hdr1T t c).step 4).next (2 ^ (min (min (hdr1 t c) 32) 12).toNat)⟩
def Tape.headerT (t : Tape) (c : Conf) : Tape := if (hdr1T t c).next 4 = 0 then (hdr1T t c).step 4 else if (hdr1T t c).next 4 = 1 then (hdr1T t c).step 4 else ((hdr1T t c).step 4).step (2 ^ (min (min (hdr1 t c) 32) 12).toNat)
theorem pow12 {n : Int} (h : n ≤ 12) : (1 : Int) ≤ 2 ^ n.toNat ∧ (2 : Int) ^ n.toNat ≤ 4096 := by
 have : n.toNat ≤ 12 := by omega
 generalize n.toNat = k at this
 have hk : k ∈ List.range 13 := List.mem_range.2 (by omega)
 revert k
 decide +kernel
theorem shl12' {n : Int} (h : 0 ≤ n) : 1 * 2 ^ min (min (min n 32) 12).toNat 64 = (2 : Int) ^ (min (min n 32) 12).toNat := by
 rw [Nat.min_eq_left (by omega),Int.one_mul]
theorem tapeHeader (t : Tape) (c : Conf) (ht : TOk t) (ha : t.at' ≤ 1000000) (hv : validB c = true) : LentSpec Tryz.prog 158 [.pt 0 0 0,c.av] [t.b] ((t.header c).av) [(t.headerT c).b] := by
 have hb := validB_iff.1 hv
 have hs := smallWords_eq hv
 have s1 := step_at (t := t) (smallWords c)
 have s2 := step_at (t := t.step (smallWords c)) 12
 have s3 := step_at (t := (t.step (smallWords c)).step 12) c.pw
 have k1 := tok_of ht s1.2.2 (by omega) (by omega)
 have k2 := tok_of k1 s2.2.2 (by omega) (by omega)
 have k3 := tok_of k2 s3.2.2 (by omega) (by omega)
 have n1 := next_range t (n := smallWords c) (by omega)
 have n2 := next_range ((t.step (smallWords c)).step 12) (n := c.pw) (by omega)
 have h1 : 0 ≤ hdr1 t c ∧ hdr1 t c ≤ 80 := by unfold hdr1; split <;> omega
 have s4 := step_at (t := ((t.step (smallWords c)).step 12).step c.pw) 4
 have s5 := step_at (t := (t.step (smallWords c)).step 12) 4
 have k4 := tok_of k3 s4.2.2 (by omega) (by omega)
 have k5 := tok_of k2 s5.2.2 (by omega) (by omega)
 have ei1 := shl12' (n := smallWords c + ((t.step (smallWords c)).step 12).next c.pw) (by omega)
 have ei2 := shl12' (n := t.next (smallWords c)) (by omega)
 have p1 := pow12 (n := min (min (smallWords c + ((t.step (smallWords c)).step 12).next c.pw) 32) 12) (by omega)
 have p2 := pow12 (n := min (min (t.next (smallWords c)) 32) 12) (by omega)
 have r1 := next_range ((((t.step (smallWords c)).step 12).step c.pw).step 4) (n := 2 ^ (min (min (smallWords c + ((t.step (smallWords c)).step 12).next c.pw) 32) 12).toNat) (by omega)
 have r2 := next_range (((t.step (smallWords c)).step 12).step 4) (n := 2 ^ (min (min (t.next (smallWords c)) 32) 12).toNat) (by omega)
 have Q0 {h_ c_ p_} (r_ : Fq h_ c_ p_) := Fc 8 (@refSmallWords c) (Fp 11 (@tapeNext t (smallWords c) ‹_› (by omega) (by omega)) (Fp 13 (@tapeNext (t.step (smallWords c)) (12) ‹_› (by omega) (by omega)) r_))
 rcases bb ((t.step (smallWords c)).next (12 :Int) == 0) with hc0 | hc0<;>have hc0p:=hc0<;>simp only [bs] at hc0p
 ·have Q1 {h_ c_ p_} (r_ : Fq h_ c_ p_) := Q0 (Ft 14 hc0 (Fp 19 (@tapeNext ((t.step (smallWords c)).step 12) c.pw ‹_› (by omega) (by omega)) (Fi 20 (smallWords c + ((t.step (smallWords c)).step 12).next c.pw) (Fp 22 (@tapeNext (((t.step (smallWords c)).step 12).step c.pw) (4) ‹_› (by omega) (by omega)) r_))))
  rcases bb ((((t.step (smallWords c)).step 12).step c.pw).next (4 :Int) == 0) with hc1 | hc1<;>have hc1p:=hc1<;>simp only [bs] at hc1p
  ·exact lF Tryz.func158 [true,true] (Fh 23 [.br true] (Q1 (Fa hc1 (Fa (by (simp only [Tape.header,Tape.headerT,hdr1,hdr1T]; (repeat' split) <;> first | rfl | omega | (exfalso; omega) | simp_all) : 2 =(t.header c).kind) (Fa (by (simp only [Tape.header,Tape.headerT,hdr1,hdr1T]; (repeat' split) <;> first | rfl | omega | (exfalso; omega) | simp_all) : smallWords c + ((t.step (smallWords c)).step 12).next c.pw =(t.header c).length) (Fa (by (simp only [Tape.header,Tape.headerT,hdr1,hdr1T]; (repeat' split) <;> first | rfl | omega | (exfalso; omega) | simp_all) : 0 =(t.header c).map) (Fr (66 : Int) (Fa (by refine congrArg _ ?_; (simp only [Tape.header,Tape.headerT,hdr1,hdr1T]; (repeat' split) <;> first | rfl | omega | (exfalso; omega) | simp_all) : List.map idv ((((t.step (smallWords c)).step 12).step c.pw).step 4).l =List.map idv (t.headerT c).l) (Fa (by (simp only [Tape.header,Tape.headerT,hdr1,hdr1T]; (repeat' split) <;> first | rfl | omega | (exfalso; omega) | simp_all) : ((((t.step (smallWords c)).step 12).step c.pw).step 4).at' = (t.headerT c).at') Fz)))))))))
  ·rcases bb ((((t.step (smallWords c)).step 12).step c.pw).next (4 :Int) == 1) with hc2 | hc2<;>have hc2p:=hc2<;>simp only [bs] at hc2p
   ·exact lF Tryz.func158 [true,true] (Fh 23 [.br false] (Fh 27 [.br true] (Q1 (Fa hc1 (Fa hc2 (Fa (by (simp only [Tape.header,Tape.headerT,hdr1,hdr1T]; (repeat' split) <;> first | rfl | omega | (exfalso; omega) | simp_all) : 3 =(t.header c).kind) (Fa (by (simp only [Tape.header,Tape.headerT,hdr1,hdr1T]; (repeat' split) <;> first | rfl | omega | (exfalso; omega) | simp_all) : smallWords c + ((t.step (smallWords c)).step 12).next c.pw =(t.header c).length) (Fa (by (simp only [Tape.header,Tape.headerT,hdr1,hdr1T]; (repeat' split) <;> first | rfl | omega | (exfalso; omega) | simp_all) : 0 =(t.header c).map) (Fr (66 : Int) (Fa (by refine congrArg _ ?_; (simp only [Tape.header,Tape.headerT,hdr1,hdr1T]; (repeat' split) <;> first | rfl | omega | (exfalso; omega) | simp_all) : List.map idv ((((t.step (smallWords c)).step 12).step c.pw).step 4).l =List.map idv (t.headerT c).l) (Fa (by (simp only [Tape.header,Tape.headerT,hdr1,hdr1T]; (repeat' split) <;> first | rfl | omega | (exfalso; omega) | simp_all) : ((((t.step (smallWords c)).step 12).step c.pw).step 4).at' = (t.headerT c).at') Fz)))))))))))
   ·exact lF Tryz.func158 [true,true] (Fh 23 [.br false] (Fh 27 [.br false] (Q1 (Fa hc1 (Fa hc2 (Fgo 32 (if 32 < smallWords c + ((t.step (smallWords c)).step 12).next c.pw then 32 else smallWords c + ((t.step (smallWords c)).step 12).next c.pw) (min (smallWords c + ((t.step (smallWords c)).step 12).next c.pw) 32) (Fgo 36 (if 12 < min (smallWords c + ((t.step (smallWords c)).step 12).next c.pw) 32 then 12 else min (smallWords c + ((t.step (smallWords c)).step 12).next c.pw) 32) (min (min (smallWords c + ((t.step (smallWords c)).step 12).next c.pw) 32) 12) (Fv 37 (min (min (smallWords c + ((t.step (smallWords c)).step 12).next c.pw) 32) 12) (Fg 38 (by rw [wrapI' (by omega) (by omega)]; omega : IntKind.i64.wrap ((1 :Int) * 2 ^ min (min (min (smallWords c + ((t.step (smallWords c)).step 12).next c.pw) 32) 12).toNat 64) =2 ^ (min (min (smallWords c + ((t.step (smallWords c)).step 12).next c.pw) 32) 12).toNat) (Fo (0≤min (min (smallWords c + ((t.step (smallWords c)).step 12).next c.pw) 32) 12) (Fp 39 (@tapeNext ((((t.step (smallWords c)).step 12).step c.pw).step 4) (2 ^ (min (min (smallWords c + ((t.step (smallWords c)).step 12).next c.pw) 32) 12).toNat) ‹_› (by omega) (by omega)) (Fg 40 (by exact wrap32' (by omega) (by omega) : IntKind.u32.wrap (((((t.step (smallWords c)).step 12).step c.pw).step 4).next (2 ^ (min (min (smallWords c + ((t.step (smallWords c)).step 12).next c.pw) 32) 12).toNat)) =((((t.step (smallWords c)).step 12).step c.pw).step 4).next (2 ^ (min (min (smallWords c + ((t.step (smallWords c)).step 12).next c.pw) 32) 12).toNat)) (Fa (by (simp only [Tape.header,Tape.headerT,hdr1,hdr1T]; (repeat' split) <;> first | rfl | omega | (exfalso; omega) | simp_all) : 1 =(t.header c).kind) (Fa (by (simp only [Tape.header,Tape.headerT,hdr1,hdr1T]; (repeat' split) <;> first | rfl | omega | (exfalso; omega) | simp_all) : min (smallWords c + ((t.step (smallWords c)).step 12).next c.pw) 32 =(t.header c).length) (Fa (by (simp only [Tape.header,Tape.headerT,hdr1,hdr1T]; (repeat' split) <;> first | rfl | omega | (exfalso; omega) | simp_all) : ((((t.step (smallWords c)).step 12).step c.pw).step 4).next (2 ^ (min (min (smallWords c + ((t.step (smallWords c)).step 12).next c.pw) 32) 12).toNat) =(t.header c).map) (Fr (66 : Int) (Fa (by refine congrArg _ ?_; (simp only [Tape.header,Tape.headerT,hdr1,hdr1T]; (repeat' split) <;> first | rfl | omega | (exfalso; omega) | simp_all) : List.map idv (((((t.step (smallWords c)).step 12).step c.pw).step 4).step (2 ^ (min (min (smallWords c + ((t.step (smallWords c)).step 12).next c.pw) 32) 12).toNat)).l =List.map idv (t.headerT c).l) (Fa (by (simp only [Tape.header,Tape.headerT,hdr1,hdr1T]; (repeat' split) <;> first | rfl | omega | (exfalso; omega) | simp_all) : (((((t.step (smallWords c)).step 12).step c.pw).step 4).step (2 ^ (min (min (smallWords c + ((t.step (smallWords c)).step 12).next c.pw) 32) 12).toNat)).at' = (t.headerT c).at') Fz))))))))))))))))))
 ·have Q2 {h_ c_ p_} (r_ : Fq h_ c_ p_) := Q0 (Ff 14 hc0 (Fp 22 (@tapeNext ((t.step (smallWords c)).step 12) (4) ‹_› (by omega) (by omega)) r_))
  rcases bb (((t.step (smallWords c)).step 12).next (4 :Int) == 0) with hc3 | hc3<;>have hc3p:=hc3<;>simp only [bs] at hc3p
  ·exact lF Tryz.func158 [true,true] (Fh 23 [.br true] (Q2 (Fa hc3 (Fa (by (simp only [Tape.header,Tape.headerT,hdr1,hdr1T]; (repeat' split) <;> first | rfl | omega | (exfalso; omega) | simp_all) : 2 =(t.header c).kind) (Fa (by (simp only [Tape.header,Tape.headerT,hdr1,hdr1T]; (repeat' split) <;> first | rfl | omega | (exfalso; omega) | simp_all) : t.next (smallWords c) =(t.header c).length) (Fa (by (simp only [Tape.header,Tape.headerT,hdr1,hdr1T]; (repeat' split) <;> first | rfl | omega | (exfalso; omega) | simp_all) : 0 =(t.header c).map) (Fr (66 : Int) (Fa (by refine congrArg _ ?_; (simp only [Tape.header,Tape.headerT,hdr1,hdr1T]; (repeat' split) <;> first | rfl | omega | (exfalso; omega) | simp_all) : List.map idv (((t.step (smallWords c)).step 12).step 4).l =List.map idv (t.headerT c).l) (Fa (by (simp only [Tape.header,Tape.headerT,hdr1,hdr1T]; (repeat' split) <;> first | rfl | omega | (exfalso; omega) | simp_all) : (((t.step (smallWords c)).step 12).step 4).at' = (t.headerT c).at') Fz)))))))))
  ·rcases bb (((t.step (smallWords c)).step 12).next (4 :Int) == 1) with hc4 | hc4<;>have hc4p:=hc4<;>simp only [bs] at hc4p
   ·exact lF Tryz.func158 [true,true] (Fh 23 [.br false] (Fh 27 [.br true] (Q2 (Fa hc3 (Fa hc4 (Fa (by (simp only [Tape.header,Tape.headerT,hdr1,hdr1T]; (repeat' split) <;> first | rfl | omega | (exfalso; omega) | simp_all) : 3 =(t.header c).kind) (Fa (by (simp only [Tape.header,Tape.headerT,hdr1,hdr1T]; (repeat' split) <;> first | rfl | omega | (exfalso; omega) | simp_all) : t.next (smallWords c) =(t.header c).length) (Fa (by (simp only [Tape.header,Tape.headerT,hdr1,hdr1T]; (repeat' split) <;> first | rfl | omega | (exfalso; omega) | simp_all) : 0 =(t.header c).map) (Fr (66 : Int) (Fa (by refine congrArg _ ?_; (simp only [Tape.header,Tape.headerT,hdr1,hdr1T]; (repeat' split) <;> first | rfl | omega | (exfalso; omega) | simp_all) : List.map idv (((t.step (smallWords c)).step 12).step 4).l =List.map idv (t.headerT c).l) (Fa (by (simp only [Tape.header,Tape.headerT,hdr1,hdr1T]; (repeat' split) <;> first | rfl | omega | (exfalso; omega) | simp_all) : (((t.step (smallWords c)).step 12).step 4).at' = (t.headerT c).at') Fz)))))))))))
   ·exact lF Tryz.func158 [true,true] (Fh 23 [.br false] (Fh 27 [.br false] (Q2 (Fa hc3 (Fa hc4 (Fgo 32 (if 32 < t.next (smallWords c) then 32 else t.next (smallWords c)) (min (t.next (smallWords c)) 32) (Fgo 36 (if 12 < min (t.next (smallWords c)) 32 then 12 else min (t.next (smallWords c)) 32) (min (min (t.next (smallWords c)) 32) 12) (Fv 37 (min (min (t.next (smallWords c)) 32) 12) (Fg 38 (by rw [wrapI' (by omega) (by omega)]; omega : IntKind.i64.wrap ((1 :Int) * 2 ^ min (min (min (t.next (smallWords c)) 32) 12).toNat 64) =2 ^ (min (min (t.next (smallWords c)) 32) 12).toNat) (Fo (0≤min (min (t.next (smallWords c)) 32) 12) (Fp 39 (@tapeNext (((t.step (smallWords c)).step 12).step 4) (2 ^ (min (min (t.next (smallWords c)) 32) 12).toNat) ‹_› (by omega) (by omega)) (Fg 40 (by exact wrap32' (by omega) (by omega) : IntKind.u32.wrap ((((t.step (smallWords c)).step 12).step 4).next (2 ^ (min (min (t.next (smallWords c)) 32) 12).toNat)) =(((t.step (smallWords c)).step 12).step 4).next (2 ^ (min (min (t.next (smallWords c)) 32) 12).toNat)) (Fa (by (simp only [Tape.header,Tape.headerT,hdr1,hdr1T]; (repeat' split) <;> first | rfl | omega | (exfalso; omega) | simp_all) : 1 =(t.header c).kind) (Fa (by (simp only [Tape.header,Tape.headerT,hdr1,hdr1T]; (repeat' split) <;> first | rfl | omega | (exfalso; omega) | simp_all) : min (t.next (smallWords c)) 32 =(t.header c).length) (Fa (by (simp only [Tape.header,Tape.headerT,hdr1,hdr1T]; (repeat' split) <;> first | rfl | omega | (exfalso; omega) | simp_all) : (((t.step (smallWords c)).step 12).step 4).next (2 ^ (min (min (t.next (smallWords c)) 32) 12).toNat) =(t.header c).map) (Fr (66 : Int) (Fa (by refine congrArg _ ?_; (simp only [Tape.header,Tape.headerT,hdr1,hdr1T]; (repeat' split) <;> first | rfl | omega | (exfalso; omega) | simp_all) : List.map idv ((((t.step (smallWords c)).step 12).step 4).step (2 ^ (min (min (t.next (smallWords c)) 32) 12).toNat)).l =List.map idv (t.headerT c).l) (Fa (by (simp only [Tape.header,Tape.headerT,hdr1,hdr1T]; (repeat' split) <;> first | rfl | omega | (exfalso; omega) | simp_all) : ((((t.step (smallWords c)).step 12).step 4).step (2 ^ (min (min (t.next (smallWords c)) 32) 12).toNat)).at' = (t.headerT c).at') Fz))))))))))))))))))
abbrev sA (w : WorldM) (t : Tape) : Tape := (t.step (↑w.heap.words.length : Int)).step (↑w.heap.pages.length : Int)
abbrev sB (w : WorldM) (t : Tape) : Tape := (sA w t).step 12
abbrev sC (w : WorldM) (t : Tape) : Int := (t.step (↑w.heap.words.length : Int)).next (↑w.heap.pages.length : Int)
end Go.Proofs.YtolnblaadleknaaGreat
