/-
 The statement AllocKeeps: part 8.
 Conditions: none.
-/
import Derived.Test.YtjflpmnenhdeeaaGreatE7
set_option maxRecDepth 100000
set_option maxHeartbeats 2000000
set_option linter.all false
namespace Go.Proofs.YtjflpmnenhdeeaaGreat
open Go.Sx
def Z0k (h : Heap) (n k : Int) : Heap × Int × Bool :=
 if 0 ≤ first h.pages k ∧ Z0H h.pages + k ≤ Z0M h.conf then (⟨h.conf,h.words,(Z1M h.conf h.pages (first h.pages k) h.space n).1,h.space,h.bump⟩,4096 + first h.pages k * h.conf.pw,true) else (noHeap,0,false)
theorem Zay (h : Heap) (n k : Int) (hp : Z02 h = true) (hk : k = need h.conf n) (hk1 : 1 ≤ k) : GSpec Tryz.prog 134 [h.av,int n,int k] false (.tu [(Z0k h n k).1.av,u64 (Z0k h n k).2.1,bool (Z0k h n k).2.2]) [] := by
 have po := Z08 hp
 obtain ⟨o1,o2,o3,o4,o5,o6,o7,o8,o9⟩ := po
 have hr := Z5g h.pages k
 have hff : 0 ≤ first h.pages k → first h.pages k + k ≤ h.pages.length := fun hf => (Z18 hf).2.1
 have hiu := Z6s h.pages
 have hli := Z3Q o1
 have hnr := Z1I h.conf n
 have hm2 : 0 ≤ first h.pages k → 0 ≤ first h.pages k * h.conf.pw ∧ first h.pages k * h.conf.pw + h.conf.pw ≤ 4096 := fun h0 => Z2y o1 h0 (by have := hff h0; omega)
 by_cases hg : 0 ≤ first h.pages k ∧ Z0H h.pages + k ≤ Z0M h.conf
 ·have e7 : Z0k h n k = (⟨h.conf,h.words,(Z1M h.conf h.pages (first h.pages k) h.space n).1,h.space,h.bump⟩,4096 + first h.pages k * h.conf.pw,true) := by rw [Z0k,if_pos hg]
  rw [e7]
  exact gF [] Tryz.func134 [false,false,false,false,false,false,false,false,false,false] (Fc 13 (@Z4E h.pages k (by omega)) (FcG 19 (!decide (first h.pages k < 0)) (fun hg => by (try simp only [bs] at hg); exact @Z5p h.pages (by (try simp only [bs] at hg); omega)) (FiG 21 (!decide (first h.pages k < 0)) ((↑(Z0H h.pages) : Int) + k) (FcG 24 (!decide (first h.pages k < 0)) (fun hg => by (try simp only [bs] at hg); exact @Z5x h.conf) (Ffb 26 (decide (first h.pages k < 0)||decide (Z0M h.conf < (↑(Z0H h.pages) : Int) + k)) (Fc 37 (@Zgs h.conf h.pages (first h.pages k) h.space n (by omega)) (Fi 46 (first h.pages k * h.conf.pw) (Fi 47 (4096 + first h.pages k * h.conf.pw) (Fv 48 (4096 + first h.pages k * h.conf.pw) Fz)))))))))
 ·have e7 : Z0k h n k = (noHeap,0,false) := by rw [Z0k,if_neg hg]
  rw [e7]
  exact gF [] Tryz.func134 [false,false,false,false,false,false,false,false,false,false] (Fc 13 (@Z4E h.pages k (by omega)) (FcG 19 (!decide (first h.pages k < 0)) (fun hg => by (try simp only [bs] at hg); exact @Z5p h.pages (by (try simp only [bs] at hg); omega)) (FiG 21 (!decide (first h.pages k < 0)) ((↑(Z0H h.pages) : Int) + k) (FcG 24 (!decide (first h.pages k < 0)) (fun hg => by (try simp only [bs] at hg); exact @Z5x h.conf) (Ftb 26 (decide (first h.pages k < 0)||decide (Z0M h.conf < (↑(Z0H h.pages) : Int) + k)) (Fnl (Fnl Fz)))))))
theorem ZaA {h : Heap} {n : Int} (hp : Z02 h = true) (hn : 1 ≤ n ∧ n ≤ 256) : 0 ≤ (Z0a h n).2.1 ∧ (Z0a h n).2.1 ≤ 8192 ∧ ((Z0a h n).2.2 = true → (Z0a h n).1.words = h.words ∧ 4096 ≤ (Z0a h n).2.1) ∧ ((Z0a h n).2.2 = false → (Z0a h n).1 = noHeap) := by
 obtain ⟨o1,o2,o3,o4,o5,o6,o7,o8,o9⟩ := Z08 hp
 have hb := (properB_iff.1 hp).2.2.2.2.1
 have hpg := fun hj => Z0D hp (j := h.bump.toNat) hj
 have hfo := fun hf => Z24 (h := h) o9 hf
 have hm1 : 0 ≤ h.bump → 0 ≤ h.bump * h.conf.pw ∧ h.bump * h.conf.pw + h.conf.pw ≤ 4096 := fun h0 => Z2y o1 h0 (by omega)
 have hm2 : 0 ≤ first h.pages 1 → 0 ≤ first h.pages 1 * h.conf.pw ∧ first h.pages 1 * h.conf.pw + h.conf.pw ≤ 4096 := fun h0 => Z2y o1 h0 (by have := hfo h0; omega)
 unfold Z0a
 split
 ·rename_i hf
  unfold Z2C at hf
  have h1 := hm1 hf.1
  have h2 := hpg (by omega)
  refine ⟨by simp only; omega,by simp only; omega,fun _ => ⟨rfl,by simp only; omega⟩,fun e => by cases e⟩
 ·split
  ·rename_i hg
   have h1 := hm2 hg.1
   have h2 := congrArg Page.used (hfo hg.1).2.2.2
   simp only at h2
   refine ⟨by simp only; omega,by simp only; omega,fun _ => ⟨rfl,by simp only; omega⟩,fun e => by cases e⟩
  ·exact ⟨by simp,by simp,(fun e => nomatch e),fun _ => rfl⟩
theorem ZaL {h : Heap} {n k : Int} (hp : Z02 h = true) : 0 ≤ (Z0k h n k).2.1 ∧ (Z0k h n k).2.1 ≤ 8192 ∧ ((Z0k h n k).2.2 = true → (Z0k h n k).1.words = h.words ∧ 4096 ≤ (Z0k h n k).2.1) ∧ ((Z0k h n k).2.2 = false → (Z0k h n k).1 = noHeap) := by
 obtain ⟨o1,o2,o3,o4,o5,o6,o7,o8,o9⟩ := Z08 hp
 unfold Z0k
 split
 ·rename_i hg
  have h3 := (Z18 hg.1)
  have h1 := Z2y (c := h.conf) (i := first h.pages k) o1 hg.1 (by omega)
  exact ⟨by simp only; omega,by simp only; omega,fun _ => ⟨rfl,by simp only; omega⟩,fun e => by cases e⟩
 ·exact ⟨by simp,by simp,(fun e => nomatch e),fun _ => rfl⟩
def put7 (h : Heap) (hd : Header) : Heap × Int × Bool := if 0 < need h.conf (sizeH hd) then Z0k h (sizeH hd) (need h.conf (sizeH hd)) else Z0a h (sizeH hd)
def new7 (h : Heap) (hd : Header) : Heap × Int × Int :=
 if Z02 h = true ∧ Z1b h.conf hd = true then (if (put7 h hd).2.2 = true then ((Z0u (put7 h hd).1 (put7 h hd).2.1 hd).1,(put7 h hd).2.1,0) else (noHeap,0,3)) else (noHeap,0,1)
theorem Z67 : WOk [] := fun w h => by simp at h
theorem Z3R {c : Conf} {hd : Header} (h : Z1b c hd = true) : Z0i hd = true ∧ 1 ≤ sizeH hd ∧ sizeH hd ≤ 256 ∧ 0 ≤ need c (sizeH hd) ∧ hd.kind ≠ 0 := by
 simp only [Z1b,Bool.and_eq_true,decide_eq_true_eq] at h
 have hv := validH_iff.1 h.1.1
 have hn := Z1I c (sizeH hd)
 have hs : sizeH hd = hd.length + 1 := by rw [sizeH,if_pos h.1.1]
 exact ⟨h.1.1,by omega,by omega,by omega,h.1.2⟩
theorem Zfq (h : Heap) (hd : Header) (hw : WOk h.words) (hm : 0 ≤ hd.map ∧ hd.map ≤ 4294967295) : GSpec Tryz.prog 102 [h.av,hd.av] false (.tu [(new7 h hd).1.av,u64 (new7 h hd).2.1,int (new7 h hd).2.2]) [] := by
 by_cases hp : Z02 h = true
 ·cases ha : Z1b h.conf hd with
  | false =>
   have e7 : new7 h hd = (noHeap,0,1) := by rw [new7,if_neg (by rw [ha]; simp)]
   rw [e7]
   exact gF [] Tryz.func102 [false,false,false,false,false,false] (Fc 13 (@Z0m h) (FcG 19 (!!Z02 h) (fun hg => by (try simp only [bs] at hg); exact @Z4H h.conf hd (by (try simp only [bs] at hg); assumption)) (Ft 21 (by simp [noHeap, *] : (!Z02 h||!Z1b h.conf hd)=true) (Fnl (Fnl Fz)))))
  | true =>
   obtain ⟨a1,a2,a3,a4,a5⟩ := Z3R ha
   have f1 := ZaA hp ⟨a2,a3⟩
   have f2 := ZaL (n := sizeH hd) (k := need h.conf (sizeH hd)) hp
   have w1 : WOk (Z0a h (sizeH hd)).1.words := by
    cases e : (Z0a h (sizeH hd)).2.2 with
    | true => rw [(f1.2.2.1 e).1]; exact hw
    | false => rw [f1.2.2.2 e]; exact Z67
   have w2 : WOk (Z0k h (sizeH hd) (need h.conf (sizeH hd))).1.words := by
    cases e : (Z0k h (sizeH hd) (need h.conf (sizeH hd))).2.2 with
    | true => rw [(f2.2.2.1 e).1]; exact hw
    | false => rw [f2.2.2.2 e]; exact Z67
   by_cases hn : 0 < need h.conf (sizeH hd)
   ·have e7 : put7 h hd = Z0k h (sizeH hd) (need h.conf (sizeH hd)) := by rw [put7,if_pos hn]
    have Q0 {h_ c_ p_} (r_ : Fq h_ c_ p_) := Fc 13 (@Z0m h) (FcG 19 (!!Z02 h) (fun hg => by (try simp only [bs] at hg); exact @Z4H h.conf hd (by (try simp only [bs] at hg); assumption)) (Ff 21 (by simp [new7,e7,noHeap, *] : (!Z02 h||!Z1b h.conf hd)=false) (Fc 24 (@Z20 hd ‹_›) (Fc 28 (@Z3V h.conf (sizeH hd)) (Fc 32 (@Z5v h (sizeH hd) ‹_› (by omega)) (Ftb 37 (decide (0 < need h.conf (sizeH hd))) (Fc 42 (@Zay h (sizeH hd) (need h.conf (sizeH hd)) ‹_› (by rfl) ‹_›) r_)))))))
    rcases bb (!(Z0k h (sizeH hd) (need h.conf (sizeH hd))).snd.snd) with hc0 | hc0<;>have hc0p:=hc0<;>simp only [bs] at hc0p
    ·exact gF [] Tryz.func102 [false,false,false,false,false,true] (Q0 (Ft 47 hc0 (Fnl (Fnl (Fa (by simp [new7,e7,noHeap, *] : 0 =(new7 h hd).fst.conf.pw) (Fa (by simp [new7,e7,noHeap, *] : 0 =(new7 h hd).fst.conf.pg) (Fa (by simp [new7,e7,noHeap, *] : [] =List.map wdv (new7 h hd).fst.words) (Fa (by simp [new7,e7,noHeap, *] : [] =List.map Page.dv (new7 h hd).fst.pages) (Fa (by simp [new7,e7,noHeap, *] : 0 =(new7 h hd).fst.space) (Fa (by simp [new7,e7,noHeap, *] : 0 =(new7 h hd).fst.bump) (Fa (by simp [new7,e7,noHeap, *] : 0 =(new7 h hd).snd.fst) (Fa (by simp [new7,e7,noHeap, *] : 3 =(new7 h hd).snd.snd) Fz))))))))))))
    ·exact gF [] Tryz.func102 [false,false,false,false,false,true] (Q0 (Ff 47 hc0 (Fc 53 (@Zd0 ((Z0k h (sizeH hd) (need h.conf (sizeH hd))).fst) ((Z0k h (sizeH hd) (need h.conf (sizeH hd))).snd.fst) hd ‹_› (by omega) ‹_›) (Fa (by simp [new7,e7,noHeap, *] : (Z0u (Z0k h (sizeH hd) (need h.conf (sizeH hd))).fst (Z0k h (sizeH hd) (need h.conf (sizeH hd))).snd.fst hd).fst.conf.pw =(new7 h hd).fst.conf.pw) (Fa (by simp [new7,e7,noHeap, *] : (Z0u (Z0k h (sizeH hd) (need h.conf (sizeH hd))).fst (Z0k h (sizeH hd) (need h.conf (sizeH hd))).snd.fst hd).fst.conf.pg =(new7 h hd).fst.conf.pg) (Fa (by refine congrArg _ ?_; simp [new7,e7,noHeap, *] : List.map wdv (Z0u (Z0k h (sizeH hd) (need h.conf (sizeH hd))).fst (Z0k h (sizeH hd) (need h.conf (sizeH hd))).snd.fst hd).fst.words =List.map wdv (new7 h hd).fst.words) (Fa (by refine congrArg _ ?_; simp [new7,e7,noHeap, *] : List.map Page.dv (Z0u (Z0k h (sizeH hd) (need h.conf (sizeH hd))).fst (Z0k h (sizeH hd) (need h.conf (sizeH hd))).snd.fst hd).fst.pages =List.map Page.dv (new7 h hd).fst.pages) (Fa (by simp [new7,e7,noHeap, *] : (Z0u (Z0k h (sizeH hd) (need h.conf (sizeH hd))).fst (Z0k h (sizeH hd) (need h.conf (sizeH hd))).snd.fst hd).fst.space =(new7 h hd).fst.space) (Fa (by simp [new7,e7,noHeap, *] : (Z0u (Z0k h (sizeH hd) (need h.conf (sizeH hd))).fst (Z0k h (sizeH hd) (need h.conf (sizeH hd))).snd.fst hd).fst.bump =(new7 h hd).fst.bump) (Fa (by simp [new7,e7,noHeap, *] : (Z0k h (sizeH hd) (need h.conf (sizeH hd))).snd.fst =(new7 h hd).snd.fst) (Fa (by simp [new7,e7,noHeap, *] : 0 =(new7 h hd).snd.snd) Fz)))))))))))
   ·have e7 : put7 h hd = Z0a h (sizeH hd) := by rw [put7,if_neg hn]
    have Q1 {h_ c_ p_} (r_ : Fq h_ c_ p_) := Fc 13 (@Z0m h) (FcG 19 (!!Z02 h) (fun hg => by (try simp only [bs] at hg); exact @Z4H h.conf hd (by (try simp only [bs] at hg); assumption)) (Ff 21 (by simp [new7,e7,noHeap, *] : (!Z02 h||!Z1b h.conf hd)=false) (Fc 24 (@Z20 hd ‹_›) (Fc 28 (@Z3V h.conf (sizeH hd)) (Fc 32 (@Z5v h (sizeH hd) ‹_› (by omega)) (Ffb 37 (decide (0 < need h.conf (sizeH hd))) r_))))))
    rcases bb (!(Z0a h (sizeH hd)).snd.snd) with hc0 | hc0<;>have hc0p:=hc0<;>simp only [bs] at hc0p
    ·exact gF [] Tryz.func102 [false,false,false,false,false,true] (Q1 (Ft 47 hc0 (Fnl (Fnl (Fa (by simp [new7,e7,noHeap, *] : 0 =(new7 h hd).fst.conf.pw) (Fa (by simp [new7,e7,noHeap, *] : 0 =(new7 h hd).fst.conf.pg) (Fa (by simp [new7,e7,noHeap, *] : [] =List.map wdv (new7 h hd).fst.words) (Fa (by simp [new7,e7,noHeap, *] : [] =List.map Page.dv (new7 h hd).fst.pages) (Fa (by simp [new7,e7,noHeap, *] : 0 =(new7 h hd).fst.space) (Fa (by simp [new7,e7,noHeap, *] : 0 =(new7 h hd).fst.bump) (Fa (by simp [new7,e7,noHeap, *] : 0 =(new7 h hd).snd.fst) (Fa (by simp [new7,e7,noHeap, *] : 3 =(new7 h hd).snd.snd) Fz))))))))))))
    ·exact gF [] Tryz.func102 [false,false,false,false,false,true] (Q1 (Ff 47 hc0 (Fc 53 (@Zd0 ((Z0a h (sizeH hd)).fst) ((Z0a h (sizeH hd)).snd.fst) hd ‹_› (by omega) ‹_›) (Fa (by simp [new7,e7,noHeap, *] : (Z0u (Z0a h (sizeH hd)).fst (Z0a h (sizeH hd)).snd.fst hd).fst.conf.pw =(new7 h hd).fst.conf.pw) (Fa (by simp [new7,e7,noHeap, *] : (Z0u (Z0a h (sizeH hd)).fst (Z0a h (sizeH hd)).snd.fst hd).fst.conf.pg =(new7 h hd).fst.conf.pg) (Fa (by refine congrArg _ ?_; simp [new7,e7,noHeap, *] : List.map wdv (Z0u (Z0a h (sizeH hd)).fst (Z0a h (sizeH hd)).snd.fst hd).fst.words =List.map wdv (new7 h hd).fst.words) (Fa (by refine congrArg _ ?_; simp [new7,e7,noHeap, *] : List.map Page.dv (Z0u (Z0a h (sizeH hd)).fst (Z0a h (sizeH hd)).snd.fst hd).fst.pages =List.map Page.dv (new7 h hd).fst.pages) (Fa (by simp [new7,e7,noHeap, *] : (Z0u (Z0a h (sizeH hd)).fst (Z0a h (sizeH hd)).snd.fst hd).fst.space =(new7 h hd).fst.space) (Fa (by simp [new7,e7,noHeap, *] : (Z0u (Z0a h (sizeH hd)).fst (Z0a h (sizeH hd)).snd.fst hd).fst.bump =(new7 h hd).fst.bump) (Fa (by simp [new7,e7,noHeap, *] : (Z0a h (sizeH hd)).snd.fst =(new7 h hd).snd.fst) (Fa (by simp [new7,e7,noHeap, *] : 0 =(new7 h hd).snd.snd) Fz)))))))))))
 ·have hf : Z02 h = false := by simpa using hp
  have e7 : new7 h hd = (noHeap,0,1) := by rw [new7,if_neg (by rw [hf]; simp)]
  rw [e7]
  exact gF [] Tryz.func102 [false,false,false,false,false,false] (Fc 13 (@Z0m h) (FcG 19 (!!Z02 h) (fun hg => by (try simp only [bs] at hg); exact @Z4H h.conf hd (by (try simp only [bs] at hg); assumption)) (Ft 21 (by simp [noHeap, *] : (!Z02 h||!Z1b h.conf hd)=true) (Fnl (Fnl Fz)))))
theorem Z39 (h : Header) (hm : 0 ≤ h.map ∧ h.map ≤ 4294967295) : GSpec Tryz.prog 71 [h.av] true (bool (Z0i h)) [] := by
 have hs := fun q => ZjP (n := h.length) q
 have ho : 0 ≤ h.length → h.length ≤ 32 → ones h.length = 2 ^ h.length.toNat - 1 := fun h0 h1 => by rw [ones,Nat.min_eq_left (by omega)]
 rcases Bool.eq_false_or_eq_true (decide (h.kind < (0 : Int)) || decide ((3 : Int) < h.kind) || decide (h.length < (0 : Int)) || decide ((255 : Int) < h.length)) with hc0 | hc0
 ·have hc0p := hc0
  simp only [bs] at hc0p
  refine gspec_ofE [((20 : Nat),[Hint.br true])] [] [] (by decide) Tryz.func71 [false,false,false,false,false,false,false,false,false,true] (φ := (decide (h.kind < (0 : Int)) || decide ((3 : Int) < h.kind) || decide (h.length < (0 : Int)) || decide ((255 : Int) < h.length)) = true ∧ true = true ∧ false = Z0i h) ?_ (by kernel_rfl) (by kernel_rfl)
  exact ⟨‹_›,rfl,(by (simp [Z0i, *]; omega))⟩
 ·have hc0p := hc0
  simp only [bs] at hc0p
  obtain ⟨⟨⟨hc0paaa,hc0paab⟩,hc0pab⟩,hc0pb⟩ := hc0p
  rcases Bool.eq_false_or_eq_true (h.kind == (1 : Int)) with hc1 | hc1
  ·have hc1p := hc1
   simp only [bs] at hc1p
   refine gspec_ofE [((20 : Nat),[Hint.br false]),((23 : Nat),[Hint.br true]),((30 : Nat),[Hint.int h.map]),((33 : Nat),[Hint.call true (u64 (ones h.length)) []])] [] [] (by decide) Tryz.func71 [false,false,false,false,false,false,false,false,false,false,false,false,false,false,false,false,true] (φ := (decide (h.kind < (0 : Int)) || decide ((3 : Int) < h.kind) || decide (h.length < (0 : Int)) || decide ((255 : Int) < h.length)) = false ∧ false = false ∧ (h.kind == (1 : Int)) = true ∧ true = true ∧ (decide (h.length ≤ (32 : Int)) = true → IntKind.u64.wrap h.map = h.map) ∧ (decide (h.length ≤ (32 : Int)) = true → GSpec Tryz.prog 111 [int h.length] true (u64 (ones h.length)) []) ∧ (decide (h.length ≤ (32 : Int)) && decide (h.map ≤ ones h.length)) = Z0i h) ?_ (by kernel_rfl) (by kernel_rfl)
   exact ⟨‹_›,rfl,‹_›,rfl,(by intro hg; (try simp only [bs] at hg); exact wrapU2 rfl (by omega) (by omega)),(fun hg => by (try simp only [bs] at hg); exact @Zdj (h.length)),(by grind [Z0i])⟩
  ·have hc1p := hc1
   simp only [bs] at hc1p
   refine gspec_ofE [((20 : Nat),[Hint.br false]),((23 : Nat),[Hint.br false])] [] [] (by decide) Tryz.func71 [false,false,false,false,false,false,false,false,false,true] (φ := (decide (h.kind < (0 : Int)) || decide ((3 : Int) < h.kind) || decide (h.length < (0 : Int)) || decide ((255 : Int) < h.length)) = false ∧ false = false ∧ (h.kind == (1 : Int)) = false ∧ false = false ∧ (h.kind == h.kind && (h.length == h.length && h.map == (0 : Int))) = Z0i h) ?_ (by kernel_rfl) (by kernel_rfl)
   exact ⟨‹_›,rfl,‹_›,rfl,(by grind [Z0i])⟩
theorem Z29 (h : Header) (hm : 0 ≤ h.map ∧ h.map ≤ 4294967295) : GSpec Tryz.prog 37 [h.av] true (int (sizeH h)) [] := by
 rcases Bool.eq_false_or_eq_true (!Z0i h) with hc0 | hc0
 ·have hc0p := hc0
  simp only [bs] at hc0p
  refine gspec_ofE [((4 : Nat),[Hint.call true (Sx.bool (Z0i h)) []]),((5 : Nat),[Hint.br true])] [] [] (by decide) Tryz.func37 [true] (φ := GSpec Tryz.prog 71 [h.av] true (Sx.bool (Z0i h)) [] ∧ (!Z0i h) = true ∧ true = true ∧ (0 : Int) = sizeH h) ?_ (by kernel_rfl) (by kernel_rfl)
  exact ⟨(@Z39 (h) ‹_›),‹_›,rfl,(by simp [sizeH, *])⟩
 ·have hc0p := hc0
  simp only [bs] at hc0p
  have hf3 := validH_iff.1 hc0p
  obtain ⟨hf3a,⟨hf3ba,⟨hf3bba,⟨hf3bbba,hf3bbbb⟩⟩⟩⟩ := hf3
  refine gspec_ofE [((4 : Nat),[Hint.call true (Sx.bool (Z0i h)) []]),((5 : Nat),[Hint.br false]),((8 : Nat),[Hint.int (h.length + (1 : Int))])] [] [] (by decide) Tryz.func37 [true] (φ := GSpec Tryz.prog 71 [h.av] true (Sx.bool (Z0i h)) [] ∧ (!Z0i h) = false ∧ false = false ∧ IntKind.i64.wrap (h.length + (1 : Int)) = h.length + (1 : Int) ∧ h.length + (1 : Int) = sizeH h) ?_ (by kernel_rfl) (by kernel_rfl)
  exact ⟨(@Z39 (h) ‹_›),‹_›,rfl,(by exact wrapI2 rfl (by omega) (by omega)),(by simp [sizeH, *])⟩
theorem Z8G (ws : List Int) (a n : Int) (hw : ws.length ≤ 1048576) (h0 : 0 ≤ a ∧ a ≤ 18446744073709551615) : GSpec Tryz.prog 118 [Z01 ws,u64 a,int n] true (.tu [int (Z09 ws a n).1,bool (Z09 ws a n).2]) [] := by
 have Q0 {h_ c_ p_} (r_ : Fq h_ c_ p_) := FvG 13 (!decide (a < 4096)) (a - 4096) (FlG 15 (!decide (a < 4096)) wdv ws (FvG 16 (!decide (a < 4096)) (↑ws.length) r_))
 rcases bb (decide (a < 4096) || decide ((↑ws.length : Int) < a - 4096)) with hc0 | hc0<;>have hc0p:=hc0<;>simp only [bs] at hc0p
 ·exact gF [] Tryz.func118 [false,false,false,false,false,false,true] (Q0 (Ft 18 hc0 (Fa (by (simp only [Z09]; (repeat' split) <;> first | rfl | omega | (exfalso; omega) | simp_all) : 0 =(Z09 ws a n).fst) (Fa (by (simp only [Z09]; (repeat' split) <;> first | rfl | omega | (exfalso; omega) | simp_all) : false =(Z09 ws a n).snd) Fz))))
 ·obtain ⟨hc0pa,hc0pb⟩ := hc0p
  exact gF [] Tryz.func118 [false,false,false,false,false,false,true] (Q0 (Ff 18 hc0 (Fv 20 (a - 4096) (Fi 21 (a - 4096) (Fl 25 wdv ws (Fi 27 ((↑ws.length : Int) - (a - 4096)) (Fa (by (simp only [Z09]; (repeat' split) <;> first | rfl | omega | (exfalso; omega) | simp_all) : a - 4096 =(Z09 ws a n).fst) (Fa (by (simp only [Z09]; (repeat' split) <;> first | rfl | omega | (exfalso; omega) | simp_all) : decide (n≤(↑ws.length : Int) - (a - 4096)) =(Z09 ws a n).snd) Fz))))))))
end Go.Proofs.YtjflpmnenhdeeaaGreat
namespace Go.Sx
def Zek (H : Heap) (x : AV) : Option AV := match x with
 | .d x => some (.d x)
 | .rp e o => some (.rp e o)
 | .ow b => match Nat.ble 8000 b with
  | true => match H b with | some (.arr _ s els) => some (.d (.sl s els)) | _ => none
  | false => none
 | .os b o n => match Nat.ble 8000 b with
  | true => match H b with | some (.arr _ s els) => some (.d (.sl s ((els.drop o).take n))) | _ => none
  | false => none
 | _ => none
def Zcx (f : AV → Option AV) : List AV → Option (List AV)
 | [] => some []
 | a :: l => match f a,Zcx f l with
  | some x,some r => some (x :: r)
  | _,_ => none
def ZgN (H : Heap) (a : AV) : Option AV := match a with
 | .ag l => match Zcx (Zek H) l with | some r => some (.ag r) | none => none
 | .ic t x => match Zek H x with | some r => some (.ic t r) | none => none
 | x => Zek H x
def Zjf (H : Heap) (a : AV) : Option AV := match a with
 | .tu l => match Zcx (ZgN H) l with | some r => some (.tu r) | none => none
 | x => ZgN H x
def Zk7 (x : AV) : Bool := match x with
 | .pt 0 0 0 => true
 | x => Z5z x
def runL (P : Program) (hints : List (Nat × List Hint)) (cuts : List (Nat × Tg × Ex × Tg)) (fn : Func) (args : List AV) (pre : Blk) (res : AV) (post : Blk) : Option Run :=
 match fn.body with
 | none => none
 | some c => match args.all Zk7 with
  | false => none
  | true => match runC P hints cuts c ⟨args ++ List.replicate (fn.ntmps - args.length) .any,hOf [(0,pre)],1⟩ with
   | none => none
   | some r => match r.e with
    | .ext _ => none
    | _ => match Z7R P r.s.tmps r.s.H fn.results.toList with
     | none => none
     | some l => match Zjf r.s.H (resV l),r.s.H 0,pre,post with
      | some x,some (.box ty cells),.box _ cells0,.box ty1 cells1 => match Zcx (Zek r.s.H) cells with
       | some cs => match Nat.beq cells.length cells0.length with
        | true => some ⟨r.e,r.s,r.ph ++ ((coeT x res).2 ++ (coeL coe1 cs cells1).2),r.eq ++ [((coeT x res).1,res),(encB (.box ty (coeL coe1 cs cells1).1),encB (.box ty1 cells1))]⟩
        | false => none
       | none => none
      | _,_,_,_ => none
def ImL (Im : Nat → Prop) (ρ : Rho) (H : Heap) : Nat → Prop := fun g => Im g ∨ ∃ b β,8000 ≤ b ∧ live H b ∧ ρ b = some β ∧ β.g = some g
section
variable {Ow Im0 : Nat → Prop} {w0 : World} {ρ : Rho} {w : World} {Im : Nat → Prop} {H : Heap} {clk : Nat}
theorem Z6k {x : AV} {v : Value} {s : Nat} {els : List (List DV)} {b : Nat} (I : Inv Ow Im0 w0 ρ w Im H clk) (hx : Rel ρ w Im x v) (h : Z1e H x = some (s,els)) (hb : 8000 ≤ b) (hlive : live H b)
  (hblk : ∀ a n c,v = .slice (some a) n c → n ≠ 0 → ∃ β,ρ b = some β ∧ β.g = some a.block) : RelD w (ImL Im ρ H) (.sl s els) v := by
 obtain ⟨p,c,rfl,hbg,hc,hl,hcell⟩ := Z28 I hx h
 by_cases he : els = []
 ·subst he; exact .slNil _ _ _
 rcases hcell with hcell | ⟨q,rfl,hq,hcell⟩
 ·exact absurd hcell he
 have hn : els.length ≠ 0 := by simpa using he
 obtain ⟨β,hβ,hg⟩ := hblk q _ c rfl hn
 refine .sl s els q els.length c (fun i o => (w.cell? ⟨q.block,q.off + (i * s + o),none⟩).getD undef) rfl hc hbg (hl he) hq (.inr ⟨b,β,hb,hlive,hβ,hg⟩) ?_ ?_
 ·intro i e o y hi ho
  obtain ⟨u,k1,_⟩ := hcell i e o y hi ho
  rw [k1]; rfl
 ·intro i e o y hi ho
  obtain ⟨u,k1,k2⟩ := hcell i e o y hi ho
  rw [k1]
  exact k2.mono (Ext.refl _ _) (fun g hg => .inl hg)
theorem Z6K (I : Inv Ow Im0 w0 ρ w Im H clk) {x y : AV} {v : Value} (hx : Rel ρ w Im x v) (h : Zek H x = some y) : Rel (fun _ => none) w (ImL Im ρ H) y v := by
 unfold Zek at h
 split at h
 ·cases h
  cases hx with
  | d hx => exact .d (hx.mono (Ext.refl _ _) (fun g hg => .inl hg))
 ·cases h
  cases hx with
  | rp h1 h2 h3 => exact .rp h1 (.inl h2) (fun j x hx => let ⟨v,k1,k2⟩ := h3 j x hx; ⟨v,k1,k2.mono (Ext.refl _ _) (fun g hg => .inl hg)⟩)
 ·rename_i b
  split at h
  rotate_left
  ·cases h
  rename_i hb8
  split at h
  rotate_left
  ·cases h
  rename_i ty s els hb
  cases h
  refine .d (Z6k (b := b) I hx (by simp [Z1e,hb]) (Nat.le_of_ble_eq_true hb8) ⟨_,hb,by simp⟩ fun a n c hv hn => ?_)
  subst hv
  generalize hvv : Value.slice (some a) n c = vv at hx
  cases hx with
  | ow h1 h2 h3 h4 =>
   injection hvv with e1 e2 e3
   rcases h4 with h4 | ⟨g,hg,e,_⟩
   ·omega
   ·rw [← e1] at e; cases e; exact ⟨_,h1,hg⟩
 ·rename_i b oo m
  split at h
  rotate_left
  ·cases h
  rename_i hb8
  split at h
  rotate_left
  ·cases h
  rename_i ty s els hb
  cases h
  refine .d (Z6k (b := b) I hx (by simp [Z1e,hb]) (Nat.le_of_ble_eq_true hb8) ⟨_,hb,by simp⟩ fun a n c hv hn => ?_)
  subst hv
  generalize hvv : Value.slice (some a) n c = vv at hx
  cases hx with
  | os h1 h2 h3 h4 h5 =>
   injection hvv with e1 e2 e3
   rcases h5 with h5 | ⟨g,hg,e,_⟩
   ·omega
   ·rw [← e1] at e; cases e; exact ⟨_,h1,hg⟩
 ·cases h
theorem Z4J {f : AV → Option AV} : ∀ {l r : List AV},Zcx f l = some r → r.length = l.length ∧ ∀ (i : Nat) (y : AV),r[i]? = some y → ∃ x,l[i]? = some x ∧ f x = some y
 | [],r,h => by simp [Zcx] at h; subst h; simp
 | a :: l,r,h => by
  simp only [Zcx] at h
  split at h
  rotate_left
  ·cases h
  rename_i x m hx hm
  cases h
  obtain ⟨h1,h2⟩ := Z4J hm
  refine ⟨by simp [h1],fun i y hy => ?_⟩
  cases i with
  | zero => simp at hy; subst hy; exact ⟨a,rfl,hx⟩
  | succ i => exact h2 i y (by simpa using hy)
theorem ZdG (I : Inv Ow Im0 w0 ρ w Im H clk) {x y : AV} {v : Value} (hx : Rel ρ w Im x v) (h : ZgN H x = some y) : Rel (fun _ => none) w (ImL Im ρ H) y v := by
 unfold ZgN at h
 split at h
 ·split at h
  rotate_left
  ·cases h
  rename_i r hr
  cases h
  obtain ⟨h1,h2⟩ := Z4J hr
  obtain ⟨cs,rfl,k1,k2,k3⟩ := Z3u hx
  refine .ag _ cs (by omega) k2 fun i a u ha hu => ?_
  obtain ⟨z,m1,m2⟩ := h2 i a ha
  exact Z6K I (k3 i z u m1 hu) m2
 ·split at h
  rotate_left
  ·cases h
  rename_i r hr
  cases h
  cases hx with
  | ic hx => exact .ic (Z6K I hx hr)
 ·exact Z6K I hx h
theorem ZgR (I : Inv Ow Im0 w0 ρ w Im H clk) {x y : AV} {v : Value} (hx : Rel ρ w Im x v) (h : Zjf H x = some y) : Rel (fun _ => none) w (ImL Im ρ H) y v := by
 unfold Zjf at h
 split at h
 ·split at h
  rotate_left
  ·cases h
  rename_i r hr
  cases h
  obtain ⟨h1,h2⟩ := Z4J hr
  cases hx with
  | tu _ cs k1 k3 =>
   refine .tu _ cs (by omega) fun i a u ha hu => ?_
   obtain ⟨z,m1,m2⟩ := h2 i a ha
   exact ZdG I (k3 i z u m1 hu) m2
 ·exact ZdG I hx h
end
theorem lent_of {P : Program} {f : Nat} {fn : Func} {args : List AV} {pre : Blk} {res : AV} {post : Blk} (hints : List (Nat × List Hint)) (cuts : List (Nat × Tg × Ex × Tg))
  (hf : P.funcs[f]? = some fn) (fl : List Bool) {φ : Prop} (hφ : φ) (h1 : oblE fl (runL P hints cuts fn args pre res post) = φ) (h2 : lefE fl (runL P hints cuts fn args pre res post) = rigE fl (runL P hints cuts fn args pre res post)) : LentSpec P f args [pre] res [post] := by
 rw [← h1] at hφ
 obtain ⟨hφ,h2⟩ := Z7v hφ h2
 clear h1
 cases hr : runL P hints cuts fn args pre res post with
 | none => rw [hr] at hφ; exact hφ.elim
 | some r =>
  rw [hr] at hφ h2
  have heq : EqP r.eq := ZcQ h2
  have hph : allP r.ph := hφ
  clear h2 hφ
  unfold runL at hr
  split at hr
  ·cases hr
  rename_i c hb
  split at hr
  ·cases hr
  rename_i hpure
  split at hr
  ·cases hr
  rename_i q hq
  split at hr
  ·cases hr
  rename_i hne
  split at hr
  ·cases hr
  rename_i l hl
  split at hr
  rotate_left
  ·cases hr
  rename_i x ty cells ty0 cells0 ty1 cells1 hx hH0
  split at hr
  rotate_left
  ·cases hr
  rename_i cs hcs
  split at hr
  rotate_left
  ·cases hr
  rename_i hlen
  have hlen := Nat.eq_of_beq_eq_true hlen
  cases hr
  obtain ⟨hph1,hph'⟩ := allP_append.1 hph
  obtain ⟨hph2,hph3⟩ := allP_append.1 hph'
  have heq1 := heq.left
  have hxe : (coeT x res).1 = res := heq.right ((coeT x res).1,res) (by simp)
  have hbe0 : encB (.box ty (coeL coe1 cs cells1).1) = encB (.box ty1 cells1) := heq.right (encB (.box ty (coeL coe1 cs cells1).1),encB (.box ty1 cells1)) (by simp)
  have hbe := Z9g hbe0
  intro w Im ρ vs hIm hsz hρ hinj hbnd hpre hargs
  refine calls_of_wp hf hb ?_
  have hlow : ∀ b β,ρ b = some β → b = 0 := by intro b β h; have := hρ b β h; simp at this; exact this
  have hS : Sys (fun g => ∃ b β,ρ b = some β ∧ β.g = some g) Im w (args ++ List.replicate (fn.ntmps - args.length) .any) (hOf [(0,.box ty0 cells0)]) 1 { tmps := vs ++ Array.replicate (fn.ntmps - vs.size) undef,defers := [] } w := by
   refine ⟨ρ,Im,⟨Kept.refl _ _,(fun b b' β β' g _ _ => hinj b b' β β' g),(fun b β g _ h h' => (hbnd b β g h h').2),(fun b β g h h' => (hbnd b β g h h').1),(fun b β g h h' => .inr ⟨b,β,h,h'⟩),hIm,(fun g h => .inl h),(fun b B h => ?_),(fun b hb _ => ?_),Nat.le_refl 1⟩,⟨by simp [hsz],fun i y v hy hv => ?_,rfl⟩⟩
   ·simp only [hOf] at h
    split at h
    ·rename_i e; cases h; rw [e]; exact hpre 0 _ rfl
    ·cases h
   ·cases hc : ρ b with
    | none => rfl
    | some β => have := hlow b β hc; omega
   ·rw [List.getElem?_append] at hy
    simp only [Array.getElem?_append] at hv
    rw [hsz] at hv
    split at hy
    ·rename_i hi
     rw [if_pos hi] at hv
     exact hargs i y v hy hv
    ·have := List.mem_of_getElem? hy
     rw [(List.mem_replicate.1 this).2]
     exact .any _
  refine wp_mono (Z99 hq hph1 heq1 _ _ _ _ _ hS) ?_
  rintro e a' w' ⟨rfl,hS'⟩
  have post : a'.defers = [] ∧ ∃ v,(results fn a'.tmps).run P w' = .ok v w' ∧ ∃ u,Ending.returned v = .returned u ∧ Kept (fun g => ∃ b β,ρ b = some β ∧ β.g = some g) w w' ∧ ∃ Im' : Nat → Prop,(∀ g,Im' g → Im g ∨ w.heap.size ≤ g) ∧ (∀ g,Im' g → g < w'.heap.size) ∧
    (∀ (k : Nat) (B : Blk),[Blk.box ty1 cells1][k]? = some B → ∃ β,ρ k = some β ∧ RelB ρ w' Im' β B) ∧ Rel ρ w' Im' res u := by
   obtain ⟨ρ',Im',I,T⟩ := hS'
   obtain ⟨v,h1,h2⟩ := Z8K I T hl
   have hzero : ∀ g κ,ρ 0 = some κ → κ.g = some g → ∃ β',ρ' 0 = some β' ∧ β'.g = some g := by
    intro g κ n1 n2
    obtain ⟨β',k1,k2,k3,g1,ca,k4,_⟩ := I.blk 0 _ hH0
    rcases I.own 0 β' g1 k1 k4 with ⟨_,h⟩ | ⟨b,κ2,m1,m2⟩
    ·omega
    ·have := hlow b κ2 m1
     subst this
     rw [n1] at m1; cases m1
     rw [n2] at m2; cases m2
     exact ⟨β',k1,k4⟩
   have hlent : ∀ g,(∃ b β,ρ b = some β ∧ β.g = some g) → ¬ Im' g := by
    rintro g ⟨b,κ,n1,n2⟩
    have := hlow b κ n1
    subst this
    obtain ⟨β',k1,k4⟩ := hzero g κ n1 n2
    exact I.notIm 0 β' g ⟨_,hH0,by simp⟩ k1 k4
   refine ⟨T.defers,v,h1,v,rfl,I.kept,ImL Im' ρ' q.s.H, ?_, ?_, ?_, ?_⟩
   ·rintro g (hg | ⟨b,β,h8,_,hb,hg⟩)
    ·rcases I.im0 g hg with h | h | h
     ·exact .inl h
     ·exact .inr h
     ·exact absurd hg (hlent g h)
    ·rcases I.own b β g hb hg with ⟨h,_⟩ | ⟨b2,κ,n1,n2⟩
     ·exact .inr h
     ·have := hlow b2 κ n1
      subst this
      obtain ⟨β',k1,k4⟩ := hzero g κ n1 n2
      have := I.inj b 0 β β' g ‹_› ⟨_,hH0,by simp⟩ hb k1 hg k4
      omega
   ·rintro g (hg | ⟨b,β,_,_,hb,hg⟩)
    ·exact I.imb g hg
    ·exact I.bnd b β g hb hg
   ·intro k B hB
    cases k with
    | succ k => simp at hB
    | zero =>
     simp at hB
     subst hB
     obtain ⟨β',k1,k2,k3,g,ca,k4,k5,k6,k7,k8⟩ := I.blk 0 _ hH0
     obtain ⟨β,m1,m2,m3,g2,ca2,m4,m5,m6,m7,m8⟩ := hpre 0 _ rfl
     have hg : g = g2 := by
      rcases I.own 0 β' g k1 k4 with ⟨_,h⟩ | ⟨b,κ,n1,n2⟩
      ·omega
      ·have := hlow b κ n1
       subst this
       rw [m1] at n1; cases n1
       rw [m4] at n2; cases n2; rfl
     refine ⟨β,m1, ?_⟩
     rw [← hbe]
     obtain ⟨f1,f2⟩ := Z4J hcs
     obtain ⟨c1,c2⟩ := Z5s hph3
     refine ⟨by rw [c1,f1,m2,hlen],m3,g,ca,by rw [m4,hg],k5,by rw [c1,f1]; exact k6,k7,fun o y u hy hu => ?_⟩
     obtain ⟨z,z1,z2⟩ := c2 o y hy
     obtain ⟨z',e1,e2⟩ := f2 o z z1
     have hz := Z6K I (k8 o z' u e1 hu) e2
     have hz' : Rel ρ w' (ImL Im' ρ' q.s.H) z u := hz.mono (Ext.refl _ _) (fun _ h => h) (fun b β h => by cases h) (fun b β g h => by cases h)
     rcases z2 with rfl | ⟨r,rfl,hr⟩
     ·exact hz'
     ·exact Z9v hz' hr
   ·have hz := ZgR I h2 hx
    have hz' : Rel ρ w' (ImL Im' ρ' q.s.H) x v := hz.mono (Ext.refl _ _) (fun _ h => h) (fun b β h => by cases h) (fun b β g h => by cases h)
    have := ZcU (r := res) hz' hph2
    rwa [hxe] at this
  cases hqe : q.e with
  | nrm => exact post
  | ret => exact post
  | ext n => exact absurd hqe (hne n)
theorem Fp {hs : List (Nat × List Hint)} {cs : List (Nat × Tg × Ex × Tg)} {φ : Prop} (n : Nat) {P : Program} {f : Nat} {args : List AV} {pre : List Blk} {res : AV} {post : List Blk} (h : LentSpec P f args pre res post) (r : Fq hs cs φ) : Fq ((n,[.lent res post]) :: hs) cs (LentSpec P f args pre res post ∧ φ) := ⟨h,r.p⟩
theorem lF {hs : List (Nat × List Hint)} {cs : List (Nat × Tg × Ex × Tg)} {φ0 : Prop} {P : Program} {f : Nat} {fn : Func} {args : List AV} {pre : Blk} {res : AV} {post : Blk}
  (hf : P.funcs[f]? = some fn) (fl : List Bool) (h : Fq hs cs φ0) (h1 : oblF fl (runL P hs cs fn args pre res post) = φ0 := by kernel_rfl) (h2 : lefE fl (runL P hs cs fn args pre res post) = rigE fl (runL P hs cs fn args pre res post) := by kernel_rfl) : LentSpec P f args [pre] res [post] :=
 lent_of hs cs hf fl (oblF_E (Eq.mpr h1 h.p)) rfl h2
theorem lE {P : Program} {f : Nat} {fn : Func} {args : List AV} {pre : Blk} {res : AV} {post : Blk} (hints : List (Nat × List Hint)) (cuts : List (Nat × Tg × Ex × Tg))
  (hf : P.funcs[f]? = some fn) (fl : List Bool) {φ : Prop} (hφ : φ) (h1 : oblE fl (runL P hints cuts fn args pre res post) = φ := by kernel_rfl) (h2 : lefE fl (runL P hints cuts fn args pre res post) = rigE fl (runL P hints cuts fn args pre res post) := by kernel_rfl) : LentSpec P f args [pre] res [post] :=
 lent_of hints cuts hf fl hφ h1 h2
end Go.Sx
namespace Go.Proofs.YtjflpmnenhdeeaaGreat
open Go.Sx
theorem Zf5 {α β : Type} {f : α → β} {l : List α} (h : l ≠ []) : l.map f ≠ [] := by simpa using h
theorem Zct (ws : List Int) (hw : ws.length ≤ 1048576) (hne : ws ≠ []) : GSpec Tryz.prog 119 [Z01 ws] true (.ow 0) [.arr 39 1 (ws.map wdv)] := by
 exact gF [24007] Tryz.func119 [] (Fa (by exact Zf5 hne : List.map wdv ws ≠ []) (Fs 5 (List.map wdv []) (Fa (by (simp [*]; omega) : (List.map wdv []).length + (List.map wdv ws).length≤2 ^ 30) (Fs 7 (List.map wdv ws) (Fa (by exact Z5U _ : Z1m (List.map wdv ws)) Fz)))))
theorem Zeu (l : List Page) (hl : l.length ≤ 1048576) (hne : l ≠ []) : GSpec Tryz.prog 74 [Z0o l] true (Z0o l) [] := by
 exact gF [] Tryz.func74 [] (Fa (by exact Zf5 hne : List.map Page.dv l ≠ []) (Fs 5 (List.map Page.dv []) (Fa (by (simp [*]; omega) : (List.map Page.dv []).length + (List.map Page.dv l).length≤2 ^ 30) (Fs 7 (List.map Page.dv l) (Fa (by exact Z2c _ : Z1m (List.map Page.dv l)) Fz)))))
theorem Z5I {α : Type} {l : List α} (h : 0 < l.length) : l ≠ [] := by
 rintro rfl
 simp at h
theorem Z64 (ws l : List Int) (a : Int) (hw : ws.length ≤ 1048576) (hl : l.length ≤ 1048576) (h0 : 0 ≤ a ∧ a ≤ 18446744073709551615) (hn : 0 < l.length) : GSpec Tryz.prog 78 [Z01 ws,u64 a,Z01 l] true (.tu [Z01 (Z0b ws a l).1,int (Z0b ws a l).2]) [] := by
 by_cases h : 4096 ≤ a ∧ a - 4096 + l.length ≤ ws.length
 ·have e7 : Z0b ws a l = (spl ws (a - 4096).toNat l,0) := by rw [Z0b,if_pos h]
  have e1 : Z09 ws a (l.length : Int) = (a - 4096,true) := by
   rw [Z09,if_pos (by omega)]
   simp; omega
  have e2 := congrArg (fun x => x.1) e1
  have e3 := congrArg (fun x => x.2) e1
  simp only at e2 e3
  have hne : ws ≠ [] := Z5I (by omega)
  have hs : Z0K (List.map wdv ws) (Z09 ws a l.length).1.toNat (List.map wdv l) = List.map wdv (List.take (Z09 ws a l.length).1.toNat ws ++ l ++ List.drop ((Z09 ws a l.length).1.toNat + l.length) ws) := by simp [Z0K]
  rw [e7]
  exact gF [] Tryz.func78 [true] (Fh 27 [.els (List.map wdv (List.take (Z09 ws a (↑l.length : Int)).fst.toNat ws ++ l ++ List.drop ((Z09 ws a (↑l.length : Int)).fst.toNat + l.length) ws))] (Fl 15 wdv l (Fc 16 (@Z8G ws a ((↑l.length : Int)) ‹_› ‹_›) (Ffb 20 (!(Z09 ws a (↑l.length : Int)).snd) (Fc 22 (@Zct ws ‹_› ‹_›) (Fa (by (simp only [List.length_map]; omega) : 0≤(Z09 ws a (↑l.length : Int)).fst∧(Z09 ws a (↑l.length : Int)).fst≤(↑(List.map wdv ws).length : Int)) (Fa (by (simp only [List.length_map]; omega) : (List.map wdv l).length≤(↑(List.map wdv ws).length : Int).toNat - (Z09 ws a (↑l.length : Int)).fst.toNat) (Fa (by exact hs : Z0K (List.map wdv ws) (Z09 ws a (↑l.length : Int)).fst.toNat (List.map wdv l) =List.map wdv (List.take (Z09 ws a (↑l.length : Int)).fst.toNat ws ++ l ++ List.drop ((Z09 ws a (↑l.length : Int)).fst.toNat + l.length) ws)) (Fa (by exact Z5U _ : Z1m (List.map wdv (List.take (Z09 ws a (↑l.length : Int)).fst.toNat ws ++ l ++ List.drop ((Z09 ws a (↑l.length : Int)).fst.toNat + l.length) ws))) (Fa (by refine congrArg _ ?_; simp [spl, *] : List.map wdv (List.take (Z09 ws a (↑l.length : Int)).fst.toNat ws ++ l ++ List.drop ((Z09 ws a (↑l.length : Int)).fst.toNat + l.length) ws) =List.map wdv (spl ws (a - 4096).toNat l,0).fst) (Fr (0 : Int) Fz)))))))))))
 ·have e7 : Z0b ws a l = ([],2) := by rw [Z0b,if_neg h]
  have e3 : (Z09 ws a (l.length : Int)).2 = false := by
   unfold Z09
   split
   ·simp; omega
   ·rfl
  rw [e7]
  exact gF [] Tryz.func78 [] (Fl 15 wdv l (Fc 16 (@Z8G ws a ((↑l.length : Int)) ‹_› ‹_›) (Ftb 20 (!(Z09 ws a (↑l.length : Int)).snd) (Fnl Fz))))
theorem Z4Z (h : Heap) (ws : List Int) (e : Int) (hp : h.pages.length ≤ 1048576) (he : e = 0) (hne : h.pages ≠ []) : GSpec Tryz.prog 79 [h.av,Z01 ws,int e] false (.tu [Heap.av ⟨h.conf,ws,h.pages,h.space,h.bump⟩,int 0]) [] := by
 exact gF [] Tryz.func79 [] (Ffb 9 (e != 0) (Fc 15 (@Zeu h.pages ‹_› ‹_›) Fz))
theorem Z89 (h : Heap) (ws : List Int) (e : Int) (he : ¬ e = 0) : GSpec Tryz.prog 79 [h.av,Z01 ws,int e] false (.tu [noHeap.av,int e]) [] := by
 exact gF [] Tryz.func79 [] (Ftb 9 (e != 0) (Fnl (Fnl Fz)))
theorem Zih : GSpec Tryz.prog 40 [.ag [int 16,int 8]] true (.tu [.ag [int 16,int 8,.ow 0,.ow 1,int 0,int (-1)],int 0]) [.arr 39 1 ((List.replicate 128 0).map wdv),.arr 56 4 ((List.replicate 8 (⟨0,0,0,0⟩ : Page)).map Page.dv)] := by
 have h : Z07 ⟨16,8⟩ = true := by decide
 have ei : (8 : Int) * 16 = 128 := rfl
 exact gF [24014,24017] Tryz.func40 [] (Fc 5 (@Z0w (Conf.mk 16 8)) (Fa (by decide +kernel : 0≤IntKind.i64.wrap ((8 :Int) * 16)∧IntKind.i64.wrap ((8 :Int) * 16)≤IntKind.i64.wrap ((8 :Int) * 16)∧IntKind.i64.wrap ((8 :Int) * 16) * ((↑(nat_lit 7) : Int) + 1)≤2 ^ 48) (Fs 14 (List.map wdv (List.replicate (Int.toNat 128) 0)) (Fa (by decide +kernel : (0 :Int)≤(8 :Int)∧(8 :Int)≤(8 :Int)∧8 * ((↑(nat_lit 31) : Int) + 1)≤2 ^ 48) (Fs 17 (List.map Page.dv [Page.mk 0 0 0 0,Page.mk 0 0 0 0,Page.mk 0 0 0 0,Page.mk 0 0 0 0,Page.mk 0 0 0 0,Page.mk 0 0 0 0,Page.mk 0 0 0 0,Page.mk 0 0 0 0]) (Fa (by exact Z5U _ : Z1m (List.map wdv (List.replicate (Int.toNat 128) 0))) (Fa (by exact Z2c _ : Z1m (List.map Page.dv [Page.mk 0 0 0 0,Page.mk 0 0 0 0,Page.mk 0 0 0 0,Page.mk 0 0 0 0,Page.mk 0 0 0 0,Page.mk 0 0 0 0,Page.mk 0 0 0 0,Page.mk 0 0 0 0])) Fz)))))))
def pg (h : Heap) (i : Int) : Page := h.pages.getD i.toNat default
def adr (h : Heap) (i o : Int) : Int := (address h.conf i o).1
theorem Z5L {h : Heap} (hv : Z07 h.conf = true) (i o : Int) : 0 ≤ adr h i o ∧ adr h i o ≤ 8192 := by
 have ha := area hv
 unfold adr address
 rw [if_pos hv]
 split
 ·rename_i hb
  have hb := inB_iff.1 hb
  have := ZdI hv hb.1 hb.2.1 hb.2.2.1 hb.2.2.2
  simp only; omega
 ·simp
def Z31 (h : Heap) (i : Int) : Nat → Int → Option (List Int)
 | 0,_ => some []
 | f + 1,o => if o < (pg h i).used then (if (atH h (adr h i o)).2 = 0 then (if (pg h i).kind = 2 then some [adr h i o] else (Z31 h i f (o + sizeH (atH h (adr h i o)).1)).map (adr h i o :: ·)) else none) else some []
def Z7g (h : Heap) (i o : Int) (acc : List Int) : Tg := ⟨tm 70 [(1,int i),(2,.pt 8002 0 0),(4,.d (.sl 0 [])),(5,int 0),(6,.pt 32006 0 0),(7,.ow 48007),(8,int o)],
 [(48007,.arr 39 1 (acc.map wdv)),(32006,.box 56 [int (pg h i).kind,int (pg h i).space,int (pg h i).used,int (pg h i).pins]),(8002,.box 28 h.cells)],60⟩
def Z8j (acc : List Int) : Tg := ⟨tm 70 [(7,.ow 48007)],[(48007,.arr 39 1 (acc.map wdv))],60⟩
section
variable (h : Heap) (i o : Int) (acc : List Int) (hw : WOk h.words) (hp : Z02 h = true) (hl : acc.length ≤ 1048576) (ho : 0 ≤ o ∧ o ≤ 1000)
include hw hp hl ho
theorem ZeY (h1 : o < (pg h i).used) (h2 : (atH h (adr h i o)).2 = 0) (h3 : (pg h i).kind ≠ 2) : CSpec Tryz.prog (rndF Tryz.f80 0) (Z7g h i o acc).st .nrm (Z7g h i (o + sizeH (atH h (adr h i o)).1) (acc ++ [adr h i o])).st := by
 have po := Z08 hp
 have ar := Z5L po.1 i o
 have sz := Z3e (atH h (adr h i o)).1
 have hm := Z66 hw (adr h i o)
 unfold adr at ar sz hm h2
 exact sF [(512061,48007)] [] (Fh 61 [.els (List.map wdv (acc ++ [(address h.conf i o).fst]))] (Ftb 41 (decide (o < (pg h i).used)) (Fc 47 (@Z4K h.conf i o) (Fc 53 (@Z4m h ((address h.conf i o).fst) ‹_› (by omega)) (Ffb 57 ((atH h (address h.conf i o).fst).snd != 0) (Fs 60 (List.map wdv [(address h.conf i o).fst]) (Fa (by (simp [adr, *]; omega) : (List.map wdv acc).length + (List.map wdv [(address h.conf i o).fst]).length≤2 ^ 30) (Fa (by simp [adr,List.map_take,List.map_drop,List.map_set,List.map_append,wdv,idv] : List.map wdv acc ++ List.map wdv [(address h.conf i o).fst] =List.map wdv (acc ++ [(address h.conf i o).fst])) (Ffb 64 ((pg h i).kind == 2) (Fc 67 (@Z20 ((atH h (address h.conf i o).fst).fst) ‹_›) (Fi 68 (o + sizeH (atH h (address h.conf i o).fst).fst) Fz)))))))))))
theorem Zep (h1 : o < (pg h i).used) (h2 : (atH h (adr h i o)).2 = 0) (h3 : (pg h i).kind = 2) : CSpec Tryz.prog (rndF Tryz.f80 0) (Z7g h i o acc).st (.ext 0) (Z8j (acc ++ [adr h i o])).st := by
 have po := Z08 hp
 have ar := Z5L po.1 i o
 have hm := Z66 hw (adr h i o)
 unfold adr at ar hm h2
 exact sF [(512061,48007)] [] (Fh 61 [.els (List.map wdv (acc ++ [(address h.conf i o).fst]))] (Ftb 41 (decide (o < (pg h i).used)) (Fc 47 (@Z4K h.conf i o) (Fc 53 (@Z4m h ((address h.conf i o).fst) ‹_› (by omega)) (Ffb 57 ((atH h (address h.conf i o).fst).snd != 0) (Fs 60 (List.map wdv [(address h.conf i o).fst]) (Fa (by (simp [adr, *]; omega) : (List.map wdv acc).length + (List.map wdv [(address h.conf i o).fst]).length≤2 ^ 30) (Fa (by simp [adr,List.map_take,List.map_drop,List.map_set,List.map_append,wdv,idv] : List.map wdv acc ++ List.map wdv [(address h.conf i o).fst] =List.map wdv (acc ++ [(address h.conf i o).fst])) (Ftb 64 ((pg h i).kind == 2) Fz)))))))))
theorem ZgL (h1 : o < (pg h i).used) (h2 : ¬ (atH h (adr h i o)).2 = 0) : CSpec Tryz.prog (rndF Tryz.f80 0) (Z7g h i o acc).st .ret (Tg.st ⟨tm 70 [(4,.d (.sl 0 [])),(5,int 19)],[],60⟩) := by
 have po := Z08 hp
 have ar := Z5L po.1 i o
 unfold adr at ar h2
 exact sF [] [] (Ftb 41 (decide (o < (pg h i).used)) (Fc 47 (@Z4K h.conf i o) (Fc 53 (@Z4m h ((address h.conf i o).fst) ‹_› (by omega)) (Ftb 57 ((atH h (address h.conf i o).fst).snd != 0) Fz))))
omit hw hp hl ho in
theorem Zdz (h1 : (pg h i).used ≤ o) : CSpec Tryz.prog (rndF Tryz.f80 0) (Z7g h i o acc).st (.ext 0) (Z8j acc).st := by
 exact sF [] [] (Ffb 41 (decide (o < (pg h i).used)) Fz)
end
theorem Zfv {h : Heap} {a : Int} (e : (atH h a).2 = 0) : 1 ≤ sizeH (atH h a).1 := by
 have := ZcI e
 rw [sizeH,if_pos this.2.2.2.2.1]
 omega
theorem Zg0 (h : Heap) (i : Int) (hw : WOk h.words) (hp : Z02 h = true) (hu : (pg h i).used ≤ 256) : ∀ (f : Nat) (o : Int) (acc : List Int),(pg h i).used - o ≤ f → 0 ≤ o → o ≤ 1000 → (acc.length : Int) + f ≤ 1000 →
  (∀ l,Z31 h i f o = some l → LSpec Tryz.prog Tryz.f80 0 (Z7g h i o acc).st (.ext 0) (Z8j (acc ++ l)).st) ∧
  (Z31 h i f o = none → LSpec Tryz.prog Tryz.f80 0 (Z7g h i o acc).st .ret (Tg.st ⟨tm 70 [(4,.d (.sl 0 [])),(5,int 19)],[],60⟩)) := by
 intro f
 induction f with
 | zero =>
  intro o acc h1 h2 h3 h4
  refine ⟨fun l hl => ?_,fun hl => by cases hl⟩
  simp only [Z31,Option.some.injEq] at hl
  subst hl
  rw [List.append_nil]
  exact .endx (Zdz h i o acc (by omega))
 | succ f ih =>
  intro o acc h1 h2 h3 h4
  unfold Z31
  by_cases ho : o < (pg h i).used
  ·rw [if_pos ho]
   by_cases ha : (atH h (adr h i o)).2 = 0
   ·rw [if_pos ha]
    by_cases hk : (pg h i).kind = 2
    ·rw [if_pos hk]
     refine ⟨fun l hl => ?_,fun hl => by cases hl⟩
     cases hl
     exact .endx (Zep h i o acc hw hp (by omega) ⟨h2,by omega⟩ ho ha hk)
    ·rw [if_neg hk]
     have hs := Zfv ha
     have hb := Z3e (atH h (adr h i o)).1
     have hr := ZeY h i o acc hw hp (by omega) ⟨h2,by omega⟩ ho ha hk
     obtain ⟨i1,i2⟩ := ih (o + sizeH (atH h (adr h i o)).1) (acc ++ [adr h i o]) (by omega) (by omega) (by omega) (by simp; omega)
     refine ⟨fun l hl => ?_,fun hl => ?_⟩
     ·rw [Option.map_eq_some_iff] at hl
      obtain ⟨m,hm,rfl⟩ := hl
      have := i1 m hm
      rw [List.append_assoc] at this
      exact .next hr this
     ·rw [Option.map_eq_none_iff] at hl
      exact .next hr (i2 hl)
   ·rw [if_neg ha]
    exact ⟨fun l hl => (by cases hl),fun _ => .endr (ZgL h i o acc hw hp (by omega) ⟨h2,by omega⟩ ho ha)⟩
  ·rw [if_neg ho]
   refine ⟨fun l hl => ?_,fun hl => by cases hl⟩
   cases hl
   rw [List.append_nil]
   exact .endx (Zdz h i o acc (by omega))
theorem ZeJ (h : Heap) (i : Int) (l : List Int) (hw : WOk h.words) (hp : Z02 h = true) (hu : (pg h i).used ≤ 256) (hl : Z31 h i 256 0 = some l) : CSpec Tryz.prog (blkF Tryz.f80 0) (Tg.st ⟨tm 70 [(1,int i),(2,.pt 8002 0 0),(4,.d (.sl 0 [])),(5,int 0),(6,.pt 32006 0 0),(7,.ow 48007),(8,int 0)],
 [(48007,.arr 39 1 []),(32006,.box 56 [int (h.pages.getD i.toNat default).kind,int (h.pages.getD i.toNat default).space,int (h.pages.getD i.toNat default).used,int (h.pages.getD i.toNat default).pins]),(8002,.box 28 h.cells)],60⟩) .nrm (Z8j l).st :=
 ((Zg0 h i hw hp hu 256 0 [] (by omega) (by omega) (by omega) (by simp)).1 l hl).ext (by kernel_rfl)
theorem ZaY (h : Heap) (i : Int) (hw : WOk h.words) (hp : Z02 h = true) (hu : (pg h i).used ≤ 256) (hl : Z31 h i 256 0 = none) : CSpec Tryz.prog (blkF Tryz.f80 0) (Tg.st ⟨tm 70 [(1,int i),(2,.pt 8002 0 0),(4,.d (.sl 0 [])),(5,int 0),(6,.pt 32006 0 0),(7,.ow 48007),(8,int 0)],
 [(48007,.arr 39 1 []),(32006,.box 56 [int (h.pages.getD i.toNat default).kind,int (h.pages.getD i.toNat default).space,int (h.pages.getD i.toNat default).used,int (h.pages.getD i.toNat default).pins]),(8002,.box 28 h.cells)],60⟩) .ret (Tg.st ⟨tm 70 [(4,.d (.sl 0 [])),(5,int 19)],[],60⟩) :=
 ((Zg0 h i hw hp hu 256 0 [] (by omega) (by omega) (by omega) (by simp)).2 hl).ret (by kernel_rfl)
def Z0t (h : Heap) (i : Int) : List Int × Int :=
 if Z02 h = true then (if 0 ≤ i ∧ i < h.pages.length then (if (pg h i).kind = 0 ∨ (pg h i).kind = 3 then ([],0) else (match Z31 h i 256 0 with | some l => (l,0) | none => ([],19))) else ([],2)) else ([],1)
theorem Z3f (h : Heap) (i : Int) (hw : WOk h.words) : GSpec Tryz.prog 80 [h.av,int i] false (.tu [Z01 (Z0t h i).1,int (Z0t h i).2]) [] := by
 cases hp : Z02 h with
 | false =>
  have e7 : Z0t h i = ([],1) := by rw [Z0t,if_neg (by rw [hp]; simp)]
  rw [e7]
  exact gF [] Tryz.func80 [false] (Fc 14 (@Z0m h) (Ftb 15 (!Z02 h) (Fnl Fz)))
 | true =>
  have po := Z08 hp
  by_cases hi : 0 ≤ i ∧ i < h.pages.length
  ·have pp := Z0D hp (j := i.toNat) (by omega)
   have hu : (pg h i).used ≤ 256 := pp.2.2.2.2.2.2.2.1
   cases hwk : Z31 h i 256 0 with
   | none =>
    have e7 : Z0t h i = if (h.pages.getD i.toNat default).kind = 0 ∨ (h.pages.getD i.toNat default).kind = 3 then ([],0) else ([],19) := by rw [Z0t,if_pos hp,if_pos hi,hwk]; rfl
    have Q0 {h_ c_ p_} (r_ : Fq h_ c_ p_) := Fc 14 (@Z0m h) (Ffb 15 (!Z02 h) (FlG 22 (!decide (i < 0)) Page.dv h.pages (Ffb 24 (decide (i < 0)||decide ((↑h.pages.length : Int)≤i)) (Fe 28 Page.dv h.pages i r_))))
    rcases bb ((h.pages.getD i.toNat default).kind == 0 || (h.pages.getD i.toNat default).kind == 3) with hc0 | hc0<;>have hc0p:=hc0<;>simp only [bs] at hc0p
    ·exact gF [] Tryz.func80 [false,false,false,false,false,false,false,false,true] (Q0 (Ft 37 hc0 (Fnl (Fa (by rw [e7,if_pos (by omega)]; rfl : [] =List.map wdv (Z0t h i).fst) (Fa (by rw [e7,if_pos (by omega)] : 0 =(Z0t h i).snd) Fz)))))
    ·obtain ⟨hc0pa,hc0pb⟩ := hc0p
     exact gF [] Tryz.func80 [false,false,false,false,false,false,false,false,false,false,false,false,false,false,false,false,false,false,true] (Fh 7 [.own] (Q0 (Ff 37 hc0 (Fu (@ZaY h i ‹_› ‹_› ‹_› ‹_›) (Fnl (Fa (by rw [e7,if_neg (by omega)]; rfl : [] =List.map wdv (Z0t h i).fst) (Fa (by rw [e7,if_neg (by omega)] : 19 =(Z0t h i).snd) Fz)))))))
   | some l =>
    have e7 : Z0t h i = if (h.pages.getD i.toNat default).kind = 0 ∨ (h.pages.getD i.toNat default).kind = 3 then ([],0) else (l,0) := by rw [Z0t,if_pos hp,if_pos hi,hwk]; rfl
    have Q1 {h_ c_ p_} (r_ : Fq h_ c_ p_) := Fc 14 (@Z0m h) (Ffb 15 (!Z02 h) (FlG 22 (!decide (i < 0)) Page.dv h.pages (Ffb 24 (decide (i < 0)||decide ((↑h.pages.length : Int)≤i)) (Fe 28 Page.dv h.pages i r_))))
    rcases bb ((h.pages.getD i.toNat default).kind == 0 || (h.pages.getD i.toNat default).kind == 3) with hc0 | hc0<;>have hc0p:=hc0<;>simp only [bs] at hc0p
    ·exact gF [] Tryz.func80 [false,false,false,false,false,false,false,false,true] (Q1 (Ft 37 hc0 (Fnl (Fa (by rw [e7,if_pos (by omega)]; rfl : [] =List.map wdv (Z0t h i).fst) (Fa (by rw [e7,if_pos (by omega)] : 0 =(Z0t h i).snd) Fz)))))
    ·obtain ⟨hc0pa,hc0pb⟩ := hc0p
     exact gF [] Tryz.func80 [false,false,false,false,false,false,false,false,false,false,false,false,false,false,false,false,false,false,true] (Fh 7 [.own] (Q1 (Ff 37 hc0 (Fu (@ZeJ h i l ‹_› ‹_› ‹_› ‹_›) (Fa (by refine congrArg _ ?_; rw [e7,if_neg (by omega)] : List.map wdv l =List.map wdv (Z0t h i).fst) (Fa (by rw [e7,if_neg (by omega)] : 0 =(Z0t h i).snd) Fz))))))
  ·have e7 : Z0t h i = ([],2) := by rw [Z0t,if_pos hp,if_neg hi]
   rw [e7]
   exact gF [] Tryz.func80 [false,false,false,false,false,false] (Fc 14 (@Z0m h) (Ffb 15 (!Z02 h) (FlG 22 (!decide (i < 0)) Page.dv h.pages (Ftb 24 (decide (i < 0)||decide ((↑h.pages.length : Int)≤i)) (Fnl Fz)))))
def hasL (l : List Int) (v : Int) (i : Nat) : Tg := ⟨tm 18 [(0,Z01 l),(1,u64 v),(4,bool false),(5,int i)],[],60⟩
theorem ZdF (l : List Int) (v : Int) (i : Nat) (hl : l.length ≤ 1048576) (hi : i < l.length) (hv : ¬ l.getD i default = v) : CSpec Tryz.prog (rndF Tryz.f13 0) (hasL l v i).st .nrm (hasL l v (i + 1)).st := by
 exact sF [] [] (Fl 8 wdv l (Ftb 9 (decide ((↑i : Int) < (↑l.length : Int))) (Fek 14 wdv l (↑i) i (Ffb 17 (l.getD i default == v) (Fx 11 i Fz)))))
theorem Zhx (l : List Int) (v : Int) (i : Nat) (hl : l.length ≤ 1048576) (hi : i < l.length) (hv : l.getD i default = v) : CSpec Tryz.prog (rndF Tryz.f13 0) (hasL l v i).st .ret (Tg.st ⟨tm 18 [(4,bool true)],[],60⟩) := by
 exact sF [] [] (Fl 8 wdv l (Ftb 9 (decide ((↑i : Int) < (↑l.length : Int))) (Fek 14 wdv l (↑i) i (Ftb 17 (l.getD i default == v) Fz))))
theorem hasEnd (l : List Int) (v : Int) : CSpec Tryz.prog (rndF Tryz.f13 0) (hasL l v l.length).st (.ext 0) (Tg.st ⟨tm 18 [],[],60⟩) := by
 exact sF [] [] (Fl 8 wdv l (Ffb 9 (decide ((↑l.length : Int) < (↑l.length : Int))) Fz))
theorem getD_mem_iff {l : List Int} {v : Int} : v ∈ l ↔ ∃ i,i < l.length ∧ l.getD i default = v := by
 rw [List.mem_iff_getElem]
 constructor
 ·rintro ⟨i,h,e⟩; exact ⟨i,h,by simp [List.getD,h,e]⟩
 ·rintro ⟨i,h,e⟩; exact ⟨i,h,by simpa [List.getD,h] using e⟩
theorem Zjm (l : List Int) (v : Int) (hl : l.length ≤ 1048576) (h : v ∉ l) : CSpec Tryz.prog (blkF Tryz.f13 0) (Tg.st ⟨tm 18 [(0,Z01 l),(1,u64 v),(4,bool false),(5,int 0)],[],60⟩) .nrm (Tg.st ⟨tm 18 [],[],60⟩) :=
 Z0d (S := fun i => (hasL l v i).st) l.length (by kernel_rfl) (fun i hi => ZdF l v i hl hi fun e => h (getD_mem_iff.2 ⟨i,hi,e⟩)) (hasEnd l v)
theorem Zhw (l : List Int) (v : Int) (hl : l.length ≤ 1048576) (h : v ∈ l) : CSpec Tryz.prog (blkF Tryz.f13 0) (Tg.st ⟨tm 18 [(0,Z01 l),(1,u64 v),(4,bool false),(5,int 0)],[],60⟩) .ret (Tg.st ⟨tm 18 [(4,bool true)],[],60⟩) := by
 obtain ⟨i,h1,h2⟩ := ZgE (getD_mem_iff.1 h)
 exact Z0T (S := fun i => (hasL l v i).st) i (by kernel_rfl) (fun j hj => ZdF l v j hl (by omega) fun e => by have := h2 j ⟨by omega,e⟩; omega) (Zhx l v i hl h1.1 h1.2)
theorem Z0N (l : List Int) (v : Int) (hl : l.length ≤ 1048576) : GSpec Tryz.prog 13 [Z01 l,u64 v] true (bool (decide (v ∈ l))) [] := by
 by_cases h : v ∈ l
 ·rw [decide_eq_true h]
  exact gF [] Tryz.func13 [] (Fu (@Zhw l v ‹_› ‹_›) Fz)
 ·rw [decide_eq_false h]
  exact gF [] Tryz.func13 [] (Fu (@Zjm l v ‹_› ‹_›) Fz)
theorem ZaO {h : Heap} {i : Int} : ∀ {f : Nat} {o : Int} {l : List Int},Z31 h i f o = some l → l.length ≤ f
 | 0,o,l,e => by simp [Z31] at e; subst e; simp
 | f + 1,o,l,e => by
  unfold Z31 at e
  split at e
  ·split at e
   ·split at e
    ·cases e; simp
    ·rw [Option.map_eq_some_iff] at e
     obtain ⟨m,hm,rfl⟩ := e
     have := ZaO hm
     simp; omega
   ·cases e
  ·cases e; simp
theorem Z4w (h : Heap) (i : Int) : (Z0t h i).1.length ≤ 256 := by
 unfold Z0t
 repeat' split
 all_goals first | (simp; done) | (rename_i e; exact ZaO e)
def Z0x (h : Heap) : Nat → Nat → List Int × Int
 | 0,_ => ([],0)
 | f + 1,i => if (Z0t h i).2 = 0 then (if (Z0x h f (i + 1)).2 = 0 then ((Z0t h i).1 ++ (Z0x h f (i + 1)).1,0) else ([],(Z0x h f (i + 1)).2)) else ([],(Z0t h i).2)
def Z0J (h : Heap) : List Int × Int := if Z02 h = true then Z0x h h.pages.length 0 else ([],1)
def Z63 (h : Heap) (i : Nat) (acc : List Int) : Tg := ⟨tm 31 [(1,.pt 8001 0 0),(2,.d (.sl 0 [])),(3,int 0),(4,.ow 24004),(5,int i)],[(24004,.arr 39 1 (acc.map wdv)),(8001,.box 28 h.cells)],60⟩
section
variable (h : Heap) (i : Nat) (acc : List Int) (hw : WOk h.words) (hl : h.pages.length ≤ 1048576) (ha : acc.length ≤ 1048576)
include hw hl ha
theorem ZbZ (hi : i < h.pages.length) (e : (Z0t h i).2 = 0) : CSpec Tryz.prog (rndF Tryz.f43 0) (Z63 h i acc).st .nrm (Z63 h (i + 1) (acc ++ (Z0t h i).1)).st := by
 have hn := Z4w h i
 exact sF [(504029,24004)] [] (Fh 29 [.els (List.map wdv (acc ++ (Z0t h (↑i : Int)).fst))] (Fl 14 Page.dv h.pages (Ftb 15 (decide ((↑i : Int) < (↑h.pages.length : Int))) (Fc 21 (@Z3f h ((↑i : Int)) ‹_›) (Ffb 25 ((Z0t h (↑i : Int)).snd != 0) (Fa (by (simp [*]; omega) : (List.map wdv acc).length + (List.map wdv (Z0t h (↑i : Int)).fst).length≤2 ^ 30) (Fa (by simp [List.map_take,List.map_drop,List.map_set,List.map_append,wdv,idv] : List.map wdv acc ++ List.map wdv (Z0t h (↑i : Int)).fst =List.map wdv (acc ++ (Z0t h (↑i : Int)).fst)) (Fx 17 i Fz))))))))
theorem ZfA (hi : i < h.pages.length) (e : ¬ (Z0t h i).2 = 0) : CSpec Tryz.prog (rndF Tryz.f43 0) (Z63 h i acc).st .ret (Tg.st ⟨tm 31 [(2,.d (.sl 0 [])),(3,int (Z0t h i).2)],[],60⟩) := by
 exact sF [] [] (Fl 14 Page.dv h.pages (Ftb 15 (decide ((↑i : Int) < (↑h.pages.length : Int))) (Fc 21 (@Z3f h ((↑i : Int)) ‹_›) (Ftb 25 ((Z0t h (↑i : Int)).snd != 0) Fz))))
omit hw hl ha in
theorem Zgm : CSpec Tryz.prog (rndF Tryz.f43 0) (Z63 h h.pages.length acc).st (.ext 0) (Tg.st ⟨tm 31 [(4,.ow 24004)],[(24004,.arr 39 1 (acc.map wdv))],60⟩) := by
 exact sF [] [] (Fl 14 Page.dv h.pages (Ffb 15 (decide ((↑h.pages.length : Int) < (↑h.pages.length : Int))) Fz))
end
theorem ZcO (h : Heap) (hw : WOk h.words) (hl : h.pages.length ≤ 1048576) : ∀ (f i : Nat) (acc : List Int),i + f = h.pages.length → acc.length + 256 * f ≤ 1048576 →
  ((Z0x h f i).2 = 0 → LSpec Tryz.prog Tryz.f43 0 (Z63 h i acc).st (.ext 0) (Tg.st ⟨tm 31 [(4,.ow 24004)],[(24004,.arr 39 1 ((acc ++ (Z0x h f i).1).map wdv))],60⟩)) ∧
  (¬ (Z0x h f i).2 = 0 → LSpec Tryz.prog Tryz.f43 0 (Z63 h i acc).st .ret (Tg.st ⟨tm 31 [(2,.d (.sl 0 [])),(3,int (Z0x h f i).2)],[],60⟩)) := by
 intro f
 induction f with
 | zero =>
  intro i acc hi _
  have : i = h.pages.length := by omega
  subst this
  refine ⟨fun _ => ?_,fun e => absurd rfl e⟩
  rw [Z0x,List.append_nil]
  exact .endx (Zgm h acc)
 | succ f ih =>
  intro i acc hi hb
  have hn := Z4w h i
  unfold Z0x
  by_cases e : (Z0t h i).2 = 0
  ·rw [if_pos e]
   have hr := ZbZ h i acc hw hl (by omega) (by omega) e
   obtain ⟨i1,i2⟩ := ih (i + 1) (acc ++ (Z0t h i).1) (by omega) (by simp; omega)
   by_cases e2 : (Z0x h f (i + 1)).2 = 0
   ·rw [if_pos e2]
    refine ⟨fun _ => ?_,fun e => absurd rfl e⟩
    have := i1 e2
    rw [List.append_assoc] at this
    exact .next hr this
   ·rw [if_neg e2]
    exact ⟨fun e => absurd e e2,fun _ => .next hr (i2 e2)⟩
  ·rw [if_neg e]
   exact ⟨fun e' => absurd e' e,fun _ => .endr (ZfA h i acc hw hl (by omega) (by omega) e)⟩
theorem ZeG (h : Heap) (hw : WOk h.words) (hl : h.pages.length ≤ 64) (e : (Z0x h h.pages.length 0).2 = 0) : CSpec Tryz.prog (blkF Tryz.f43 0) (Tg.st ⟨tm 31 [(1,.pt 8001 0 0),(2,.d (.sl 0 [])),(3,int 0),(4,.ow 24004),(5,int 0)],[(24004,.arr 39 1 []),(8001,.box 28 h.cells)],60⟩) .nrm
  (Tg.st ⟨tm 31 [(4,.ow 24004)],[(24004,.arr 39 1 ((Z0x h h.pages.length 0).1.map wdv))],60⟩) :=
 ((ZcO h hw (by omega) h.pages.length 0 [] (by omega) (by simp; omega)).1 e).ext (by kernel_rfl)
theorem Z9i (h : Heap) (hw : WOk h.words) (hl : h.pages.length ≤ 64) (e : ¬ (Z0x h h.pages.length 0).2 = 0) : CSpec Tryz.prog (blkF Tryz.f43 0) (Tg.st ⟨tm 31 [(1,.pt 8001 0 0),(2,.d (.sl 0 [])),(3,int 0),(4,.ow 24004),(5,int 0)],[(24004,.arr 39 1 []),(8001,.box 28 h.cells)],60⟩) .ret
  (Tg.st ⟨tm 31 [(2,.d (.sl 0 [])),(3,int (Z0x h h.pages.length 0).2)],[],60⟩) :=
 ((ZcO h hw (by omega) h.pages.length 0 [] (by omega) (by simp; omega)).2 e).ret (by kernel_rfl)
theorem Zc2 (h : Heap) : ∀ (f i : Nat),¬ (Z0x h f i).2 = 0 → (Z0x h f i).1 = []
 | 0,i,e => absurd rfl e
 | f + 1,i,e => by
  unfold Z0x at e ⊢
  split at e
  ·rename_i h1
   rw [if_pos h1]
   split at e
   ·exact absurd rfl e
   ·rename_i h2; rw [if_neg h2]
  ·rename_i h1; rw [if_neg h1]
theorem Zer (h : Heap) (hw : WOk h.words) : GSpec Tryz.prog 43 [h.av] false (.tu [Z01 (Z0J h).1,int (Z0J h).2]) [] := by
 cases hp : Z02 h with
 | false =>
  have e7 : Z0J h = ([],1) := by rw [Z0J,if_neg (by rw [hp]; simp)]
  rw [e7]
  exact gF [] Tryz.func43 [false] (Fc 9 (@Z0m h) (Ftb 10 (!Z02 h) (Fnl Fz)))
 | true =>
  have po := Z08 hp
  have e7 : Z0J h = Z0x h h.pages.length 0 := by rw [Z0J,if_pos hp]
  by_cases e : (Z0x h h.pages.length 0).2 = 0
  ·exact gF [] Tryz.func43 [false,false,false,false,false,false,false,true] (Fh 4 [.own] (Fc 9 (@Z0m h) (Ffb 10 (!Z02 h) (Fu (@ZeG h ‹_› (by omega) ‹_›) (Fa (by refine congrArg _ ?_; rw [e7] : List.map wdv (Z0x h h.pages.length 0).fst =List.map wdv (Z0J h).fst) (Fa (by rw [e7,e] : 0 =(Z0J h).snd) Fz))))))
  ·have e8 := Zc2 h _ _ e
   exact gF [] Tryz.func43 [false,false,false,false,false,false,false,true] (Fh 4 [.own] (Fc 9 (@Z0m h) (Ffb 10 (!Z02 h) (Fu (@Z9i h ‹_› (by omega) ‹_›) (Fnl (Fa (by rw [e7,e8]; rfl : [] =List.map wdv (Z0J h).fst) (Fa (by rw [e7] : (Z0x h h.pages.length 0).snd =(Z0J h).snd) Fz)))))))
theorem Z7m {h : Heap} (hv : Z07 h.conf = true) {i : Int} : ∀ {f : Nat} {o : Int} {l : List Int},Z31 h i f o = some l → ∀ x ∈ l,0 ≤ x ∧ x ≤ 8192
 | 0,o,l,e => by simp [Z31] at e; subst e; simp
 | f + 1,o,l,e => by
  have ar := Z5L hv i o
  unfold Z31 at e
  split at e
  ·split at e
   ·split at e
    ·cases e
     intro x hx
     simp at hx; subst hx; exact ar
    ·rw [Option.map_eq_some_iff] at e
     obtain ⟨m,hm,rfl⟩ := e
     intro x hx
     rcases List.mem_cons.1 hx with rfl | hx
     ·exact ar
     ·exact Z7m hv hm x hx
   ·cases e
  ·cases e; simp
theorem Z5l {h : Heap} (hp : Z02 h = true) (i : Int) : ∀ x ∈ (Z0t h i).1,0 ≤ x ∧ x ≤ 8192 := by
 have hv := (Z08 hp).1
 unfold Z0t
 repeat' split
 all_goals first | (simp; done) | (rename_i e; exact Z7m hv e)
theorem Z5C {h : Heap} (hp : Z02 h = true) : ∀ (f i : Nat),∀ x ∈ (Z0x h f i).1,0 ≤ x ∧ x ≤ 8192
 | 0,i => by simp [Z0x]
 | f + 1,i => by
  unfold Z0x
  split
  ·split
   ·intro x hx
    rcases List.mem_append.1 hx with hx | hx
    ·exact Z5l hp i x hx
    ·exact Z5C hp f (i + 1) x hx
   ·simp
  ·simp
theorem Z7z (h : Heap) : ∀ (f i : Nat),(Z0x h f i).1.length ≤ 256 * f
 | 0,i => by simp [Z0x]
 | f + 1,i => by
  have h1 := Z4w h i
  have h2 := Z7z h f (i + 1)
  unfold Z0x
  split
  ·split
   ·simp; omega
   ·simp
  ·simp
theorem Z5R (h : Heap) : ∀ x ∈ (Z0J h).1,0 ≤ x ∧ x ≤ 8192 := by
 unfold Z0J
 split
 ·exact Z5C ‹_› _ _
 ·simp
theorem Z7l (h : Heap) : (Z0J h).1.length ≤ 16384 := by
 unfold Z0J
 split
 ·rename_i hp
  have := Z7z h h.pages.length 0
  have := Z08 hp
  omega
 ·simp
def Z2n (h : Heap) (a : Int) : Bool := decide ((atH h a).1.kind ≠ 0)
def Z03 (h : Heap) : List Int × Int := ((Z0J h).1.filter (Z2n h),(Z0J h).2)
theorem Z57 (h : Heap) : ∀ x ∈ (Z03 h).1,0 ≤ x ∧ x ≤ 8192 := fun x hx => Z5R h x (List.mem_filter.1 hx).1
theorem Z2l (h : Heap) : (Z03 h).1.length ≤ 16384 := Nat.le_trans (List.length_filter_le _ _) (Z7l h)
theorem Zap {l : List Int} {i : Nat} (hi : i < l.length) : l.take (i + 1) = l.take i ++ [l.getD i default] := by
 rw [List.take_succ]
 simp [List.getD,hi]
def ZhQ (h : Heap) (l : List Int) (ee : Int) (i : Nat) : Tg := ⟨tm 42 [(1,.pt 8001 0 0),(4,Z01 l),(5,int ee),(6,.ow 24006),(7,int i)],[(24006,.arr 39 1 (((l.take i).filter (Z2n h)).map wdv)),(8001,.box 28 h.cells)],60⟩
theorem Zgk (h : Heap) (l : List Int) (ee : Int) (i : Nat) (hw : WOk h.words) (hl : l.length ≤ 1048576) (hr : ∀ x ∈ l,0 ≤ x ∧ x ≤ 8192) (hi : i < l.length) : CSpec Tryz.prog (rndF Tryz.f12 0) (ZhQ h l ee i).st .nrm (ZhQ h l ee (i + 1)).st := by
 have hx := hr (l.getD i default) (getD_mem_iff.2 ⟨i,hi,rfl⟩)
 have hle : ((l.take i).filter (Z2n h)).length ≤ l.length := Nat.le_trans (List.length_filter_le _ _) (by simp; omega)
 have ht := Zap hi
 by_cases hk : (atH h (l.getD i default)).1.kind = 0
 ·have e : (l.take (i + 1)).filter (Z2n h) = (l.take i).filter (Z2n h) := by
   have hb : Z2n h (l.getD i default) = false := decide_eq_false (by simpa using hk)
   rw [ht,List.filter_append,List.filter_cons,hb,List.filter_nil]; simp
  exact sF [] [false,false,false,false,false,true] (Fl 17 wdv l (Ftb 18 (decide ((↑i : Int) < (↑l.length : Int))) (Fek 25 wdv l (↑i) i (Fc 27 (@Z4m h (l.getD i default) ‹_› (by omega)) (Ffb 32 ((atH h (l.getD i default)).fst.kind != 0) (Fx 20 i (Fr (39 : Int) (Fa (by refine congrArg _ ?_; rw [e] : List.map wdv (List.filter (Z2n h) (List.take i l)) =List.map wdv (List.filter (Z2n h) (List.take (i + 1) l))) Fz))))))))
 ·have e : (l.take (i + 1)).filter (Z2n h) = (l.take i).filter (Z2n h) ++ [l.getD i default] := by
   have hb : Z2n h (l.getD i default) = true := decide_eq_true hk
   rw [ht,List.filter_append,List.filter_cons,hb,List.filter_nil]; simp
  exact sF [(504039,24006)] [false,false,false,false,false,true] (Fh 39 [.els (List.map wdv (List.filter (Z2n h) (List.take i l) ++ [l.getD i default]))] (Fl 17 wdv l (Ftb 18 (decide ((↑i : Int) < (↑l.length : Int))) (Fek 25 wdv l (↑i) i (Fc 27 (@Z4m h (l.getD i default) ‹_› (by omega)) (Ftb 32 ((atH h (l.getD i default)).fst.kind != 0) (Fek 36 wdv l (↑i) i (Fs 38 (List.map wdv [l.getD i default]) (Fa (by (simp [*]; omega) : (List.map wdv (List.filter (Z2n h) (List.take i l))).length + (List.map wdv [l.getD i default]).length≤2 ^ 30) (Fa (by simp [List.map_take,List.map_drop,List.map_set,List.map_append,wdv,idv] : List.map wdv (List.filter (Z2n h) (List.take i l)) ++ List.map wdv [l.getD i default] =List.map wdv (List.filter (Z2n h) (List.take i l) ++ [l.getD i default])) (Fx 20 i (Fr (39 : Int) (Fa (by refine congrArg _ ?_; rw [e] : List.map wdv (List.filter (Z2n h) (List.take i l) ++ [l.getD i default]) =List.map wdv (List.filter (Z2n h) (List.take (i + 1) l))) Fz)))))))))))))
theorem Zjt (h : Heap) (l : List Int) (ee : Int) : CSpec Tryz.prog (rndF Tryz.f12 0) (ZhQ h l ee l.length).st (.ext 0) (Tg.st ⟨tm 42 [(5,int ee),(6,.ow 24006)],[(24006,.arr 39 1 ((l.filter (Z2n h)).map wdv))],60⟩) := by
 have e : l.take l.length = l := List.take_length
 exact sF [] [false,false,true] (Fl 17 wdv l (Ffb 18 (decide ((↑l.length : Int) < (↑l.length : Int))) (Fr (39 : Int) (Fa (by refine congrArg _ ?_; rw [e] : List.map wdv (List.filter (Z2n h) (List.take l.length l)) =List.map wdv (List.filter (Z2n h) l)) Fz))))
theorem Zig (h : Heap) (l : List Int) (ee : Int) (hw : WOk h.words) (hl : l.length ≤ 1048576) (hr : ∀ x ∈ l,0 ≤ x ∧ x ≤ 8192) : CSpec Tryz.prog (blkF Tryz.f12 0) (Tg.st ⟨tm 42 [(1,.pt 8001 0 0),(4,Z01 l),(5,int ee),(6,.ow 24006),(7,int 0)],[(24006,.arr 39 1 []),(8001,.box 28 h.cells)],60⟩) .nrm
  (Tg.st ⟨tm 42 [(5,int ee),(6,.ow 24006)],[(24006,.arr 39 1 ((l.filter (Z2n h)).map wdv))],60⟩) :=
 Z0d (S := fun i => (ZhQ h l ee i).st) l.length (by kernel_rfl) (fun i hi => Zgk h l ee i hw hl hr hi) (Zjt h l ee)
theorem Z1T (h : Heap) (hw : WOk h.words) : GSpec Tryz.prog 12 [h.av] false (.tu [Z01 (Z03 h).1,int (Z03 h).2]) [] := by
 have hl := Z7l h
 have hr := Z5R h
 exact gF [] Tryz.func12 [] (Fh 6 [.own] (Fc 12 (@Zer h ‹_›) (Fu (@Zig h ((Z0J h).fst) ((Z0J h).snd) ‹_› (by omega) ‹_›) Fz)))
def Z46 (h : Heap) (p o : Int) : Int := (loadA h.words (address h.conf p o).1).1
theorem Z8W {c : Conf} (hv : Z07 c = true) (p o : Int) : 0 ≤ (address c p o).1 ∧ (address c p o).1 ≤ 8192 := by
 have ha := area hv
 unfold address
 rw [if_pos hv]
 split
 ·rename_i hb
  have hb := inB_iff.1 hb
  have := ZdI hv hb.1 hb.2.1 hb.2.2.1 hb.2.2.2
  simp only; omega
 ·simp
theorem Zhl (h : Heap) (p o : Int) (hp : Z02 h = true) : GSpec Tryz.prog 164 [h.av,int p,int o] true (u64 (Z46 h p o)) [] := by
 have po := Z08 hp
 have ar := Z8W po.1 p o
 exact gF [] Tryz.func164 [] (Fc 16 (@Z4K h.conf p o) (Fc 23 (@Z1H h.words ((address h.conf p o).fst) (by omega) (by omega)) Fz))
theorem Z8X (h : Heap) (p o : Int) (hp : Z02 h = true) : GSpec Tryz.prog 150 [h.av,int p,int o] true (u64 (Z46 h p o)) [] := by
 exact gF [] Tryz.func150 [] (Fc 10 (@Zhl h p o ‹_›) Fz)
theorem ZbN (h : Heap) (p o : Int) (hp : Z02 h = true) (h0 : 0 ≤ p ∧ p < h.conf.pg) (h1 : 0 ≤ o ∧ o ≤ 64) : GSpec Tryz.prog 151 [h.av,int p,int o] true (u64 (4096 + p * h.conf.pw + o)) [] := by
 have po := Z08 hp
 have ap := Z2y po.1 h0.1 h0.2
 exact gF [] Tryz.func151 [] (Fi 11 (p * h.conf.pw) (Fi 12 (4096 + p * h.conf.pw) (Fi 14 (4096 + p * h.conf.pw + o) (Fv 15 (4096 + p * h.conf.pw + o) Fz))))
def Z1h (l : List Page) : Nat → Nat
 | 0 => 0
 | i + 1 => if (l.getD (i + 1) default).kind = 3 then Z1h l i else i + 1
theorem Zki {h : Heap} (hp : Z02 h = true) : (h.pages.getD 0 default).kind ≠ 3 := by
 have hi := properB_iff.1 hp
 have po := Z08 hp
 have hr := hi.2.2.2.2.2
 rw [Z9o (by omega) (by omega),Bool.and_eq_true] at hr
 have hc := of_decide_eq_true hr.1
 unfold rchk at hc
 omega
def Zcq (h : Heap) (i : Nat) : Tg := ⟨tm 15 [(1,int i),(2,.pt 8002 0 0)],[(8002,.box 28 h.cells)],60⟩
theorem ZfP (h : Heap) (i : Nat) (hi : i + 1 < h.pages.length) (hl : h.pages.length ≤ 1048576) (hk : (h.pages.getD (i + 1) default).kind = 3) : CSpec Tryz.prog (rndF Tryz.f148 0) (Zcq h (i + 1)).st .nrm (Zcq h i).st := by
 have ei : ((i + 1 : Nat) : Int) - 1 = (i : Int) := by omega
 exact sF [] [] (Fek 8 Page.dv h.pages (↑(i + 1) : Int) (i + 1) (Ftb 11 ((h.pages.getD (i + 1) default).kind == 3) (Fg 13 (by rw [wrapI' (by omega) (by omega)]; omega : IntKind.i64.wrap ((↑(i + 1) : Int) - 1) =(↑i : Int)) Fz)))
theorem Zg7 (h : Heap) (i : Nat) (hi : i < h.pages.length) (hl : h.pages.length ≤ 1048576) (hk : ¬ (h.pages.getD i default).kind = 3) : CSpec Tryz.prog (rndF Tryz.f148 0) (Zcq h i).st (.ext 0) (Tg.st ⟨tm 15 [(1,int i)],[],60⟩) := by
 exact sF [] [] (Fek 8 Page.dv h.pages (↑i) i (Ffb 11 ((h.pages.getD i default).kind == 3) Fz))
theorem Zir (h : Heap) (hp : Z02 h = true) (hl : h.pages.length ≤ 1048576) : ∀ i,i < h.pages.length → LSpec Tryz.prog Tryz.f148 0 (Zcq h i).st (.ext 0) (Tg.st ⟨tm 15 [(1,int (Z1h h.pages i))],[],60⟩)
 | 0,hi => .endx (Zg7 h 0 hi hl (Zki hp))
 | i + 1,hi => by
  unfold Z1h
  by_cases hk : (h.pages.getD (i + 1) default).kind = 3
  ·rw [if_pos hk]
   exact .next (ZfP h i hi hl hk) (Zir h hp hl i (by omega))
  ·rw [if_neg hk]
   exact .endx (Zg7 h (i + 1) hi hl hk)
theorem Zhp (h : Heap) (i : Nat) (hp : Z02 h = true) (hi : i < h.pages.length) (hl : h.pages.length ≤ 1048576) : CSpec Tryz.prog (blkF Tryz.f148 0) (Zcq h i).st .nrm (Tg.st ⟨tm 15 [(1,int (Z1h h.pages i))],[],60⟩) :=
 (Zir h hp hl i hi).ext (by kernel_rfl)
theorem ZdD (h : Heap) (i : Nat) (hp : Z02 h = true) (hi : i < h.pages.length) : GSpec Tryz.prog 148 [h.av,int i] true (int (Z1h h.pages i)) [] := by
 have po := Z08 hp
 exact gF [] Tryz.func148 [] (Fu (@Zhp h i ‹_› ‹_› (by omega)) Fz)
def Z2x (h : Heap) (i : Int) (a : Int) : Bool := (decide ((h.pages.getD i.toNat default).kind = 1) && decide (Z00 h.conf < sizeH (atH h a).1)) || (decide ((h.pages.getD i.toNat default).kind = 2) && decide ((atH h a).1.kind = 0))
def Z2e (h : Heap) (i : Int) (l : List Int) : Int := (l.find? (Z2x h i)).getD 0
def Z8k (h : Heap) (i : Int) (l : List Int) (n : Nat) : Tg := ⟨tm 61 [(1,int i),(2,Z01 l),(3,.pt 8003 0 0),(6,u64 0),(7,int n)],[(8003,.box 28 h.cells)],60⟩
section
variable (h : Heap) (i : Int) (l : List Int) (n : Nat) (hw : WOk h.words) (hl : l.length ≤ 1048576) (hi : 0 ≤ i ∧ i < h.pages.length) (hp : h.pages.length ≤ 1048576) (hr : ∀ x ∈ l,0 ≤ x ∧ x ≤ 8192)
include hw hl hi hp hr
theorem Z8L (hn : n < l.length) (hb : Z2x h i (l.getD n default) = false) : CSpec Tryz.prog (rndF Tryz.f120 0) (Z8k h i l n).st .nrm (Z8k h i l (n + 1)).st := by
 have hx := hr (l.getD n default) (getD_mem_iff.2 ⟨n,hn,rfl⟩)
 have hm := Z66 hw (l.getD n default)
 simp only [Z2x,bs] at hb
 exact sF [] [] (Fl 13 wdv l (Ftb 14 (decide ((↑n : Int) < (↑l.length : Int))) (Fek 21 wdv l (↑n) n (Fc 23 (@Z4m h (l.getD n default) ‹_› (by omega)) (Fc 27 (@Z20 ((atH h (l.getD n default)).fst) ‹_›) (Fc 30 (@Z14 h.conf) (Fe 35 Page.dv h.pages i (FeG 47 (!((h.pages.getD i.toNat default).kind == 1&&!decide (sizeH (atH h (l.getD n default)).fst≤Z00 h.conf))) Page.dv h.pages i i.toNat (Ffb 56 ((h.pages.getD i.toNat default).kind == 1&&!decide (sizeH (atH h (l.getD n default)).fst≤Z00 h.conf)||(h.pages.getD i.toNat default).kind == 2&&(atH h (l.getD n default)).fst.kind == 0) (Fx 16 n Fz))))))))))
theorem ZeD (hn : n < l.length) (hb : Z2x h i (l.getD n default) = true) : CSpec Tryz.prog (rndF Tryz.f120 0) (Z8k h i l n).st .ret (Tg.st ⟨tm 61 [(6,u64 (l.getD n default))],[],60⟩) := by
 have hx := hr (l.getD n default) (getD_mem_iff.2 ⟨n,hn,rfl⟩)
 have hm := Z66 hw (l.getD n default)
 simp only [Z2x,bs] at hb
 refine stretchE [((13 : Nat),[Hint.int (↑l.length : Int)]),((14 : Nat),[Hint.br true]),((21 : Nat),[Hint.el (wdv (l.getD n default))]),((23 : Nat),[Hint.call true (AV.tu [(atH h (l.getD n default)).fst.av,int (atH h (l.getD n default)).snd]) []]),((27 : Nat),[Hint.call true (int (sizeH (atH h (l.getD n default)).fst)) []]),((30 : Nat),[Hint.call true (int (Z00 h.conf)) []]),((35 : Nat),[Hint.el (h.pages.getD i.toNat default).dv]),((47 : Nat),[Hint.el (h.pages.getD i.toNat default).dv]),((56 : Nat),[Hint.br true]),((59 : Nat),[Hint.el (wdv (l.getD n default))])] [] [] [] (φ := (↑(List.map wdv l).length : Int) = (↑l.length : Int) ∧ decide ((↑n : Int) < (↑l.length : Int)) = true ∧ true = true ∧ ((0 : Int) ≤ (↑n : Int) ∧ (List.map wdv l)[(↑n : Int).toNat]? = some (wdv (l.getD n default))) ∧ GSpec Tryz.prog 19 [h.av,u64 (l.getD n default)] true (AV.tu [(atH h (l.getD n default)).fst.av,int (atH h (l.getD n default)).snd]) [] ∧ GSpec Tryz.prog 20 [(atH h (l.getD n default)).fst.av] true (int (sizeH (atH h (l.getD n default)).fst)) [] ∧ GSpec Tryz.prog 32 [h.conf.av] true (int (Z00 h.conf)) [] ∧ ((0 : Int) ≤ i ∧ (List.map Page.dv h.pages)[i.toNat]? = some (h.pages.getD i.toNat default).dv) ∧ ((!((h.pages.getD i.toNat default).kind == (1 : Int) && !decide (sizeH (atH h (l.getD n default)).fst ≤ Z00 h.conf))) = true → (0 : Int) ≤ i ∧ (List.map Page.dv h.pages)[i.toNat]? = some (h.pages.getD i.toNat default).dv) ∧ ((h.pages.getD i.toNat default).kind == (1 : Int) && !decide (sizeH (atH h (l.getD n default)).fst ≤ Z00 h.conf) || (h.pages.getD i.toNat default).kind == (2 : Int) && (atH h (l.getD n default)).fst.kind == (0 : Int)) = true ∧ true = true ∧ (0 : Int) ≤ (↑n : Int) ∧ (List.map wdv l)[(↑n : Int).toNat]? = some (wdv (l.getD n default))) ?_ (by kernel_rfl) (by kernel_rfl) (by kernel_rfl)
 exact ⟨(by simp only [List.length_map]),(by (simp only [bs]; omega)),rfl,(by exact elI (by omega) (by omega) (by omega)),(@Z4m (h) (l.getD n default) ‹_› (by omega)),(@Z20 ((atH h (l.getD n default)).fst) ‹_›),(@Z14 (h.conf)),(by exact elI (by omega) (by omega) (by omega)),(by intro hg; (try simp only [bs] at hg); exact elI (by omega) (by omega) (by omega)),(by (simp only [bs]; omega)),rfl,(by exact elI (by omega) (by omega) (by omega))⟩
omit hw hl hi hp hr in
theorem ZhC : CSpec Tryz.prog (rndF Tryz.f120 0) (Z8k h i l l.length).st (.ext 0) (Tg.st ⟨tm 61 [(6,u64 0)],[],60⟩) := by
 exact sF [] [] (Fl 13 wdv l (Ffb 14 (decide ((↑l.length : Int) < (↑l.length : Int))) Fz))
end
theorem ZfW {l : List Int} {f : Int → Bool} (h : l.find? f = none) : ∀ n,n < l.length → f (l.getD n default) = false := by
 intro n hn
 have := List.find?_eq_none.1 h (l.getD n default) (getD_mem_iff.2 ⟨n,hn,rfl⟩)
 simpa using this
theorem Zaf {f : Int → Bool} : ∀ {l : List Int} {x : Int},l.find? f = some x → ∃ n,n < l.length ∧ l.getD n default = x ∧ f x = true ∧ ∀ m,m < n → f (l.getD m default) = false
 | [],x,h => by simp at h
 | a :: l,x,h => by
  rw [List.find?_cons] at h
  split at h
  ·rename_i ha
   cases h
   exact ⟨0,by simp,rfl,ha,fun m hm => by omega⟩
  ·rename_i ha
   obtain ⟨n,h1,h2,h3,h4⟩ := Zaf h
   refine ⟨n + 1,by simp; omega,by simpa using h2,h3,fun m hm => ?_⟩
   cases m with
   | zero => simpa using ha
   | succ m => simpa using h4 m (by omega)
theorem Zgz (h : Heap) (i : Int) (l : List Int) (hw : WOk h.words) (hl : l.length ≤ 1048576) (hi : 0 ≤ i ∧ i < h.pages.length) (hp : h.pages.length ≤ 1048576) (hr : ∀ x ∈ l,0 ≤ x ∧ x ≤ 8192) (hf : l.find? (Z2x h i) = none) :
  CSpec Tryz.prog (blkF Tryz.f120 0) (Tg.st ⟨tm 61 [(1,int i),(2,Z01 l),(3,.pt 8003 0 0),(6,u64 0),(7,int 0)],[(8003,.box 28 h.cells)],60⟩) .nrm (Tg.st ⟨tm 61 [(6,u64 0)],[],60⟩) :=
 Z0d (S := fun n => (Z8k h i l n).st) l.length (by kernel_rfl) (fun n hn => Z8L h i l n hw hl hi hp hr hn (ZfW hf n hn)) (ZhC h i l)
theorem Zew (h : Heap) (i : Int) (l : List Int) (x : Int) (hw : WOk h.words) (hl : l.length ≤ 1048576) (hi : 0 ≤ i ∧ i < h.pages.length) (hp : h.pages.length ≤ 1048576) (hr : ∀ x ∈ l,0 ≤ x ∧ x ≤ 8192) (hf : l.find? (Z2x h i) = some x) :
  CSpec Tryz.prog (blkF Tryz.f120 0) (Tg.st ⟨tm 61 [(1,int i),(2,Z01 l),(3,.pt 8003 0 0),(6,u64 0),(7,int 0)],[(8003,.box 28 h.cells)],60⟩) .ret (Tg.st ⟨tm 61 [(6,u64 x)],[],60⟩) := by
 obtain ⟨n,h1,h2,h3,h4⟩ := Zaf hf
 subst h2
 exact Z0T (S := fun n => (Z8k h i l n).st) n (by kernel_rfl) (fun m hm => Z8L h i l m hw hl hi hp hr (by omega) (h4 m hm)) (ZeD h i l n hw hl hi hp hr h1 h3)
theorem Z72 (h : Heap) (i : Int) (l : List Int) (hw : WOk h.words) (hl : l.length ≤ 1048576) (hp : h.pages.length ≤ 1048576) (hi : 0 ≤ i ∧ i < h.pages.length) (hr : ∀ x ∈ l,0 ≤ x ∧ x ≤ 8192) : GSpec Tryz.prog 120 [h.av,int i,Z01 l] true (u64 (Z2e h i l)) [] := by
 cases hf : l.find? (Z2x h i) with
 | none =>
  have e7 : Z2e h i l = 0 := by rw [Z2e,hf]; rfl
  exact gF [] Tryz.func120 [false,false,false,false,false,false,true] (Fu (@Zgz h i l ‹_› ‹_› ‹_› ‹_› ‹_› ‹_›) (Fa (by rw [e7] : 0 =Z2e h i l) Fz))
 | some x =>
  have e7 : Z2e h i l = x := by rw [Z2e,hf]; rfl
  exact gF [] Tryz.func120 [false,false,false,false,false,false,true] (Fu (@Zew h i l x ‹_› ‹_› ‹_› ‹_› ‹_› ‹_›) (Fa (by rw [e7] : x =Z2e h i l) Fz))
def bdv (x : Bool) : List DV := [.sc (.bool x)]
def Z7V (h : Heap) (a : Int) : Int := if (atH h a).1.kind = 0 then 1 else sizeH (atH h a).1
def Za4 (h : Heap) (i : Int) (a : Int) (o : Nat) : Bool := decide (a - 4096 - i * h.conf.pw ≤ o) && decide ((o : Int) < a - 4096 - i * h.conf.pw + Z7V h a)
def Z1z (h : Heap) (i : Int) (l : List Int) : List Bool := (List.range h.conf.pw.toNat).map fun o => l.any fun a => Za4 h i a o
def Z1n (h : Heap) (i : Int) (l : List Int) (a : Int) (w : Nat) : List Bool := (List.range h.conf.pw.toNat).map fun (o : Nat) => (l.any fun a => Za4 h i a o) || (decide (a - 4096 - i * h.conf.pw ≤ o) && decide ((o : Int) < a - 4096 - i * h.conf.pw + w))
theorem Z8y (h : Heap) (i : Int) (l : List Int) (a : Int) (w : Nat) : (Z1n h i l a w).length = h.conf.pw.toNat := by simp [Z1n]
theorem Zcp (h : Heap) (i : Int) (l : List Int) (a : Int) : Z1n h i l a 0 = Z1z h i l := by
 unfold Z1n Z1z
 refine List.map_congr_left fun o _ => ?_
 have : (decide (a - 4096 - i * h.conf.pw ≤ (o : Int)) && decide ((o : Int) < a - 4096 - i * h.conf.pw + (0 : Nat))) = false := by
  rw [Bool.and_eq_false_iff]; simp; omega
 rw [this,Bool.or_false]
theorem Zch {h : Heap} {i : Int} {l : List Int} {a : Int} {w : Nat} (hh : ¬ (0 ≤ a - 4096 + w - i * h.conf.pw ∧ a - 4096 + w - i * h.conf.pw < h.conf.pw)) : Z1n h i l a (w + 1) = Z1n h i l a w := by
 unfold Z1n
 refine List.map_congr_left fun o ho => ?_
 have ho := List.mem_range.1 ho
 congr 1
 rw [Bool.eq_iff_iff]
 simp
 omega
theorem Zec {h : Heap} {i : Int} {l : List Int} {a : Int} {w : Nat} (hh : 0 ≤ a - 4096 + w - i * h.conf.pw ∧ a - 4096 + w - i * h.conf.pw < h.conf.pw) : (Z1n h i l a w).set (a - 4096 + w - i * h.conf.pw).toNat true = Z1n h i l a (w + 1) := by
 apply List.ext_getElem?
 intro j
 rw [List.getElem?_set,Z8y]
 unfold Z1n
 by_cases hjl : j < h.conf.pw.toNat
 ·rw [List.getElem?_map,List.getElem?_map,List.getElem?_range hjl,Option.map_some,Option.map_some]
  by_cases hj : (a - 4096 + w - i * h.conf.pw).toNat = j
  ·rw [if_pos hj,if_pos (by omega)]
   congr 1
   symm
   rw [Bool.or_eq_true]
   right
   rw [Bool.and_eq_true,decide_eq_true_eq,decide_eq_true_eq]
   omega
  ·rw [if_neg hj]
   congr 2
   rw [Bool.eq_iff_iff,Bool.and_eq_true,Bool.and_eq_true,decide_eq_true_eq,decide_eq_true_eq,decide_eq_true_eq]
   omega
 ·rw [if_neg (by omega),List.getElem?_map,List.getElem?_map,List.getElem?_eq_none (by simp; omega)]
  rfl
theorem Ze8 {h : Heap} {i : Int} {l : List Int} {a : Int} (hn : 0 ≤ Z7V h a) : Z1n h i l a (Z7V h a).toNat = Z1z h i (l ++ [a]) := by
 unfold Z1n Z1z
 refine List.map_congr_left fun o _ => ?_
 rw [List.any_append]
 congr 1
 simp [Za4]
 rw [Bool.eq_iff_iff]
 simp
 omega
theorem Zgo (h : Heap) (i : Int) : Z1z h i [] = List.replicate h.conf.pw.toNat false := by
 unfold Z1z
 simp [List.map_const']
def ZfG (h : Heap) (i : Int) (l : List Int) (k : Nat) : Tg := ⟨tm 69 [(1,int i),(2,Z01 l),(3,.pt 8003 0 0),(7,.ow 16017),(8,int k)],[(16017,.arr 4 1 ((Z1z h i (l.take k)).map bdv)),(8003,.box 28 h.cells)],60⟩
def ZaM (h : Heap) (i : Int) (l m : List Int) (k : Nat) (n : Int) (w : Nat) : Tg := ⟨tm 69 [(1,int i),(2,Z01 m),(3,.pt 8003 0 0),(7,.ow 16017),(8,int k),(11,int n),(12,int w)],[(16017,.arr 4 1 ((Z1n h i l (m.getD k default) w).map bdv)),(8003,.box 28 h.cells)],60⟩
theorem Zeg (h : Heap) (i : Int) (l m : List Int) (k : Nat) (n : Int) (w : Nat) (hp : Z02 h = true) (hm : m.length ≤ 1048576) (hi : 0 ≤ i ∧ i < h.pages.length) (hr : 0 ≤ m.getD k default ∧ m.getD k default ≤ 8192) (hk : k < m.length) (hn : n ≤ 256) (hw : w < n) : CSpec Tryz.prog (rndF Tryz.f149 2) (ZaM h i l m k n w).st .nrm (ZaM h i l m k n (w + 1)).st := by
 have po := Z08 hp
 have ap := Z2y po.1 hi.1 (by omega)
 have hlen := Z8y h i l (m.getD k default) w
 by_cases hh : 0 ≤ m.getD k default - 4096 + w - i * h.conf.pw ∧ m.getD k default - 4096 + w - i * h.conf.pw < h.conf.pw
 ·have e := Zec (l := l) hh
  exact sF [] [false,false,false,false,false,false,false,false,false,false,false,true] (Fh 10067 [.els (List.map bdv ((Z1n h i l (m.getD k default) w).set (m.getD k default - 4096 + (↑w : Int) - i * h.conf.pw).toNat true))] (Ftb 40 (decide ((↑w : Int) < n)) (Fek 45 wdv m (↑k) k (Fi 47 (m.getD k default) (Fi 48 (m.getD k default - 4096) (Fi 50 (m.getD k default - 4096 + (↑w : Int)) (Fi 55 (i * h.conf.pw) (Fi 56 (m.getD k default - 4096 + (↑w : Int) - i * h.conf.pw) (FlG 62 (decide (0≤m.getD k default - 4096 + (↑w : Int) - i * h.conf.pw)) bdv (Z1n h i l (m.getD k default) w) (Ftb 64 (decide (0≤m.getD k default - 4096 + (↑w : Int) - i * h.conf.pw)&&decide (m.getD k default - 4096 + (↑w : Int) - i * h.conf.pw < (↑(Z1n h i l (m.getD k default) w).length : Int))) (Fa (by grind [] : 0≤m.getD k default - 4096 + (↑w : Int) - i * h.conf.pw∧(m.getD k default - 4096 + (↑w : Int) - i * h.conf.pw).toNat < (List.map bdv (Z1n h i l (m.getD k default) w)).length) (Fa (by grind [] : (m.getD k default - 4096 + (↑w : Int) - i * h.conf.pw).toNat < (List.map bdv (Z1n h i l (m.getD k default) w)).length) (Fa (by rw [List.map_set]; rfl : (List.map bdv (Z1n h i l (m.getD k default) w)).set (m.getD k default - 4096 + (↑w : Int) - i * h.conf.pw).toNat [DV.sc (Value.bool true)] =List.map bdv ((Z1n h i l (m.getD k default) w).set (m.getD k default - 4096 + (↑w : Int) - i * h.conf.pw).toNat true)) (Fx 42 w (Fr (4 : Int) (Fa (by refine congrArg _ ?_; exact e : List.map bdv ((Z1n h i l (m.getD k default) w).set (m.getD k default - 4096 + (↑w : Int) - i * h.conf.pw).toNat true) =List.map bdv (Z1n h i l (m.getD k default) (w + 1))) Fz))))))))))))))))
 ·have e := Zch (l := l) hh
  exact sF [] [false,false,false,false,false,false,false,false,false,false,false,true] (Ftb 40 (decide ((↑w : Int) < n)) (Fek 45 wdv m (↑k) k (Fi 47 (m.getD k default) (Fi 48 (m.getD k default - 4096) (Fi 50 (m.getD k default - 4096 + (↑w : Int)) (Fi 55 (i * h.conf.pw) (Fi 56 (m.getD k default - 4096 + (↑w : Int) - i * h.conf.pw) (FlG 62 (decide (0≤m.getD k default - 4096 + (↑w : Int) - i * h.conf.pw)) bdv (Z1n h i l (m.getD k default) w) (Ffb 64 (decide (0≤m.getD k default - 4096 + (↑w : Int) - i * h.conf.pw)&&decide (m.getD k default - 4096 + (↑w : Int) - i * h.conf.pw < (↑(Z1n h i l (m.getD k default) w).length : Int))) (Fx 42 w (Fr (4 : Int) (Fa (by refine congrArg _ ?_; rw [e] : List.map bdv (Z1n h i l (m.getD k default) w) =List.map bdv (Z1n h i l (m.getD k default) (w + 1))) Fz))))))))))))
theorem ZhB (h : Heap) (i : Int) (l m : List Int) (k : Nat) (n : Int) (w : Nat) (hn : n ≤ w) : CSpec Tryz.prog (rndF Tryz.f149 2) (ZaM h i l m k n w).st (.ext 2) (Tg.st ⟨tm 69 [(1,int i),(2,Z01 m),(3,.pt 8003 0 0),(7,.ow 16017),(8,int k)],[(16017,.arr 4 1 ((Z1n h i l (m.getD k default) w).map bdv)),(8003,.box 28 h.cells)],60⟩) := by
 exact sF [] [] (Ffb 40 (decide ((↑w : Int) < n)) Fz)
theorem Zbr (h : Heap) (i : Int) (m : List Int) (k : Nat) (n : Int) (hp : Z02 h = true) (hm : m.length ≤ 1048576) (hi : 0 ≤ i ∧ i < h.pages.length) (hr : 0 ≤ m.getD k default ∧ m.getD k default ≤ 8192) (hk : k < m.length) (hn : 0 ≤ n ∧ n ≤ 256) (he : n = Z7V h (m.getD k default)) : CSpec Tryz.prog (blkF Tryz.f149 2) (Tg.st ⟨tm 69 [(1,int i),(2,Z01 m),(3,.pt 8003 0 0),(7,.ow 16017),(8,int k),(11,int n),(12,int 0)],[(16017,.arr 4 1 ((Z1z h i (m.take k)).map bdv)),(8003,.box 28 h.cells)],60⟩) .nrm
  (Tg.st ⟨tm 69 [(1,int i),(2,Z01 m),(3,.pt 8003 0 0),(7,.ow 16017),(8,int k)],[(16017,.arr 4 1 ((Z1z h i (m.take (k + 1))).map bdv)),(8003,.box 28 h.cells)],60⟩) := by
 have := Z0d (S := fun w => (ZaM h i (m.take k) m k n w).st) n.toNat (by kernel_rfl) (fun w hw => Zeg h i (m.take k) m k n w hp hm hi hr hk hn.2 (by omega)) (ZhB h i (m.take k) m k n n.toNat (by omega))
 have e1 : Z1n h i (m.take k) (m.getD k default) n.toNat = Z1z h i (m.take (k + 1)) := by
  rw [Zap hk,he]
  exact Ze8 (by omega)
 rw [e1] at this
 simp only [ZaM,Zcp] at this
 exact this
theorem ZfL (h : Heap) (i : Int) (l : List Int) (k : Nat) (hw : WOk h.words) (hp : Z02 h = true) (hl : l.length ≤ 1048576) (hi : 0 ≤ i ∧ i < h.pages.length) (hr : ∀ x ∈ l,0 ≤ x ∧ x ≤ 8192) (hk : k < l.length) : CSpec Tryz.prog (rndF Tryz.f149 0) (ZfG h i l k).st .nrm (ZfG h i l (k + 1)).st := by
 have po := Z08 hp
 have hx := hr (l.getD k default) (getD_mem_iff.2 ⟨k,hk,rfl⟩)
 have hm := Z66 hw (l.getD k default)
 have hs := Z3e (atH h (l.getD k default)).1
 by_cases hf : (atH h (l.getD k default)).1.kind = 0
 ·have e : Z7V h (l.getD k default) = 1 := by rw [Z7V,if_pos hf]
  exact sF [] [] (Fl 20 wdv l (Ftb 21 (decide ((↑k : Int) < (↑l.length : Int))) (Fek 28 wdv l (↑k) k (Fc 30 (@Z4m h (l.getD k default) ‹_› (by omega)) (Fc 34 (@Z20 ((atH h (l.getD k default)).fst) ‹_›) (Ftb 37 ((atH h (l.getD k default)).fst.kind == 0) (Fu (@Zbr h i l k (1) ‹_› ‹_› ‹_› ‹_› ‹_› (by omega) (by omega)) (Fx 23 k Fz))))))))
 ·have e : Z7V h (l.getD k default) = sizeH (atH h (l.getD k default)).1 := by rw [Z7V,if_neg hf]
  exact sF [] [] (Fl 20 wdv l (Ftb 21 (decide ((↑k : Int) < (↑l.length : Int))) (Fek 28 wdv l (↑k) k (Fc 30 (@Z4m h (l.getD k default) ‹_› (by omega)) (Fc 34 (@Z20 ((atH h (l.getD k default)).fst) ‹_›) (Ffb 37 ((atH h (l.getD k default)).fst.kind == 0) (Fu (@Zbr h i l k (sizeH (atH h (l.getD k default)).fst) ‹_› ‹_› ‹_› ‹_› ‹_› ‹_› (by omega)) (Fx 23 k Fz))))))))
theorem Zj2 (h : Heap) (i : Int) (l : List Int) : CSpec Tryz.prog (rndF Tryz.f149 0) (ZfG h i l l.length).st (.ext 0) (Tg.st ⟨tm 69 [(7,.ow 16017)],[(16017,.arr 4 1 ((Z1z h i l).map bdv))],60⟩) := by
 have e : l.take l.length = l := List.take_length
 exact sF [] [false,true] (Fl 20 wdv l (Ffb 21 (decide ((↑l.length : Int) < (↑l.length : Int))) (Fr (4 : Int) (Fa (by refine congrArg _ ?_; rw [e] : List.map bdv (Z1z h i (List.take l.length l)) =List.map bdv (Z1z h i l)) Fz))))
theorem Zh8 (h : Heap) (i : Int) (l : List Int) (hw : WOk h.words) (hp : Z02 h = true) (hl : l.length ≤ 1048576) (hi : 0 ≤ i ∧ i < h.pages.length) (hr : ∀ x ∈ l,0 ≤ x ∧ x ≤ 8192) : CSpec Tryz.prog (blkF Tryz.f149 0) (Tg.st ⟨tm 69 [(1,int i),(2,Z01 l),(3,.pt 8003 0 0),(7,.ow 16017),(8,int 0)],[(16017,.arr 4 1 ((List.replicate h.conf.pw.toNat false).map bdv)),(8003,.box 28 h.cells)],60⟩) .nrm
  (Tg.st ⟨tm 69 [(7,.ow 16017)],[(16017,.arr 4 1 ((Z1z h i l).map bdv))],60⟩) := by
 have := Z0d (S := fun k => (ZfG h i l k).st) l.length (by kernel_rfl) (fun k hk => ZfL h i l k hw hp hl hi hr hk) (Zj2 h i l)
 simp only [ZfG,List.take_zero,Zgo] at this
 exact this
theorem Zdq (h : Heap) (i : Int) (l : List Int) (hw : WOk h.words) (hp : Z02 h = true) (hl : l.length ≤ 1048576) (hi : 0 ≤ i ∧ i < h.pages.length) (hr : ∀ x ∈ l,0 ≤ x ∧ x ≤ 8192) : GSpec Tryz.prog 149 [h.av,int i,Z01 l] false (.d (.sl 1 ((Z1z h i l).map bdv))) [] := by
 have po := Z08 hp
 exact gF [] Tryz.func149 [] (Fh 17 [.els (List.map bdv (List.replicate h.conf.pw.toNat false))] (Fb (0≤h.conf.pw∧h.conf.pw≤h.conf.pw∧h.conf.pw * ((↑(nat_lit 0) : Int) + 1)≤2 ^ 48) (Fa (by rw [List.map_replicate]; rfl : List.replicate h.conf.pw.toNat [DV.sc (Value.bool false)] =List.map bdv (List.replicate h.conf.pw.toNat false)) (Fu (@Zh8 h i l ‹_› ‹_› ‹_› ‹_› ‹_›) Fz))))
def Z3t (h : Heap) (i : Nat) : List Bool := Z1z h i (Z0t h (Z1h h.pages i : Nat)).1
theorem ZaG (h : Heap) (i : Nat) : (Z3t h i).length = h.conf.pw.toNat := by simp [Z3t,Z1z]
theorem Zdm (l : List Page) : ∀ i,Z1h l i ≤ i
 | 0 => Nat.le_refl _
 | i + 1 => by
  have := Zdm l i
  unfold Z1h
  split <;> omega
def Ze2 (h : Heap) (i : Nat) (u : List Bool) (k : Nat) : Tg := ⟨tm 43 [(1,int i),(2,.pt 8002 0 0),(4,u64 0),(7,.d (.sl 1 (u.map bdv))),(8,int k)],[(8002,.box 28 h.cells)],60⟩
section
variable (h : Heap) (i : Nat) (u : List Bool) (k : Nat) (hp : Z02 h = true) (hi : i < h.pages.length) (hu : u.length ≤ 64)
include hp hi hu
theorem Zbm (hk : k < u.length) (hd : u.getD k default = true ∨ Z46 h i k = 0) : CSpec Tryz.prog (rndF Tryz.f121 0) (Ze2 h i u k).st .nrm (Ze2 h i u (k + 1)).st := by
 have po := Z08 hp
 rcases hd with hd | hd
 ·exact sF [] [] (Fl 23 bdv u (Ftb 24 (decide ((↑k : Int) < (↑u.length : Int))) (Fek 29 bdv u (↑k) k (FcG 36 (!u.getD k default) (fun hg => by (try simp only [bs] at hg); exact @Z8X h ((↑i : Int)) ((↑k : Int)) (by (try simp only [bs] at hg); assumption)) (Ff 38 (by simp only [bs, *,true_or,or_true,true_and,and_true,not_true_eq_false,not_false_eq_true,Bool.true_eq_false,Bool.false_eq_true] : (!u.getD k default&&Z46 h (↑i : Int) (↑k : Int) != 0)=false) (Fx 26 k Fz))))))
 ·exact sF [] [] (Fl 23 bdv u (Ftb 24 (decide ((↑k : Int) < (↑u.length : Int))) (Fek 29 bdv u (↑k) k (FcG 36 (!u.getD k default) (fun hg => by (try simp only [bs] at hg); exact @Z8X h ((↑i : Int)) ((↑k : Int)) (by (try simp only [bs] at hg); assumption)) (Ffb 38 (!u.getD k default&&Z46 h (↑i : Int) (↑k : Int) != 0) (Fx 26 k Fz))))))
theorem Zfa (hk : k < u.length) (hd : u.getD k default = false ∧ ¬ Z46 h i k = 0) : CSpec Tryz.prog (rndF Tryz.f121 0) (Ze2 h i u k).st .ret (Tg.st ⟨tm 43 [(4,u64 (4096 + i * h.conf.pw + k))],[],60⟩) := by
 have po := Z08 hp
 obtain ⟨hd1,hd2⟩ := hd
 exact sF [] [] (Fl 23 bdv u (Ftb 24 (decide ((↑k : Int) < (↑u.length : Int))) (Fek 29 bdv u (↑k) k (FcG 36 (!u.getD k default) (fun hg => by (try simp only [bs] at hg); exact @Z8X h ((↑i : Int)) ((↑k : Int)) (by (try simp only [bs] at hg); assumption)) (Ft 38 (by simp only [bs, *,true_or,or_true,true_and,and_true,not_true_eq_false,not_false_eq_true,Bool.true_eq_false,Bool.false_eq_true] : (!u.getD k default&&Z46 h (↑i : Int) (↑k : Int) != 0)=true) (Fc 42 (@ZbN h ((↑i : Int)) ((↑k : Int)) ‹_› (by omega) (by omega)) Fz))))))
omit hp hi hu in
theorem ZiF : CSpec Tryz.prog (rndF Tryz.f121 0) (Ze2 h i u u.length).st (.ext 0) (Tg.st ⟨tm 43 [(4,u64 0)],[],60⟩) := by
 exact sF [] [] (Fl 23 bdv u (Ffb 24 (decide ((↑u.length : Int) < (↑u.length : Int))) Fz))
end
def badD (h : Heap) (i : Nat) (u : List Bool) (k : Nat) : Bool := !u.getD k default && decide (Z46 h i k ≠ 0)
def Z3F (h : Heap) (i : Nat) (u : List Bool) : Int := match (List.range u.length).find? (badD h i u) with | some k => 4096 + i * h.conf.pw + k | none => 0
theorem Zha (h : Heap) (i : Nat) (u : List Bool) (hp : Z02 h = true) (hi : i < h.pages.length) (hu : u.length ≤ 64) (hf : (List.range u.length).find? (badD h i u) = none) :
  CSpec Tryz.prog (blkF Tryz.f121 0) (Tg.st ⟨tm 43 [(1,int i),(2,.pt 8002 0 0),(4,u64 0),(7,.d (.sl 1 (u.map bdv))),(8,int 0)],[(8002,.box 28 h.cells)],60⟩) .nrm (Tg.st ⟨tm 43 [(4,u64 0)],[],60⟩) := by
 refine Z0d (S := fun k => (Ze2 h i u k).st) u.length (by kernel_rfl) (fun k hk => Zbm h i u k hp hi hu hk ?_) (ZiF h i u)
 have := List.find?_eq_none.1 hf k (List.mem_range.2 hk)
 simp only [badD,bs] at this
 cases hb : u.getD k default with
 | true => exact .inl rfl
 | false =>
  rw [hb] at this
  exact .inr (by simpa using this)
theorem Zgr (h : Heap) (i : Nat) (u : List Bool) (k : Nat) (hp : Z02 h = true) (hi : i < h.pages.length) (hu : u.length ≤ 64) (hf : (List.range u.length).find? (badD h i u) = some k) :
  CSpec Tryz.prog (blkF Tryz.f121 0) (Tg.st ⟨tm 43 [(1,int i),(2,.pt 8002 0 0),(4,u64 0),(7,.d (.sl 1 (u.map bdv))),(8,int 0)],[(8002,.box 28 h.cells)],60⟩) .ret (Tg.st ⟨tm 43 [(4,u64 (4096 + i * h.conf.pw + k))],[],60⟩) := by
 obtain ⟨h1,h2,h3⟩ := List.find?_range_eq_some.1 hf
 have h2 := List.mem_range.1 h2
 refine Z0T (S := fun k => (Ze2 h i u k).st) k (by kernel_rfl) (fun m hm => Zbm h i u m hp hi hu (by omega) ?_) (Zfa h i u k hp hi hu h2 ?_)
 ·have := h3 m hm
  simp only [badD,bs] at this
  cases hb : u.getD m default with
  | true => exact .inl rfl
  | false =>
   rw [hb] at this
   exact .inr (by simpa using this)
 ·simp only [badD,bs] at h1
  exact ⟨h1.1,h1.2⟩
theorem ZcH (h : Heap) (i : Nat) (hw : WOk h.words) (hp : Z02 h = true) (hi : i < h.pages.length) : GSpec Tryz.prog 121 [h.av,int i] true (u64 (Z3F h i (Z3t h i))) [] := by
 have po := Z08 hp
 have hh := Zdm h.pages i
 have hn := Z4w h (Z1h h.pages i : Nat)
 have hr := Z5l hp (Z1h h.pages i : Nat)
 have hl := ZaG h i
 unfold Z3t at hl ⊢
 cases hf : (List.range (Z1z h i (Z0t h (Z1h h.pages i : Nat)).1).length).find? (badD h i (Z1z h i (Z0t h (Z1h h.pages i : Nat)).1)) with
 | none =>
  have e7 : Z3F h i (Z1z h i (Z0t h (Z1h h.pages i : Nat)).1) = 0 := by rw [Z3F,hf]
  exact gF [] Tryz.func121 [false,false,false,false,false,false,true] (Fc 13 (@ZdD h i ‹_› ‹_›) (Fc 14 (@Z3f h ((↑(Z1h h.pages i) : Int)) ‹_›) (Fc 20 (@Zdq h ((↑i : Int)) ((Z0t h (↑(Z1h h.pages i) : Int)).fst) ‹_› ‹_› (by omega) (by omega) ‹_›) (Fu (@Zha h i (Z1z h (↑i : Int) (Z0t h (↑(Z1h h.pages i) : Int)).fst) ‹_› ‹_› (by omega) ‹_›) (Fa (by rw [e7] : 0 =Z3F h i (Z1z h (↑i : Int) (Z0t h (↑(Z1h h.pages i) : Int)).fst)) Fz)))))
 | some k =>
  have e7 : Z3F h i (Z1z h i (Z0t h (Z1h h.pages i : Nat)).1) = 4096 + i * h.conf.pw + k := by rw [Z3F,hf]
  exact gF [] Tryz.func121 [false,false,false,false,false,false,true] (Fc 13 (@ZdD h i ‹_› ‹_›) (Fc 14 (@Z3f h ((↑(Z1h h.pages i) : Int)) ‹_›) (Fc 20 (@Zdq h ((↑i : Int)) ((Z0t h (↑(Z1h h.pages i) : Int)).fst) ‹_› ‹_› (by omega) (by omega) ‹_›) (Fu (@Zgr h i (Z1z h (↑i : Int) (Z0t h (↑(Z1h h.pages i) : Int)).fst) k ‹_› ‹_› (by omega) ‹_›) (Fa (by rw [e7] : 4096 + (↑i : Int) * h.conf.pw + (↑k : Int) =Z3F h i (Z1z h (↑i : Int) (Z0t h (↑(Z1h h.pages i) : Int)).fst)) Fz)))))
structure Finding where
 fault : Int
 page : Int
 addr : Int
 deriving DecidableEq,Inhabited
def Finding.av (f : Finding) : AV := .ag [int f.fault,int f.page,u64 f.addr]
def pageF (h : Heap) (i : Nat) : Finding :=
 if (h.pages.getD i default).kind ≠ 0 ∧ (h.pages.getD i default).space ≠ h.space then ⟨2,i,0⟩
 else if (Z0t h (i : Int)).2 ≠ 0 then ⟨3,i,0⟩
 else if Z2e h (i : Int) (Z0t h (i : Int)).1 ≠ 0 then ⟨5,i,Z2e h (i : Int) (Z0t h (i : Int)).1⟩
 else if Z3F h i (Z3t h i) ≠ 0 then ⟨4,i,Z3F h i (Z3t h i)⟩ else ⟨0,0,0⟩
theorem ZdB (h : Heap) (i : Nat) (hw : WOk h.words) (hp : Z02 h = true) (hi : i < h.pages.length) : GSpec Tryz.prog 81 [h.av,int i] true (pageF h i).av [] := by
 have po := Z08 hp
 have hn := Z4w h (i : Int)
 have hr := Z5l hp (i : Int)
 have Q0 {h_ c_ p_} (r_ : Fq h_ c_ p_) := Fek 12 Page.dv h.pages (↑i) i (FeG 20 ((h.pages.getD i default).kind != 0) Page.dv h.pages (↑i) i r_)
 rcases bb ((h.pages.getD i default).kind != 0 && (h.pages.getD i default).space != h.space) with hc0 | hc0<;>have hc0p:=hc0<;>simp only [bs] at hc0p
 ·obtain ⟨hc0pa,hc0pb⟩ := hc0p
  exact gF [] Tryz.func81 [false,false,false,false,false,false,false,false,false,true] (Q0 (Ft 26 hc0 (Fa (by (simp only [pageF]; (repeat' split) <;> first | rfl | omega | (exfalso; omega) | simp_all) : 2 =(pageF h i).fault) (Fa (by (simp only [pageF]; (repeat' split) <;> first | rfl | omega | (exfalso; omega) | simp_all) : (↑i : Int) =(pageF h i).page) (Fa (by (simp only [pageF]; (repeat' split) <;> first | rfl | omega | (exfalso; omega) | simp_all) : 0 =(pageF h i).addr) Fz)))))
 ·have Q1 {h_ c_ p_} (r_ : Fq h_ c_ p_) := Q0 (Ff 26 hc0 (Fc 32 (@Z3f h ((↑i : Int)) ‹_›) r_))
  rcases bb ((Z0t h (↑i : Int)).snd != 0) with hc1 | hc1<;>have hc1p:=hc1<;>simp only [bs] at hc1p
  ·exact gF [] Tryz.func81 [false,false,false,false,false,false,false,false,false,true] (Q1 (Ft 36 hc1 (Fa (by (simp only [pageF]; (repeat' split) <;> first | rfl | omega | (exfalso; omega) | simp_all) : 3 =(pageF h i).fault) (Fa (by (simp only [pageF]; (repeat' split) <;> first | rfl | omega | (exfalso; omega) | simp_all) : (↑i : Int) =(pageF h i).page) (Fa (by (simp only [pageF]; (repeat' split) <;> first | rfl | omega | (exfalso; omega) | simp_all) : 0 =(pageF h i).addr) Fz)))))
  ·have Q2 {h_ c_ p_} (r_ : Fq h_ c_ p_) := Q1 (Ff 36 hc1 (Fc 42 (@Z72 h ((↑i : Int)) ((Z0t h (↑i : Int)).fst) ‹_› (by omega) (by omega) (by omega) ‹_›) r_))
   rcases bb (Z2e h (↑i : Int) (Z0t h (↑i : Int)).fst != 0) with hc2 | hc2<;>have hc2p:=hc2<;>simp only [bs] at hc2p
   ·exact gF [] Tryz.func81 [false,false,false,false,false,false,false,false,false,true] (Q2 (Ft 44 hc2 (Fa (by (simp only [pageF]; (repeat' split) <;> first | rfl | omega | (exfalso; omega) | simp_all) : 5 =(pageF h i).fault) (Fa (by (simp only [pageF]; (repeat' split) <;> first | rfl | omega | (exfalso; omega) | simp_all) : (↑i : Int) =(pageF h i).page) (Fa (by (simp only [pageF]; (repeat' split) <;> first | rfl | omega | (exfalso; omega) | simp_all) : Z2e h (↑i : Int) (Z0t h (↑i : Int)).fst =(pageF h i).addr) Fz)))))
   ·have Q3 {h_ c_ p_} (r_ : Fq h_ c_ p_) := Q2 (Ff 44 hc2 (Fc 50 (@ZcH h i ‹_› ‹_› ‹_›) r_))
    rcases bb (Z3F h i (Z3t h i) != 0) with hc3 | hc3<;>have hc3p:=hc3<;>simp only [bs] at hc3p
    ·exact gF [] Tryz.func81 [false,false,false,false,false,false,false,false,false,true] (Q3 (Ft 52 hc3 (Fa (by (simp only [pageF]; (repeat' split) <;> first | rfl | omega | (exfalso; omega) | simp_all) : 4 =(pageF h i).fault) (Fa (by (simp only [pageF]; (repeat' split) <;> first | rfl | omega | (exfalso; omega) | simp_all) : (↑i : Int) =(pageF h i).page) (Fa (by (simp only [pageF]; (repeat' split) <;> first | rfl | omega | (exfalso; omega) | simp_all) : Z3F h i (Z3t h i) =(pageF h i).addr) Fz)))))
    ·exact gF [] Tryz.func81 [false,false,false,false,false,false,false,false,false,true] (Q3 (Ff 52 hc3 (Fa (by (simp only [pageF]; (repeat' split) <;> first | rfl | omega | (exfalso; omega) | simp_all) : 0 =(pageF h i).fault) (Fa (by (simp only [pageF]; (repeat' split) <;> first | rfl | omega | (exfalso; omega) | simp_all) : 0 =(pageF h i).page) (Fa (by (simp only [pageF]; (repeat' split) <;> first | rfl | omega | (exfalso; omega) | simp_all) : 0 =(pageF h i).addr) Fz)))))
def Zev (h : Heap) (all : List Int) (i : Nat) : Tg := ⟨tm 89 [(1,.pt 8001 0 0),(2,.pt 8002 0 0),(3,Z01 all),(5,int i)],[(8002,.box 82 [int 0,int 0,u64 0]),(8001,.box 28 h.cells)],60⟩
def Zaq (hd : Header) (fs all : List Int) (k : Nat) : Bool := Z0n hd k && decide (fs.getD k default ≠ 0) && !decide (fs.getD k default ∈ all)
def Zem (h : Heap) (all fs : List Int) (hd : Header) (i k : Nat) : Tg := ⟨tm 89 [(1,.pt 8001 0 0),(2,.pt 8002 0 0),(3,Z01 all),(5,int i),(6,.pt 488006 0 0),(8,Z01 fs),(10,int k)],[(488006,.box 34 [int hd.kind,int hd.length,u32 hd.map]),(8002,.box 82 [int 0,int 0,u64 0]),(8001,.box 28 h.cells)],64⟩
section
variable (h : Heap) (all fs : List Int) (hd : Header) (i k : Nat) (hm : 0 ≤ hd.map ∧ hd.map ≤ 4294967295) (hl : all.length ≤ 1048576) (hf : fs.length ≤ 4096) (hr : 0 ≤ all.getD i default ∧ all.getD i default ≤ 8192) (hi : i < all.length)
include hm hl hf hr hi
theorem Zaa (hk : k < fs.length) (hb : Zaq hd fs all k = false) : CSpec Tryz.prog (rndF Tryz.f82 2) (Zem h all fs hd i k).st .nrm (Zem h all fs hd i (k + 1)).st := by
 simp only [Zaq,bs] at hb
 rcases hb with (hb | hb) | hb
 ·exact sF [] [] (Fl 46 wdv fs (Ftb 47 (decide ((↑k : Int) < (↑fs.length : Int))) (Fc 52 (@Z27 hd ((↑k : Int)) ‹_›) (FeG 56 (Z0n hd (↑k : Int)) wdv fs (↑k) k (FeG 64 (Z0n hd (↑k : Int)&&fs.getD k default != 0) wdv fs (↑k) k (FcG 66 (Z0n hd (↑k : Int)&&fs.getD k default != 0) (fun hg => by (try simp only [bs] at hg); exact @Z0N all (fs.getD k default) (by (try simp only [bs] at hg); assumption)) (Ff 68 (by simp only [bs, *,true_or,or_true,true_and,and_true,not_true_eq_false,not_false_eq_true,Bool.true_eq_false,Bool.false_eq_true] : (Z0n hd (↑k : Int)&&fs.getD k default != 0&&!decide (fs.getD k default ∈ all))=false) (Fx 49 k Fz))))))))
 ·exact sF [] [] (Fl 46 wdv fs (Ftb 47 (decide ((↑k : Int) < (↑fs.length : Int))) (Fc 52 (@Z27 hd ((↑k : Int)) ‹_›) (FeG 56 (Z0n hd (↑k : Int)) wdv fs (↑k) k (FeG 64 (Z0n hd (↑k : Int)&&fs.getD k default != 0) wdv fs (↑k) k (FcG 66 (Z0n hd (↑k : Int)&&fs.getD k default != 0) (fun hg => by (try simp only [bs] at hg); exact @Z0N all (fs.getD k default) (by (try simp only [bs] at hg); assumption)) (Ffb 68 (Z0n hd (↑k : Int)&&fs.getD k default != 0&&!decide (fs.getD k default ∈ all)) (Fx 49 k Fz))))))))
 ·exact sF [] [] (Fl 46 wdv fs (Ftb 47 (decide ((↑k : Int) < (↑fs.length : Int))) (Fc 52 (@Z27 hd ((↑k : Int)) ‹_›) (FeG 56 (Z0n hd (↑k : Int)) wdv fs (↑k) k (FeG 64 (Z0n hd (↑k : Int)&&fs.getD k default != 0) wdv fs (↑k) k (FcG 66 (Z0n hd (↑k : Int)&&fs.getD k default != 0) (fun hg => by (try simp only [bs] at hg); exact @Z0N all (fs.getD k default) (by (try simp only [bs] at hg); assumption)) (Ff 68 (by simp only [bs, *,true_or,or_true,true_and,and_true,not_true_eq_false,not_false_eq_true,Bool.true_eq_false,Bool.false_eq_true] : (Z0n hd (↑k : Int)&&fs.getD k default != 0&&!decide (fs.getD k default ∈ all))=false) (Fx 49 k Fz))))))))
theorem Zf4 (hk : k < fs.length) (hb : Zaq hd fs all k = true) : CSpec Tryz.prog (rndF Tryz.f82 2) (Zem h all fs hd i k).st .ret (Tg.st ⟨tm 89 [(2,.pt 8002 0 0)],[(8002,.box 82 [int 6,int (ofA h.conf (all.getD i default + 1 + k)).1,u64 (all.getD i default + 1 + k)])],64⟩) := by
 simp only [Zaq,bs] at hb
 obtain ⟨⟨hb1,hb2⟩,hb3⟩ := hb
 exact sF [] [] (Fl 46 wdv fs (Ftb 47 (decide ((↑k : Int) < (↑fs.length : Int))) (Fc 52 (@Z27 hd ((↑k : Int)) ‹_›) (FeG 56 (Z0n hd (↑k : Int)) wdv fs (↑k) k (FeG 64 (Z0n hd (↑k : Int)&&fs.getD k default != 0) wdv fs (↑k) k (FcG 66 (Z0n hd (↑k : Int)&&fs.getD k default != 0) (fun hg => by (try simp only [bs] at hg); exact @Z0N all (fs.getD k default) (by (try simp only [bs] at hg); assumption)) (Ft 68 (by simp only [bs, *,true_or,or_true,true_and,and_true,not_true_eq_false,not_false_eq_true,Bool.true_eq_false,Bool.false_eq_true] : (Z0n hd (↑k : Int)&&fs.getD k default != 0&&!decide (fs.getD k default ∈ all))=true) (Fek 71 wdv all (↑i) i (Fv 73 (all.getD i default + 1) (Fv 75 (↑k) (Fv 76 (all.getD i default + 1 + (↑k : Int)) (Fc 81 (@Z47 h.conf (all.getD i default + 1 + (↑k : Int)) (by omega) (by omega)) Fz))))))))))))
omit hm hl hf hr hi in
theorem ZiB : CSpec Tryz.prog (rndF Tryz.f82 2) (Zem h all fs hd i fs.length).st (.ext 2) (Tg.st ⟨tm 89 [(1,.pt 8001 0 0),(2,.pt 8002 0 0),(3,Z01 all),(5,int i)],[(8002,.box 82 [int 0,int 0,u64 0]),(8001,.box 28 h.cells)],64⟩) := by
 exact sF [] [] (Fl 46 wdv fs (Ffb 47 (decide ((↑fs.length : Int) < (↑fs.length : Int))) Fz))
end
section
variable (h : Heap) (all fs : List Int) (hd : Header) (i : Nat) (hm : 0 ≤ hd.map ∧ hd.map ≤ 4294967295) (hl : all.length ≤ 1048576) (hf : fs.length ≤ 4096) (hr : 0 ≤ all.getD i default ∧ all.getD i default ≤ 8192) (hi : i < all.length)
include hm hl hf hr hi
theorem ZhA (hb : (List.range fs.length).find? (Zaq hd fs all) = none) : CSpec Tryz.prog (blkF Tryz.f82 2) (Tg.st ⟨tm 89 [(1,.pt 8001 0 0),(2,.pt 8002 0 0),(3,Z01 all),(5,int i),(6,.pt 488006 0 0),(8,Z01 fs),(10,int 0)],[(488006,.box 34 [int hd.kind,int hd.length,u32 hd.map]),(8002,.box 82 [int 0,int 0,u64 0]),(8001,.box 28 h.cells)],64⟩) .nrm (Tg.st ⟨tm 89 [(1,.pt 8001 0 0),(2,.pt 8002 0 0),(3,Z01 all),(5,int i)],[(8002,.box 82 [int 0,int 0,u64 0]),(8001,.box 28 h.cells)],64⟩) := by
 refine Z0d (S := fun k => (Zem h all fs hd i k).st) fs.length (by kernel_rfl) (fun k hk => Zaa h all fs hd i k hm hl hf hr hi hk ?_) (ZiB h all fs hd i)
 have := List.find?_eq_none.1 hb k (List.mem_range.2 hk)
 simpa using this
theorem Zge (k : Nat) (hb : (List.range fs.length).find? (Zaq hd fs all) = some k) : CSpec Tryz.prog (blkF Tryz.f82 2) (Tg.st ⟨tm 89 [(1,.pt 8001 0 0),(2,.pt 8002 0 0),(3,Z01 all),(5,int i),(6,.pt 488006 0 0),(8,Z01 fs),(10,int 0)],[(488006,.box 34 [int hd.kind,int hd.length,u32 hd.map]),(8002,.box 82 [int 0,int 0,u64 0]),(8001,.box 28 h.cells)],64⟩) .ret (Tg.st ⟨tm 89 [(2,.pt 8002 0 0)],[(8002,.box 82 [int 6,int (ofA h.conf (all.getD i default + 1 + k)).1,u64 (all.getD i default + 1 + k)])],64⟩) := by
 obtain ⟨h1,h2,h3⟩ := List.find?_range_eq_some.1 hb
 have h2 := List.mem_range.1 h2
 refine Z0T (S := fun k => (Zem h all fs hd i k).st) k (by kernel_rfl) (fun m hm' => Zaa h all fs hd i m hm hl hf hr hi (by omega) ?_) (Zf4 h all fs hd i k hm hl hf hr hi h2 h1)
 have := h3 m hm'
 simpa using this
end
theorem Z41 (h : Heap) (a : Int) : (Z0e h a).1.length ≤ 4096 := by
 unfold Z0e
 split
 ·rename_i e
  have po := Z08 (Z3T e).2.2.1
  have := ZbH h.words (a + 1) (getH h a).1.length
  omega
 ·simp
def Z21 (h : Heap) (all : List Int) (i : Nat) : Option Nat := (List.range (Z0e h (all.getD i default)).1.length).find? (Zaq (getH h (all.getD i default)).1 (Z0e h (all.getD i default)).1 all)
section
variable (h : Heap) (all : List Int) (i : Nat) (hw : WOk h.words) (hl : all.length ≤ 1048576) (hr : 0 ≤ all.getD i default ∧ all.getD i default ≤ 8192) (hi : i < all.length)
include hw hl hr hi
theorem ZaZ (hb : Z21 h all i = none) : CSpec Tryz.prog (rndF Tryz.f82 0) (Zev h all i).st .nrm (Zev h all (i + 1)).st := by
 have hm := Z9s hw (all.getD i default)
 have hf : (Z0e h (all.getD i default)).1.length ≤ 4096 := Z41 h _
 unfold Z21 at hb
 exact sF [] [] (Fl 22 wdv all (Ftb 23 (decide ((↑i : Int) < (↑all.length : Int))) (Fek 30 wdv all (↑i) i (Fc 32 (@Z2U h (all.getD i default) ‹_› (by omega)) (Fek 39 wdv all (↑i) i (Fc 41 (@Z3A h (all.getD i default) ‹_› (by omega)) (Fu (@ZhA h all ((Z0e h (all.getD i default)).fst) ((getH h (all.getD i default)).fst) i ‹_› ‹_› ‹_› ‹_› ‹_› ‹_›) (Fx 25 i Fz))))))))
theorem ZeM (k : Nat) (hb : Z21 h all i = some k) : CSpec Tryz.prog (rndF Tryz.f82 0) (Zev h all i).st .ret (Tg.st ⟨tm 89 [(2,.pt 8002 0 0)],[(8002,.box 82 [int 6,int (ofA h.conf (all.getD i default + 1 + k)).1,u64 (all.getD i default + 1 + k)])],60⟩) := by
 have hm := Z9s hw (all.getD i default)
 have hf : (Z0e h (all.getD i default)).1.length ≤ 4096 := Z41 h _
 unfold Z21 at hb
 exact sF [] [] (Fl 22 wdv all (Ftb 23 (decide ((↑i : Int) < (↑all.length : Int))) (Fek 30 wdv all (↑i) i (Fc 32 (@Z2U h (all.getD i default) ‹_› (by omega)) (Fek 39 wdv all (↑i) i (Fc 41 (@Z3A h (all.getD i default) ‹_› (by omega)) (Fu (@Zge h all ((Z0e h (all.getD i default)).fst) ((getH h (all.getD i default)).fst) i ‹_› ‹_› ‹_› ‹_› ‹_› k ‹_›) Fz)))))))
end
theorem Zjg (h : Heap) (all : List Int) : CSpec Tryz.prog (rndF Tryz.f82 0) (Zev h all all.length).st (.ext 0) (Tg.st ⟨tm 89 [(2,.pt 8002 0 0)],[(8002,.box 82 [int 0,int 0,u64 0])],60⟩) := by
 exact sF [] [] (Fl 22 wdv all (Ffb 23 (decide ((↑all.length : Int) < (↑all.length : Int))) Fz))
def Z0U (h : Heap) (all : List Int) : Finding :=
 match (List.range all.length).find? (fun i => (Z21 h all i).isSome) with
 | none => ⟨0,0,0⟩
 | some i => ⟨6,(ofA h.conf (all.getD i default + 1 + ((Z21 h all i).getD 0 : Nat))).1,all.getD i default + 1 + ((Z21 h all i).getD 0 : Nat)⟩
section
variable (h : Heap) (all : List Int) (hw : WOk h.words) (hl : all.length ≤ 1048576) (hr : ∀ x ∈ all,0 ≤ x ∧ x ≤ 8192)
include hw hl hr
theorem Zhm (hb : (List.range all.length).find? (fun i => (Z21 h all i).isSome) = none) : CSpec Tryz.prog (blkF Tryz.f82 0) (Tg.st ⟨tm 89 [(1,.pt 8001 0 0),(2,.pt 8002 0 0),(3,Z01 all),(5,int 0)],[(8002,.box 82 [int 0,int 0,u64 0]),(8001,.box 28 h.cells)],60⟩) .nrm (Tg.st ⟨tm 89 [(2,.pt 8002 0 0)],[(8002,.box 82 [int 0,int 0,u64 0])],60⟩) := by
 refine Z0d (S := fun k => (Zev h all k).st) all.length (by kernel_rfl) (fun k hk => ZaZ h all k hw hl (hr _ (getD_mem_iff.2 ⟨k,hk,rfl⟩)) hk ?_) (Zjg h all)
 have := List.find?_eq_none.1 hb k (List.mem_range.2 hk)
 simpa using this
theorem ZfC (i k : Nat) (hb : (List.range all.length).find? (fun i => (Z21 h all i).isSome) = some i) (hk' : Z21 h all i = some k) : CSpec Tryz.prog (blkF Tryz.f82 0) (Tg.st ⟨tm 89 [(1,.pt 8001 0 0),(2,.pt 8002 0 0),(3,Z01 all),(5,int 0)],[(8002,.box 82 [int 0,int 0,u64 0]),(8001,.box 28 h.cells)],60⟩) .ret (Tg.st ⟨tm 89 [(2,.pt 8002 0 0)],[(8002,.box 82 [int 6,int (ofA h.conf (all.getD i default + 1 + k)).1,u64 (all.getD i default + 1 + k)])],60⟩) := by
 obtain ⟨h1,h2,h3⟩ := List.find?_range_eq_some.1 hb
 have h2 := List.mem_range.1 h2
 refine Z0T (S := fun k => (Zev h all k).st) i (by kernel_rfl) (fun m hm' => ZaZ h all m hw hl (hr _ (getD_mem_iff.2 ⟨m,by omega,rfl⟩)) (by omega) ?_) (ZeM h all i hw hl (hr _ (getD_mem_iff.2 ⟨i,h2,rfl⟩)) h2 k hk')
 have := h3 m hm'
 simpa using this
end
theorem Z4k (h : Heap) (hw : WOk h.words) : GSpec Tryz.prog 82 [h.av] true (Z0U h (Z03 h).1).av [] := by
 have hl := Z2l h
 have hr := Z57 h
 cases hb : (List.range (Z03 h).1.length).find? (fun i => (Z21 h (Z03 h).1 i).isSome) with
 | none =>
  have e : Z0U h (Z03 h).1 = ⟨0,0,0⟩ := by simp only [Z0U,hb]
  rw [e]
  exact gF [] Tryz.func82 [] (Fc 17 (@Z1T h ‹_›) (Fu (@Zhm h ((Z03 h).fst) ‹_› (by omega) ‹_› ‹_›) Fz))
 | some i =>
  have h1 := (List.find?_range_eq_some.1 hb).1
  obtain ⟨k,hk⟩ := Option.isSome_iff_exists.1 h1
  have e : Z0U h (Z03 h).1 = ⟨6,(ofA h.conf ((Z03 h).1.getD i default + 1 + (k : Nat))).1,(Z03 h).1.getD i default + 1 + (k : Nat)⟩ := by simp only [Z0U,hb,hk,Option.getD_some]
  rw [e]
  exact gF [] Tryz.func82 [] (Fc 17 (@Z1T h ‹_›) (Fu (@ZfC h ((Z03 h).fst) ‹_› (by omega) ‹_› i k ‹_› ‹_›) Fz))
theorem ZhE (h : Heap) (hw : WOk h.words) (hp : Z02 h = false) : GSpec Tryz.prog 44 [h.av] true (Finding.mk 1 0 0).av [] := by
 exact gF [] Tryz.func44 [] (Fc 9 (@Z0m h) (Ftb 10 (!Z02 h) Fz))
def chkL (h : Heap) (i : Nat) : Tg := ⟨tm 65 [(1,.pt 8001 0 0),(2,.pt 8002 0 0),(3,int i)],[(8002,.box 82 [int 0,int 0,u64 0]),(8001,.box 28 h.cells)],60⟩
section
variable (h : Heap) (i : Nat) (hw : WOk h.words) (hp : Z02 h = true)
include hw hp
theorem Zd1 (hi : i < h.pages.length) (hb : (pageF h i).fault = 0) : CSpec Tryz.prog (rndF Tryz.f44 0) (chkL h i).st .nrm (chkL h (i + 1)).st := by
 have po := Z08 hp
 exact sF [] [] (Fl 15 Page.dv h.pages (Ftb 16 (decide ((↑i : Int) < (↑h.pages.length : Int))) (Fc 21 (@ZdB h i ‹_› ‹_› ‹_›) (Ffb 24 ((pageF h i).fault != 0) (Fx 18 i Fz)))))
theorem ZgY (hi : i < h.pages.length) (hb : (pageF h i).fault ≠ 0) : CSpec Tryz.prog (rndF Tryz.f44 0) (chkL h i).st .ret (Tg.st ⟨tm 65 [(2,.pt 8002 0 0)],[(8002,.box 82 [int (pageF h i).fault,int (pageF h i).page,u64 (pageF h i).addr])],60⟩) := by
 have po := Z08 hp
 exact sF [] [] (Fl 15 Page.dv h.pages (Ftb 16 (decide ((↑i : Int) < (↑h.pages.length : Int))) (Fc 21 (@ZdB h i ‹_› ‹_› ‹_›) (Ftb 24 ((pageF h i).fault != 0) Fz))))
end
theorem Zke (h : Heap) (hp : Z02 h = true) : CSpec Tryz.prog (rndF Tryz.f44 0) (chkL h h.pages.length).st (.ext 0) (Tg.st ⟨tm 65 [(1,.pt 8001 0 0),(2,.pt 8002 0 0)],[(8002,.box 82 [int 0,int 0,u64 0]),(8001,.box 28 h.cells)],60⟩) := by
 have po := Z08 hp
 exact sF [] [] (Fl 15 Page.dv h.pages (Ffb 16 (decide ((↑h.pages.length : Int) < (↑h.pages.length : Int))) Fz))
def Z56 (h : Heap) : Option Nat := (List.range h.pages.length).find? (fun i => decide ((pageF h i).fault ≠ 0))
section
variable (h : Heap) (hw : WOk h.words) (hp : Z02 h = true)
include hw hp
theorem ZbS (hb : Z56 h = none) : CSpec Tryz.prog (blkF Tryz.f44 0) (Tg.st ⟨tm 65 [(1,.pt 8001 0 0),(2,.pt 8002 0 0),(3,int 0)],[(8002,.box 82 [int 0,int 0,u64 0]),(8001,.box 28 h.cells)],60⟩) .nrm (Tg.st ⟨tm 65 [(1,.pt 8001 0 0),(2,.pt 8002 0 0)],[(8002,.box 82 [int 0,int 0,u64 0]),(8001,.box 28 h.cells)],60⟩) := by
 refine Z0d (S := fun k => (chkL h k).st) h.pages.length (by kernel_rfl) (fun k hk => Zd1 h k hw hp hk ?_) (Zke h hp)
 have := List.find?_eq_none.1 hb k (List.mem_range.2 hk)
 simpa using this
theorem Zht (i : Nat) (hb : Z56 h = some i) : CSpec Tryz.prog (blkF Tryz.f44 0) (Tg.st ⟨tm 65 [(1,.pt 8001 0 0),(2,.pt 8002 0 0),(3,int 0)],[(8002,.box 82 [int 0,int 0,u64 0]),(8001,.box 28 h.cells)],60⟩) .ret (Tg.st ⟨tm 65 [(2,.pt 8002 0 0)],[(8002,.box 82 [int (pageF h i).fault,int (pageF h i).page,u64 (pageF h i).addr])],60⟩) := by
 obtain ⟨h1,h2,h3⟩ := List.find?_range_eq_some.1 hb
 have h2 := List.mem_range.1 h2
 refine Z0T (S := fun k => (chkL h k).st) i (by kernel_rfl) (fun m hm' => Zd1 h m hw hp (by omega) ?_) (ZgY h i hw hp h2 (by simpa using h1))
 have := h3 m hm'
 simpa using this
end
theorem ZgC (h : Heap) (hw : WOk h.words) (hp : Z02 h = true) (i : Nat) (hb : Z56 h = some i) : GSpec Tryz.prog 44 [h.av] true (pageF h i).av [] := by
 exact gF [] Tryz.func44 [] (Fc 9 (@Z0m h) (Ffb 10 (!Z02 h) (Fu (@Zht h ‹_› ‹_› i ‹_›) Fz)))
theorem ZhD (h : Heap) (hw : WOk h.words) (hp : Z02 h = true) (hb : Z56 h = none) (hq : (Z0U h (Z03 h).1).fault ≠ 0) : GSpec Tryz.prog 44 [h.av] true (Z0U h (Z03 h).1).av [] := by
 exact gF [] Tryz.func44 [] (Fc 9 (@Z0m h) (Ffb 10 (!Z02 h) (Fu (@ZbS h ‹_› ‹_› ‹_›) (Fc 27 (@Z4k h ‹_›) (Ftb 30 ((Z0U h (Z03 h).fst).fault != 0) Fz)))))
structure Tape where
 l : List Int
 at' : Int
 deriving Inhabited
def Tape.b (t : Tape) : Blk := .box 37 [.d (.sl 1 (t.l.map idv)),int t.at']
def TOk (t : Tape) : Prop := t.l.length ≤ 140737488355328 ∧ 0 ≤ t.at' ∧ t.at' ≤ 1048576
def Tape.next (t : Tape) (n : Int) : Int := if n < 1 then 0 else (if t.at' < t.l.length then t.l.getD t.at'.toNat default else t.at' * 7 + 3) % n
def Tape.step (t : Tape) (n : Int) : Tape := if n < 1 then t else ⟨t.l,t.at' + 1⟩
theorem Z8O (v : Int) {n : Int} (h : 1 ≤ n) : -n < v.tmod n ∧ v.tmod n < n := by
 by_cases hv : 0 ≤ v
 ·rw [Int.tmod_eq_emod_of_nonneg hv]
  have := Int.emod_nonneg v (b := n) (by omega)
  have := Int.emod_lt_of_pos v (b := n) (by omega)
  omega
 ·have e : v.tmod n = -((-v).tmod n) := by rw [Int.neg_tmod]; omega
  rw [e,Int.tmod_eq_emod_of_nonneg (by omega)]
  have := Int.emod_nonneg (-v) (b := n) (by omega)
  have := Int.emod_lt_of_pos (-v) (b := n) (by omega)
  omega
theorem Zg2 (v : Int) {n : Int} (h : 1 ≤ n) : (v.tmod n + n).tmod n = v % n := by
 have hr := Z8O v h
 rw [Int.tmod_eq_emod_of_nonneg (by omega),Int.add_emod_right]
 by_cases hv : 0 ≤ v
 ·rw [Int.tmod_eq_emod_of_nonneg hv,Int.emod_emod]
 ·have e : v = n * v.tdiv n + v.tmod n := (Int.mul_tdiv_add_tmod v n).symm
  conv => rhs; rw [e]
  rw [Int.mul_add_emod_self_left]
theorem Z0z (t : Tape) (n : Int) (ht : TOk t) (hn : n ≤ 1099511627776) (hn0 : -1099511627776 ≤ n) : LentSpec Tryz.prog 33 [.pt 0 0 0,int n] [t.b] (int (t.next n)) [(t.step n).b] := by
 unfold TOk at ht
 have h1 := fun h => Z8O (t.l.getD t.at'.toNat default) (n := n) h
 have h2 := fun h => Zg2 (t.l.getD t.at'.toNat default) (n := n) h
 have h3 : 1 ≤ n → 0 ≤ (t.at' * 7 + 3) % n ∧ (t.at' * 7 + 3) % n < n := fun h => ⟨Int.emod_nonneg _ (by omega),Int.emod_lt_of_pos _ (by omega)⟩
 have h4 : ((t.at' * 7 + 3) % n + n) % n = (t.at' * 7 + 3) % n := by rw [Int.add_emod_right,Int.emod_emod]
 rcases bb (decide (n < 1)) with hc0 | hc0<;>have hc0p:=hc0<;>simp only [bs] at hc0p
 ·exact lF Tryz.func33 [true,true] (Ft 7 hc0 (Fa (by simp [Tape.next,Tape.step, *] : 0 =t.next n) (Fr (37 : Int) (Fa (by refine congrArg _ ?_; simp [Tape.next,Tape.step, *] : List.map idv t.l =List.map idv (t.step n).l) (Fa (by simp [Tape.next,Tape.step, *] : t.at' = (t.step n).at') Fz)))))
 ·have Q0 {h_ c_ p_} (r_ : Fq h_ c_ p_) := Ff 7 hc0 (Fi 12 (t.at' * 7) (Fi 13 (t.at' * (7 :Int) + 3) (Fl 22 idv t.l r_)))
  rcases bb (decide (t.at' < (↑t.l.length : Int))) with hc1 | hc1<;>have hc1p:=hc1<;>simp only [bs] at hc1p
  ·exact lF Tryz.func33 [true,true] (Q0 (Ft 23 hc1 (Fe 32 idv t.l t.at' (Fi 38 (t.at' + 1) (Fo (n ≠ 0) (Fi 45 ((t.l.getD t.at'.toNat default).tmod n + n) (Fg 47 (by exact Int.tmod_eq_emod_of_nonneg (by omega) : ((t.l.getD t.at'.toNat default).tmod n + n).tmod n =((t.l.getD t.at'.toNat default).tmod n + n) % n) (Fo (n ≠ 0) (Fa (by grind [Tape.next,Tape.step] : ((t.l.getD t.at'.toNat default).tmod n + n) % n =t.next n) (Fr (37 : Int) (Fa (by refine congrArg _ ?_; simp [Tape.next,Tape.step, *] : List.map idv t.l =List.map idv (t.step n).l) (Fa (by simp [Tape.next,Tape.step, *] : t.at' + 1 =(t.step n).at') Fz))))))))))))
  ·exact lF Tryz.func33 [true,true] (Q0 (Ff 23 hc1 (Fi 38 (t.at' + 1) (Fg 43 (by exact Int.tmod_eq_emod_of_nonneg (by omega) : (t.at' * (7 :Int) + 3).tmod n =(t.at' * (7 :Int) + 3) % n) (Fo (n ≠ 0) (Fi 45 ((t.at' * (7 :Int) + 3) % n + n) (Fg 47 (by exact Int.tmod_eq_emod_of_nonneg (by omega) : ((t.at' * (7 :Int) + 3) % n + n).tmod n =((t.at' * (7 :Int) + 3) % n + n) % n) (Fo (n ≠ 0) (Fa (by simp [Tape.next,Tape.step, *] : ((t.at' * (7 :Int) + 3) % n + n) % n =t.next n) (Fr (37 : Int) (Fa (by refine congrArg _ ?_; simp [Tape.next,Tape.step, *] : List.map idv t.l =List.map idv (t.step n).l) (Fa (by simp [Tape.next,Tape.step, *] : t.at' + 1 =(t.step n).at') Fz))))))))))))
theorem Z6w (t : Tape) (ht : TOk t) : LentSpec Tryz.prog 30 [.pt 0 0 0] [t.b] (bool (decide ((t.l.length : Int) ≤ t.at'))) [t.b] := by
 exact lF Tryz.func30 [] (Fl 11 idv t.l Fz)
def Tape.conf (t : Tape) : Conf := ⟨[16,16,20,32].getD (t.next 4).toNat default,[8,12,16,20,24].getD ((t.step 4).next 5).toNat default⟩
theorem Z0A (t : Tape) {n : Int} (h : 1 ≤ n) : 0 ≤ t.next n ∧ t.next n < n := by
 unfold Tape.next
 rw [if_neg (by omega)]
 exact ⟨Int.emod_nonneg _ (by omega),Int.emod_lt_of_pos _ (by omega)⟩
theorem step_ok {t : Tape} (ht : TOk t) (n : Int) (h : t.at' < 1048576) : TOk (t.step n) := by
 unfold TOk at ht ⊢
 unfold Tape.step
 split
 ·exact ht
 ·simp only; omega
theorem ZhZ (t : Tape) (ht : TOk t) (ha : t.at' ≤ 1000000) : LentSpec Tryz.prog 62 [.pt 0 0 0] [t.b] (t.conf.av) [((t.step 4).step 5).b] := by
 have h1 := Z0A t (n := 4) (by decide)
 have h2 := Z0A (t.step 4) (n := 5) (by decide)
 have h3 := step_ok ht 4 (by omega)
 exact lF Tryz.func62 [] (Fh 7 [.el (idv ([16,16,20,32].getD (t.next 4).toNat default))] (Fh 12 [.el (idv ([8,12,16,20,24].getD ((t.step 4).next 5).toNat default))] (Fs 3 (List.map idv [16,16,20,32]) (Fp 5 (@Z0z t (4) ‹_› (by omega) (by omega)) (Fa (by simp [Tape.conf, *] : 0≤t.next 4∧(t.next 4).toNat < (List.map idv [16,16,20,32]).length) (Fa (by grind [Tape.conf] : (List.map idv [16,16,20,32])[(t.next 4).toNat]? = some (idv ([16,16,20,32].getD (t.next 4).toNat default))) (Fs 8 (List.map idv [8,12,16,20,24]) (Fp 10 (@Z0z (t.step 4) (5) ‹_› (by omega) (by omega)) (Fa (by simp [Tape.conf, *] : 0≤(t.step 4).next 5∧((t.step 4).next 5).toNat < (List.map idv [8,12,16,20,24]).length) (Fa (by grind [Tape.conf] : (List.map idv [8,12,16,20,24])[((t.step 4).next 5).toNat]? = some (idv ([8,12,16,20,24].getD ((t.step 4).next 5).toNat default))) Fz))))))))))
structure WorldM where
 heap : Heap
 strong : List Int
 weak : List Int
 deriving Inhabited
def WorldM.cells (w : WorldM) : List AV := w.heap.cells ++ [Z01 w.strong,Z01 w.weak]
def WorldM.av (w : WorldM) : AV := .ag w.cells
theorem Z2s (t : Tape) : Z07 t.conf = true := by
 have h1 := Z0A t (n := 4) (by decide)
 have h2 := Z0A (t.step 4) (n := 5) (by decide)
 unfold Tape.conf
 generalize t.next 4 = a at h1
 generalize (t.step 4).next 5 = b at h2
 have ha : a = 0 ∨ a = 1 ∨ a = 2 ∨ a = 3 := by omega
 have hb : b = 0 ∨ b = 1 ∨ b = 2 ∨ b = 3 ∨ b = 4 := by omega
 rcases ha with rfl | rfl | rfl | rfl <;> rcases hb with rfl | rfl | rfl | rfl | rfl <;> decide
theorem Z3o {t : Tape} (n : Int) : t.at' ≤ (t.step n).at' ∧ (t.step n).at' ≤ t.at' + 1 ∧ (t.step n).l = t.l := by
 unfold Tape.step
 split
 ·exact ⟨by omega,by omega,rfl⟩
 ·exact ⟨by simp only; omega,by simp only; omega,rfl⟩
theorem Z4c {t u : Tape} (ht : TOk t) (hl : u.l = t.l) (h1 : t.at' ≤ u.at') (h2 : u.at' ≤ 1048576) : TOk u := by
 unfold TOk at ht ⊢
 rw [hl]; omega
def Tape.empty (t : Tape) : WorldM := ⟨Z1Q t.conf,[],[]⟩
theorem Zan (t : Tape) (ht : TOk t) (ha : t.at' ≤ 1000000) : LentSpec Tryz.prog 29 [.pt 0 0 0] [t.b] (t.empty.av) [((t.step 4).step 5).b] := by
 have hv := Z2s t
 exact lF Tryz.func29 [] (Fp 7 (@ZhZ t ‹_› ‹_›) (Fc 8 (@Zgd t.conf ‹_›) (Fnl (Fnl Fz))))
def hdr1 (t : Tape) (c : Conf) : Int := if (t.step (Z00 c)).next 12 = 0 then Z00 c + ((t.step (Z00 c)).step 12).next c.pw else t.next (Z00 c)
def Z1y (t : Tape) (c : Conf) : Tape := if (t.step (Z00 c)).next 12 = 0 then ((t.step (Z00 c)).step 12).step c.pw else (t.step (Z00 c)).step 12
def Tape.header (t : Tape) (c : Conf) : Header := if (Z1y t c).next 4 = 0 then ⟨2,hdr1 t c,0⟩ else if (Z1y t c).next 4 = 1 then ⟨3,hdr1 t c,0⟩ else ⟨1,min (hdr1 t c) 32,((Z1y t c).step 4).next (2 ^ (min (min (hdr1 t c) 32) 12).toNat)⟩
def Tape.headerT (t : Tape) (c : Conf) : Tape := if (Z1y t c).next 4 = 0 then (Z1y t c).step 4 else if (Z1y t c).next 4 = 1 then (Z1y t c).step 4 else ((Z1y t c).step 4).step (2 ^ (min (min (hdr1 t c) 32) 12).toNat)
theorem Zh9 {n : Int} (h : n ≤ 12) : (1 : Int) ≤ 2 ^ n.toNat ∧ (2 : Int) ^ n.toNat ≤ 4096 := by
 have : n.toNat ≤ 12 := by omega
 generalize n.toNat = k at this
 have hk : k ∈ List.range 13 := List.mem_range.2 (by omega)
 revert k
 decide +kernel
theorem Zit {n : Int} (h : 0 ≤ n) : 1 * 2 ^ min (min (min n 32) 12).toNat 64 = (2 : Int) ^ (min (min n 32) 12).toNat := by
 rw [Nat.min_eq_left (by omega),Int.one_mul]
theorem Z2E (t : Tape) (c : Conf) (ht : TOk t) (ha : t.at' ≤ 1000000) (hv : Z07 c = true) : LentSpec Tryz.prog 9 [.pt 0 0 0,c.av] [t.b] ((t.header c).av) [(t.headerT c).b] := by
 have hb := validB_iff.1 hv
 have hs := Z1S hv
 have s1 := Z3o (t := t) (Z00 c)
 have s2 := Z3o (t := t.step (Z00 c)) 12
 have s3 := Z3o (t := (t.step (Z00 c)).step 12) c.pw
 have k1 := Z4c ht s1.2.2 (by omega) (by omega)
 have k2 := Z4c k1 s2.2.2 (by omega) (by omega)
 have k3 := Z4c k2 s3.2.2 (by omega) (by omega)
 have n1 := Z0A t (n := Z00 c) (by omega)
 have n2 := Z0A ((t.step (Z00 c)).step 12) (n := c.pw) (by omega)
 have h1 : 0 ≤ hdr1 t c ∧ hdr1 t c ≤ 80 := by unfold hdr1; split <;> omega
 have s4 := Z3o (t := ((t.step (Z00 c)).step 12).step c.pw) 4
 have s5 := Z3o (t := (t.step (Z00 c)).step 12) 4
 have k4 := Z4c k3 s4.2.2 (by omega) (by omega)
 have k5 := Z4c k2 s5.2.2 (by omega) (by omega)
 have ei1 := Zit (n := Z00 c + ((t.step (Z00 c)).step 12).next c.pw) (by omega)
 have ei2 := Zit (n := t.next (Z00 c)) (by omega)
 have p1 := Zh9 (n := min (min (Z00 c + ((t.step (Z00 c)).step 12).next c.pw) 32) 12) (by omega)
 have p2 := Zh9 (n := min (min (t.next (Z00 c)) 32) 12) (by omega)
 have r1 := Z0A ((((t.step (Z00 c)).step 12).step c.pw).step 4) (n := 2 ^ (min (min (Z00 c + ((t.step (Z00 c)).step 12).next c.pw) 32) 12).toNat) (by omega)
 have r2 := Z0A (((t.step (Z00 c)).step 12).step 4) (n := 2 ^ (min (min (t.next (Z00 c)) 32) 12).toNat) (by omega)
 have Q0 {h_ c_ p_} (r_ : Fq h_ c_ p_) := Fc 8 (@Z14 c) (Fp 11 (@Z0z t (Z00 c) ‹_› (by omega) (by omega)) (Fp 13 (@Z0z (t.step (Z00 c)) (12) ‹_› (by omega) (by omega)) r_))
 rcases bb ((t.step (Z00 c)).next (12 :Int) == 0) with hc0 | hc0<;>have hc0p:=hc0<;>simp only [bs] at hc0p
 ·have Q1 {h_ c_ p_} (r_ : Fq h_ c_ p_) := Q0 (Ft 14 hc0 (Fp 19 (@Z0z ((t.step (Z00 c)).step 12) c.pw ‹_› (by omega) (by omega)) (Fi 20 (Z00 c + ((t.step (Z00 c)).step 12).next c.pw) (Fp 22 (@Z0z (((t.step (Z00 c)).step 12).step c.pw) (4) ‹_› (by omega) (by omega)) r_))))
  rcases bb ((((t.step (Z00 c)).step 12).step c.pw).next (4 :Int) == 0) with hc1 | hc1<;>have hc1p:=hc1<;>simp only [bs] at hc1p
  ·exact lF Tryz.func9 [true,true] (Fh 23 [.br true] (Q1 (Fa hc1 (Fa (by (simp only [Tape.header,Tape.headerT,hdr1,Z1y]; (repeat' split) <;> first | rfl | omega | (exfalso; omega) | simp_all) : 2 =(t.header c).kind) (Fa (by (simp only [Tape.header,Tape.headerT,hdr1,Z1y]; (repeat' split) <;> first | rfl | omega | (exfalso; omega) | simp_all) : Z00 c + ((t.step (Z00 c)).step 12).next c.pw =(t.header c).length) (Fa (by (simp only [Tape.header,Tape.headerT,hdr1,Z1y]; (repeat' split) <;> first | rfl | omega | (exfalso; omega) | simp_all) : 0 =(t.header c).map) (Fr (37 : Int) (Fa (by refine congrArg _ ?_; (simp only [Tape.header,Tape.headerT,hdr1,Z1y]; (repeat' split) <;> first | rfl | omega | (exfalso; omega) | simp_all) : List.map idv ((((t.step (Z00 c)).step 12).step c.pw).step 4).l =List.map idv (t.headerT c).l) (Fa (by (simp only [Tape.header,Tape.headerT,hdr1,Z1y]; (repeat' split) <;> first | rfl | omega | (exfalso; omega) | simp_all) : ((((t.step (Z00 c)).step 12).step c.pw).step 4).at' = (t.headerT c).at') Fz)))))))))
  ·rcases bb ((((t.step (Z00 c)).step 12).step c.pw).next (4 :Int) == 1) with hc2 | hc2<;>have hc2p:=hc2<;>simp only [bs] at hc2p
   ·exact lF Tryz.func9 [true,true] (Fh 23 [.br false] (Fh 27 [.br true] (Q1 (Fa hc1 (Fa hc2 (Fa (by (simp only [Tape.header,Tape.headerT,hdr1,Z1y]; (repeat' split) <;> first | rfl | omega | (exfalso; omega) | simp_all) : 3 =(t.header c).kind) (Fa (by (simp only [Tape.header,Tape.headerT,hdr1,Z1y]; (repeat' split) <;> first | rfl | omega | (exfalso; omega) | simp_all) : Z00 c + ((t.step (Z00 c)).step 12).next c.pw =(t.header c).length) (Fa (by (simp only [Tape.header,Tape.headerT,hdr1,Z1y]; (repeat' split) <;> first | rfl | omega | (exfalso; omega) | simp_all) : 0 =(t.header c).map) (Fr (37 : Int) (Fa (by refine congrArg _ ?_; (simp only [Tape.header,Tape.headerT,hdr1,Z1y]; (repeat' split) <;> first | rfl | omega | (exfalso; omega) | simp_all) : List.map idv ((((t.step (Z00 c)).step 12).step c.pw).step 4).l =List.map idv (t.headerT c).l) (Fa (by (simp only [Tape.header,Tape.headerT,hdr1,Z1y]; (repeat' split) <;> first | rfl | omega | (exfalso; omega) | simp_all) : ((((t.step (Z00 c)).step 12).step c.pw).step 4).at' = (t.headerT c).at') Fz)))))))))))
   ·exact lF Tryz.func9 [true,true] (Fh 23 [.br false] (Fh 27 [.br false] (Q1 (Fa hc1 (Fa hc2 (Fgo 32 (if 32 < Z00 c + ((t.step (Z00 c)).step 12).next c.pw then 32 else Z00 c + ((t.step (Z00 c)).step 12).next c.pw) (min (Z00 c + ((t.step (Z00 c)).step 12).next c.pw) 32) (Fgo 36 (if 12 < min (Z00 c + ((t.step (Z00 c)).step 12).next c.pw) 32 then 12 else min (Z00 c + ((t.step (Z00 c)).step 12).next c.pw) 32) (min (min (Z00 c + ((t.step (Z00 c)).step 12).next c.pw) 32) 12) (Fv 37 (min (min (Z00 c + ((t.step (Z00 c)).step 12).next c.pw) 32) 12) (Fg 38 (by rw [wrapI' (by omega) (by omega)]; omega : IntKind.i64.wrap ((1 :Int) * 2 ^ min (min (min (Z00 c + ((t.step (Z00 c)).step 12).next c.pw) 32) 12).toNat 64) =2 ^ (min (min (Z00 c + ((t.step (Z00 c)).step 12).next c.pw) 32) 12).toNat) (Fo (0≤min (min (Z00 c + ((t.step (Z00 c)).step 12).next c.pw) 32) 12) (Fp 39 (@Z0z ((((t.step (Z00 c)).step 12).step c.pw).step 4) (2 ^ (min (min (Z00 c + ((t.step (Z00 c)).step 12).next c.pw) 32) 12).toNat) ‹_› (by omega) (by omega)) (Fg 40 (by exact ZfV (by omega) (by omega) : IntKind.u32.wrap (((((t.step (Z00 c)).step 12).step c.pw).step 4).next (2 ^ (min (min (Z00 c + ((t.step (Z00 c)).step 12).next c.pw) 32) 12).toNat)) =((((t.step (Z00 c)).step 12).step c.pw).step 4).next (2 ^ (min (min (Z00 c + ((t.step (Z00 c)).step 12).next c.pw) 32) 12).toNat)) (Fa (by (simp only [Tape.header,Tape.headerT,hdr1,Z1y]; (repeat' split) <;> first | rfl | omega | (exfalso; omega) | simp_all) : 1 =(t.header c).kind) (Fa (by (simp only [Tape.header,Tape.headerT,hdr1,Z1y]; (repeat' split) <;> first | rfl | omega | (exfalso; omega) | simp_all) : min (Z00 c + ((t.step (Z00 c)).step 12).next c.pw) 32 =(t.header c).length) (Fa (by (simp only [Tape.header,Tape.headerT,hdr1,Z1y]; (repeat' split) <;> first | rfl | omega | (exfalso; omega) | simp_all) : ((((t.step (Z00 c)).step 12).step c.pw).step 4).next (2 ^ (min (min (Z00 c + ((t.step (Z00 c)).step 12).next c.pw) 32) 12).toNat) =(t.header c).map) (Fr (37 : Int) (Fa (by refine congrArg _ ?_; (simp only [Tape.header,Tape.headerT,hdr1,Z1y]; (repeat' split) <;> first | rfl | omega | (exfalso; omega) | simp_all) : List.map idv (((((t.step (Z00 c)).step 12).step c.pw).step 4).step (2 ^ (min (min (Z00 c + ((t.step (Z00 c)).step 12).next c.pw) 32) 12).toNat)).l =List.map idv (t.headerT c).l) (Fa (by (simp only [Tape.header,Tape.headerT,hdr1,Z1y]; (repeat' split) <;> first | rfl | omega | (exfalso; omega) | simp_all) : (((((t.step (Z00 c)).step 12).step c.pw).step 4).step (2 ^ (min (min (Z00 c + ((t.step (Z00 c)).step 12).next c.pw) 32) 12).toNat)).at' = (t.headerT c).at') Fz))))))))))))))))))
 ·have Q2 {h_ c_ p_} (r_ : Fq h_ c_ p_) := Q0 (Ff 14 hc0 (Fp 22 (@Z0z ((t.step (Z00 c)).step 12) (4) ‹_› (by omega) (by omega)) r_))
  rcases bb (((t.step (Z00 c)).step 12).next (4 :Int) == 0) with hc3 | hc3<;>have hc3p:=hc3<;>simp only [bs] at hc3p
  ·exact lF Tryz.func9 [true,true] (Fh 23 [.br true] (Q2 (Fa hc3 (Fa (by (simp only [Tape.header,Tape.headerT,hdr1,Z1y]; (repeat' split) <;> first | rfl | omega | (exfalso; omega) | simp_all) : 2 =(t.header c).kind) (Fa (by (simp only [Tape.header,Tape.headerT,hdr1,Z1y]; (repeat' split) <;> first | rfl | omega | (exfalso; omega) | simp_all) : t.next (Z00 c) =(t.header c).length) (Fa (by (simp only [Tape.header,Tape.headerT,hdr1,Z1y]; (repeat' split) <;> first | rfl | omega | (exfalso; omega) | simp_all) : 0 =(t.header c).map) (Fr (37 : Int) (Fa (by refine congrArg _ ?_; (simp only [Tape.header,Tape.headerT,hdr1,Z1y]; (repeat' split) <;> first | rfl | omega | (exfalso; omega) | simp_all) : List.map idv (((t.step (Z00 c)).step 12).step 4).l =List.map idv (t.headerT c).l) (Fa (by (simp only [Tape.header,Tape.headerT,hdr1,Z1y]; (repeat' split) <;> first | rfl | omega | (exfalso; omega) | simp_all) : (((t.step (Z00 c)).step 12).step 4).at' = (t.headerT c).at') Fz)))))))))
  ·rcases bb (((t.step (Z00 c)).step 12).next (4 :Int) == 1) with hc4 | hc4<;>have hc4p:=hc4<;>simp only [bs] at hc4p
   ·exact lF Tryz.func9 [true,true] (Fh 23 [.br false] (Fh 27 [.br true] (Q2 (Fa hc3 (Fa hc4 (Fa (by (simp only [Tape.header,Tape.headerT,hdr1,Z1y]; (repeat' split) <;> first | rfl | omega | (exfalso; omega) | simp_all) : 3 =(t.header c).kind) (Fa (by (simp only [Tape.header,Tape.headerT,hdr1,Z1y]; (repeat' split) <;> first | rfl | omega | (exfalso; omega) | simp_all) : t.next (Z00 c) =(t.header c).length) (Fa (by (simp only [Tape.header,Tape.headerT,hdr1,Z1y]; (repeat' split) <;> first | rfl | omega | (exfalso; omega) | simp_all) : 0 =(t.header c).map) (Fr (37 : Int) (Fa (by refine congrArg _ ?_; (simp only [Tape.header,Tape.headerT,hdr1,Z1y]; (repeat' split) <;> first | rfl | omega | (exfalso; omega) | simp_all) : List.map idv (((t.step (Z00 c)).step 12).step 4).l =List.map idv (t.headerT c).l) (Fa (by (simp only [Tape.header,Tape.headerT,hdr1,Z1y]; (repeat' split) <;> first | rfl | omega | (exfalso; omega) | simp_all) : (((t.step (Z00 c)).step 12).step 4).at' = (t.headerT c).at') Fz)))))))))))
   ·exact lF Tryz.func9 [true,true] (Fh 23 [.br false] (Fh 27 [.br false] (Q2 (Fa hc3 (Fa hc4 (Fgo 32 (if 32 < t.next (Z00 c) then 32 else t.next (Z00 c)) (min (t.next (Z00 c)) 32) (Fgo 36 (if 12 < min (t.next (Z00 c)) 32 then 12 else min (t.next (Z00 c)) 32) (min (min (t.next (Z00 c)) 32) 12) (Fv 37 (min (min (t.next (Z00 c)) 32) 12) (Fg 38 (by rw [wrapI' (by omega) (by omega)]; omega : IntKind.i64.wrap ((1 :Int) * 2 ^ min (min (min (t.next (Z00 c)) 32) 12).toNat 64) =2 ^ (min (min (t.next (Z00 c)) 32) 12).toNat) (Fo (0≤min (min (t.next (Z00 c)) 32) 12) (Fp 39 (@Z0z (((t.step (Z00 c)).step 12).step 4) (2 ^ (min (min (t.next (Z00 c)) 32) 12).toNat) ‹_› (by omega) (by omega)) (Fg 40 (by exact ZfV (by omega) (by omega) : IntKind.u32.wrap ((((t.step (Z00 c)).step 12).step 4).next (2 ^ (min (min (t.next (Z00 c)) 32) 12).toNat)) =(((t.step (Z00 c)).step 12).step 4).next (2 ^ (min (min (t.next (Z00 c)) 32) 12).toNat)) (Fa (by (simp only [Tape.header,Tape.headerT,hdr1,Z1y]; (repeat' split) <;> first | rfl | omega | (exfalso; omega) | simp_all) : 1 =(t.header c).kind) (Fa (by (simp only [Tape.header,Tape.headerT,hdr1,Z1y]; (repeat' split) <;> first | rfl | omega | (exfalso; omega) | simp_all) : min (t.next (Z00 c)) 32 =(t.header c).length) (Fa (by (simp only [Tape.header,Tape.headerT,hdr1,Z1y]; (repeat' split) <;> first | rfl | omega | (exfalso; omega) | simp_all) : (((t.step (Z00 c)).step 12).step 4).next (2 ^ (min (min (t.next (Z00 c)) 32) 12).toNat) =(t.header c).map) (Fr (37 : Int) (Fa (by refine congrArg _ ?_; (simp only [Tape.header,Tape.headerT,hdr1,Z1y]; (repeat' split) <;> first | rfl | omega | (exfalso; omega) | simp_all) : List.map idv ((((t.step (Z00 c)).step 12).step 4).step (2 ^ (min (min (t.next (Z00 c)) 32) 12).toNat)).l =List.map idv (t.headerT c).l) (Fa (by (simp only [Tape.header,Tape.headerT,hdr1,Z1y]; (repeat' split) <;> first | rfl | omega | (exfalso; omega) | simp_all) : ((((t.step (Z00 c)).step 12).step 4).step (2 ^ (min (min (t.next (Z00 c)) 32) 12).toNat)).at' = (t.headerT c).at') Fz))))))))))))))))))
abbrev sA (w : WorldM) (t : Tape) : Tape := (t.step (↑w.heap.words.length : Int)).step (↑w.heap.pages.length : Int)
abbrev sB (w : WorldM) (t : Tape) : Tape := (sA w t).step 12
abbrev sC (w : WorldM) (t : Tape) : Int := (t.step (↑w.heap.words.length : Int)).next (↑w.heap.pages.length : Int)
def ULe (l : List Int) : Prop := ∀ x ∈ l,0 ≤ x ∧ x ≤ 18446744073709551615
structure WMok (w : WorldM) : Prop where
 words : WOk w.heap.words
 strong : ULe w.strong
 weak : ULe w.weak
 sl : w.strong.length ≤ 1048576
 wl : w.weak.length ≤ 1048576
def WorldM.refs (w : WorldM) : List Int := 0 :: (w.strong ++ w.weak)
def WorldM.pick (w : WorldM) (t : Tape) : Int := w.refs.getD (t.next (w.refs.length : Int)).toNat default
def WorldM.pickT (w : WorldM) (t : Tape) : Tape := t.step (w.refs.length : Int)
theorem Z1V (w : WorldM) (t : Tape) (hw : WMok w) (ht : TOk t) (ha : t.at' ≤ 1040000) : LentSpec Tryz.prog 68 [w.av,.pt 0 0 0] [t.b] (u64 (w.pick t)) [(w.pickT t).b] := by
 have h1 := hw.sl
 have h2 := hw.wl
 have hl : w.refs.length = w.strong.length + w.weak.length + 1 := by simp [WorldM.refs]
 have hn := Z0A t (n := (w.refs.length : Int)) (by omega)
 exact lF Tryz.func68 [true,true] (Fh 12 [.els (List.map wdv ([0] ++ w.strong ++ w.weak))] (Fh 19 [.el (wdv (([0] ++ w.strong ++ w.weak).getD (t.next (↑(0 + 1 + w.strong.length + w.weak.length) : Int)).toNat default))] (Fs 6 (List.map wdv [0]) (Fa (by (simp [WorldM.pick,WorldM.refs,WorldM.pickT, *]; omega) : (List.map wdv [0]).length + (List.map wdv w.strong).length≤2 ^ 30) (Fs 9 (List.map wdv ([0] ++ w.strong)) (Fa (by (simp [WorldM.pick,WorldM.refs,WorldM.pickT, *]; omega) : (List.map wdv ([0] ++ w.strong)).length + (List.map wdv w.weak).length≤2 ^ 30) (Fa (by simp [WorldM.pick,WorldM.refs,WorldM.pickT,List.map_take,List.map_drop,List.map_set,List.map_append,wdv,idv] : List.map wdv ([0] ++ w.strong) ++ List.map wdv w.weak =List.map wdv ([0] ++ w.strong ++ w.weak)) (Fg 16 (by simp only [List.length_map,List.length_append,List.length_take,List.length_drop,List.length_set,List.length_replicate,List.length_nil,List.length_cons] : (↑(List.map wdv ([0] ++ w.strong ++ w.weak)).length : Int) =(↑(0 + 1 + w.strong.length + w.weak.length) : Int)) (Fp 17 (@Z0z t ((↑(0 + 1 + w.strong.length + w.weak.length) : Int)) ‹_› (by omega) (by omega)) (Fa (by grind [WorldM.pick,WorldM.refs,WorldM.pickT] : 0≤t.next (↑(0 + 1 + w.strong.length + w.weak.length) : Int)∧(t.next (↑(0 + 1 + w.strong.length + w.weak.length) : Int)).toNat < (List.map wdv ([0] ++ w.strong ++ w.weak)).length) (Fa (by grind [WorldM.pick,WorldM.refs,WorldM.pickT] : (List.map wdv ([0] ++ w.strong ++ w.weak))[(t.next (↑(0 + 1 + w.strong.length + w.weak.length) : Int)).toNat]? = some (wdv (([0] ++ w.strong ++ w.weak).getD (t.next (↑(0 + 1 + w.strong.length + w.weak.length) : Int)).toNat default))) (Fa (by grind [WorldM.pick,WorldM.refs,WorldM.pickT] : ([0] ++ w.strong ++ w.weak).getD (t.next (↑(0 + 1 + w.strong.length + w.weak.length) : Int)).toNat default =w.pick t) (Fr (37 : Int) (Fa (by refine congrArg _ ?_; grind [WorldM.pick,WorldM.refs,WorldM.pickT] : List.map idv (t.step (↑(0 + 1 + w.strong.length + w.weak.length) : Int)).l =List.map idv (w.pickT t).l) (Fa (by grind [WorldM.pick,WorldM.refs,WorldM.pickT] : (t.step (↑(0 + 1 + w.strong.length + w.weak.length) : Int)).at' = (w.pickT t).at') Fz)))))))))))))))
def WorldM.put (w : WorldM) (hd : Header) : WorldM := if (new7 w.heap hd).2.2 = 0 then ⟨(new7 w.heap hd).1,w.strong ++ [(new7 w.heap hd).2.1],w.weak⟩ else w
theorem Z6J (w : WorldM) (hd : Header) (hw : WMok w) (hm : 0 ≤ hd.map ∧ hd.map ≤ 4294967295) : GSpec Tryz.prog 63 [w.av,hd.av] false (w.put hd).av [] := by
 have h0 := hw.words
 have h1 := hw.sl
 have Q0 {h_ c_ p_} (r_ : Fq h_ c_ p_) := Fc 12 (@Zfq w.heap hd ‹_› ‹_›) r_
 rcases bb ((new7 w.heap hd).snd.snd == 0) with hc0 | hc0<;>have hc0p:=hc0<;>simp only [bs] at hc0p
 ·exact gF [] Tryz.func63 [true] (Fh 25 [.els (List.map wdv (w.strong ++ [(new7 w.heap hd).snd.fst]))] (Q0 (Ft 17 hc0 (Fs 19 (List.map wdv []) (Fa (by (simp [WorldM.put, *]; omega) : (List.map wdv []).length + (List.map wdv w.strong).length≤2 ^ 30) (Fs 22 (List.map wdv w.strong) (Fs 24 (List.map wdv [(new7 w.heap hd).snd.fst]) (Fa (by (simp [WorldM.put, *]; omega) : (List.map wdv w.strong).length + (List.map wdv [(new7 w.heap hd).snd.fst]).length≤2 ^ 30) (Fa (by simp [WorldM.put,List.map_take,List.map_drop,List.map_set,List.map_append,wdv,idv] : List.map wdv w.strong ++ List.map wdv [(new7 w.heap hd).snd.fst] =List.map wdv (w.strong ++ [(new7 w.heap hd).snd.fst])) (Fa (by simp [WorldM.put, *] : (new7 w.heap hd).fst.conf.pw =(w.put hd).heap.conf.pw) (Fa (by simp [WorldM.put, *] : (new7 w.heap hd).fst.conf.pg =(w.put hd).heap.conf.pg) (Fa (by refine congrArg _ ?_; simp [WorldM.put, *] : List.map wdv (new7 w.heap hd).fst.words =List.map wdv (w.put hd).heap.words) (Fa (by refine congrArg _ ?_; simp [WorldM.put, *] : List.map Page.dv (new7 w.heap hd).fst.pages =List.map Page.dv (w.put hd).heap.pages) (Fa (by simp [WorldM.put, *] : (new7 w.heap hd).fst.space =(w.put hd).heap.space) (Fa (by simp [WorldM.put, *] : (new7 w.heap hd).fst.bump =(w.put hd).heap.bump) (Fa (by refine congrArg _ ?_; simp [WorldM.put, *] : List.map wdv (w.strong ++ [(new7 w.heap hd).snd.fst]) =List.map wdv (w.put hd).strong) (Fa (by refine congrArg _ ?_; simp [WorldM.put, *] : List.map wdv w.weak =List.map wdv (w.put hd).weak) Fz)))))))))))))))))
 ·exact gF [] Tryz.func63 [true] (Q0 (Ff 17 hc0 (Fa (by simp [WorldM.put, *] : w.heap.conf.pw =(w.put hd).heap.conf.pw) (Fa (by simp [WorldM.put, *] : w.heap.conf.pg =(w.put hd).heap.conf.pg) (Fa (by refine congrArg _ ?_; simp [WorldM.put, *] : List.map wdv w.heap.words =List.map wdv (w.put hd).heap.words) (Fa (by refine congrArg _ ?_; simp [WorldM.put, *] : List.map Page.dv w.heap.pages =List.map Page.dv (w.put hd).heap.pages) (Fa (by simp [WorldM.put, *] : w.heap.space =(w.put hd).heap.space) (Fa (by simp [WorldM.put, *] : w.heap.bump =(w.put hd).heap.bump) (Fa (by refine congrArg _ ?_; simp [WorldM.put, *] : List.map wdv w.strong =List.map wdv (w.put hd).strong) (Fa (by refine congrArg _ ?_; simp [WorldM.put, *] : List.map wdv w.weak =List.map wdv (w.put hd).weak) Fz))))))))))
abbrev pA (w : WorldM) (t : Tape) : Page := w.heap.pages.getD (ofA w.heap.conf (w.pick t)).fst.toNat default
end Go.Proofs.YtjflpmnenhdeeaaGreat
