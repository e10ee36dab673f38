/-
 The statement AllocNews: part 12.
 Conditions: none.
-/
import Derived.Test.YtpklpkmnhgedbaaGreatM11
set_option maxRecDepth 100000
set_option maxHeartbeats 2000000
set_option linter.all false
namespace Go.Proofs.YtpklpkmnhgedbaaGreat
open Go.Sx
theorem putN_eq (h : Heap) (hd : Header) : put7 h hd = putN h (sizeH hd) := rfl
theorem prep_put {h : Heap} {n : Int} (hp : properB h = true) (hn : 1 ≤ n ∧ n ≤ 256) (e : (putN h n).2.2 = true) : (putN h n).2.1 = 4096 + (prepI h n * h.conf.pw + prepO h n) ∧ inB h.conf (prepI h n) (prepO h n) = true := by
 obtain ⟨o1,o2,o3,o4,o5,o6,o7,o8,o9⟩ := proper_ok hp
 have hb := (properB_iff.1 hp).2.2.2.2.1
 rw [inB_iff]
 unfold putN prepI prepO at *
 split at e
 ·rename_i hk
  unfold large7 at e ⊢
  split at e
  ·rename_i hg
   have := (first_free hg.1).2.1
   simp only [if_pos hk,if_pos hg]
   exact ⟨by omega,by omega,by omega,by omega,by omega⟩
  ·simp at e
 ·rename_i hk
  unfold small7 at e ⊢
  split at e
  ·rename_i hf
   simp only [if_neg hk,if_pos hf]
   unfold fitsB at hf
   have hpg := proper_page hp (j := h.bump.toNat) (by omega)
   exact ⟨by omega,by omega,by omega,by omega,by omega⟩
  ·rename_i hf
   split at e
   ·rename_i hg
    have q := freshP_ok (h := h) o9 hg.1
    have q6 := congrArg Page.used q.2.2.2
    simp only at q6
    simp only [if_neg hk,if_neg hf,if_pos hg]
    exact ⟨by rw [q6]; omega,by omega,by omega,by omega,by omega⟩
   ·simp at e
theorem allocPrep (h : Heap) (n : Int) (hp : properB h = true) (hn : 1 ≤ n ∧ n ≤ 256) (e : (putN h n).2.2 = true) : GSpec Tryz.prog 75 [h.av,int n] false (.tu [(putN h n).1.av,.ag [int (prepI h n),int (prepO h n)],int 0]) [] := by
 unfold putN prepI prepO at *
 split at e
 ·rename_i hk
  unfold large7 at e ⊢
  split at e
  ·rename_i hg
   simp only [if_pos hk,if_pos hg]
   exact allocPrepOwn h n hp hk hg
  ·simp at e
 ·rename_i hk
  unfold small7 at e ⊢
  split at e
  ·rename_i hf
   simp only [if_neg hk,if_pos hf]
   exact allocPrepFit h n hp hn hk hf
  ·rename_i hf
   split at e
   ·rename_i hg
    simp only [if_neg hk,if_neg hf,if_pos hg]
    exact allocPrepFresh h n hp hn hk hf hg
   ·simp at e
theorem allocPrepBad (h : Heap) (n : Int) (hp : properB h = true) (hn : 1 ≤ n ∧ n ≤ 256) (e : (putN h n).2.2 = false) : GSpec Tryz.prog 75 [h.av,int n] false (.tu [noHeap.av,.ag [int 0,int 0],int 3]) [] := by
 unfold putN at e
 split at e
 ·rename_i hk
  unfold large7 at e
  split at e
  ·simp at e
  ·rename_i hg
   exact allocPrepNo h n hp hk hg
 ·rename_i hk
  unfold small7 at e
  split at e
  ·simp at e
  ·rename_i hf
   split at e
   ·simp at e
   ·rename_i hg
    exact allocPrepFull h n hp hn hk hf hg
theorem allocNew (h : Heap) (hd : Header) (hw : WOk h.words) (hm : 0 ≤ hd.map ∧ hd.map ≤ 4294967295) : GSpec Tryz.prog 32 [h.av,hd.av] false (.tu [(new7 h hd).1.av,u64 (new7 h hd).2.1,int (new7 h hd).2.2]) [] := by
 by_cases hc : properB h = true ∧ asksH h.conf hd = true
 ·obtain ⟨c1,c2⟩ := hc
  obtain ⟨a1,a2,a3,a4,a5⟩ := asksH_ok c2
  have po := proper_ok c1
  by_cases hf : (putN h (sizeH hd)).2.2 = true
  ·have e0 : (new7 h hd).2.2 = 0 := by rw [new7,if_pos ⟨c1,c2⟩,putN_eq,if_pos hf]
   obtain ⟨k1,k2,k3,k4,k5,k6,k7,k8⟩ := new7_ok hw hm e0
   rw [putN_eq] at k3
   obtain ⟨p1,p2⟩ := prep_put c1 ⟨a2,a3⟩ hf
   have hwp : WOk (putN h (sizeH hd)).1.words := by rw [k3.w]; exact hw
   have e8 : address h.conf (prepI h (sizeH hd)) (prepO h (sizeH hd)) = ((putN h (sizeH hd)).2.1,0) := by rw [address,if_pos po.1,if_pos p2,p1]
   have ei1 := congrArg (fun x => x.1) e8
   have e82 := congrArg (fun x => x.2) e8
   simp only at ei1 e82
   have hlo := k3.lo
   have hhi := k3.hi
   have ei2 : (initH (putN h (sizeH hd)).1 (putN h (sizeH hd)).2.1 hd).2 = 0 := by
    have ho := objW_ok a1 hm
    have ew : writeA (putN h (sizeH hd)).1.words (putN h (sizeH hd)).2.1 (objW hd) = (spl (putN h (sizeH hd)).1.words ((putN h (sizeH hd)).2.1 - 4096).toNat (objW hd),0) := by rw [writeA,if_pos ⟨hlo,by rw [k3.w]; omega⟩]
    rw [initH,if_pos ⟨k3.pr,a1⟩,ew]
    simp
   have ei3 : (initH (putN h (sizeH hd)).1 (address h.conf (prepI h (sizeH hd)) (prepO h (sizeH hd))).1 hd).2 = 0 := by rw [ei1]; exact ei2
   have e7 : new7 h hd = ((initH (putN h (sizeH hd)).1 (putN h (sizeH hd)).2.1 hd).1,(putN h (sizeH hd)).2.1,0) := by rw [new7,if_pos ⟨c1,c2⟩,putN_eq,if_pos hf]
   rw [e7]
   refine gspec_ofE [((12 : Nat),[Hint.call true (Sx.bool (properB h)) []]),((18 : Nat),[Hint.call true (Sx.bool (asksH h.conf hd)) []]),((20 : Nat),[Hint.br false]),((25 : Nat),[Hint.call true (int (sizeH hd)) []]),((26 : Nat),[Hint.call false (AV.tu [(putN h (sizeH hd)).fst.av,AV.ag [int (prepI h (sizeH hd)),int (prepO h (sizeH hd))],int (0 : Int)]) []]),((41 : Nat),[Hint.call true (addressV h.conf (prepI h (sizeH hd)) (prepO h (sizeH hd))) []]),((45 : Nat),[Hint.br false]),((52 : Nat),[Hint.call false (AV.tu [(initH (putN h (sizeH hd)).fst (address h.conf (prepI h (sizeH hd)) (prepO h (sizeH hd))).fst hd).fst.av,int (initH (putN h (sizeH hd)).fst (address h.conf (prepI h (sizeH hd)) (prepO h (sizeH hd))).fst hd).snd]) []]),((56 : Nat),[Hint.br false])] [] [] (by decide) Tryz.func32 [false,false,false,false,false,true] (φ := GSpec Tryz.prog 49 [h.av] true (Sx.bool (properB h)) [] ∧ ((!!properB h) = true → GSpec Tryz.prog 74 [h.conf.av,hd.av] true (Sx.bool (asksH h.conf hd)) []) ∧ (!properB h || !asksH h.conf hd) = false ∧ false = false ∧ GSpec Tryz.prog 54 [hd.av] true (int (sizeH hd)) [] ∧ GSpec Tryz.prog 75 [h.av,int (sizeH hd)] false (AV.tu [(putN h (sizeH hd)).fst.av,AV.ag [int (prepI h (sizeH hd)),int (prepO h (sizeH hd))],int (0 : Int)]) [] ∧ GSpec Tryz.prog 76 [h.conf.av,int (prepI h (sizeH hd)),int (prepO h (sizeH hd))] true (addressV h.conf (prepI h (sizeH hd)) (prepO h (sizeH hd))) [] ∧ ((address h.conf (prepI h (sizeH hd)) (prepO h (sizeH hd))).snd != (0 : Int)) = false ∧ false = false ∧ GSpec Tryz.prog 29 [(putN h (sizeH hd)).fst.av,u64 (address h.conf (prepI h (sizeH hd)) (prepO h (sizeH hd))).fst,hd.av] false (AV.tu [(initH (putN h (sizeH hd)).fst (address h.conf (prepI h (sizeH hd)) (prepO h (sizeH hd))).fst hd).fst.av,int (initH (putN h (sizeH hd)).fst (address h.conf (prepI h (sizeH hd)) (prepO h (sizeH hd))).fst hd).snd]) [] ∧ ((initH (putN h (sizeH hd)).fst (address h.conf (prepI h (sizeH hd)) (prepO h (sizeH hd))).fst hd).snd != (0 : Int)) = false ∧ false = false ∧ (initH (putN h (sizeH hd)).fst (address h.conf (prepI h (sizeH hd)) (prepO h (sizeH hd))).fst hd).fst.conf.pw = (initH (putN h (sizeH hd)).fst (putN h (sizeH hd)).snd.fst hd).fst.conf.pw ∧ (initH (putN h (sizeH hd)).fst (address h.conf (prepI h (sizeH hd)) (prepO h (sizeH hd))).fst hd).fst.conf.pg = (initH (putN h (sizeH hd)).fst (putN h (sizeH hd)).snd.fst hd).fst.conf.pg ∧ List.map wdv (initH (putN h (sizeH hd)).fst (address h.conf (prepI h (sizeH hd)) (prepO h (sizeH hd))).fst hd).fst.words = List.map wdv ((initH (putN h (sizeH hd)).fst (putN h (sizeH hd)).snd.fst hd).fst,(putN h (sizeH hd)).snd.fst,(0 : Int)).fst.words ∧ List.map Page.dv (initH (putN h (sizeH hd)).fst (address h.conf (prepI h (sizeH hd)) (prepO h (sizeH hd))).fst hd).fst.pages = List.map Page.dv ((initH (putN h (sizeH hd)).fst (putN h (sizeH hd)).snd.fst hd).fst,(putN h (sizeH hd)).snd.fst,(0 : Int)).fst.pages ∧ (initH (putN h (sizeH hd)).fst (address h.conf (prepI h (sizeH hd)) (prepO h (sizeH hd))).fst hd).fst.space = (initH (putN h (sizeH hd)).fst (putN h (sizeH hd)).snd.fst hd).fst.space ∧ (initH (putN h (sizeH hd)).fst (address h.conf (prepI h (sizeH hd)) (prepO h (sizeH hd))).fst hd).fst.bump = (initH (putN h (sizeH hd)).fst (putN h (sizeH hd)).snd.fst hd).fst.bump ∧ (address h.conf (prepI h (sizeH hd)) (prepO h (sizeH hd))).fst = (putN h (sizeH hd)).snd.fst ∧ (0 : Int) = (0 : Int)) ?_ (by kernel_rfl) (by kernel_rfl)
   exact ⟨(@pageProper (h)),(fun hg => by (try simp only [bs] at hg); exact @allocAsks (h.conf) (hd) (by (try simp only [bs] at hg); assumption)),(by simp only [bs, *,true_or,or_true,true_and,and_true,not_true_eq_false,not_false_eq_true,Bool.true_eq_false,Bool.false_eq_true]),rfl,(@headerSize (hd) ‹_›),(@allocPrep (h) (sizeH hd) ‹_› (by omega) ‹_›),(@pageAddress (h.conf) (prepI h (sizeH hd)) (prepO h (sizeH hd))),(by (simp only [bs]; omega)),rfl,(@objectInit ((putN h (sizeH hd)).fst) ((address h.conf (prepI h (sizeH hd)) (prepO h (sizeH hd))).fst) (hd) ‹_› (by omega) ‹_›),(by (simp only [bs]; omega)),rfl,(by simp only [bs, *,true_or,or_true,true_and,and_true,not_true_eq_false,not_false_eq_true,Bool.true_eq_false,Bool.false_eq_true]),(by simp only [bs, *,true_or,or_true,true_and,and_true,not_true_eq_false,not_false_eq_true,Bool.true_eq_false,Bool.false_eq_true]),(by refine congrArg _ ?_; simp [ei1,List.map_take,List.map_drop,List.map_set,List.map_append,wdv,idv]),(by refine congrArg _ ?_; simp [ei1,List.map_take,List.map_drop,List.map_set,List.map_append,wdv,idv]),(by simp only [bs, *,true_or,or_true,true_and,and_true,not_true_eq_false,not_false_eq_true,Bool.true_eq_false,Bool.false_eq_true]),(by simp only [bs, *,true_or,or_true,true_and,and_true,not_true_eq_false,not_false_eq_true,Bool.true_eq_false,Bool.false_eq_true]),‹_›,rfl⟩
  ·have hf' : (putN h (sizeH hd)).2.2 = false := by simpa using hf
   have e7 : new7 h hd = (noHeap,0,3) := by rw [new7,if_pos ⟨c1,c2⟩,putN_eq,if_neg hf]
   rw [e7]
   refine gspec_ofE [((12 : Nat),[Hint.call true (Sx.bool (properB h)) []]),((18 : Nat),[Hint.call true (Sx.bool (asksH h.conf hd)) []]),((20 : Nat),[Hint.br false]),((25 : Nat),[Hint.call true (int (sizeH hd)) []]),((26 : Nat),[Hint.call false (AV.tu [noHeap.av,AV.ag [int (0 : Int),int (0 : Int)],int (3 : Int)]) []])] [] [] (by decide) Tryz.func32 [] (φ := GSpec Tryz.prog 49 [h.av] true (Sx.bool (properB h)) [] ∧ ((!!properB h) = true → GSpec Tryz.prog 74 [h.conf.av,hd.av] true (Sx.bool (asksH h.conf hd)) []) ∧ (!properB h || !asksH h.conf hd) = false ∧ false = false ∧ GSpec Tryz.prog 54 [hd.av] true (int (sizeH hd)) [] ∧ GSpec Tryz.prog 75 [h.av,int (sizeH hd)] false (AV.tu [noHeap.av,AV.ag [int (0 : Int),int (0 : Int)],int (3 : Int)]) [] ∧ ([] : List (List DV)) = [] ∧ ([] : List (List DV)) = []) ?_ (by kernel_rfl) (by kernel_rfl)
   exact ⟨(@pageProper (h)),(fun hg => by (try simp only [bs] at hg); exact @allocAsks (h.conf) (hd) (by (try simp only [bs] at hg); assumption)),(by simp only [bs, *,true_or,or_true,true_and,and_true,not_true_eq_false,not_false_eq_true,Bool.true_eq_false,Bool.false_eq_true]),rfl,(@headerSize (hd) ‹_›),(@allocPrepBad (h) (sizeH hd) ‹_› (by omega) ‹_›),rfl,rfl⟩
 ·have e7 : new7 h hd = (noHeap,0,1) := by rw [new7,if_neg hc]
  rw [e7]
  rcases Bool.eq_false_or_eq_true (!properB h || !asksH h.conf hd) with hc0 | hc0
  ·have hc0p := hc0
   simp only [bs] at hc0p
   refine gspec_ofE [((12 : Nat),[Hint.call true (Sx.bool (properB h)) []]),((18 : Nat),[Hint.call true (Sx.bool (asksH h.conf hd)) []]),((20 : Nat),[Hint.br true])] [] [] (by decide) Tryz.func32 [] (φ := GSpec Tryz.prog 49 [h.av] true (Sx.bool (properB h)) [] ∧ ((!!properB h) = true → GSpec Tryz.prog 74 [h.conf.av,hd.av] true (Sx.bool (asksH h.conf hd)) []) ∧ (!properB h || !asksH h.conf hd) = true ∧ true = true ∧ ([] : List (List DV)) = [] ∧ ([] : List (List DV)) = []) ?_ (by kernel_rfl) (by kernel_rfl)
   exact ⟨(@pageProper (h)),(fun hg => by (try simp only [bs] at hg); exact @allocAsks (h.conf) (hd) (by (try simp only [bs] at hg); assumption)),‹_›,rfl,rfl,rfl⟩
  ·have hc0p := hc0
   simp only [bs] at hc0p
   obtain ⟨hc0pa,hc0pb⟩ := hc0p
   rcases Bool.eq_false_or_eq_true ((address h.conf (prepI h (sizeH hd)) (prepO h (sizeH hd))).snd != (0 : Int)) with hc1 | hc1
   ·have hc1p := hc1
    simp only [bs] at hc1p
    refine gspec_ofE [((12 : Nat),[Hint.call true (Sx.bool (properB h)) []]),((18 : Nat),[Hint.call true (Sx.bool (asksH h.conf hd)) []]),((20 : Nat),[Hint.br false]),((25 : Nat),[Hint.call true (int (sizeH hd)) []]),((26 : Nat),[Hint.call false (AV.tu [(putN h (sizeH hd)).fst.av,AV.ag [int (prepI h (sizeH hd)),int (prepO h (sizeH hd))],int (0 : Int)]) []]),((41 : Nat),[Hint.call true (addressV h.conf (prepI h (sizeH hd)) (prepO h (sizeH hd))) []]),((45 : Nat),[Hint.br true])] [] [] (by decide) Tryz.func32 [false,false,false,false,false,true] (φ := GSpec Tryz.prog 49 [h.av] true (Sx.bool (properB h)) [] ∧ ((!!properB h) = true → GSpec Tryz.prog 74 [h.conf.av,hd.av] true (Sx.bool (asksH h.conf hd)) []) ∧ (!properB h || !asksH h.conf hd) = false ∧ false = false ∧ GSpec Tryz.prog 54 [hd.av] true (int (sizeH hd)) [] ∧ GSpec Tryz.prog 75 [h.av,int (sizeH hd)] false (AV.tu [(putN h (sizeH hd)).fst.av,AV.ag [int (prepI h (sizeH hd)),int (prepO h (sizeH hd))],int (0 : Int)]) [] ∧ GSpec Tryz.prog 76 [h.conf.av,int (prepI h (sizeH hd)),int (prepO h (sizeH hd))] true (addressV h.conf (prepI h (sizeH hd)) (prepO h (sizeH hd))) [] ∧ ((address h.conf (prepI h (sizeH hd)) (prepO h (sizeH hd))).snd != (0 : Int)) = true ∧ true = true ∧ ([] : List (List DV)) = [] ∧ ([] : List (List DV)) = [] ∧ (0 : Int) = (0 : Int) ∧ (0 : Int) = (0 : Int) ∧ [] = List.map wdv (noHeap,(0 : Int),(1 : Int)).fst.words ∧ [] = List.map Page.dv (noHeap,(0 : Int),(1 : Int)).fst.pages ∧ (0 : Int) = (0 : Int) ∧ (0 : Int) = (0 : Int) ∧ (0 : Int) = (0 : Int) ∧ (address h.conf (prepI h (sizeH hd)) (prepO h (sizeH hd))).snd = (1 : Int)) ?_ (by kernel_rfl) (by kernel_rfl)
    exact ⟨(@pageProper (h)),(fun hg => by (try simp only [bs] at hg); exact @allocAsks (h.conf) (hd) (by (try simp only [bs] at hg); assumption)),‹_›,rfl,(@headerSize (hd) ‹_›),(@allocPrep (h) (sizeH hd) ‹_› (by grind [noHeap]) (by grind [noHeap])),(@pageAddress (h.conf) (prepI h (sizeH hd)) (prepO h (sizeH hd))),‹_›,rfl,rfl,rfl,rfl,rfl,rfl,rfl,rfl,rfl,rfl,(by grind [noHeap])⟩
   ·have hc1p := hc1
    simp only [bs] at hc1p
    rcases Bool.eq_false_or_eq_true ((initH (putN h (sizeH hd)).fst (address h.conf (prepI h (sizeH hd)) (prepO h (sizeH hd))).fst hd).snd != (0 : Int)) with hc2 | hc2
    ·have hc2p := hc2
     simp only [bs] at hc2p
     refine gspec_ofE [((12 : Nat),[Hint.call true (Sx.bool (properB h)) []]),((18 : Nat),[Hint.call true (Sx.bool (asksH h.conf hd)) []]),((20 : Nat),[Hint.br false]),((25 : Nat),[Hint.call true (int (sizeH hd)) []]),((26 : Nat),[Hint.call false (AV.tu [(putN h (sizeH hd)).fst.av,AV.ag [int (prepI h (sizeH hd)),int (prepO h (sizeH hd))],int (0 : Int)]) []]),((41 : Nat),[Hint.call true (addressV h.conf (prepI h (sizeH hd)) (prepO h (sizeH hd))) []]),((45 : Nat),[Hint.br false]),((52 : Nat),[Hint.call false (AV.tu [(initH (putN h (sizeH hd)).fst (address h.conf (prepI h (sizeH hd)) (prepO h (sizeH hd))).fst hd).fst.av,int (initH (putN h (sizeH hd)).fst (address h.conf (prepI h (sizeH hd)) (prepO h (sizeH hd))).fst hd).snd]) []]),((56 : Nat),[Hint.br true])] [] [] (by decide) Tryz.func32 [false,false,false,false,false,true] (φ := GSpec Tryz.prog 49 [h.av] true (Sx.bool (properB h)) [] ∧ ((!!properB h) = true → GSpec Tryz.prog 74 [h.conf.av,hd.av] true (Sx.bool (asksH h.conf hd)) []) ∧ (!properB h || !asksH h.conf hd) = false ∧ false = false ∧ GSpec Tryz.prog 54 [hd.av] true (int (sizeH hd)) [] ∧ GSpec Tryz.prog 75 [h.av,int (sizeH hd)] false (AV.tu [(putN h (sizeH hd)).fst.av,AV.ag [int (prepI h (sizeH hd)),int (prepO h (sizeH hd))],int (0 : Int)]) [] ∧ GSpec Tryz.prog 76 [h.conf.av,int (prepI h (sizeH hd)),int (prepO h (sizeH hd))] true (addressV h.conf (prepI h (sizeH hd)) (prepO h (sizeH hd))) [] ∧ ((address h.conf (prepI h (sizeH hd)) (prepO h (sizeH hd))).snd != (0 : Int)) = false ∧ false = false ∧ GSpec Tryz.prog 29 [(putN h (sizeH hd)).fst.av,u64 (address h.conf (prepI h (sizeH hd)) (prepO h (sizeH hd))).fst,hd.av] false (AV.tu [(initH (putN h (sizeH hd)).fst (address h.conf (prepI h (sizeH hd)) (prepO h (sizeH hd))).fst hd).fst.av,int (initH (putN h (sizeH hd)).fst (address h.conf (prepI h (sizeH hd)) (prepO h (sizeH hd))).fst hd).snd]) [] ∧ ((initH (putN h (sizeH hd)).fst (address h.conf (prepI h (sizeH hd)) (prepO h (sizeH hd))).fst hd).snd != (0 : Int)) = true ∧ true = true ∧ ([] : List (List DV)) = [] ∧ ([] : List (List DV)) = [] ∧ (0 : Int) = (0 : Int) ∧ (0 : Int) = (0 : Int) ∧ [] = List.map wdv (noHeap,(0 : Int),(1 : Int)).fst.words ∧ [] = List.map Page.dv (noHeap,(0 : Int),(1 : Int)).fst.pages ∧ (0 : Int) = (0 : Int) ∧ (0 : Int) = (0 : Int) ∧ (0 : Int) = (0 : Int) ∧ (initH (putN h (sizeH hd)).fst (address h.conf (prepI h (sizeH hd)) (prepO h (sizeH hd))).fst hd).snd = (1 : Int)) ?_ (by kernel_rfl) (by kernel_rfl)
     exact ⟨(@pageProper (h)),(fun hg => by (try simp only [bs] at hg); exact @allocAsks (h.conf) (hd) (by (try simp only [bs] at hg); assumption)),‹_›,rfl,(@headerSize (hd) ‹_›),(@allocPrep (h) (sizeH hd) ‹_› (by grind [noHeap]) (by grind [noHeap])),(@pageAddress (h.conf) (prepI h (sizeH hd)) (prepO h (sizeH hd))),‹_›,rfl,(@objectInit ((putN h (sizeH hd)).fst) ((address h.conf (prepI h (sizeH hd)) (prepO h (sizeH hd))).fst) (hd) (by grind [noHeap]) (by grind [noHeap]) ‹_›),‹_›,rfl,rfl,rfl,rfl,rfl,rfl,rfl,rfl,rfl,rfl,(by grind [noHeap])⟩
    ·have hc2p := hc2
     simp only [bs] at hc2p
     refine gspec_ofE [((12 : Nat),[Hint.call true (Sx.bool (properB h)) []]),((18 : Nat),[Hint.call true (Sx.bool (asksH h.conf hd)) []]),((20 : Nat),[Hint.br false]),((25 : Nat),[Hint.call true (int (sizeH hd)) []]),((26 : Nat),[Hint.call false (AV.tu [(putN h (sizeH hd)).fst.av,AV.ag [int (prepI h (sizeH hd)),int (prepO h (sizeH hd))],int (0 : Int)]) []]),((41 : Nat),[Hint.call true (addressV h.conf (prepI h (sizeH hd)) (prepO h (sizeH hd))) []]),((45 : Nat),[Hint.br false]),((52 : Nat),[Hint.call false (AV.tu [(initH (putN h (sizeH hd)).fst (address h.conf (prepI h (sizeH hd)) (prepO h (sizeH hd))).fst hd).fst.av,int (initH (putN h (sizeH hd)).fst (address h.conf (prepI h (sizeH hd)) (prepO h (sizeH hd))).fst hd).snd]) []]),((56 : Nat),[Hint.br false])] [] [] (by decide) Tryz.func32 [false,false,false,false,false,true] (φ := GSpec Tryz.prog 49 [h.av] true (Sx.bool (properB h)) [] ∧ ((!!properB h) = true → GSpec Tryz.prog 74 [h.conf.av,hd.av] true (Sx.bool (asksH h.conf hd)) []) ∧ (!properB h || !asksH h.conf hd) = false ∧ false = false ∧ GSpec Tryz.prog 54 [hd.av] true (int (sizeH hd)) [] ∧ GSpec Tryz.prog 75 [h.av,int (sizeH hd)] false (AV.tu [(putN h (sizeH hd)).fst.av,AV.ag [int (prepI h (sizeH hd)),int (prepO h (sizeH hd))],int (0 : Int)]) [] ∧ GSpec Tryz.prog 76 [h.conf.av,int (prepI h (sizeH hd)),int (prepO h (sizeH hd))] true (addressV h.conf (prepI h (sizeH hd)) (prepO h (sizeH hd))) [] ∧ ((address h.conf (prepI h (sizeH hd)) (prepO h (sizeH hd))).snd != (0 : Int)) = false ∧ false = false ∧ GSpec Tryz.prog 29 [(putN h (sizeH hd)).fst.av,u64 (address h.conf (prepI h (sizeH hd)) (prepO h (sizeH hd))).fst,hd.av] false (AV.tu [(initH (putN h (sizeH hd)).fst (address h.conf (prepI h (sizeH hd)) (prepO h (sizeH hd))).fst hd).fst.av,int (initH (putN h (sizeH hd)).fst (address h.conf (prepI h (sizeH hd)) (prepO h (sizeH hd))).fst hd).snd]) [] ∧ ((initH (putN h (sizeH hd)).fst (address h.conf (prepI h (sizeH hd)) (prepO h (sizeH hd))).fst hd).snd != (0 : Int)) = false ∧ false = false ∧ (initH (putN h (sizeH hd)).fst (address h.conf (prepI h (sizeH hd)) (prepO h (sizeH hd))).fst hd).fst.conf.pw = (0 : Int) ∧ (initH (putN h (sizeH hd)).fst (address h.conf (prepI h (sizeH hd)) (prepO h (sizeH hd))).fst hd).fst.conf.pg = (0 : Int) ∧ List.map wdv (initH (putN h (sizeH hd)).fst (address h.conf (prepI h (sizeH hd)) (prepO h (sizeH hd))).fst hd).fst.words = List.map wdv (noHeap,(0 : Int),(1 : Int)).fst.words ∧ List.map Page.dv (initH (putN h (sizeH hd)).fst (address h.conf (prepI h (sizeH hd)) (prepO h (sizeH hd))).fst hd).fst.pages = List.map Page.dv (noHeap,(0 : Int),(1 : Int)).fst.pages ∧ (initH (putN h (sizeH hd)).fst (address h.conf (prepI h (sizeH hd)) (prepO h (sizeH hd))).fst hd).fst.space = (0 : Int) ∧ (initH (putN h (sizeH hd)).fst (address h.conf (prepI h (sizeH hd)) (prepO h (sizeH hd))).fst hd).fst.bump = (0 : Int) ∧ (address h.conf (prepI h (sizeH hd)) (prepO h (sizeH hd))).fst = (0 : Int) ∧ (0 : Int) = (1 : Int)) ?_ (by kernel_rfl) (by kernel_rfl)
     exact ⟨(@pageProper (h)),(fun hg => by (try simp only [bs] at hg); exact @allocAsks (h.conf) (hd) (by (try simp only [bs] at hg); assumption)),‹_›,rfl,(@headerSize (hd) ‹_›),(@allocPrep (h) (sizeH hd) ‹_› (by grind [noHeap]) (by grind [noHeap])),(@pageAddress (h.conf) (prepI h (sizeH hd)) (prepO h (sizeH hd))),‹_›,rfl,(@objectInit ((putN h (sizeH hd)).fst) ((address h.conf (prepI h (sizeH hd)) (prepO h (sizeH hd))).fst) (hd) (by grind [noHeap]) (by grind [noHeap]) ‹_›),‹_›,rfl,(by grind [noHeap]),(by grind [noHeap]),(by refine congrArg _ ?_; (simp only [noHeap]; (repeat' split) <;> first | rfl | omega | (exfalso; omega) | simp_all)),(by refine congrArg _ ?_; (simp only [noHeap]; (repeat' split) <;> first | rfl | omega | (exfalso; omega) | simp_all)),(by grind [noHeap]),(by grind [noHeap]),(by grind [noHeap]),(by grind [noHeap])⟩
def room7 (h : Heap) : Int := if properB h = true ∧ 0 ≤ h.bump then h.conf.pw - (h.pages.getD h.bump.toNat default).used else 0
theorem allocRoom (h : Heap) : GSpec Tryz.prog 44 [h.av] true (int (room7 h)) [] := by
 by_cases q : properB h = true ∧ 0 ≤ h.bump
 ·obtain ⟨q1,q2⟩ := q
  have po := proper_ok q1
  have hb := (properB_iff.1 q1).2.2.2.2.1
  have hpg := proper_page q1 (j := h.bump.toNat) (by omega)
  have e7 : room7 h = h.conf.pw - (h.pages.getD h.bump.toNat default).used := by rw [room7,if_pos ⟨q1,q2⟩]
  rw [e7]
  exact gF [] Tryz.func44 [] (Fc 4 (@pageProper h) (Ff 10 (by simp [*] : (!properB h||decide (h.bump < 0))=false) (Fe 18 Page.dv h.pages h.bump (Fi 21 (h.conf.pw - (h.pages.getD h.bump.toNat default).used) Fz))))
 ·have e7 : room7 h = 0 := by rw [room7,if_neg q]
  rw [e7]
  by_cases q1 : properB h = true
  ·have hb := (properB_iff.1 q1).2.2.2.2.1
   have q2 : h.bump = -1 := by
    have : ¬ 0 ≤ h.bump := fun x => q ⟨q1,x⟩
    omega
   exact gF [] Tryz.func44 [] (Fc 4 (@pageProper h) (Ftb 10 (!properB h||decide (h.bump < 0)) Fz))
  ·have q1' : properB h = false := by simpa using q1
   exact gF [] Tryz.func44 [] (Fc 4 (@pageProper h) (Ft 10 (by simp only [bs, *,true_or,or_true,true_and,and_true,not_true_eq_false,not_false_eq_true,Bool.true_eq_false,Bool.false_eq_true] : (!properB h||decide (h.bump < 0))=true) Fz))
theorem ref7Room (h : Heap) : GSpec Tryz.prog 45 [h.av] true (int (room7 h)) [] := by
 by_cases q : properB h = true ∧ 0 ≤ h.bump
 ·obtain ⟨q1,q2⟩ := q
  have po := proper_ok q1
  have hb := (properB_iff.1 q1).2.2.2.2.1
  have hpg := proper_page q1 (j := h.bump.toNat) (by omega)
  have e7 : room7 h = h.conf.pw - (h.pages.getD h.bump.toNat default).used := by rw [room7,if_pos ⟨q1,q2⟩]
  rw [e7]
  exact gF [] Tryz.func45 [] (Fc 4 (@ref4Proper h) (Ff 10 (by (simp [*]; omega) : (!properB h||h.bump == (-1 : Int))=false) (Fe 18 Page.dv h.pages h.bump (Fi 21 (h.conf.pw - (h.pages.getD h.bump.toNat default).used) Fz))))
 ·have e7 : room7 h = 0 := by rw [room7,if_neg q]
  rw [e7]
  by_cases q1 : properB h = true
  ·have hb := (properB_iff.1 q1).2.2.2.2.1
   have q2 : h.bump = -1 := by
    have : ¬ 0 ≤ h.bump := fun x => q ⟨q1,x⟩
    omega
   exact gF [] Tryz.func45 [] (Fc 4 (@ref4Proper h) (Ftb 10 (!properB h||h.bump == (-1 : Int)) Fz))
  ·have q1' : properB h = false := by simpa using q1
   exact gF [] Tryz.func45 [] (Fc 4 (@ref4Proper h) (Ft 10 (by simp only [bs, *,true_or,or_true,true_and,and_true,not_true_eq_false,not_false_eq_true,Bool.true_eq_false,Bool.false_eq_true] : (!properB h||h.bump == (-1 : Int))=true) Fz))
theorem allocWouldBad (h : Heap) (hd : Header) (hm : 0 ≤ hd.map ∧ hd.map ≤ 4294967295) (hc : ¬ (properB h = true ∧ asksH h.conf hd = true)) : GSpec Tryz.prog 43 [h.av,hd.av] true (bool false) [] := by
 by_cases hp : properB h = true
 ·have ha : asksH h.conf hd = false := by simpa using fun q => hc ⟨hp,q⟩
  exact gF [] Tryz.func43 [false,false,false,false,false,false,false,false,false,true] (Fc 6 (@pageProper h) (FcG 11 (properB h) (fun hg => by (try simp only [bs] at hg); exact @allocAsks h.conf hd (by (try simp only [bs] at hg); assumption)) (FcG 16 (properB h&&asksH h.conf hd) (fun hg => by (try simp only [bs] at hg); exact @headerSize hd (by (try simp only [bs] at hg); assumption)) (FcG 17 (properB h&&asksH h.conf hd) (fun hg => by (try simp only [bs] at hg); exact @allocPlaceFull h (sizeH hd) (by (try simp only [bs] at hg); assumption) (by (try simp only [bs] at hg); grind []) (by (try simp only [bs] at hg); grind []) (by (try simp only [bs] at hg); grind []) (by (try simp only [bs] at hg); grind [])) (Fa (by simp only [bs, *,true_or,or_true,true_and,and_true,not_true_eq_false,not_false_eq_true,Bool.true_eq_false,Bool.false_eq_true] : (properB h&&asksH h.conf hd&&false)=false) Fz)))))
 ·have hp' : properB h = false := by simpa using hp
  exact gF [] Tryz.func43 [false,false,false,false,false,false,false,false,false,true] (Fc 6 (@pageProper h) (FcG 11 (properB h) (fun hg => by (try simp only [bs] at hg); exact @allocAsks h.conf hd (by (try simp only [bs] at hg); assumption)) (FcG 16 (properB h&&asksH h.conf hd) (fun hg => by (try simp only [bs] at hg); exact @headerSize hd (by (try simp only [bs] at hg); assumption)) (FcG 17 (properB h&&asksH h.conf hd) (fun hg => by (try simp only [bs] at hg); exact @allocPlaceFull h (sizeH hd) (by (try simp only [bs] at hg); grind []) (by (try simp only [bs] at hg); grind []) (by (try simp only [bs] at hg); grind []) (by (try simp only [bs] at hg); grind []) (by (try simp only [bs] at hg); grind [])) (Fa (by simp only [bs, *,true_or,or_true,true_and,and_true,not_true_eq_false,not_false_eq_true,Bool.true_eq_false,Bool.false_eq_true] : (properB h&&asksH h.conf hd&&false)=false) Fz)))))
theorem allocWouldFull (h : Heap) (hd : Header) (hm : 0 ≤ hd.map ∧ hd.map ≤ 4294967295) (hp : properB h = true) (ha : asksH h.conf hd = true) (e : (putN h (sizeH hd)).2.2 = false) : GSpec Tryz.prog 43 [h.av,hd.av] true (bool false) [] := by
 obtain ⟨a1,a2,a3,a4,a5⟩ := asksH_ok ha
 unfold putN at e
 split at e
 ·rename_i hk
  unfold large7 at e
  split at e
  ·simp at e
  ·rename_i hg
   exact gF [] Tryz.func43 [false,false,false,false,false,false,false,false,false,true] (Fc 6 (@pageProper h) (FcG 11 (properB h) (fun hg => by (try simp only [bs] at hg); exact @allocAsks h.conf hd (by (try simp only [bs] at hg); assumption)) (FcG 16 (properB h&&asksH h.conf hd) (fun hg => by (try simp only [bs] at hg); exact @headerSize hd (by (try simp only [bs] at hg); assumption)) (FcG 17 (properB h&&asksH h.conf hd) (fun hg => by (try simp only [bs] at hg); exact @allocPlaceNo h (sizeH hd) (by (try simp only [bs] at hg); assumption) (by (try simp only [bs] at hg); assumption) (by (try simp only [bs] at hg); assumption)) (Fa (by simp only [bs, *,true_or,or_true,true_and,and_true,not_true_eq_false,not_false_eq_true,Bool.true_eq_false,Bool.false_eq_true] : (properB h&&asksH h.conf hd&&false)=false) Fz)))))
 ·rename_i hk
  unfold small7 at e
  split at e
  ·simp at e
  ·rename_i hf
   split at e
   ·simp at e
   ·rename_i hg
    exact gF [] Tryz.func43 [false,false,false,false,false,false,false,false,false,true] (Fc 6 (@pageProper h) (FcG 11 (properB h) (fun hg => by (try simp only [bs] at hg); exact @allocAsks h.conf hd (by (try simp only [bs] at hg); assumption)) (FcG 16 (properB h&&asksH h.conf hd) (fun hg => by (try simp only [bs] at hg); exact @headerSize hd (by (try simp only [bs] at hg); assumption)) (FcG 17 (properB h&&asksH h.conf hd) (fun hg => by (try simp only [bs] at hg); exact @allocPlaceFull h (sizeH hd) (by (try simp only [bs] at hg); assumption) (by (try simp only [bs] at hg); omega) (by (try simp only [bs] at hg); assumption) (by (try simp only [bs] at hg); assumption) (by (try simp only [bs] at hg); assumption)) (Fa (by simp only [bs, *,true_or,or_true,true_and,and_true,not_true_eq_false,not_false_eq_true,Bool.true_eq_false,Bool.false_eq_true] : (properB h&&asksH h.conf hd&&false)=false) Fz)))))
theorem allocWouldOk (h : Heap) (hd : Header) (hm : 0 ≤ hd.map ∧ hd.map ≤ 4294967295) (hp : properB h = true) (ha : asksH h.conf hd = true) (e : (putN h (sizeH hd)).2.2 = true) : GSpec Tryz.prog 43 [h.av,hd.av] true (bool true) [] := by
 obtain ⟨a1,a2,a3,a4,a5⟩ := asksH_ok ha
 unfold putN at e
 split at e
 ·rename_i hk
  unfold large7 at e
  split at e
  ·rename_i hg
   exact gF [] Tryz.func43 [false,false,false,false,false,false,false,false,false,true] (Fc 6 (@pageProper h) (FcG 11 (properB h) (fun hg => by (try simp only [bs] at hg); exact @allocAsks h.conf hd (by (try simp only [bs] at hg); assumption)) (FcG 16 (properB h&&asksH h.conf hd) (fun hg => by (try simp only [bs] at hg); exact @headerSize hd (by (try simp only [bs] at hg); assumption)) (FcG 17 (properB h&&asksH h.conf hd) (fun hg => by (try simp only [bs] at hg); exact @allocPlaceOwn h (sizeH hd) (by (try simp only [bs] at hg); assumption) (by (try simp only [bs] at hg); assumption) (by (try simp only [bs] at hg); assumption)) (Fa (by simp only [bs, *,true_or,or_true,true_and,and_true,not_true_eq_false,not_false_eq_true,Bool.true_eq_false,Bool.false_eq_true] : (properB h&&asksH h.conf hd&&true)=true) Fz)))))
  ·simp at e
 ·rename_i hk
  unfold small7 at e
  split at e
  ·rename_i hf
   exact gF [] Tryz.func43 [false,false,false,false,false,false,false,false,false,true] (Fc 6 (@pageProper h) (FcG 11 (properB h) (fun hg => by (try simp only [bs] at hg); exact @allocAsks h.conf hd (by (try simp only [bs] at hg); assumption)) (FcG 16 (properB h&&asksH h.conf hd) (fun hg => by (try simp only [bs] at hg); exact @headerSize hd (by (try simp only [bs] at hg); assumption)) (FcG 17 (properB h&&asksH h.conf hd) (fun hg => by (try simp only [bs] at hg); exact @allocPlaceFit h (sizeH hd) (by (try simp only [bs] at hg); assumption) (by (try simp only [bs] at hg); omega) (by (try simp only [bs] at hg); assumption) (by (try simp only [bs] at hg); assumption)) (Fa (by simp only [bs, *,true_or,or_true,true_and,and_true,not_true_eq_false,not_false_eq_true,Bool.true_eq_false,Bool.false_eq_true] : (properB h&&asksH h.conf hd&&true)=true) Fz)))))
  ·rename_i hf
   split at e
   ·rename_i hg
    exact gF [] Tryz.func43 [false,false,false,false,false,false,false,false,false,true] (Fc 6 (@pageProper h) (FcG 11 (properB h) (fun hg => by (try simp only [bs] at hg); exact @allocAsks h.conf hd (by (try simp only [bs] at hg); assumption)) (FcG 16 (properB h&&asksH h.conf hd) (fun hg => by (try simp only [bs] at hg); exact @headerSize hd (by (try simp only [bs] at hg); assumption)) (FcG 17 (properB h&&asksH h.conf hd) (fun hg => by (try simp only [bs] at hg); exact @allocPlaceFresh h (sizeH hd) (by (try simp only [bs] at hg); assumption) (by (try simp only [bs] at hg); omega) (by (try simp only [bs] at hg); assumption) (by (try simp only [bs] at hg); assumption) (by (try simp only [bs] at hg); assumption)) (Fa (by simp only [bs, *,true_or,or_true,true_and,and_true,not_true_eq_false,not_false_eq_true,Bool.true_eq_false,Bool.false_eq_true] : (properB h&&asksH h.conf hd&&true)=true) Fz)))))
   ·simp at e
theorem allocWould (h : Heap) (hd : Header) (hm : 0 ≤ hd.map ∧ hd.map ≤ 4294967295) : GSpec Tryz.prog 43 [h.av,hd.av] true (bool ((new7 h hd).2.2 == 0)) [] := by
 by_cases hc : properB h = true ∧ asksH h.conf hd = true
 ·by_cases hf : (putN h (sizeH hd)).2.2 = true
  ·have e : (new7 h hd).2.2 = 0 := by rw [new7,if_pos hc,putN_eq,if_pos hf]
   rw [e]
   exact allocWouldOk h hd hm hc.1 hc.2 hf
  ·have hf' : (putN h (sizeH hd)).2.2 = false := by simpa using hf
   have e : (new7 h hd).2.2 = 3 := by rw [new7,if_pos hc,putN_eq,if_neg hf]
   rw [e]
   exact allocWouldFull h hd hm hc.1 hc.2 hf'
 ·have e : (new7 h hd).2.2 = 1 := by rw [new7,if_neg hc]
  rw [e]
  exact allocWouldBad h hd hm hc
theorem law7heaps (raw : Heap) (tape odd : List Int) (h1 : tape.length ≤ 140737488355328) (h2 : odd.length ≤ 140737488355328) : GSpec Tryz.prog 40 [raw.av,intsV tape,intsV odd] false (.d (.sl 6 ((heapsF raw tape odd).map Heap.dvs))) [] := by
 have hm := makeF_ok tape
 have ht : TOk ⟨odd,0⟩ := by simp [TOk]; omega
 have hus : ∀ j,j < (makeF tape).heap.pages.length → -1099511627776 ≤ ((makeF tape).heap.pages.getD j default).used ∧ ((makeF tape).heap.pages.getD j default).used ≤ 1099511627776 := fun j hj => by
  have := hm.us j hj; omega
 by_cases hl : raw.words.length ≤ 5000 ∧ raw.pages.length ≤ 100
 ·have e7 : heapsF raw tape odd = [(makeF tape).heap,((makeF tape).spoil ⟨odd,0⟩).heap,raw] := by rw [heapsF,if_pos (by simp only [lightB,decide_eq_true_eq]; exact hl)]; rfl
  rw [e7]
  exact gF [] Tryz.func40 [] (Fh 21 [.call true (Sx.bool (decide (raw.words.length≤5000∧raw.pages.length≤100))) [],.br true] (Fc 10 (@madeMake tape ‹_›) (Fp 17 (@madeSpoil (makeF tape) (Tape.mk odd 0) ‹_› ‹_› (by (simp only [bs]; omega)) ‹_›) (Fa (@madeLight raw) (Fb (decide (raw.words.length≤5000∧raw.pages.length≤100)=true) (Fa (by simp [*] : (((List.replicate 2 [dint 0,dint 0,DV.sl 0 [],DV.sl 0 [],dint 0,dint 0]).set 0 [dint (makeF tape).heap.conf.pw,dint (makeF tape).heap.conf.pg,DV.sl 1 (List.map wdv (makeF tape).heap.words),DV.sl 4 (List.map Page.dv (makeF tape).heap.pages),dint (makeF tape).heap.space,dint (makeF tape).heap.bump]).set 1 [dint ((makeF tape).spoil (Tape.mk odd 0)).heap.conf.pw,dint ((makeF tape).spoil (Tape.mk odd 0)).heap.conf.pg,DV.sl 1 (List.map wdv ((makeF tape).spoil (Tape.mk odd 0)).heap.words),DV.sl 4 (List.map Page.dv ((makeF tape).spoil (Tape.mk odd 0)).heap.pages),dint ((makeF tape).spoil (Tape.mk odd 0)).heap.space,dint ((makeF tape).spoil (Tape.mk odd 0)).heap.bump]).length + ((List.replicate 1 [dint 0,dint 0,DV.sl 0 [],DV.sl 0 [],dint 0,dint 0]).set 0 [dint raw.conf.pw,dint raw.conf.pg,DV.sl 1 (List.map wdv raw.words),DV.sl 4 (List.map Page.dv raw.pages),dint raw.space,dint raw.bump]).length≤2 ^ 30) Fz))))))
 ·have e7 : heapsF raw tape odd = [(makeF tape).heap,((makeF tape).spoil ⟨odd,0⟩).heap] := by rw [heapsF,if_neg (by simp only [lightB,decide_eq_true_eq]; exact hl)]; rfl
  rw [e7]
  exact gF [] Tryz.func40 [] (Fh 21 [.call true (Sx.bool (decide (raw.words.length≤5000∧raw.pages.length≤100))) [],.br false] (Fc 10 (@madeMake tape ‹_›) (Fp 17 (@madeSpoil (makeF tape) (Tape.mk odd 0) ‹_› ‹_› (by (simp only [bs]; omega)) ‹_›) (Fa (@madeLight raw) (Fb (decide (raw.words.length≤5000∧raw.pages.length≤100)=false) Fz)))))
def Tape.val (t : Tape) : Int := if t.at' < t.l.length then t.l.getD t.at'.toNat default else t.at' * 7 + 3
def Tape.nextG (t : Tape) (n : Int) : Int := if n < 1 then 0 else (IntKind.i64.wrap (t.val.tmod n + n)).tmod n
theorem tapeNextG (t : Tape) (n : Int) (ht : TOk t) : LentSpec Tryz.prog 41 [.pt 0 0 0,int n] [t.b] (int (t.nextG n)) [(t.step n).b] := by
 unfold TOk at ht
 rcases bb (decide (n < 1)) with hc0 | hc0<;>have hc0p:=hc0<;>simp only [bs] at hc0p
 ·exact lF Tryz.func41 [true,true] (Ft 7 hc0 (Fa (by simp [Tape.nextG,Tape.val,Tape.step, *] : 0 =t.nextG n) (Fr (61 : Int) (Fa (by refine congrArg _ ?_; simp [Tape.nextG,Tape.val,Tape.step, *] : List.map idv t.l =List.map idv (t.step n).l) (Fa (by simp [Tape.nextG,Tape.val,Tape.step, *] : t.at' = (t.step n).at') Fz)))))
 ·have Q0 {h_ c_ p_} (r_ : Fq h_ c_ p_) := Ff 7 hc0 (Fi 12 (t.at' * 7) (Fi 13 (t.at' * (7 :Int) + 3) (Fl 22 idv t.l r_)))
  rcases bb (decide (t.at' < (↑t.l.length : Int))) with hc1 | hc1<;>have hc1p:=hc1<;>simp only [bs] at hc1p
  ·exact lF Tryz.func41 [true,true] (Q0 (Ft 23 hc1 (Fe 32 idv t.l t.at' (Fi 38 (t.at' + 1) (Fo (n ≠ 0) (Fo (n ≠ 0) (Fa (by simp [Tape.nextG,Tape.val,Tape.step, *] : (IntKind.i64.wrap ((t.l.getD t.at'.toNat default).tmod n + n)).tmod n =t.nextG n) (Fr (61 : Int) (Fa (by refine congrArg _ ?_; simp [Tape.nextG,Tape.val,Tape.step, *] : List.map idv t.l =List.map idv (t.step n).l) (Fa (by simp [Tape.nextG,Tape.val,Tape.step, *] : t.at' + 1 =(t.step n).at') Fz))))))))))
  ·exact lF Tryz.func41 [true,true] (Q0 (Ff 23 hc1 (Fi 38 (t.at' + 1) (Fg 43 (by exact Int.tmod_eq_emod_of_nonneg (by omega) : (t.at' * (7 :Int) + 3).tmod n =(t.at' * (7 :Int) + 3) % n) (Fo (n ≠ 0) (Fo (n ≠ 0) (Fa (by grind [Tape.nextG,Tape.val,Tape.step] : (IntKind.i64.wrap ((t.at' * (7 :Int) + 3) % n + n)).tmod n =t.nextG n) (Fr (61 : Int) (Fa (by refine congrArg _ ?_; simp [Tape.nextG,Tape.val,Tape.step, *] : List.map idv t.l =List.map idv (t.step n).l) (Fa (by simp [Tape.nextG,Tape.val,Tape.step, *] : t.at' + 1 =(t.step n).at') Fz))))))))))
def hdrG (t : Tape) (c : Conf) : Int := if (t.step (smallWords c)).nextG 12 = 0 then IntKind.i64.wrap (smallWords c + ((t.step (smallWords c)).step 12).nextG c.pw) else t.nextG (smallWords c)
def hdrGT (t : Tape) (c : Conf) : Tape := if (t.step (smallWords c)).nextG 12 = 0 then ((t.step (smallWords c)).step 12).step c.pw else (t.step (smallWords c)).step 12
def shG (n : Int) : Int := IntKind.i64.wrap (1 * 2 ^ min (IntKind.u64.wrap (min (min n 32) 12)).toNat 64)
def Tape.headerG (t : Tape) (c : Conf) : Header := if (hdrGT t c).nextG 4 = 0 then ⟨2,hdrG t c,0⟩ else if (hdrGT t c).nextG 4 = 1 then ⟨3,hdrG t c,0⟩ else ⟨1,min (hdrG t c) 32,((hdrGT t c).step 4).nextG (shG (hdrG t c)) % 4294967296⟩
def Tape.headerGT (t : Tape) (c : Conf) : Tape := if (hdrGT t c).nextG 4 = 0 then (hdrGT t c).step 4 else if (hdrGT t c).nextG 4 = 1 then (hdrGT t c).step 4 else ((hdrGT t c).step 4).step (shG (hdrG t c))
theorem wrapU_pos (x : Int) : 0 ≤ IntKind.u64.wrap x := by rw [IntKind.wrap_u64]; omega
theorem tapeHeaderG (t : Tape) (c : Conf) (ht : TOk t) (ha : t.at' ≤ 1000000) : LentSpec Tryz.prog 31 [.pt 0 0 0,c.av] [t.b] ((t.headerG c).av) [(t.headerGT c).b] := by
 have s1 := step_at (t := t) (smallWords c)
 have s2 := step_at (t := t.step (smallWords c)) 12
 have s3 := step_at (t := (t.step (smallWords c)).step 12) c.pw
 have k1 := tok_of ht s1.2.2 (by omega) (by omega)
 have k2 := tok_of k1 s2.2.2 (by omega) (by omega)
 have k3 := tok_of k2 s3.2.2 (by omega) (by omega)
 have s4 := step_at (t := ((t.step (smallWords c)).step 12).step c.pw) 4
 have s5 := step_at (t := (t.step (smallWords c)).step 12) 4
 have k4 := tok_of k3 s4.2.2 (by omega) (by omega)
 have k5 := tok_of k2 s5.2.2 (by omega) (by omega)
 have Q0 {h_ c_ p_} (r_ : Fq h_ c_ p_) := Fc 8 (@refSmallWords c) (Fp 11 (@tapeNextG t (smallWords c) ‹_›) (Fp 13 (@tapeNextG (t.step (smallWords c)) (12) ‹_›) r_))
 rcases bb ((t.step (smallWords c)).nextG (12 :Int) == 0) with hc0 | hc0<;>have hc0p:=hc0<;>simp only [bs] at hc0p
 ·have Q1 {h_ c_ p_} (r_ : Fq h_ c_ p_) := Q0 (Ft 14 hc0 (Fp 19 (@tapeNextG ((t.step (smallWords c)).step 12) c.pw ‹_›) (Fp 22 (@tapeNextG (((t.step (smallWords c)).step 12).step c.pw) (4) ‹_›) r_)))
  rcases bb ((((t.step (smallWords c)).step 12).step c.pw).nextG (4 :Int) == 0) with hc1 | hc1<;>have hc1p:=hc1<;>simp only [bs] at hc1p
  ·exact lF Tryz.func31 [true,true] (Fh 23 [.br true] (Q1 (Fa hc1 (Fa (by simp [Tape.headerG,Tape.headerGT,hdrG,hdrGT,shG, *] : 2 =(t.headerG c).kind) (Fa (by simp [Tape.headerG,Tape.headerGT,hdrG,hdrGT,shG, *] : IntKind.i64.wrap (smallWords c + ((t.step (smallWords c)).step 12).nextG c.pw) =(t.headerG c).length) (Fa (by simp [Tape.headerG,Tape.headerGT,hdrG,hdrGT,shG, *] : 0 =(t.headerG c).map) (Fr (61 : Int) (Fa (by refine congrArg _ ?_; simp [Tape.headerG,Tape.headerGT,hdrG,hdrGT,shG, *] : List.map idv ((((t.step (smallWords c)).step 12).step c.pw).step 4).l =List.map idv (t.headerGT c).l) (Fa (by simp [Tape.headerG,Tape.headerGT,hdrG,hdrGT,shG, *] : ((((t.step (smallWords c)).step 12).step c.pw).step 4).at' = (t.headerGT c).at') Fz)))))))))
  ·rcases bb ((((t.step (smallWords c)).step 12).step c.pw).nextG (4 :Int) == 1) with hc2 | hc2<;>have hc2p:=hc2<;>simp only [bs] at hc2p
   ·exact lF Tryz.func31 [true,true] (Fh 23 [.br false] (Fh 27 [.br true] (Q1 (Fa hc1 (Fa hc2 (Fa (by simp [Tape.headerG,Tape.headerGT,hdrG,hdrGT,shG, *] : 3 =(t.headerG c).kind) (Fa (by simp [Tape.headerG,Tape.headerGT,hdrG,hdrGT,shG, *] : IntKind.i64.wrap (smallWords c + ((t.step (smallWords c)).step 12).nextG c.pw) =(t.headerG c).length) (Fa (by simp [Tape.headerG,Tape.headerGT,hdrG,hdrGT,shG, *] : 0 =(t.headerG c).map) (Fr (61 : Int) (Fa (by refine congrArg _ ?_; simp [Tape.headerG,Tape.headerGT,hdrG,hdrGT,shG, *] : List.map idv ((((t.step (smallWords c)).step 12).step c.pw).step 4).l =List.map idv (t.headerGT c).l) (Fa (by simp [Tape.headerG,Tape.headerGT,hdrG,hdrGT,shG, *] : ((((t.step (smallWords c)).step 12).step c.pw).step 4).at' = (t.headerGT c).at') Fz)))))))))))
   ·exact lF Tryz.func31 [true,true] (Fh 23 [.br false] (Fh 27 [.br false] (Q1 (Fa hc1 (Fa hc2 (Fgo 32 (if 32 < IntKind.i64.wrap (smallWords c + ((t.step (smallWords c)).step 12).nextG c.pw) then 32 else IntKind.i64.wrap (smallWords c + ((t.step (smallWords c)).step 12).nextG c.pw)) (min (IntKind.i64.wrap (smallWords c + ((t.step (smallWords c)).step 12).nextG c.pw)) 32) (Fgo 36 (if 12 < min (IntKind.i64.wrap (smallWords c + ((t.step (smallWords c)).step 12).nextG c.pw)) 32 then 12 else min (IntKind.i64.wrap (smallWords c + ((t.step (smallWords c)).step 12).nextG c.pw)) 32) (min (min (IntKind.i64.wrap (smallWords c + ((t.step (smallWords c)).step 12).nextG c.pw)) 32) 12) (Fa (by exact wrapU_pos _ : 0≤IntKind.u64.wrap (min (min (IntKind.i64.wrap (smallWords c + ((t.step (smallWords c)).step 12).nextG c.pw)) 32) 12)) (Fp 39 (@tapeNextG ((((t.step (smallWords c)).step 12).step c.pw).step 4) (IntKind.i64.wrap ((1 :Int) * 2 ^ min (IntKind.u64.wrap (min (min (IntKind.i64.wrap (smallWords c + ((t.step (smallWords c)).step 12).nextG c.pw)) 32) 12)).toNat 64)) ‹_›) (Fg 40 (rfl : IntKind.u32.wrap (((((t.step (smallWords c)).step 12).step c.pw).step 4).nextG (IntKind.i64.wrap ((1 :Int) * 2 ^ min (IntKind.u64.wrap (min (min (IntKind.i64.wrap (smallWords c + ((t.step (smallWords c)).step 12).nextG c.pw)) 32) 12)).toNat 64))) =((((t.step (smallWords c)).step 12).step c.pw).step 4).nextG (IntKind.i64.wrap ((1 :Int) * 2 ^ min (IntKind.u64.wrap (min (min (IntKind.i64.wrap (smallWords c + ((t.step (smallWords c)).step 12).nextG c.pw)) 32) 12)).toNat 64)) % 4294967296) (Fa (by simp [Tape.headerG,Tape.headerGT,hdrG,hdrGT,shG, *] : 1 =(t.headerG c).kind) (Fa (by simp [Tape.headerG,Tape.headerGT,hdrG,hdrGT,shG, *] : min (IntKind.i64.wrap (smallWords c + ((t.step (smallWords c)).step 12).nextG c.pw)) 32 =(t.headerG c).length) (Fa (by simp [Tape.headerG,Tape.headerGT,hdrG,hdrGT,shG, *] : ((((t.step (smallWords c)).step 12).step c.pw).step 4).nextG (IntKind.i64.wrap ((1 :Int) * 2 ^ min (IntKind.u64.wrap (min (min (IntKind.i64.wrap (smallWords c + ((t.step (smallWords c)).step 12).nextG c.pw)) 32) 12)).toNat 64)) % 4294967296 =(t.headerG c).map) (Fr (61 : Int) (Fa (by refine congrArg _ ?_; simp [Tape.headerG,Tape.headerGT,hdrG,hdrGT,shG, *] : List.map idv (((((t.step (smallWords c)).step 12).step c.pw).step 4).step (IntKind.i64.wrap ((1 :Int) * 2 ^ min (IntKind.u64.wrap (min (min (IntKind.i64.wrap (smallWords c + ((t.step (smallWords c)).step 12).nextG c.pw)) 32) 12)).toNat 64))).l =List.map idv (t.headerGT c).l) (Fa (by simp [Tape.headerG,Tape.headerGT,hdrG,hdrGT,shG, *] : (((((t.step (smallWords c)).step 12).step c.pw).step 4).step (IntKind.i64.wrap ((1 :Int) * 2 ^ min (IntKind.u64.wrap (min (min (IntKind.i64.wrap (smallWords c + ((t.step (smallWords c)).step 12).nextG c.pw)) 32) 12)).toNat 64))).at' = (t.headerGT c).at') Fz))))))))))))))))
 ·have Q2 {h_ c_ p_} (r_ : Fq h_ c_ p_) := Q0 (Ff 14 hc0 (Fp 22 (@tapeNextG ((t.step (smallWords c)).step 12) (4) ‹_›) r_))
  rcases bb (((t.step (smallWords c)).step 12).nextG (4 :Int) == 0) with hc3 | hc3<;>have hc3p:=hc3<;>simp only [bs] at hc3p
  ·exact lF Tryz.func31 [true,true] (Fh 23 [.br true] (Q2 (Fa hc3 (Fa (by simp [Tape.headerG,Tape.headerGT,hdrG,hdrGT,shG, *] : 2 =(t.headerG c).kind) (Fa (by simp [Tape.headerG,Tape.headerGT,hdrG,hdrGT,shG, *] : t.nextG (smallWords c) =(t.headerG c).length) (Fa (by simp [Tape.headerG,Tape.headerGT,hdrG,hdrGT,shG, *] : 0 =(t.headerG c).map) (Fr (61 : Int) (Fa (by refine congrArg _ ?_; simp [Tape.headerG,Tape.headerGT,hdrG,hdrGT,shG, *] : List.map idv (((t.step (smallWords c)).step 12).step 4).l =List.map idv (t.headerGT c).l) (Fa (by simp [Tape.headerG,Tape.headerGT,hdrG,hdrGT,shG, *] : (((t.step (smallWords c)).step 12).step 4).at' = (t.headerGT c).at') Fz)))))))))
  ·rcases bb (((t.step (smallWords c)).step 12).nextG (4 :Int) == 1) with hc4 | hc4<;>have hc4p:=hc4<;>simp only [bs] at hc4p
   ·exact lF Tryz.func31 [true,true] (Fh 23 [.br false] (Fh 27 [.br true] (Q2 (Fa hc3 (Fa hc4 (Fa (by simp [Tape.headerG,Tape.headerGT,hdrG,hdrGT,shG, *] : 3 =(t.headerG c).kind) (Fa (by simp [Tape.headerG,Tape.headerGT,hdrG,hdrGT,shG, *] : t.nextG (smallWords c) =(t.headerG c).length) (Fa (by simp [Tape.headerG,Tape.headerGT,hdrG,hdrGT,shG, *] : 0 =(t.headerG c).map) (Fr (61 : Int) (Fa (by refine congrArg _ ?_; simp [Tape.headerG,Tape.headerGT,hdrG,hdrGT,shG, *] : List.map idv (((t.step (smallWords c)).step 12).step 4).l =List.map idv (t.headerGT c).l) (Fa (by simp [Tape.headerG,Tape.headerGT,hdrG,hdrGT,shG, *] : (((t.step (smallWords c)).step 12).step 4).at' = (t.headerGT c).at') Fz)))))))))))
   ·exact lF Tryz.func31 [true,true] (Fh 23 [.br false] (Fh 27 [.br false] (Q2 (Fa hc3 (Fa hc4 (Fgo 32 (if 32 < t.nextG (smallWords c) then 32 else t.nextG (smallWords c)) (min (t.nextG (smallWords c)) 32) (Fgo 36 (if 12 < min (t.nextG (smallWords c)) 32 then 12 else min (t.nextG (smallWords c)) 32) (min (min (t.nextG (smallWords c)) 32) 12) (Fa (by exact wrapU_pos _ : 0≤IntKind.u64.wrap (min (min (t.nextG (smallWords c)) 32) 12)) (Fp 39 (@tapeNextG (((t.step (smallWords c)).step 12).step 4) (IntKind.i64.wrap ((1 :Int) * 2 ^ min (IntKind.u64.wrap (min (min (t.nextG (smallWords c)) 32) 12)).toNat 64)) ‹_›) (Fg 40 (rfl : IntKind.u32.wrap ((((t.step (smallWords c)).step 12).step 4).nextG (IntKind.i64.wrap ((1 :Int) * 2 ^ min (IntKind.u64.wrap (min (min (t.nextG (smallWords c)) 32) 12)).toNat 64))) =(((t.step (smallWords c)).step 12).step 4).nextG (IntKind.i64.wrap ((1 :Int) * 2 ^ min (IntKind.u64.wrap (min (min (t.nextG (smallWords c)) 32) 12)).toNat 64)) % 4294967296) (Fa (by simp [Tape.headerG,Tape.headerGT,hdrG,hdrGT,shG, *] : 1 =(t.headerG c).kind) (Fa (by simp [Tape.headerG,Tape.headerGT,hdrG,hdrGT,shG, *] : min (t.nextG (smallWords c)) 32 =(t.headerG c).length) (Fa (by simp [Tape.headerG,Tape.headerGT,hdrG,hdrGT,shG, *] : (((t.step (smallWords c)).step 12).step 4).nextG (IntKind.i64.wrap ((1 :Int) * 2 ^ min (IntKind.u64.wrap (min (min (t.nextG (smallWords c)) 32) 12)).toNat 64)) % 4294967296 =(t.headerG c).map) (Fr (61 : Int) (Fa (by refine congrArg _ ?_; simp [Tape.headerG,Tape.headerGT,hdrG,hdrGT,shG, *] : List.map idv ((((t.step (smallWords c)).step 12).step 4).step (IntKind.i64.wrap ((1 :Int) * 2 ^ min (IntKind.u64.wrap (min (min (t.nextG (smallWords c)) 32) 12)).toNat 64))).l =List.map idv (t.headerGT c).l) (Fa (by simp [Tape.headerG,Tape.headerGT,hdrG,hdrGT,shG, *] : ((((t.step (smallWords c)).step 12).step 4).step (IntKind.i64.wrap ((1 :Int) * 2 ^ min (IntKind.u64.wrap (min (min (t.nextG (smallWords c)) 32) 12)).toNat 64))).at' = (t.headerGT c).at') Fz))))))))))))))))
theorem headerG_map (t : Tape) (c : Conf) : 0 ≤ (t.headerG c).map ∧ (t.headerG c).map ≤ 4294967295 := by
 unfold Tape.headerG
 split
 ·exact ⟨by simp,by simp⟩
 ·split
  ·exact ⟨by simp,by simp⟩
  ·simp only; omega
theorem headerGT_at (t : Tape) (c : Conf) : t.at' ≤ (t.headerGT c).at' ∧ (t.headerGT c).at' ≤ t.at' + 5 ∧ (t.headerGT c).l = t.l := by
 have s1 := step_at (t := t) (smallWords c)
 have s2 := step_at (t := t.step (smallWords c)) 12
 have s3 := step_at (t := (t.step (smallWords c)).step 12) c.pw
 have hT : t.at' ≤ (hdrGT t c).at' ∧ (hdrGT t c).at' ≤ t.at' + 3 ∧ (hdrGT t c).l = t.l := by
  unfold hdrGT
  split
  ·exact ⟨by omega,by omega,by rw [s3.2.2,s2.2.2,s1.2.2]⟩
  ·exact ⟨by omega,by omega,by rw [s2.2.2,s1.2.2]⟩
 have s4 := step_at (t := hdrGT t c) 4
 have s5 := step_at (t := (hdrGT t c).step 4) (shG (hdrG t c))
 unfold Tape.headerGT
 split
 ·exact ⟨by omega,by omega,by rw [s4.2.2,hT.2.2]⟩
 ·split
  ·exact ⟨by omega,by omega,by rw [s4.2.2,hT.2.2]⟩
  ·exact ⟨by omega,by omega,by rw [s5.2.2,s4.2.2,hT.2.2]⟩
theorem law7words (n : Int) : GSpec Tryz.prog 37 [int n] true (Header.av ⟨3,n,0⟩) [] := by
 exact gF [] Tryz.func37 [] Fz
theorem law7awake : GSpec Tryz.prog 33 [] true (bool true) [] := by
 have e1 : (new7 (newHeap ⟨16,8⟩) ⟨3,3,0⟩).2.2 = 0 := by decide +kernel
 have e2 : (new7 (newHeap ⟨16,8⟩) ⟨3,3,0⟩).2.1 = 4096 := by decide +kernel
 have e3 : (new7 (newHeap ⟨16,8⟩) ⟨3,3,0⟩).1.bump = 0 := by decide +kernel
 have e4 : room7 (new7 (newHeap ⟨16,8⟩) ⟨3,3,0⟩).1 = 12 := by decide +kernel
 have hw : WOk (newHeap ⟨16,8⟩).words := fun x hx => by
  simp [newHeap] at hx; omega
 have hv : validB ⟨16,8⟩ = true := by decide
 exact gF [] Tryz.func33 [] (Fh 14 [.kill (AV.tu [(new7 (Heap.mk (Conf.mk 16 8) (List.replicate 128 0) (List.replicate 8 (Page.mk 0 0 0 0)) 0 (-1 : Int)) (Header.mk 3 3 0)).fst.av,u64 (new7 (Heap.mk (Conf.mk 16 8) (List.replicate 128 0) (List.replicate 8 (Page.mk 0 0 0 0)) 0 (-1 : Int)) (Header.mk 3 3 0)).snd.fst,int (new7 (Heap.mk (Conf.mk 16 8) (List.replicate 128 0) (List.replicate 8 (Page.mk 0 0 0 0)) 0 (-1 : Int)) (Header.mk 3 3 0)).snd.snd])] (Fc 8 (@ref4NewA) (Fc 13 (@law7words (3)) (Fa (@allocNew (Heap.mk (Conf.mk 16 8) (List.replicate 128 0) (List.replicate 8 (Page.mk 0 0 0 0)) 0 (-1 : Int)) (Header.mk 3 3 0) ‹_› (by (simp only [bs]; omega))) (FcG 31 ((new7 (Heap.mk (Conf.mk 16 8) (List.replicate 128 0) (List.replicate 8 (Page.mk 0 0 0 0)) 0 (-1 : Int)) (Header.mk 3 3 0)).snd.snd == 0&&(new7 (Heap.mk (Conf.mk 16 8) (List.replicate 128 0) (List.replicate 8 (Page.mk 0 0 0 0)) 0 (-1 : Int)) (Header.mk 3 3 0)).snd.fst == 4096&&(new7 (Heap.mk (Conf.mk 16 8) (List.replicate 128 0) (List.replicate 8 (Page.mk 0 0 0 0)) 0 (-1 : Int)) (Header.mk 3 3 0)).fst.bump == 0) (fun hg => by (try simp only [bs] at hg); exact @allocRoom (Heap.mk (Conf.mk 16 8) (new7 (Heap.mk (Conf.mk 16 8) (List.replicate 128 0) (List.replicate 8 (Page.mk 0 0 0 0)) 0 (-1 : Int)) (Header.mk 3 3 0)).fst.words (new7 (Heap.mk (Conf.mk 16 8) (List.replicate 128 0) (List.replicate 8 (Page.mk 0 0 0 0)) 0 (-1 : Int)) (Header.mk 3 3 0)).fst.pages 0 0)) Fz)))))
def Header.dvs (h : Header) : List DV := [.sc (.int .i64 h.kind),.sc (.int .i64 h.length),.sc (.int .u32 h.map)]
def hdrB (hd : Header) : Blk := .box 35 [int hd.kind,int hd.length,u32 hd.map]
def newsT (l : List Heap) (odd : List Int) : Nat → Tape
 | 0 => ⟨odd,0⟩
 | i + 1 => ((newsT l odd i).headerGT (l.getD i default).conf).step 80
theorem newsT_at (l : List Heap) (odd : List Int) : ∀ i : Nat,0 ≤ (newsT l odd i).at' ∧ (newsT l odd i).at' ≤ 6 * i ∧ (newsT l odd i).l = odd
 | 0 => ⟨by simp [newsT],by simp [newsT],rfl⟩
 | i + 1 => by
  have ih := newsT_at l odd i
  have h1 := headerGT_at (newsT l odd i) (l.getD i default).conf
  have h2 := step_at (t := (newsT l odd i).headerGT (l.getD i default).conf) 80
  simp only [newsT]
  exact ⟨by omega,by omega,by rw [h2.2.2,h1.2.2,ih.2.2]⟩
def newsL (l : List Heap) (odd : List Int) (hd : Header) (i : Nat) : Tg := ⟨tm 90 [(7,.pt 8007 0 0),(8,bool false),(9,.pt 16022 0 0),(26,.d (.sl 6 (l.map Heap.dvs))),(27,int l.length),(28,int i)],[(16022,(newsT l odd i).b),(8007,hdrB hd)],60⟩
theorem new7_len {h : Heap} {hd : Header} (hw : WOk h.words) (hm : 0 ≤ hd.map ∧ hd.map ≤ 4294967295) : (new7 h hd).1.words.length ≤ 1048576 ∧ (new7 h hd).1.pages.length ≤ 1048576 := by
 by_cases e : (new7 h hd).2.2 = 0
 ·have po := proper_ok (new7_ok hw hm e).2.2.2.2.2.2.1
  exact ⟨by omega,by omega⟩
 ·unfold new7 at e ⊢
  split at e
  ·rename_i c1
   rw [if_pos c1]
   split at e
   ·exact absurd rfl e
   ·rename_i c2
    rw [if_neg c2]; simp [noHeap]
  ·rename_i c1
   rw [if_neg c1]; simp [noHeap]
def newsI (l : List Heap) (hd : Header) (i : Nat) (h : Heap) (T : Tape) (xs : List Header) (k : Nat) : Tg := ⟨tm 90 [(7,.pt 8007 0 0),(8,bool false),(9,.pt 16022 0 0),(11,.pt 488011 0 0),(26,.d (.sl 6 (l.map Heap.dvs))),(27,int l.length),(28,int i),(40,.ow 496040),(41,int 3),(42,int k)],[(496040,.arr 35 3 (xs.map Header.dvs)),(16022,T.b),(488011,.box 27 h.cells),(8007,hdrB hd)],64⟩
theorem newsIRound (l : List Heap) (hd : Header) (i : Nat) (h : Heap) (T : Tape) (xs : List Header) (k : Nat) (hh : HOk h) (hx : xs.length = 3) (hm : 0 ≤ (xs.getD k default).map ∧ (xs.getD k default).map ≤ 4294967295) (hk : k < 3) : CSpec Tryz.prog (rndF Tryz.f10 2) (newsI l hd i h T xs k).st .nrm (newsI l hd i h T xs (k + 1)).st := by
 have hw := hh.w
 have hl := new7_len (hd := xs.getD k default) hw hm
 exact sF [] [] (Fh 45 [.el (xs.getD (↑k : Int).toNat default).dvs] (Ftb 43 (decide ((↑k : Int) < 3)) (Fa (by (simp only [List.length_map]; omega) : 0≤(↑k : Int)∧(↑k : Int).toNat < (List.map Header.dvs xs).length) (Fa (by exact el_of (by omega) : (List.map Header.dvs xs)[(↑k : Int).toNat]? = some (xs.getD (↑k : Int).toNat default).dvs) (Fc 49 (@allocNew h (xs.getD (↑k : Int).toNat default) ‹_› ‹_›) (Fc 56 (@ref7New h (xs.getD (↑k : Int).toNat default) ‹_› ‹_›) (FcG 71 (!((new7 h (xs.getD (↑k : Int).toNat default)).snd.snd != (new7 h (xs.getD (↑k : Int).toNat default)).snd.snd||(new7 h (xs.getD (↑k : Int).toNat default)).snd.fst != (new7 h (xs.getD (↑k : Int).toNat default)).snd.fst)) (fun hg => by (try simp only [bs] at hg); exact @refSame ((new7 h (xs.getD (↑k : Int).toNat default)).fst) ((new7 h (xs.getD (↑k : Int).toNat default)).fst) (by (try simp only [bs] at hg); grind []) (by (try simp only [bs] at hg); grind [])) (FcG 77 (!((new7 h (xs.getD (↑k : Int).toNat default)).snd.snd != (new7 h (xs.getD (↑k : Int).toNat default)).snd.snd||(new7 h (xs.getD (↑k : Int).toNat default)).snd.fst != (new7 h (xs.getD (↑k : Int).toNat default)).snd.fst||!decide ((new7 h (xs.getD (↑k : Int).toNat default)).fst =(new7 h (xs.getD (↑k : Int).toNat default)).fst))) (fun hg => by (try simp only [bs] at hg); exact @allocWould h (xs.getD (↑k : Int).toNat default) (by (try simp only [bs] at hg); assumption)) (Ff 81 (by simp only [bs, *,true_or,or_true,true_and,and_true,not_true_eq_false,not_false_eq_true,Bool.true_eq_false,Bool.false_eq_true] : ((new7 h (xs.getD (↑k : Int).toNat default)).snd.snd != (new7 h (xs.getD (↑k : Int).toNat default)).snd.snd||(new7 h (xs.getD (↑k : Int).toNat default)).snd.fst != (new7 h (xs.getD (↑k : Int).toNat default)).snd.fst||!decide ((new7 h (xs.getD (↑k : Int).toNat default)).fst =(new7 h (xs.getD (↑k : Int).toNat default)).fst)||!((new7 h (xs.getD (↑k : Int).toNat default)).snd.snd == 0) == ((new7 h (xs.getD (↑k : Int).toNat default)).snd.snd == 0))=false) (Fx 82 k Fz))))))))))
theorem newsIEnd (l : List Heap) (hd : Header) (i : Nat) (h : Heap) (T : Tape) (xs : List Header) : CSpec Tryz.prog (rndF Tryz.f10 2) (newsI l hd i h T xs 3).st (.ext 2) (Tg.st ⟨tm 90 [(7,.pt 8007 0 0),(8,bool false),(9,.pt 16022 0 0),(11,.pt 488011 0 0),(26,.d (.sl 6 (l.map Heap.dvs))),(27,int l.length),(28,int i)],[(16022,T.b),(488011,.box 27 h.cells),(8007,hdrB hd)],64⟩) := by
 exact sF [] [] Fz
theorem newsILoop (l : List Heap) (hd : Header) (i : Nat) (h : Heap) (T : Tape) (xs : List Header) (hh : HOk h) (hx : xs.length = 3) (hm : ∀ k,k < 3 → 0 ≤ (xs.getD k default).map ∧ (xs.getD k default).map ≤ 4294967295) : CSpec Tryz.prog (blkF Tryz.f10 2) (Tg.st ⟨tm 90 [(7,.pt 8007 0 0),(8,bool false),(9,.pt 16022 0 0),(11,.pt 488011 0 0),(26,.d (.sl 6 (l.map Heap.dvs))),(27,int l.length),(28,int i),(40,.ow 496040),(41,int 3),(42,int 0)],[(496040,.arr 35 3 (xs.map Header.dvs)),(16022,T.b),(488011,.box 27 h.cells),(8007,hdrB hd)],64⟩) .nrm (Tg.st ⟨tm 90 [(7,.pt 8007 0 0),(8,bool false),(9,.pt 16022 0 0),(11,.pt 488011 0 0),(26,.d (.sl 6 (l.map Heap.dvs))),(27,int l.length),(28,int i)],[(16022,T.b),(488011,.box 27 h.cells),(8007,hdrB hd)],64⟩) :=
 loop_ext_of (S := fun k => (newsI l hd i h T xs k).st) 3 (by kernel_rfl) (fun k hk => newsIRound l hd i h T xs k hh hx (hm k hk) hk) (newsIEnd l hd i h T xs)
theorem newsRound (l : List Heap) (odd : List Int) (hd : Header) (i : Nat) (hh : HOk (l.getD i default)) (hl : l.length ≤ 3) (ho : odd.length ≤ 140737488355328) (hm : 0 ≤ hd.map ∧ hd.map ≤ 4294967295) (hi : i < l.length) : CSpec Tryz.prog (rndF Tryz.f10 0) (newsL l odd hd i).st .nrm (newsL l odd hd (i + 1)).st := by
 have hw := hh.w
 have ht := newsT_at l odd i
 have k0 : TOk (newsT l odd i) := ⟨by rw [ht.2.2]; exact ho,ht.1,by omega⟩
 have h1 := headerGT_at (newsT l odd i) (l.getD i default).conf
 have k1 : TOk ((newsT l odd i).headerGT (l.getD i default).conf) := ⟨by rw [h1.2.2,ht.2.2]; exact ho,by omega,by omega⟩
 have hm2 := headerG_map (newsT l odd i) (l.getD i default).conf
 have hm3 : ∀ (z : Int) (k : Nat),k < 3 → 0 ≤ (([hd,(newsT l odd i).headerG (l.getD i default).conf,⟨3,z,0⟩] : List Header).getD k default).map ∧ (([hd,(newsT l odd i).headerG (l.getD i default).conf,⟨3,z,0⟩] : List Header).getD k default).map ≤ 4294967295 := fun z k hk => by
  match k,hk with
  | 0,_ => exact hm
  | 1,_ => exact hm2
  | 2,_ => exact ⟨by simp,by simp⟩
 exact sF [] [] (Fh 30 [.el (l.getD i default).dvs] (Fh 41 [.int (↑(0 + 1 + 1 + 1) : Int)] (Ftb 29 (decide ((↑i : Int) < (↑l.length : Int))) (Fa (by exact elI (by omega) (by omega) (by omega) : 0≤(↑i : Int)∧(List.map Heap.dvs l)[(↑i : Int).toNat]? = some (l.getD i default).dvs) (Fp 36 (@tapeHeaderG (newsT l odd i) ((l.getD i default).conf) ‹_› (by omega)) (Fp 38 (@tapeNextG ((newsT l odd i).headerGT (l.getD i default).conf) (80) ‹_›) (Fc 39 (@law7words (((newsT l odd i).headerGT (l.getD i default).conf).nextG 80)) (Fs 40 (List.map Header.dvs [hd,(newsT l odd i).headerG (l.getD i default).conf,Header.mk 3 (((newsT l odd i).headerGT (l.getD i default).conf).nextG 80) 0]) (Fr (↑(List.map Header.dvs [hd,(newsT l odd i).headerG (l.getD i default).conf,Header.mk (3 : Int) (((newsT l odd i).headerGT (l.getD i default).conf).nextG (80 : Int)) (0 : Int)]).length : Int) (Fu (@newsILoop l hd i (l.getD i default) (((newsT l odd i).headerGT (l.getD i default).conf).step 80) ([hd,(newsT l odd i).headerG (l.getD i default).conf,Header.mk 3 (((newsT l odd i).headerGT (l.getD i default).conf).nextG 80) 0]) ‹_› (by rfl) (by exact hm3 _)) (Fc 84 (@allocRoom (l.getD i default)) (Fc 86 (@ref7Room (l.getD i default)) (Ff 87 (by simp only [bs, *,true_or,or_true,true_and,and_true,not_true_eq_false,not_false_eq_true,Bool.true_eq_false,Bool.false_eq_true] : (room7 (l.getD i default) != room7 (l.getD i default))=false) (Fx 88 i Fz))))))))))))))
theorem newsEnd (l : List Heap) (odd : List Int) (hd : Header) : CSpec Tryz.prog (rndF Tryz.f10 0) (newsL l odd hd l.length).st (.ext 0) (Tg.st ⟨tm 90 [(8,bool false)],[],60⟩) := by
 exact sF [] [] (Ffb 29 (decide ((↑l.length : Int) < (↑l.length : Int))) Fz)
theorem newsLoop (l : List Heap) (odd : List Int) (hd : Header) (hh : ∀ h ∈ l,HOk h) (hl : l.length ≤ 3) (ho : odd.length ≤ 140737488355328) (hm : 0 ≤ hd.map ∧ hd.map ≤ 4294967295) : CSpec Tryz.prog (blkF Tryz.f10 0) (Tg.st ⟨tm 90 [(7,.pt 8007 0 0),(8,bool false),(9,.pt 16022 0 0),(26,.d (.sl 6 (l.map Heap.dvs))),(27,int l.length),(28,int 0)],[(16022,Tape.b ⟨odd,0⟩),(8007,hdrB hd)],60⟩) .nrm (Tg.st ⟨tm 90 [(8,bool false)],[],60⟩) :=
 loop_ext_of (S := fun i => (newsL l odd hd i).st) l.length (by kernel_rfl) (fun i hi => newsRound l odd hd i (hh _ (by rw [List.getD_eq_getElem?_getD,List.getElem?_eq_getElem hi]; exact List.getElem_mem hi)) hl ho hm hi) (newsEnd l odd hd)
theorem lawNews (raw : Heap) (tape odd : List Int) (hd : Header) (hw : WOk raw.words) (h1 : tape.length ≤ 140737488355328) (h2 : odd.length ≤ 140737488355328) (hm : 0 ≤ hd.map ∧ hd.map ≤ 4294967295) : GSpec Tryz.prog 10 [raw.av,intsV tape,intsV odd,hd.av] true (bool true) [] := by
 obtain ⟨k1,k2⟩ := heapsF_ok raw tape odd hw
 exact gF [] Tryz.func10 [] (Fc 26 (@law7heaps raw tape odd ‹_› ‹_›) (Fl 27 Heap.dvs (heapsF raw tape odd) (Fu (@newsLoop (heapsF raw tape odd) odd hd ‹_› ‹_› ‹_› ‹_›) (Fc 89 (@law7awake) Fz))))
end Go.Proofs.YtpklpkmnhgedbaaGreat
namespace Go.Proofs.YtpklpkmnhgedbaaGreat
open Go.Sx Go.RowKit
theorem allocNews_lifted (os : Os) (started : os.Started) (H : Type) (enc : TypeId × Value → H) :
  ReturnsInHanded {} Tryz.checked os 10 .any (Rows.allocNewsSpec.pre6 enc Tryz.prog Tryz.f10 Rows.allocNewsRow.domain false) (Rows.allocNewsSpec.post enc Tryz.prog Tryz.f10 false true false false) := by
 refine law_of_gspec (C := Tryz.checked) (tb := 4) 5 own0 started (by kernel_rfl) Tryz.func10
  (ChangeSpec.witness6 (enc := enc) (C := Tryz.checked) false ⟨#[],#[.agg #[.int .i64 0,.int .i64 0,.slice none 0 0,.slice none 0 0,.int .i64 0,.int .i64 0],.slice none 0 0,.slice none 0 0,.agg #[.int .i64 0,.int .i64 0,.int .u32 0]],[]⟩ 8 (by kernel_rfl) (by kernel_rfl) (by kernel_rfl) (by kernel_rfl))
  laidOut0 (by kernel_rfl) (by kernel_rfl) (by kernel_rfl) (by kernel_rfl) rfl (fun ds hd => ?_) (fun ls hl h => ?_)
 ·match ds,hd with
  | [a,b,c,p],_ => rfl
 ·match ls,hl with
  | [a,b,c,p],_ =>
   obtain ⟨x,rfl,hx⟩ := shp_heap (n := 1) (h 0 27 a (by kernel_rfl) rfl)
   obtain ⟨tape,rfl,ht⟩ := shp_ints (n := 3) (h 1 28 b (by kernel_rfl) rfl)
   obtain ⟨odd,rfl,ho⟩ := shp_ints (n := 3) (h 2 28 c (by kernel_rfl) rfl)
   obtain ⟨hd,rfl,hm⟩ := shp_header (n := 3) (h 3 35 p (by kernel_rfl) rfl)
   have e : zipAv Tryz.prog Tryz.f10.params.toList [heapD x,[.sl 1 (tape.map idv)],[.sl 1 (odd.map idv)],headerD hd] = [x.av,intsV tape,intsV odd,hd.av] := by kernel_rfl
   exact ⟨true,e ▸ lawNews x tape odd hd hx ht ho hm⟩
theorem allocNews_holds : Rows.AllocNewsSaid :=
 OpenClaim.holds_of_wide 10 Tryz.f10 rfl rfl rfl rfl rfl rfl rfl ⟨rfl,rfl,rfl,rfl,rfl⟩ rfl rfl rfl rfl rfl (by kernel_rfl) Tryz.func10 (by kernel_rfl)
  (of_decide_eq_true (by kernel_rfl)) (by unfold Func.isWrapper; first | (rw [if_pos (by decide +kernel)]; kernel_rfl) | (rw [if_neg (by decide +kernel)]; exact ⟨rfl,rfl⟩))
  (fun os started H enc _ => allocNews_lifted os started H enc)
end Go.Proofs.YtpklpkmnhgedbaaGreat
