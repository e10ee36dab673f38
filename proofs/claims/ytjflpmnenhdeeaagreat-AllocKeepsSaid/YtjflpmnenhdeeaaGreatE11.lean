/-
 The statement AllocKeeps: part 11.
 Conditions: none.
-/
import Derived.Test.YtjflpmnenhdeeaaGreatE10
set_option maxRecDepth 100000
set_option maxHeartbeats 2000000
set_option linter.all false
namespace Go.Proofs.YtjflpmnenhdeeaaGreat
open Go.Sx
theorem Z4N {pw s : Int} {l : List Page} {ws : List Int} (h : l.length * pw.toNat ≤ ws.length) : ∀ i,i ≤ l.length → (Z22 pw s l ws i).length = ws.length
 | 0,_ => rfl
 | i + 1,hi => by
  have ih := Z4N (s := s) h i (by omega)
  have hm : (i + 1) * pw.toNat ≤ l.length * pw.toNat := Nat.mul_le_mul_right _ hi
  rw [Nat.add_mul,Nat.one_mul] at hm
  unfold Z22
  split
  ·rw [Z3n (by simp; omega),ih]
  ·exact ih
theorem Z5e (n s : Int) (l : List Page) : ∀ i : Nat,n ≤ Z44 n s l i ∧ Z44 n s l i ≤ n + i
 | 0 => by simp [Z44]
 | i + 1 => by
  have ih := Z5e n s l i
  unfold Z44
  split <;> omega
def Z0V (w : Work) : Work := ⟨⟨w.heap.conf,Z22 w.heap.conf.pw w.heap.space w.heap.pages w.heap.words w.heap.pages.length,w.heap.pages.map (Z1f w.heap.space),w.heap.space,w.heap.bump⟩,w.old,w.taken,w.queue,w.scanned,⟨w.rep.copied,w.rep.kept,w.rep.filled,Z44 w.rep.freed w.heap.space w.heap.pages w.heap.pages.length,w.rep.cleared,w.rep.steps⟩⟩
theorem ZiN (w : Work) (ps : List Page) (ws : List Int) (n : Int) : CSpec Tryz.prog (rndF Tryz.f143 0) (Zeq w ps ws n ps.length).st (.ext 0) (Tg.st ⟨tm 78 [(1,.pt 8001 0 0),(2,.pt 8002 0 0)],[(8001,.box 176 [int w.heap.conf.pw,int w.heap.conf.pg,.ow 24017,.ow 16010,int w.heap.space,int w.heap.bump,Z01 w.old,Z1B w.taken,Z01 w.queue,int w.scanned,int w.rep.copied,int w.rep.kept,int w.rep.filled,int n,int w.rep.cleared,int w.rep.steps]),(24017,.arr 39 1 (ws.map wdv)),(16010,.arr 56 4 (ps.map Page.dv)),(8002,.box 176 [int 0,int 0,.d (.sl 0 []),.d (.sl 0 []),int 0,int 0,.d (.sl 0 []),.d (.sl 0 []),.d (.sl 0 []),int 0,int 0,int 0,int 0,int 0,int 0,int 0])],60⟩) := by
 exact sF [] [] (Fl 24 Page.dv ps (Ffb 25 (decide ((↑ps.length : Int) < (↑ps.length : Int))) Fz))
section
variable (w : Work) (hl : w.heap.pages.length ≤ 64) (hp : 0 ≤ w.heap.conf.pw ∧ w.heap.conf.pw ≤ 64) (hs : w.heap.pages.length * w.heap.conf.pw.toNat ≤ w.heap.words.length) (hw : w.heap.words.length ≤ 4096) (hr : w.rep.freed = 0)
include hl hp hs hw hr
theorem ZgS : CSpec Tryz.prog (blkF Tryz.f143 0) (Tg.st ⟨tm 78 [(1,.pt 8001 0 0),(2,.pt 8002 0 0),(3,int 0)],[(8001,.box 176 [int w.heap.conf.pw,int w.heap.conf.pg,.ow 24017,.ow 16010,int w.heap.space,int w.heap.bump,Z01 w.old,Z1B w.taken,Z01 w.queue,int w.scanned,int w.rep.copied,int w.rep.kept,int w.rep.filled,int w.rep.freed,int w.rep.cleared,int w.rep.steps]),(24017,.arr 39 1 (w.heap.words.map wdv)),(16010,.arr 56 4 (w.heap.pages.map Page.dv)),(8002,.box 176 [int 0,int 0,.d (.sl 0 []),.d (.sl 0 []),int 0,int 0,.d (.sl 0 []),.d (.sl 0 []),.d (.sl 0 []),int 0,int 0,int 0,int 0,int 0,int 0,int 0])],60⟩) .nrm (Tg.st ⟨tm 78 [(1,.pt 8001 0 0),(2,.pt 8002 0 0)],[(8001,.box 176 [int w.heap.conf.pw,int w.heap.conf.pg,.ow 24017,.ow 16010,int w.heap.space,int w.heap.bump,Z01 w.old,Z1B w.taken,Z01 w.queue,int w.scanned,int w.rep.copied,int w.rep.kept,int w.rep.filled,int (Z44 w.rep.freed w.heap.space w.heap.pages w.heap.pages.length),int w.rep.cleared,int w.rep.steps]),(24017,.arr 39 1 ((Z22 w.heap.conf.pw w.heap.space w.heap.pages w.heap.words w.heap.pages.length).map wdv)),(16010,.arr 56 4 ((w.heap.pages.map (Z1f w.heap.space)).map Page.dv)),(8002,.box 176 [int 0,int 0,.d (.sl 0 []),.d (.sl 0 []),int 0,int 0,.d (.sl 0 []),.d (.sl 0 []),.d (.sl 0 []),int 0,int 0,int 0,int 0,int 0,int 0,int 0])],60⟩) := by
 refine Z0d (S := fun k => (Zeq w (preM (Z1f w.heap.space) w.heap.pages k) (Z22 w.heap.conf.pw w.heap.space w.heap.pages w.heap.words k) (Z44 w.rep.freed w.heap.space w.heap.pages k) k).st) w.heap.pages.length (by kernel_rfl) (fun k hk => ?_) ?_
 ·have h1 := Z4I (Z1f w.heap.space) w.heap.pages k
  have h2 := Za1 (Z1f w.heap.space) w.heap.pages (Nat.le_refl k) default
  have h3 := Z4N (s := w.heap.space) hs k (by omega)
  have h4 := Z5e w.rep.freed w.heap.space w.heap.pages k
  by_cases hb : Z2W w.heap.space (w.heap.pages.getD k default)
  ·have e1 := Z7u (Z1f w.heap.space) w.heap.pages hk default
   have e2 : Z22 w.heap.conf.pw w.heap.space w.heap.pages w.heap.words (k + 1) = spl (Z22 w.heap.conf.pw w.heap.space w.heap.pages w.heap.words k) (k * w.heap.conf.pw.toNat) (List.replicate w.heap.conf.pw.toNat 0) := by rw [Z22,if_pos hb]
   have e3 : Z44 w.rep.freed w.heap.space w.heap.pages (k + 1) = Z44 w.rep.freed w.heap.space w.heap.pages k + 1 := by rw [Z44,if_pos hb]
   rw [Z1f,if_pos hb] at e1
   rw [← e1,e2,e3]
   have hm : (k + 1) * w.heap.conf.pw.toNat ≤ w.heap.pages.length * w.heap.conf.pw.toNat := Nat.mul_le_mul_right _ hk
   rw [Nat.add_mul,Nat.one_mul] at hm
   exact Zhv w _ _ _ k (by omega) (by omega) (by rw [h2]; exact hb) hp (by omega) (by omega) (by omega)
  ·have e1 := Zb8 (Z1f w.heap.space) w.heap.pages hk default (by rw [Z1f,if_neg hb])
   have e2 : Z22 w.heap.conf.pw w.heap.space w.heap.pages w.heap.words (k + 1) = Z22 w.heap.conf.pw w.heap.space w.heap.pages w.heap.words k := by rw [Z22,if_neg hb]
   have e3 : Z44 w.rep.freed w.heap.space w.heap.pages (k + 1) = Z44 w.rep.freed w.heap.space w.heap.pages k := by rw [Z44,if_neg hb]
   rw [← e1,e2,e3]
   exact Zh7 w _ _ _ k (by omega) (by omega) (by rw [h2]; exact hb)
 ·have h := ZiN w (preM (Z1f w.heap.space) w.heap.pages w.heap.pages.length) (Z22 w.heap.conf.pw w.heap.space w.heap.pages w.heap.words w.heap.pages.length) (Z44 w.rep.freed w.heap.space w.heap.pages w.heap.pages.length)
  rw [Z4I,Z9z] at h
  simp only [Z9z]
  exact h
theorem Zam : GSpec Tryz.prog 143 [w.av] false (Z0V w).av [] := by
 have h1 := Z4N (s := w.heap.space) hs w.heap.pages.length (Nat.le_refl _)
 have h2 := Z5e w.rep.freed w.heap.space w.heap.pages w.heap.pages.length
 exact gF [] Tryz.func143 [] (Fs 6 (List.map Page.dv []) (Fa (by (simp [Z0V, *]; omega) : (List.map Page.dv []).length + (List.map Page.dv w.heap.pages).length≤2 ^ 30) (Fs 10 (List.map Page.dv w.heap.pages) (Fs 13 (List.map wdv []) (Fa (by (simp [Z0V, *]; omega) : (List.map wdv []).length + (List.map wdv w.heap.words).length≤2 ^ 30) (Fs 17 (List.map wdv w.heap.words) (Fu (@ZgS w ‹_› ‹_› ‹_› ‹_› ‹_›) Fz)))))))
end
def rep0 : Rep := ⟨0,0,0,0,0,0⟩
theorem Z4t {h : Heap} {l : List Int} (e : Z0l h l = true) : Z0E h = ⟨0,0,0⟩ := by
 simp only [Z0l,Bool.and_eq_true,decide_eq_true_eq] at e
 exact e.1
section
variable (h : Heap) (s k : List Int) (hw : WOk h.words) (hs : s.length ≤ 1048575) (hk : k.length ≤ 1048575) (hs2 : ULe s) (hk2 : ULe k)
include hw hs hk hs2 hk2
theorem Zh3 (hp : Z02 h = false) : GSpec Tryz.prog 106 [h.av,Z01 s,Z01 k] false (.tu [noHeap.av,Z01 [],Z01 [],.ag rep0.cells,int 1]) [] := by
 exact gF [] Tryz.func106 [] (Fc 20 (@Z0m h) (Ftb 21 (!Z02 h) (Fnl (Fnl (Fnl (Fnl Fz))))))
theorem Zhn (hp : Z02 h = true) (hr : Z0l h s = false ∨ Z0l h k = false) : GSpec Tryz.prog 106 [h.av,Z01 s,Z01 k] false (.tu [noHeap.av,Z01 [],Z01 [],.ag rep0.cells,int 19]) [] := by
 by_cases h1 : Z0l h s = false
 ·exact gF [] Tryz.func106 [] (Fc 20 (@Z0m h) (Ffb 21 (!Z02 h) (Fc 26 (@Z1J h s ‹_› (by omega)) (FcG 31 (!!Z0l h s) (fun hg => by (try simp only [bs] at hg); exact @ZaP h k (by (try simp only [bs] at hg); assumption) (by (try simp only [bs] at hg); grind [noHeap,rep0])) (Ft 33 (by simp only [bs, *,true_or,or_true,true_and,and_true,not_true_eq_false,not_false_eq_true,Bool.true_eq_false,Bool.false_eq_true] : (!Z0l h s||true)=true) (Fnl (Fnl (Fnl (Fnl Fz)))))))))
 ·have h2 : Z0l h k = false := by
   rcases hr with hr | hr
   ·exact absurd hr h1
   ·exact hr
  exact gF [] Tryz.func106 [] (Fc 20 (@Z0m h) (Ffb 21 (!Z02 h) (Fc 26 (@Z1J h s ‹_› (by omega)) (FcG 31 (!!Z0l h s) (fun hg => by (try simp only [bs] at hg); exact @Z1J h k (by (try simp only [bs] at hg); assumption) (by (try simp only [bs] at hg); omega)) (Ftb 33 (!Z0l h s||!Z0l h k) (Fnl (Fnl (Fnl (Fnl Fz)))))))))
theorem ZhF (hp : Z02 h = true) (hr : Z0l h s = true) (hr' : Z0l h k = true) (e : ¬ (rootsF (beginW h) s).2.2 = 0) : GSpec Tryz.prog 106 [h.av,Z01 s,Z01 k] false (.tu [noHeap.av,Z01 [],Z01 [],.ag rep0.cells,int (rootsF (beginW h) s).2.2]) [] := by
 have hb := Z2Z hw hp
 have hg := Z4t hr
 exact gF [] Tryz.func106 [] (Fc 20 (@Z0m h) (Ffb 21 (!Z02 h) (Fc 26 (@Z1J h s ‹_› (by omega)) (FcG 31 (!!Z0l h s) (fun hg => by (try simp only [bs] at hg); exact @Z1J h k (by (try simp only [bs] at hg); assumption) (by (try simp only [bs] at hg); omega)) (Ff 33 (by simp only [bs, *,true_or,or_true,true_and,and_true,not_true_eq_false,not_false_eq_true,Bool.true_eq_false,Bool.false_eq_true] : (!Z0l h s||!Z0l h k)=false) (Fc 38 (@Z3Y h ‹_› ‹_› ‹_›) (Fc 44 (@Z4L (beginW h) s ‹_› ‹_› ‹_›) (Ftb 49 ((rootsF (beginW h) s).snd.snd != 0) (Fnl (Fnl (Fnl (Fnl Fz))))))))))))
theorem Zi5 (hp : Z02 h = true) (hr : Z0l h s = true) (hr' : Z0l h k = true) (e : (rootsF (beginW h) s).2.2 = 0) (e2 : ¬ (allF (rootsF (beginW h) s).1).2 = 0) : GSpec Tryz.prog 106 [h.av,Z01 s,Z01 k] false (.tu [noHeap.av,Z01 [],Z01 [],.ag rep0.cells,int (allF (rootsF (beginW h) s).1).2]) [] := by
 have hb := Z2Z hw hp
 have hi := Z2O hp
 have hg := Z4t hr
 have ho := Z2P (roots := s) hb hi e
 have ho1 := ho.1
 exact gF [] Tryz.func106 [] (Fc 20 (@Z0m h) (Ffb 21 (!Z02 h) (Fc 26 (@Z1J h s ‹_› (by omega)) (FcG 31 (!!Z0l h s) (fun hg => by (try simp only [bs] at hg); exact @Z1J h k (by (try simp only [bs] at hg); assumption) (by (try simp only [bs] at hg); omega)) (Ff 33 (by simp only [bs, *,true_or,or_true,true_and,and_true,not_true_eq_false,not_false_eq_true,Bool.true_eq_false,Bool.false_eq_true] : (!Z0l h s||!Z0l h k)=false) (Fc 38 (@Z3Y h ‹_› ‹_› ‹_›) (Fc 44 (@Z4L (beginW h) s ‹_› ‹_› ‹_›) (Ffb 49 ((rootsF (beginW h) s).snd.snd != 0) (Fc 55 (@Za7 ((rootsF (beginW h) s).fst) ‹_›) (Ftb 59 ((allF (rootsF (beginW h) s).fst).snd != 0) (Fnl (Fnl (Fnl (Fnl Fz))))))))))))))
end
def Z5E (w : Work) (x : Int) : Int := if x = 0 then 0 else Z1o w x
def Z8b (w : Work) (x : Int) : Work := ⟨w.heap,w.old,w.taken,w.queue,w.scanned,⟨w.rep.copied,w.rep.kept,w.rep.filled,w.rep.freed,if x ≠ 0 ∧ Z1o w x = 0 then w.rep.cleared + 1 else w.rep.cleared,w.rep.steps⟩⟩
def weakS (w : Work) (k : List Int) : Nat → Work
 | 0 => w
 | i + 1 => Z8b (weakS w k i) (k.getD i default)
def Z2A (w : Work) (k : List Int) : Nat → List Int
 | 0 => []
 | i + 1 => Z2A w k i ++ [Z5E (weakS w k i) (k.getD i default)]
theorem Z3K (w : Work) (k : List Int) : ∀ i,(weakS w k i).heap = w.heap ∧ (weakS w k i).old = w.old ∧ (weakS w k i).taken = w.taken ∧ (weakS w k i).queue = w.queue ∧ (weakS w k i).rep.filled = w.rep.filled ∧ (weakS w k i).rep.freed = w.rep.freed ∧ w.rep.cleared ≤ (weakS w k i).rep.cleared ∧ (weakS w k i).rep.cleared ≤ w.rep.cleared + i
 | 0 => ⟨rfl,rfl,rfl,rfl,rfl,rfl,by simp [weakS],by simp [weakS]⟩
 | i + 1 => by
  obtain ⟨h1,h2,h3,h4,h5,h6,h7,h8⟩ := Z3K w k i
  refine ⟨h1,h2,h3,h4,h5,h6, ?_, ?_⟩
  ·simp only [weakS,Z8b]; split <;> omega
  ·simp only [weakS,Z8b]; split <;> omega
theorem Z76 (w : Work) (k : List Int) : ∀ i,(Z2A w k i).length = i
 | 0 => rfl
 | i + 1 => by simp [Z2A,Z76 w k i]
def ZgQ (w : Work) (k roots out : List Int) (i : Nat) : Tg := ⟨tm 122 [(2,Z01 k),(6,.pt 8006 0 0),(7,.d (.sl 0 [])),(8,.d (.sl 0 [])),(9,.pt 8009 0 0),(10,int 0),(11,.pt 32011 0 0),(13,Z01 roots),(15,.ow 72015),(16,int i)],[(72015,.arr 39 1 (out.map wdv)),(32011,.box 176 w.cells),(8009,.box 149 [int 0,int 0,int 0,int 0,int 0,int 0]),(8006,.box 28 [int 0,int 0,.d (.sl 0 []),.d (.sl 0 []),int 0,int 0])],60⟩
section
variable (w : Work) (k roots out : List Int) (i : Nat) (hw : WOk w.heap.words) (hl : w.heap.words.length ≤ 4096) (hq : w.queue.length ≤ 1048576) (hk : k.length ≤ 1048575) (hx : 0 ≤ k.getD i default ∧ k.getD i default ≤ 18446744073709551615) (ho : out.length ≤ 1048576) (hi : i < k.length) (hc : 0 ≤ w.rep.cleared ∧ w.rep.cleared ≤ 2097152)
include hw hl hq hk hx ho hi hc
theorem Zgy : CSpec Tryz.prog (rndF Tryz.f106 0) (ZgQ w k roots out i).st .nrm (ZgQ (Z8b w (k.getD i default)) k roots (out ++ [Z5E w (k.getD i default)]) (i + 1)).st := by
 by_cases h0 : k.getD i default = 0
 ·have e1 : Z5E w (k.getD i default) = 0 := by rw [Z5E,if_pos h0]
  have e2 : Z8b w (k.getD i default) = w := by rw [Z8b,if_neg (by rintro ⟨q,_⟩; exact q h0)]
  rw [e1,e2]
  exact sF [(504091,72015)] [] (Fh 91 [.els (List.map wdv (out ++ [0]))] (Fl 65 wdv k (Ftb 66 (decide ((↑i : Int) < (↑k.length : Int))) (Fek 71 wdv k (↑i) i (Ffb 73 (k.getD i default != 0) (Fs 90 (List.map wdv [0]) (Fa (by (simp [*]; omega) : (List.map wdv out).length + (List.map wdv [0]).length≤2 ^ 30) (Fa (by simp [List.map_take,List.map_drop,List.map_set,List.map_append,wdv,idv] : List.map wdv out ++ List.map wdv [0] =List.map wdv (out ++ [0])) (Fx 68 i Fz)))))))))
 ·have e1 : Z5E w (k.getD i default) = Z1o w (k.getD i default) := by rw [Z5E,if_neg h0]
  rw [e1]
  by_cases h2 : Z1o w (k.getD i default) = 0
  ·have e2 : Z8b w (k.getD i default) = ⟨w.heap,w.old,w.taken,w.queue,w.scanned,⟨w.rep.copied,w.rep.kept,w.rep.filled,w.rep.freed,w.rep.cleared + 1,w.rep.steps⟩⟩ := by rw [Z8b,if_pos ⟨h0,h2⟩]
   rw [e2]
   exact sF [(528091,72015)] [] (Fh 91 [.els (List.map wdv (out ++ [Z1o w (k.getD i default)]))] (Fl 65 wdv k (Ftb 66 (decide ((↑i : Int) < (↑k.length : Int))) (Fek 71 wdv k (↑i) i (Ftb 73 (k.getD i default != 0) (Fek 77 wdv k (↑i) i (Fc 79 (@Z8R w (k.getD i default) ‹_› ‹_› ‹_› ‹_›) (Ftb 81 (Z1o w (k.getD i default) == 0) (Fi 85 (w.rep.cleared + 1) (Fs 90 (List.map wdv [Z1o w (k.getD i default)]) (Fa (by (simp [*]; omega) : (List.map wdv out).length + (List.map wdv [Z1o w (k.getD i default)]).length≤2 ^ 30) (Fa (by simp [List.map_take,List.map_drop,List.map_set,List.map_append,wdv,idv] : List.map wdv out ++ List.map wdv [Z1o w (k.getD i default)] =List.map wdv (out ++ [Z1o w (k.getD i default)])) (Fx 68 i Fz)))))))))))))
  ·have e2 : Z8b w (k.getD i default) = w := by rw [Z8b,if_neg (by rintro ⟨_,q⟩; exact h2 q)]
   rw [e2]
   exact sF [(520091,72015)] [] (Fh 91 [.els (List.map wdv (out ++ [Z1o w (k.getD i default)]))] (Fl 65 wdv k (Ftb 66 (decide ((↑i : Int) < (↑k.length : Int))) (Fek 71 wdv k (↑i) i (Ftb 73 (k.getD i default != 0) (Fek 77 wdv k (↑i) i (Fc 79 (@Z8R w (k.getD i default) ‹_› ‹_› ‹_› ‹_›) (Ffb 81 (Z1o w (k.getD i default) == 0) (Fs 90 (List.map wdv [Z1o w (k.getD i default)]) (Fa (by (simp [*]; omega) : (List.map wdv out).length + (List.map wdv [Z1o w (k.getD i default)]).length≤2 ^ 30) (Fa (by simp [List.map_take,List.map_drop,List.map_set,List.map_append,wdv,idv] : List.map wdv out ++ List.map wdv [Z1o w (k.getD i default)] =List.map wdv (out ++ [Z1o w (k.getD i default)])) (Fx 68 i Fz))))))))))))
end
theorem ZiH (w : Work) (k roots out : List Int) : CSpec Tryz.prog (rndF Tryz.f106 0) (ZgQ w k roots out k.length).st (.ext 0) (Tg.st ⟨tm 122 [(6,.pt 8006 0 0),(7,.d (.sl 0 [])),(8,.d (.sl 0 [])),(9,.pt 8009 0 0),(10,int 0),(11,.pt 32011 0 0),(13,Z01 roots),(15,.ow 72015)],[(72015,.arr 39 1 (out.map wdv)),(32011,.box 176 w.cells),(8009,.box 149 [int 0,int 0,int 0,int 0,int 0,int 0]),(8006,.box 28 [int 0,int 0,.d (.sl 0 []),.d (.sl 0 []),int 0,int 0])],60⟩) := by
 exact sF [] [] (Fl 65 wdv k (Ffb 66 (decide ((↑k.length : Int) < (↑k.length : Int))) Fz))
theorem ZcY (w : Work) (k roots : List Int) (hw : WOk w.heap.words) (hl : w.heap.words.length ≤ 4096) (hq : w.queue.length ≤ 1048576) (hk : k.length ≤ 1048575) (hx : ULe k) (hc : w.rep.cleared = 0) : CSpec Tryz.prog (blkF Tryz.f106 0) (Tg.st ⟨tm 122 [(2,Z01 k),(6,.pt 8006 0 0),(7,.d (.sl 0 [])),(8,.d (.sl 0 [])),(9,.pt 8009 0 0),(10,int 0),(11,.pt 32011 0 0),(13,Z01 roots),(15,.ow 72015),(16,int 0)],[(72015,.arr 39 1 []),(32011,.box 176 w.cells),(8009,.box 149 [int 0,int 0,int 0,int 0,int 0,int 0]),(8006,.box 28 [int 0,int 0,.d (.sl 0 []),.d (.sl 0 []),int 0,int 0])],60⟩) .nrm (Tg.st ⟨tm 122 [(6,.pt 8006 0 0),(7,.d (.sl 0 [])),(8,.d (.sl 0 [])),(9,.pt 8009 0 0),(10,int 0),(11,.pt 32011 0 0),(13,Z01 roots),(15,.ow 72015)],[(72015,.arr 39 1 ((Z2A w k k.length).map wdv)),(32011,.box 176 (weakS w k k.length).cells),(8009,.box 149 [int 0,int 0,int 0,int 0,int 0,int 0]),(8006,.box 28 [int 0,int 0,.d (.sl 0 []),.d (.sl 0 []),int 0,int 0])],60⟩) := by
 refine Z0d (S := fun i => (ZgQ (weakS w k i) k roots (Z2A w k i) i).st) k.length (by kernel_rfl) (fun i hi => ?_) (ZiH _ k roots _)
 have h := Z3K w k i
 exact Zgy _ k roots _ i (by rw [h.1]; exact hw) (by rw [h.1]; exact hl) (by rw [h.2.2.2.1]; exact hq) hk (Z4D hx i) (by rw [Z76]; omega) hi (by omega)
abbrev cB (h : Heap) (s k : List Int) : Work := weakS (allF (rootsF (beginW h) s).fst).fst k k.length
abbrev cA (h : Heap) (s k : List Int) : Work := fillN (cB h s k) (cB h s k).old.length
theorem Zcj {n : Int} (h : 0 ≤ n ∧ n ≤ 255) : (decodeH (1 + 16 * n)).1.length = n := by
 have e : Z3S (1 + 16 * n) = ⟨0,n,0⟩ := by
  simp only [Z3S,Header.mk.injEq]
  omega
 have he := Z4P h
 unfold decodeH
 rw [e,he]
 simp
theorem ZfY {w : Work} (h : Inv w) {x : Int} (hx : x ∈ w.old) : Inv (Z4X w x) := by
 unfold Z4X
 split
 ·rename_i hc
  have hr := h.r x (List.mem_append_left _ hx)
  have hh := Z0g w.heap.words x
  have hl : (objW ⟨0,(hdW w x).length,0⟩).length = (hlA w.heap.words x + 1).toNat := by
   show (objW ⟨0,hlA w.heap.words x,0⟩).length = _
   simp [objW]; omega
  have hin : 4096 ≤ x ∧ x - 4096 + (objW ⟨0,(hdW w x).length,0⟩).length ≤ w.heap.words.length := by omega
  have hlen : (Z0b w.heap.words x (objW ⟨0,(hdW w x).length,0⟩)).1.length = w.heap.words.length := by
   unfold Z0b
   rw [if_pos hin]
   exact Z3n (by omega)
  have := h.withWords hlen (fun a ha => ?_)
  ·exact ⟨this.L,this.r,this.s,this.f,this.z⟩
  ·by_cases he : a = x
   ·subst he
    have : hlA (Z0b w.heap.words a (objW ⟨0,(hdW w a).length,0⟩)).1 a = hlA w.heap.words a := by
     have e1 := Z1R (b := a) hin (by omega)
     unfold hlA at *
     rw [e1]
     have e2 : (objW ⟨0,(hdW w a).length,0⟩).getD (a - a).toNat 0 = 1 + 16 * (decodeH (loadA w.heap.words a).1).1.length := by
      rw [Int.sub_self]
      show (Z06 ⟨0,(hdW w a).length,0⟩).1 = _
      rw [Z4P (show 0 ≤ (hdW w a).length ∧ (hdW w a).length ≤ 255 from hh)]
      rfl
     rw [e2]
     exact Zcj hh
    omega
   ·have s1 := h.s a ha x (List.mem_append_left _ hx)
    have s2 := h.s x (List.mem_append_left _ hx) a ha
    have ha0 := Z0g w.heap.words a
    have : hlA (Z0b w.heap.words x (objW ⟨0,(hdW w x).length,0⟩)).1 a = hlA w.heap.words a := by
     have e1 := Z1W (b := a) hin (by
      rcases Int.lt_or_lt_of_ne he with q | q
      ·exact Or.inl q
      ·have := s2 q; exact Or.inr (by omega))
     unfold hlA
     rw [e1]
    omega
 ·exact h
theorem ZbE {w : Work} (hw : FOk w) (h : Inv w) : ∀ k,k ≤ w.old.length → Inv (fillN w k)
 | 0,_ => h
 | k + 1,hk => ZfY (ZbE hw h k (by omega)) (by rw [(Z4T w hw k).2.2.2.2.2.1]; exact getD_mem_iff.2 ⟨k,by omega,rfl⟩)
theorem ZaV {w : Work} (h : Inv w) (k : List Int) : ∀ i,Inv (weakS w k i)
 | 0 => h
 | i + 1 => by
  have ih := ZaV h k i
  exact ⟨ih.L,ih.r,ih.s,ih.f,ih.z⟩
theorem Zbg {w : Work} (h : FOk w) (k : List Int) : ∀ i,FOk (weakS w k i)
 | 0 => h
 | i + 1 => by
  have ih := Zbg h k i
  exact ⟨ih.words,ih.wl,ih.pl,ih.ol,ih.o,ih.tl,ih.ql⟩
def cW2 (h : Heap) (s : List Int) : Work := (allF (rootsF (beginW h) s).1).1
def cW3 (h : Heap) (s k : List Int) : Work := weakS (cW2 h s) k k.length
def cW4 (h : Heap) (s k : List Int) : Work := fillN (cW3 h s k) (cW3 h s k).old.length
def cW5 (h : Heap) (s k : List Int) : Work := Z0V (cW4 h s k)
def endH (w : Work) : Heap := ⟨w.heap.conf,w.heap.words,w.heap.pages,1 - w.heap.space,if 0 < w.taken.length then Z0Q w else -1⟩
structure COk (h : Heap) (s k : List Int) : Prop where
 w2 : WkOk (cW2 h s)
 i2 : Inv (cW2 h s)
 x2 : Ext (beginW h) (cW2 h s)
 f3 : FOk (cW3 h s k)
 i3 : Inv (cW3 h s k)
 r3 : (cW3 h s k).rep.filled = 0 ∧ (cW3 h s k).rep.freed = 0
 f4 : FOk (cW4 h s k)
 i4 : Inv (cW4 h s k)
 h4 : (cW4 h s k).heap.conf = h.conf ∧ (cW4 h s k).heap.pages = (cW2 h s).heap.pages ∧ (cW4 h s k).heap.space = (cW2 h s).heap.space ∧ (cW4 h s k).taken = (cW2 h s).taken ∧ (cW4 h s k).rep.freed = 0
section
variable (h : Heap) (s k : List Int) (hw : WOk h.words) (hp : Z02 h = true) (e : (rootsF (beginW h) s).2.2 = 0) (e2 : (allF (rootsF (beginW h) s).1).2 = 0)
include hw hp e e2
theorem cOk : COk h s k := by
 have hb := Z2Z hw hp
 have hi := Z2O hp
 have ho := Z2P (roots := s) hb hi e
 have w2 : WkOk (cW2 h s) := Zj6 _ ho.1 e2
 have i2 := Z9a ho.1 ho.2.1 e2
 have x2 : Ext (beginW h) (cW2 h s) := ho.2.2.1.trans i2.2
 have f3 : FOk (cW3 h s k) := Zbg w2.fok k _
 have i3 : Inv (cW3 h s k) := ZaV i2.1 k _
 obtain ⟨a1,a2,a3,a4,a5,a6,a7,a8⟩ := Z3K (cW2 h s) k k.length
 have hr0 := w2.r0
 have r3 : (cW3 h s k).rep.filled = 0 ∧ (cW3 h s k).rep.freed = 0 := ⟨a5.trans hr0.1,a6.trans hr0.2.1⟩
 obtain ⟨b0,b1,b2,b3,b4,b5,b6,b7,b8,b9,b10,b11⟩ := Z4T (cW3 h s k) f3 (cW3 h s k).old.length
 refine ⟨w2,i2.1,x2,f3,i3,r3,b0,ZbE f3 i3 _ (Nat.le_refl _), ?_, ?_, ?_, ?_, ?_⟩
 ·show (fillN (cW3 h s k) (cW3 h s k).old.length).heap.conf = _
  rw [b1]
  show (weakS (cW2 h s) k k.length).heap.conf = _
  rw [a1]
  exact x2.c
 ·show (fillN (cW3 h s k) (cW3 h s k).old.length).heap.pages = _
  rw [b2]
  show (weakS (cW2 h s) k k.length).heap.pages = _
  rw [a1]
 ·show (fillN (cW3 h s k) (cW3 h s k).old.length).heap.space = _
  rw [b3]
  show (weakS (cW2 h s) k k.length).heap.space = _
  rw [a1]
 ·show (fillN (cW3 h s k) (cW3 h s k).old.length).taken = _
  rw [b6]
  exact a3
 ·show (fillN (cW3 h s k) (cW3 h s k).old.length).rep.freed = _
  rw [b8]
  exact r3.2
theorem cOk5 : (cW4 h s k).heap.pages.length ≤ 64 ∧ 0 ≤ (cW4 h s k).heap.conf.pw ∧ (cW4 h s k).heap.conf.pw ≤ 64 ∧ (cW4 h s k).heap.pages.length * (cW4 h s k).heap.conf.pw.toNat ≤ (cW4 h s k).heap.words.length ∧ (cW4 h s k).heap.words.length ≤ 4096 := by
 have c := cOk h s k hw hp e e2
 have po := Z08 hp
 have hL := c.i4.L
 have hpl := c.w2.pl
 have hc2 := c.x2.c
 have hc : (cW2 h s).heap.conf = h.conf := hc2
 rw [hc] at hpl
 rw [c.h4.1] at hL
 have hl4 := c.f4.wl
 rw [c.h4.1,c.h4.2.1]
 refine ⟨by omega,by omega,by omega, ?_,hl4⟩
 have : (((cW2 h s).heap.pages.length * h.conf.pw.toNat : Nat) : Int) = h.conf.pw * h.conf.pg := by
  rw [Int.natCast_mul,Int.toNat_of_nonneg (by omega),hpl,Int.mul_comm]
 omega
end
def Z0h (h : Heap) (s k : List Int) : Heap × List Int × List Int × Rep × Int :=
 if Z02 h = true then
  (if Z0l h s = true ∧ Z0l h k = true then
   (if (rootsF (beginW h) s).2.2 = 0 then
    (if (allF (rootsF (beginW h) s).1).2 = 0 then (endH (cW5 h s k),(rootsF (beginW h) s).2.1,Z2A (cW2 h s) k k.length,(cW5 h s k).rep,0)
    else (noHeap,[],[],rep0,(allF (rootsF (beginW h) s).1).2))
   else (noHeap,[],[],rep0,(rootsF (beginW h) s).2.2))
  else (noHeap,[],[],rep0,19))
 else (noHeap,[],[],rep0,1)
section
variable (h : Heap) (s k : List Int) (hw : WOk h.words) (hs : s.length ≤ 1048575) (hk : k.length ≤ 1048575) (hs2 : ULe s) (hk2 : ULe k)
include hw hs hk hs2 hk2
theorem ZhK (hp : Z02 h = true) (hr : Z0l h s = true) (hr' : Z0l h k = true) (e : (rootsF (beginW h) s).2.2 = 0) (e2 : (allF (rootsF (beginW h) s).1).2 = 0) : GSpec Tryz.prog 106 [h.av,Z01 s,Z01 k] false (.tu [(endH (cW5 h s k)).av,Z01 (rootsF (beginW h) s).2.1,Z01 (Z2A (cW2 h s) k k.length),.ag (cW5 h s k).rep.cells,int 0]) [] := by
 have hb := Z2Z hw hp
 have hi := Z2O hp
 have hg := Z4t hr
 have ho := Z2P (roots := s) hb hi e
 have ho1 := ho.1
 have ho4 := ho.2.2.2.2
 have c := cOk h s k hw hp e e2
 obtain ⟨q1,q2,q3,q4,q5⟩ := cOk5 h s k hw hp e e2
 have w2 := c.w2
 have f3 := c.f3
 have r3 := c.r3.1
 obtain ⟨g1,g2,g3,g4,g5⟩ := c.h4
 have v1 := w2.words
 have v2 := w2.wl
 have v3 := w2.mu
 have v4 := w2.tl
 have v5 := w2.sp
 have v6 := w2.r0.2.2
 have v7 := congrArg List.length g4
 have z1 : (Z0V (cW4 h s k)).taken = (cW4 h s k).taken := rfl
 have v8 := congrArg List.length z1
 have z2 : (Z0V (cW4 h s k)).heap.space = (cW4 h s k).heap.space := rfl
 clear c
 unfold cW4 at *
 unfold cW3 at *
 unfold cW2 at *
 have Q0 {h_ c_ p_} (r_ : Fq h_ c_ p_) := Fc 20 (@Z0m h) (Ffb 21 (!Z02 h) (Fc 26 (@Z1J h s ‹_› (by omega)) (FcG 31 (!!Z0l h s) (fun hg => by (try simp only [bs] at hg); exact @Z1J h k (by (try simp only [bs] at hg); assumption) (by (try simp only [bs] at hg); omega)) (Ff 33 (by simp only [bs, *,true_or,or_true,true_and,and_true,not_true_eq_false,not_false_eq_true,Bool.true_eq_false,Bool.false_eq_true] : (!Z0l h s||!Z0l h k)=false) (Fc 38 (@Z3Y h ‹_› ‹_› ‹_›) (Fc 44 (@Z4L (beginW h) s ‹_› ‹_› ‹_›) (Ffb 49 ((rootsF (beginW h) s).snd.snd != 0) (Fc 55 (@Za7 ((rootsF (beginW h) s).fst) ‹_›) (Ffb 59 ((allF (rootsF (beginW h) s).fst).snd != 0) (Fu (@ZcY ((allF (rootsF (beginW h) s).fst).fst) k ((rootsF (beginW h) s).snd.fst) ‹_› ‹_› (by omega) ‹_› ‹_› ‹_›) (Fc 93 (@Zbf (weakS (allF (rootsF (beginW h) s).fst).fst k k.length) ‹_› ‹_›) (Fc 94 (@Zam (fillN (weakS (allF (rootsF (beginW h) s).fst).fst k k.length) (weakS (allF (rootsF (beginW h) s).fst).fst k k.length).old.length) ‹_› (by omega) ‹_› ‹_› ‹_›) (Fi 98 (1 - (Z0V (fillN (weakS (allF (rootsF (beginW h) s).fst).fst k k.length) (weakS (allF (rootsF (beginW h) s).fst).fst k k.length).old.length)).heap.space) (Fl 105 idv (Z0V (fillN (weakS (allF (rootsF (beginW h) s).fst).fst k k.length) (weakS (allF (rootsF (beginW h) s).fst).fst k k.length).old.length)).taken r_))))))))))))))
 rcases bb (decide (0 < (↑(Z0V (fillN (weakS (allF (rootsF (beginW h) s).fst).fst k k.length) (weakS (allF (rootsF (beginW h) s).fst).fst k k.length).old.length)).taken.length : Int))) with hc0 | hc0<;>have hc0p:=hc0<;>simp only [bs] at hc0p
 ·exact gF [] Tryz.func106 [false,false,false,false,false,false,false,false,false,false,false,false,false,false,false,false,false,false,true] (Fh 15 [.own] (Q0 (Ft 107 hc0 (Fi 111 ((↑(Z0V (fillN (weakS (allF (rootsF (beginW h) s).fst).fst k k.length) (weakS (allF (rootsF (beginW h) s).fst).fst k k.length).old.length)).taken.length : Int) - 1) (Fek 112 idv ((Z0V (fillN (weakS (allF (rootsF (beginW h) s).fst).fst k k.length) (weakS (allF (rootsF (beginW h) s).fst).fst k k.length).old.length)).taken) ((↑(Z0V (fillN (weakS (allF (rootsF (beginW h) s).fst).fst k k.length) (weakS (allF (rootsF (beginW h) s).fst).fst k k.length).old.length)).taken.length : Int) - 1) (((↑(Z0V (fillN (weakS (allF (rootsF (beginW h) s).fst).fst k k.length) (weakS (allF (rootsF (beginW h) s).fst).fst k k.length).old.length)).taken.length : Int) - 1).toNat) (Fr ((endH (cW5 h s k)).conf.pw) (Fr ((endH (cW5 h s k)).conf.pg) (Fr (List.map wdv (endH (cW5 h s k)).words) (Fr (List.map Page.dv (endH (cW5 h s k)).pages) (Fr ((endH (cW5 h s k)).space) (Fa (by (simp only [endH,cW5,cW4,cW3,cW2,Z0Q]; (repeat' split) <;> first | rfl | omega | (exfalso; omega) | simp_all) : (Z0V (fillN (weakS (allF (rootsF (beginW h) s).fst).fst k k.length) (weakS (allF (rootsF (beginW h) s).fst).fst k k.length).old.length)).taken.getD ((↑(Z0V (fillN (weakS (allF (rootsF (beginW h) s).fst).fst k k.length) (weakS (allF (rootsF (beginW h) s).fst).fst k k.length).old.length)).taken.length : Int) - 1).toNat default =(endH (cW5 h s k)).bump) (Fr (List.map wdv (rootsF (beginW h) s).snd.fst) (Fr (List.map wdv (Z2A (allF (rootsF (beginW h) s).fst).fst k k.length)) (Fr ((cW5 h s k).rep.copied) (Fr ((cW5 h s k).rep.kept) (Fr ((cW5 h s k).rep.filled) (Fr ((cW5 h s k).rep.freed) (Fr ((cW5 h s k).rep.cleared) (Fr ((cW5 h s k).rep.steps) (Fr (0 : Int) Fz))))))))))))))))))))
 ·exact gF [] Tryz.func106 [false,false,false,false,false,false,false,false,false,false,false,false,false,false,false,false,false,false,true] (Fh 15 [.own] (Q0 (Ff 107 hc0 (Fr ((endH (cW5 h s k)).conf.pw) (Fr ((endH (cW5 h s k)).conf.pg) (Fr (List.map wdv (endH (cW5 h s k)).words) (Fr (List.map Page.dv (endH (cW5 h s k)).pages) (Fr ((endH (cW5 h s k)).space) (Fa (by (simp [endH,cW5,cW4,cW3,cW2,Z0Q, *]; omega) : (-1 : Int) =(endH (cW5 h s k)).bump) (Fr (List.map wdv (rootsF (beginW h) s).snd.fst) (Fr (List.map wdv (Z2A (allF (rootsF (beginW h) s).fst).fst k k.length)) (Fr ((cW5 h s k).rep.copied) (Fr ((cW5 h s k).rep.kept) (Fr ((cW5 h s k).rep.filled) (Fr ((cW5 h s k).rep.freed) (Fr ((cW5 h s k).rep.cleared) (Fr ((cW5 h s k).rep.steps) (Fr (0 : Int) Fz))))))))))))))))))
end
def pinB (w : WorldM) (i : Nat) (n : Int) : WorldM := ⟨⟨w.heap.conf,w.heap.words,w.heap.pages.set i ⟨(w.heap.pages.getD i default).kind,(w.heap.pages.getD i default).space,(w.heap.pages.getD i default).used,(w.heap.pages.getD i default).pins + n⟩,w.heap.space,w.heap.bump⟩,w.strong,w.weak⟩
def pinI (w : WorldM) (t : Tape) : Nat := (ofA w.heap.conf (w.pick t)).1.toNat
def WorldM.pin (w : WorldM) (t : Tape) : WorldM :=
  if (ofA w.heap.conf (w.pick t)).2.2 = 0 then
    (if 0 < (w.heap.pages.getD (pinI w t) default).pins ∧ (w.pickT t).next 2 = 0 then pinB w (pinI w t) (-1)
     else if 0 < (w.heap.pages.getD (pinI w t) default).pins ∨ (w.heap.pages.getD (pinI w t) default).kind = 2 ∨ (crowd w.heap.pages : Int) < w.heap.conf.pg / 4 then pinB w (pinI w t) 1 else w) else w
def WorldM.pinT (w : WorldM) (t : Tape) : Tape := if (ofA w.heap.conf (w.pick t)).2.2 = 0 ∧ 0 < (w.heap.pages.getD (pinI w t) default).pins then (w.pickT t).step 2 else w.pickT t
theorem Zh0 (w : WorldM) (t : Tape) (hw : WMok w) (ht : TOk t) (ha : t.at' ≤ 1000000) (hv : Z07 w.heap.conf = true) (hp : (w.heap.pages.length : Int) = w.heap.conf.pg) (hpn : ∀ j,j < w.heap.pages.length → -1048576 ≤ (w.heap.pages.getD j default).pins ∧ (w.heap.pages.getD j default).pins ≤ 4294967296) : LentSpec Tryz.prog 65 [w.av,.pt 0 0 0] [t.b] (w.pin t).av [(w.pinT t).b] := by
 have hb := validB_iff.1 hv
 have s1 := Z9P w t
 have k1 := Z4c ht s1.2.2 (by omega) (by omega)
 have p1 := Z2z hw t
 have q1 := hpn (pinI w t)
 have hcr := Z3q w.heap.pages w.heap.pages.length
 unfold pinI at q1
 have o1 := fun e => Z3B (a := w.pick t) hv e
 by_cases e : (ofA w.heap.conf (w.pick t)).2.2 = 0
 ·have o2 := o1 e
  by_cases c1 : 0 < (w.heap.pages.getD (ofA w.heap.conf (w.pick t)).1.toNat default).pins
  ·have eT : w.pinT t = (w.pickT t).step 2 := by rw [WorldM.pinT,if_pos ⟨e,c1⟩]
   by_cases c2 : (w.pickT t).next 2 = 0
   ·have eP : w.pin t = ⟨⟨w.heap.conf,w.heap.words,w.heap.pages.set (ofA w.heap.conf (w.pick t)).1.toNat ⟨(w.heap.pages.getD (ofA w.heap.conf (w.pick t)).1.toNat default).kind,(w.heap.pages.getD (ofA w.heap.conf (w.pick t)).1.toNat default).space,(w.heap.pages.getD (ofA w.heap.conf (w.pick t)).1.toNat default).used,(w.heap.pages.getD (ofA w.heap.conf (w.pick t)).1.toNat default).pins - 1⟩,w.heap.space,w.heap.bump⟩,w.strong,w.weak⟩ := by rw [WorldM.pin,if_pos e,if_pos ⟨c1,c2⟩]; rfl
    rw [eP,eT]
    exact lF Tryz.func65 [] (Fh 42 [.br true] (Fh 37 [.br true] (Fh 51 [.el (w.heap.pages.getD (ofA w.heap.conf (w.pick t)).fst.toNat default).dv] (Fp 12 (@Z1V w t ‹_› ‹_› (by omega)) (Fc 18 (@Z47 w.heap.conf (w.pick t) (by omega) (by omega)) (Ffb 23 ((ofA w.heap.conf (w.pick t)).snd.snd != 0) (Fs 25 (List.map Page.dv []) (Fa (by (simp [*]; omega) : (List.map Page.dv []).length + (List.map Page.dv w.heap.pages).length≤2 ^ 30) (Fs 29 (List.map Page.dv w.heap.pages) (Fm 41 Page.dv w.heap.pages ((ofA w.heap.conf (w.pick t)).fst) ((ofA w.heap.conf (w.pick t)).fst.toNat) (Fb (decide (0 < (w.heap.pages.getD (ofA w.heap.conf (w.pick t)).fst.toNat default).pins)=true) (Fp 45 (@Z0z (w.pickT t) (2) ‹_› (by omega) (by omega)) (Fb (((w.pickT t).next (2 :Int) == 0)=true) (Fa (by exact Z1E (by omega) : (List.map Page.dv w.heap.pages)[(ofA w.heap.conf (w.pick t)).fst.toNat]? = some (w.heap.pages.getD (ofA w.heap.conf (w.pick t)).fst.toNat default).dv) (Fi 52 ((w.heap.pages.getD (ofA w.heap.conf (w.pick t)).fst.toNat default).pins - 1) (Fa (by exact Z1E (by omega) : (List.map Page.dv w.heap.pages)[(ofA w.heap.conf (w.pick t)).fst.toNat]? = some (w.heap.pages.getD (ofA w.heap.conf (w.pick t)).fst.toNat default).dv) (FS 10054 Page.dv w.heap.pages ((ofA w.heap.conf (w.pick t)).fst.toNat) (Page.mk (w.heap.pages.getD (ofA w.heap.conf (w.pick t)).fst.toNat default).kind (w.heap.pages.getD (ofA w.heap.conf (w.pick t)).fst.toNat default).space (w.heap.pages.getD (ofA w.heap.conf (w.pick t)).fst.toNat default).used ((w.heap.pages.getD (ofA w.heap.conf (w.pick t)).fst.toNat default).pins - 1)) ((w.heap.pages.getD (ofA w.heap.conf (w.pick t)).fst.toNat default).dv) Fz)))))))))))))))))
   ·have eP : w.pin t = ⟨⟨w.heap.conf,w.heap.words,w.heap.pages.set (ofA w.heap.conf (w.pick t)).1.toNat ⟨(w.heap.pages.getD (ofA w.heap.conf (w.pick t)).1.toNat default).kind,(w.heap.pages.getD (ofA w.heap.conf (w.pick t)).1.toNat default).space,(w.heap.pages.getD (ofA w.heap.conf (w.pick t)).1.toNat default).used,(w.heap.pages.getD (ofA w.heap.conf (w.pick t)).1.toNat default).pins + 1⟩,w.heap.space,w.heap.bump⟩,w.strong,w.weak⟩ := by rw [WorldM.pin,if_pos e,if_neg (fun q => c2 q.2),if_pos (.inl c1)]; rfl
    rw [eP,eT]
    exact lF Tryz.func65 [] (Fh 42 [.br true] (Fh 37 [.br false] (Fh 59 [.el (w.heap.pages.getD (ofA w.heap.conf (w.pick t)).fst.toNat default).dv] (Fh 65 [.el (w.heap.pages.getD (ofA w.heap.conf (w.pick t)).fst.toNat default).dv] (Fh 76 [.int (w.heap.conf.pg / 4)] (Fh 55 [.br true] (Fh 82 [.el (w.heap.pages.getD (ofA w.heap.conf (w.pick t)).fst.toNat default).dv] (Fp 12 (@Z1V w t ‹_› ‹_› (by omega)) (Fc 18 (@Z47 w.heap.conf (w.pick t) (by omega) (by omega)) (Ffb 23 ((ofA w.heap.conf (w.pick t)).snd.snd != 0) (Fs 25 (List.map Page.dv []) (Fa (by (simp [*]; omega) : (List.map Page.dv []).length + (List.map Page.dv w.heap.pages).length≤2 ^ 30) (Fs 29 (List.map Page.dv w.heap.pages) (Fm 41 Page.dv w.heap.pages ((ofA w.heap.conf (w.pick t)).fst) ((ofA w.heap.conf (w.pick t)).fst.toNat) (Fb (decide (0 < (w.heap.pages.getD (ofA w.heap.conf (w.pick t)).fst.toNat default).pins)=true) (Fp 45 (@Z0z (w.pickT t) (2) ‹_› (by omega) (by omega)) (Fb (((w.pickT t).next (2 :Int) == 0)=false) (Fa (by exact Z1E (by omega) : (List.map Page.dv w.heap.pages)[(ofA w.heap.conf (w.pick t)).fst.toNat]? = some (w.heap.pages.getD (ofA w.heap.conf (w.pick t)).fst.toNat default).dv) (Fa (by intro hg; (try simp only [bs] at hg); exact Z1E (by omega) : (!decide (0 < (w.heap.pages.getD (ofA w.heap.conf (w.pick t)).fst.toNat default).pins)) =true→(List.map Page.dv w.heap.pages)[(ofA w.heap.conf (w.pick t)).fst.toNat]? = some (w.heap.pages.getD (ofA w.heap.conf (w.pick t)).fst.toNat default).dv) (FcG 71 (!(decide (0 < (w.heap.pages.getD (ofA w.heap.conf (w.pick t)).fst.toNat default).pins)||(w.heap.pages.getD (ofA w.heap.conf (w.pick t)).fst.toNat default).kind == 2)) (fun hg => by (try simp only [bs] at hg); exact @Z7r w.heap (by (try simp only [bs] at hg); omega)) (Fa (by intro hg; (try simp only [bs] at hg); rw [wrapI' (by omega) (by omega)]; omega : (!(decide (0 < (w.heap.pages.getD (ofA w.heap.conf (w.pick t)).fst.toNat default).pins)||(w.heap.pages.getD (ofA w.heap.conf (w.pick t)).fst.toNat default).kind == 2)) =true→IntKind.i64.wrap (w.heap.conf.pg.tdiv 4) =w.heap.conf.pg / 4) (Fa (by intro hg; (try simp only [bs] at hg); omega : (!(decide (0 < (w.heap.pages.getD (ofA w.heap.conf (w.pick t)).fst.toNat default).pins)||(w.heap.pages.getD (ofA w.heap.conf (w.pick t)).fst.toNat default).kind == 2)) =true→(4 :Int) =0→False) (Fb ((decide (0 < (w.heap.pages.getD (ofA w.heap.conf (w.pick t)).fst.toNat default).pins)||(w.heap.pages.getD (ofA w.heap.conf (w.pick t)).fst.toNat default).kind == 2||decide ((↑(crowd w.heap.pages) : Int) < w.heap.conf.pg / 4))=true) (Fa (by exact Z1E (by omega) : (List.map Page.dv w.heap.pages)[(ofA w.heap.conf (w.pick t)).fst.toNat]? = some (w.heap.pages.getD (ofA w.heap.conf (w.pick t)).fst.toNat default).dv) (Fi 83 ((w.heap.pages.getD (ofA w.heap.conf (w.pick t)).fst.toNat default).pins + 1) (Fa (by exact Z1E (by omega) : (List.map Page.dv w.heap.pages)[(ofA w.heap.conf (w.pick t)).fst.toNat]? = some (w.heap.pages.getD (ofA w.heap.conf (w.pick t)).fst.toNat default).dv) (FS 10085 Page.dv w.heap.pages ((ofA w.heap.conf (w.pick t)).fst.toNat) (Page.mk (w.heap.pages.getD (ofA w.heap.conf (w.pick t)).fst.toNat default).kind (w.heap.pages.getD (ofA w.heap.conf (w.pick t)).fst.toNat default).space (w.heap.pages.getD (ofA w.heap.conf (w.pick t)).fst.toNat default).used ((w.heap.pages.getD (ofA w.heap.conf (w.pick t)).fst.toNat default).pins + 1)) ((w.heap.pages.getD (ofA w.heap.conf (w.pick t)).fst.toNat default).dv) Fz)))))))))))))))))))))))))))
  ·have eT : w.pinT t = w.pickT t := by rw [WorldM.pinT,if_neg (fun q => c1 q.2)]
   by_cases c3 : (w.heap.pages.getD (ofA w.heap.conf (w.pick t)).1.toNat default).kind = 2 ∨ (crowd w.heap.pages : Int) < w.heap.conf.pg / 4
   ·have eP : w.pin t = ⟨⟨w.heap.conf,w.heap.words,w.heap.pages.set (ofA w.heap.conf (w.pick t)).1.toNat ⟨(w.heap.pages.getD (ofA w.heap.conf (w.pick t)).1.toNat default).kind,(w.heap.pages.getD (ofA w.heap.conf (w.pick t)).1.toNat default).space,(w.heap.pages.getD (ofA w.heap.conf (w.pick t)).1.toNat default).used,(w.heap.pages.getD (ofA w.heap.conf (w.pick t)).1.toNat default).pins + 1⟩,w.heap.space,w.heap.bump⟩,w.strong,w.weak⟩ := by rw [WorldM.pin,if_pos e,if_neg (fun q => c1 q.1),if_pos (.inr c3)]; rfl
    rw [eP,eT]
    exact lF Tryz.func65 [] (Fh 42 [.br false] (Fh 45 [.lent (int ((w.pickT t).next 2)) [((w.pickT t).step 2).b]] (Fh 59 [.el (w.heap.pages.getD (ofA w.heap.conf (w.pick t)).fst.toNat default).dv] (Fh 65 [.el (w.heap.pages.getD (ofA w.heap.conf (w.pick t)).fst.toNat default).dv] (Fh 76 [.int (w.heap.conf.pg / 4)] (Fh 55 [.br true] (Fh 82 [.el (w.heap.pages.getD (ofA w.heap.conf (w.pick t)).fst.toNat default).dv] (Fp 12 (@Z1V w t ‹_› ‹_› (by omega)) (Fc 18 (@Z47 w.heap.conf (w.pick t) (by omega) (by omega)) (Ffb 23 ((ofA w.heap.conf (w.pick t)).snd.snd != 0) (Fs 25 (List.map Page.dv []) (Fa (by (simp [*]; omega) : (List.map Page.dv []).length + (List.map Page.dv w.heap.pages).length≤2 ^ 30) (Fs 29 (List.map Page.dv w.heap.pages) (Fm 41 Page.dv w.heap.pages ((ofA w.heap.conf (w.pick t)).fst) ((ofA w.heap.conf (w.pick t)).fst.toNat) (Fb (decide (0 < (w.heap.pages.getD (ofA w.heap.conf (w.pick t)).fst.toNat default).pins)=false) (Fa (by exact Z1E (by omega) : (List.map Page.dv w.heap.pages)[(ofA w.heap.conf (w.pick t)).fst.toNat]? = some (w.heap.pages.getD (ofA w.heap.conf (w.pick t)).fst.toNat default).dv) (Fa (by intro hg; (try simp only [bs] at hg); exact Z1E (by omega) : (!decide (0 < (w.heap.pages.getD (ofA w.heap.conf (w.pick t)).fst.toNat default).pins)) =true→(List.map Page.dv w.heap.pages)[(ofA w.heap.conf (w.pick t)).fst.toNat]? = some (w.heap.pages.getD (ofA w.heap.conf (w.pick t)).fst.toNat default).dv) (FcG 71 (!(decide (0 < (w.heap.pages.getD (ofA w.heap.conf (w.pick t)).fst.toNat default).pins)||(w.heap.pages.getD (ofA w.heap.conf (w.pick t)).fst.toNat default).kind == 2)) (fun hg => by (try simp only [bs] at hg); exact @Z7r w.heap (by (try simp only [bs] at hg); omega)) (Fa (by intro hg; (try simp only [bs] at hg); rw [Int.tdiv_eq_ediv_of_nonneg (by omega),wrapI' (by omega) (by omega)] : (!(decide (0 < (w.heap.pages.getD (ofA w.heap.conf (w.pick t)).fst.toNat default).pins)||(w.heap.pages.getD (ofA w.heap.conf (w.pick t)).fst.toNat default).kind == 2)) =true→IntKind.i64.wrap (w.heap.conf.pg.tdiv 4) =w.heap.conf.pg / 4) (Fa (by intro hg; (try simp only [bs] at hg); omega : (!(decide (0 < (w.heap.pages.getD (ofA w.heap.conf (w.pick t)).fst.toNat default).pins)||(w.heap.pages.getD (ofA w.heap.conf (w.pick t)).fst.toNat default).kind == 2)) =true→(4 :Int) =0→False) (Fb ((decide (0 < (w.heap.pages.getD (ofA w.heap.conf (w.pick t)).fst.toNat default).pins)||(w.heap.pages.getD (ofA w.heap.conf (w.pick t)).fst.toNat default).kind == 2||decide ((↑(crowd w.heap.pages) : Int) < w.heap.conf.pg / 4))=true) (Fa (by exact Z1E (by omega) : (List.map Page.dv w.heap.pages)[(ofA w.heap.conf (w.pick t)).fst.toNat]? = some (w.heap.pages.getD (ofA w.heap.conf (w.pick t)).fst.toNat default).dv) (Fi 83 ((w.heap.pages.getD (ofA w.heap.conf (w.pick t)).fst.toNat default).pins + 1) (Fa (by exact Z1E (by omega) : (List.map Page.dv w.heap.pages)[(ofA w.heap.conf (w.pick t)).fst.toNat]? = some (w.heap.pages.getD (ofA w.heap.conf (w.pick t)).fst.toNat default).dv) (FS 10085 Page.dv w.heap.pages ((ofA w.heap.conf (w.pick t)).fst.toNat) (Page.mk (w.heap.pages.getD (ofA w.heap.conf (w.pick t)).fst.toNat default).kind (w.heap.pages.getD (ofA w.heap.conf (w.pick t)).fst.toNat default).space (w.heap.pages.getD (ofA w.heap.conf (w.pick t)).fst.toNat default).used ((w.heap.pages.getD (ofA w.heap.conf (w.pick t)).fst.toNat default).pins + 1)) ((w.heap.pages.getD (ofA w.heap.conf (w.pick t)).fst.toNat default).dv) Fz)))))))))))))))))))))))))
   ·have eP : w.pin t = w := by rw [WorldM.pin,if_pos e,if_neg (fun q => c1 q.1),if_neg (fun q => q.elim c1 c3)]
    rw [eP,eT]
    exact lF Tryz.func65 [] (Fh 42 [.br false] (Fh 45 [.lent (int ((w.pickT t).next 2)) [((w.pickT t).step 2).b]] (Fh 59 [.el (w.heap.pages.getD (ofA w.heap.conf (w.pick t)).fst.toNat default).dv] (Fh 65 [.el (w.heap.pages.getD (ofA w.heap.conf (w.pick t)).fst.toNat default).dv] (Fh 76 [.int (w.heap.conf.pg / 4)] (Fh 55 [.br false] (Fp 12 (@Z1V w t ‹_› ‹_› (by omega)) (Fc 18 (@Z47 w.heap.conf (w.pick t) (by omega) (by omega)) (Ffb 23 ((ofA w.heap.conf (w.pick t)).snd.snd != 0) (Fs 25 (List.map Page.dv []) (Fa (by (simp [*]; omega) : (List.map Page.dv []).length + (List.map Page.dv w.heap.pages).length≤2 ^ 30) (Fs 29 (List.map Page.dv w.heap.pages) (Fm 41 Page.dv w.heap.pages ((ofA w.heap.conf (w.pick t)).fst) ((ofA w.heap.conf (w.pick t)).fst.toNat) (Fb (decide (0 < (w.heap.pages.getD (ofA w.heap.conf (w.pick t)).fst.toNat default).pins)=false) (Fa (by exact Z1E (by omega) : (List.map Page.dv w.heap.pages)[(ofA w.heap.conf (w.pick t)).fst.toNat]? = some (w.heap.pages.getD (ofA w.heap.conf (w.pick t)).fst.toNat default).dv) (Fa (by intro hg; (try simp only [bs] at hg); exact Z1E (by omega) : (!decide (0 < (w.heap.pages.getD (ofA w.heap.conf (w.pick t)).fst.toNat default).pins)) =true→(List.map Page.dv w.heap.pages)[(ofA w.heap.conf (w.pick t)).fst.toNat]? = some (w.heap.pages.getD (ofA w.heap.conf (w.pick t)).fst.toNat default).dv) (FcG 71 (!(decide (0 < (w.heap.pages.getD (ofA w.heap.conf (w.pick t)).fst.toNat default).pins)||(w.heap.pages.getD (ofA w.heap.conf (w.pick t)).fst.toNat default).kind == 2)) (fun hg => by (try simp only [bs] at hg); exact @Z7r w.heap (by (try simp only [bs] at hg); omega)) (Fa (by intro hg; (try simp only [bs] at hg); rw [Int.tdiv_eq_ediv_of_nonneg (by omega),wrapI' (by omega) (by omega)] : (!(decide (0 < (w.heap.pages.getD (ofA w.heap.conf (w.pick t)).fst.toNat default).pins)||(w.heap.pages.getD (ofA w.heap.conf (w.pick t)).fst.toNat default).kind == 2)) =true→IntKind.i64.wrap (w.heap.conf.pg.tdiv 4) =w.heap.conf.pg / 4) (Fa (by intro hg; (try simp only [bs] at hg); omega : (!(decide (0 < (w.heap.pages.getD (ofA w.heap.conf (w.pick t)).fst.toNat default).pins)||(w.heap.pages.getD (ofA w.heap.conf (w.pick t)).fst.toNat default).kind == 2)) =true→(4 :Int) =0→False) (Fb ((decide (0 < (w.heap.pages.getD (ofA w.heap.conf (w.pick t)).fst.toNat default).pins)||(w.heap.pages.getD (ofA w.heap.conf (w.pick t)).fst.toNat default).kind == 2||decide ((↑(crowd w.heap.pages) : Int) < w.heap.conf.pg / 4))=false) Fz))))))))))))))))))))
 ·have eP : w.pin t = w := by rw [WorldM.pin,if_neg e]
  have eT : w.pinT t = w.pickT t := by rw [WorldM.pinT,if_neg (fun q => e q.1)]
  rw [eP,eT]
  exact lF Tryz.func65 [] (Fp 12 (@Z1V w t ‹_› ‹_› (by omega)) (Fc 18 (@Z47 w.heap.conf (w.pick t) (by omega) (by omega)) (Ftb 23 ((ofA w.heap.conf (w.pick t)).snd.snd != 0) Fz)))
theorem Z6r (h : Heap) (s k : List Int) (hw : WOk h.words) (hs : s.length ≤ 1048575) (hk : k.length ≤ 1048575) (hs2 : ULe s) (hk2 : ULe k) : GSpec Tryz.prog 106 [h.av,Z01 s,Z01 k] false (.tu [(Z0h h s k).1.av,Z01 (Z0h h s k).2.1,Z01 (Z0h h s k).2.2.1,.ag (Z0h h s k).2.2.2.1.cells,int (Z0h h s k).2.2.2.2]) [] := by
 unfold Z0h
 by_cases hp : Z02 h = true
 ·rw [if_pos hp]
  by_cases hr : Z0l h s = true ∧ Z0l h k = true
  ·rw [if_pos hr]
   by_cases e : (rootsF (beginW h) s).2.2 = 0
   ·rw [if_pos e]
    by_cases e2 : (allF (rootsF (beginW h) s).1).2 = 0
    ·rw [if_pos e2]
     exact ZhK h s k hw hs hk hs2 hk2 hp hr.1 hr.2 e e2
    ·rw [if_neg e2]
     exact Zi5 h s k hw hs hk hs2 hk2 hp hr.1 hr.2 e e2
   ·rw [if_neg e]
    exact ZhF h s k hw hs hk hs2 hk2 hp hr.1 hr.2 e
  ·rw [if_neg hr]
   refine Zhn h s k hw hs hk hs2 hk2 hp ?_
   by_cases q : Z0l h s = true
   ·refine Or.inr ?_
    have : ¬ Z0l h k = true := fun q2 => hr ⟨q,q2⟩
    simpa using this
   ·exact Or.inl (by simpa using q)
 ·rw [if_neg hp]
  exact Zh3 h s k hw hs hk hs2 hk2 (by simpa using hp)
def WorldM.collect (w : WorldM) : WorldM := if (Z0h w.heap w.strong w.weak).2.2.2.2 = 0 then ⟨(Z0h w.heap w.strong w.weak).1,(Z0h w.heap w.strong w.weak).2.1,(Z0h w.heap w.strong w.weak).2.2.1⟩ else w
theorem Zaw (w : WorldM) (hw : WOk w.heap.words) (hs : w.strong.length ≤ 1048575) (hk : w.weak.length ≤ 1048575) (hs2 : ULe w.strong) (hk2 : ULe w.weak) : GSpec Tryz.prog 67 [w.av] false w.collect.av [] := by
 by_cases e : (Z0h w.heap w.strong w.weak).2.2.2.2 = 0
 ·have e7 : w.collect = ⟨(Z0h w.heap w.strong w.weak).1,(Z0h w.heap w.strong w.weak).2.1,(Z0h w.heap w.strong w.weak).2.2.1⟩ := by rw [WorldM.collect,if_pos e]
  rw [e7]
  exact gF [] Tryz.func67 [] (Fc 15 (@Z6r w.heap w.strong w.weak ‹_› ‹_› ‹_› ‹_› ‹_›) (Ftb 22 ((Z0h w.heap w.strong w.weak).snd.snd.snd.snd == 0) Fz))
 ·have e7 : w.collect = w := by rw [WorldM.collect,if_neg e]
  rw [e7]
  exact gF [] Tryz.func67 [] (Fc 15 (@Z6r w.heap w.strong w.weak ‹_› ‹_› ‹_› ‹_› ‹_›) (Ffb 22 ((Z0h w.heap w.strong w.weak).snd.snd.snd.snd == 0) Fz))
section
variable (P : Work → Prop) (hf : ∀ w r,WkOk w → Inv w → P w → (w.fwd r).2.2 = 0 → P (w.fwd r).1)
 (hin : ∀ w q j,WkOk w → Inv w → P w → q ∈ w.queue → 0 ≤ j → j < hlA w.heap.words q → (w.fwd (loadA w.heap.words (q + 1 + j)).1).2.2 = 0 → P (w.in1 (q + 1 + j))) (hsd : ∀ w n,P w → P (Zc5 w n))
include hin in
theorem ZeW {w : Work} (hw : WkOk w) (h : Inv w) (hp : P w) {q : Int} (hq : q ∈ w.queue) {l : List Int} (hl : ∀ x ∈ l,0 ≤ x ∧ x < hlA w.heap.words q) : ∀ k,k ≤ l.length → (∀ j,j < k → innE w q l j = 0) → P (innN w q l k)
 | 0,_,_ => hp
 | k + 1,hk,he => by
  have ih := ZeW hw h hp hq hl k (by omega) (fun j hj => he j (by omega))
  have ok := (Z3P hw q l k (fun j hj => he j (by omega))).1
  have iv := Z6y hw h hq hl k (by omega) (fun j hj => he j (by omega))
  have hx := hl _ (getD_mem_iff.2 ⟨k,by omega,rfl⟩)
  exact hin _ q (l.getD k default) ok iv.1 ih (iv.2.q q hq) hx.1 (by rw [iv.2.l q hq]; exact hx.2) (he k (by omega))
include hin hsd in
theorem ZfR {w : Work} (hw : WkOk w) (h : Inv w) (hp : P w) (e : (Z0I w).2.2 = 0) : P (Z0I w).1 := by
 by_cases hs : w.scanned < w.queue.length
 ·have hsc := hw.sc
  have hq : Z2T w ∈ w.queue := getD_mem_iff.2 ⟨w.scanned.toNat,by omega,rfl⟩
  unfold Z0I at e ⊢
  rw [if_pos hs] at e ⊢
  cases hb : (List.range (Z1L w).length).find? (fun k => decide (innE w (Z2T w) (Z1L w) k ≠ 0)) with
  | none =>
   have h0 : ∀ j,j < (Z1L w).length → innE w (Z2T w) (Z1L w) j = 0 := fun j hj => by
    have := List.find?_eq_none.1 hb j (List.mem_range.2 hj)
    simpa using this
   exact hsd _ _ (ZeW P hin hw h hp hq (l := Z1L w) (Z4o (hdW w (Z2T w))) (Z1L w).length (Nat.le_refl _) h0)
  | some k =>
   simp only [hb] at e
   have := (List.find?_range_eq_some.1 hb).1
   simp [e] at this
 ·have e : Z0I w = (w,false,0) := by rw [Z0I,if_neg hs]
  rw [e]
  exact hp
include hin hsd in
theorem ZhH {w : Work} (hw : WkOk w) (h : Inv w) (hp : P w) : ∀ k,(∀ j,j < k → Z2Y w j = false) → P (itW w k)
 | 0,_ => hp
 | k + 1,hh => by
  have ih := ZhH hw h hp k (fun j hj => hh j (by omega))
  have ok := (Z3v hw k (fun j hj => hh j (by omega))).1
  have iv := (Z62 hw h k (fun j hj => hh j (by omega))).1
  have hk := hh k (by omega)
  simp only [Z2Y,decide_eq_false_iff_not,not_or,Decidable.not_not] at hk
  exact ZfR P hin hsd ok iv ih hk.1
include hin hsd in
theorem Zk3 {w : Work} (hw : WkOk w) (h : Inv w) (hp : P w) (e : (allF w).2 = 0) : P (allF w).1 := by
 obtain ⟨k,hb⟩ := Z4e hw
 obtain ⟨h1,h2,h3⟩ := List.find?_range_eq_some.1 hb
 have h0 : ∀ j,j < k → Z2Y w j = false := fun j hj => by simpa using h3 j hj
 unfold allF at e ⊢
 rw [hb] at e ⊢
 simp only at e ⊢
 split at e
 ·rename_i c
  rw [if_pos c]
  exact ZfR P hin hsd (Z3v hw k h0).1 (Z62 hw h k h0).1 (ZhH P hin hsd hw h hp k h0) c
 ·rename_i c
  exact absurd e c
include hf in
theorem Z9w {w : Work} {roots : List Int} (hw : WkOk w) (h : Inv w) (hp : P w) : ∀ k,(∀ j,j < k → Z26 w roots j = 0) → P (Z1j w roots k).1
 | 0,_ => hp
 | k + 1,hh => by
  have ih := Z9w hw h hp k (fun j hj => hh j (by omega))
  have ok := (Z2N (roots := roots) hw k (fun j hj => hh j (by omega))).1
  have iv := (Z4U (roots := roots) hw h k (fun j hj => hh j (by omega))).1
  exact hf _ _ ok iv ih (hh k (by omega))
include hf in
theorem Z98 {w : Work} {roots : List Int} (hw : WkOk w) (h : Inv w) (hp : P w) (e : (rootsF w roots).2.2 = 0) : P (rootsF w roots).1 := by
 unfold rootsF at e ⊢
 cases hb : (List.range roots.length).find? (fun k => decide (Z26 w roots k ≠ 0)) with
 | none =>
  have h0 : ∀ j,j < roots.length → Z26 w roots j = 0 := fun j hj => by
   have := List.find?_eq_none.1 hb j (List.mem_range.2 hj)
   simpa using this
  exact Z9w P hf hw h hp roots.length h0
 | some k =>
  simp only [hb] at e
  have := (List.find?_range_eq_some.1 hb).1
  simp [e] at this
include hf hin hsd in
theorem ZiI {h : Heap} {s : List Int} (hw : WOk h.words) (hp : Z02 h = true) (h0 : P (beginW h)) (e : (rootsF (beginW h) s).2.2 = 0) (e2 : (allF (rootsF (beginW h) s).1).2 = 0) : P (cW2 h s) := by
 have hb := Z2Z hw hp
 have hi := Z2O hp
 have ho := Z2P (roots := s) hb hi e
 exact Zk3 P hin hsd ho.1 ho.2.1 (Z98 P hf hb hi h0 e) e2
end
theorem Zf3 {l : List Page} {i k : Nat} (h : ∀ m,m < k → i + 1 + m < l.length ∧ (l.getD (i + 1 + m) default).kind = 3) : k ≤ Z0y l i := by
 by_cases hc : k ≤ Z0y l i
 ·exact hc
 ·have h1 := h (Z0y l i) (by omega)
  exact absurd h1.2 (Zdk h1.1)
theorem PT.flip {c : Conf} {l : List Page} (h : PT c l) {i : Nat} (hi : i < l.length) (hk : (l.getD i default).kind = 2) {s : Int} (hs : 0 ≤ s ∧ s ≤ 1) : PT c (Z0G l i (Z0y l i) s) := by
 have hr : ∀ j,i < j → j ≤ i + Z0y l i → (l.getD j default).kind = 3 := fun j h1 h2 => by
  have := (Z7J (l := l) (i := i) (m := j - i - 1) (by omega)).2
  rwa [show i + 1 + (j - i - 1) = j by omega] at this
 have hg : ∀ j,j < l.length → ((Z0G l i (Z0y l i) s).getD j default).kind = (l.getD j default).kind ∧ ((Z0G l i (Z0y l i) s).getD j default).used = (l.getD j default).used ∧ ((Z0G l i (Z0y l i) s).getD j default).pins = (l.getD j default).pins := fun j hj => by
  rw [Z1r hj]
  split
  ·exact ⟨rfl,rfl,rfl⟩
  ·exact ⟨rfl,rfl,rfl⟩
 refine ⟨?_, ?_, ?_⟩
 ·intro j hj
  rw [Z1s] at hj
  have b := h.b j hj
  rw [Z1r hj]
  split
  ·rename_i hc
   refine ⟨hs,b.n,b.k,fun q => ?_,b.k1,b.k3⟩
   exfalso
   have q' : (l.getD j default).kind = 0 := q
   by_cases hij : j = i
   ·subst hij; omega
   ·have := hr j (by omega) hc.2; omega
  ·exact b
 ·intro j hj hk2
  rw [Z1s] at hj ⊢
  rw [(hg j hj).1] at hk2
  rw [(hg j hj).2.1]
  have q := h.lg j hj hk2
  refine ⟨q.1,fun m h1 h2 => ?_⟩
  have r := q.2 m h1 h2
  refine ⟨r.1,by rw [(hg _ r.1).1]; exact r.2.1, ?_⟩
  rw [Z1r r.1,Z1r hj]
  by_cases hij : j = i
  ·subst hij
   have hT : (need c (l.getD j default).used - 1).toNat ≤ Z0y l j := Zf3 fun m' hm' => by
    have := q.2 (m' + 1) (by omega) (by omega)
    rw [show j + 1 + m' = j + (m' + 1) by omega]
    exact ⟨this.1,this.2.1⟩
   rw [if_pos (by omega),if_pos (by omega)]
   rfl
  ·have hj1 : ¬ (i ≤ j ∧ j ≤ i + Z0y l i) := fun hc => by
    have := hr j (by omega) hc.2; omega
   have hj2 : ¬ (i ≤ j + m ∧ j + m ≤ i + Z0y l i) := fun hc => by
    by_cases hlt : j < i
    ·by_cases he : j + m = i
     ·have := r.2.1; rw [he] at this; omega
     ·have := (q.2 (i - j) (by omega) (by omega)).2.1
      rw [show j + (i - j) = i by omega] at this
      omega
    ·omega
   rw [if_neg hj1,if_neg hj2]
   exact r.2.2
 ·intro j hj hk3
  rw [Z1s] at hj
  rw [(hg j hj).1] at hk3
  obtain ⟨a,a1,a2,a3⟩ := h.tl j hj hk3
  exact ⟨a,a1,by rw [(hg a (by omega)).1]; exact a2,by rw [(hg a (by omega)).2.1]; exact a3⟩
structure Tab (B : Int) (w : Work) : Prop where
 pt : PT w.heap.conf w.heap.pages
 tk : ∀ x ∈ w.taken,(w.heap.pages.getD x.toNat default).space = 1 - w.heap.space
 pin : ∀ p ∈ w.heap.pages,p.pins ≤ B
theorem Tab.withWords {B : Int} {w : Work} (h : Tab B w) (l : List Int) : Tab B ⟨⟨w.heap.conf,l,w.heap.pages,w.heap.space,w.heap.bump⟩,w.old,w.taken,w.queue,w.scanned,w.rep⟩ := ⟨h.pt,h.tk,h.pin⟩
theorem Tab.place {B : Int} (hB : 0 ≤ B) {w : Work} (hw : WkOk w) (h : Tab B w) {n : Int} (hn : 1 ≤ n ∧ n ≤ w.heap.conf.pw) (hc : (w.place n).2.2 = true) : PT (w.place n).1.heap.conf (w.place n).1.heap.pages ∧ (∀ x ∈ (w.place n).1.taken,((w.place n).1.heap.pages.getD x.toNat default).space = 1 - (w.place n).1.heap.space) ∧ ∀ p ∈ (w.place n).1.heap.pages,p.pins ≤ B := by
 have hsp := hw.sp
 by_cases hf : Z4p w n
 ·have e : w.place n = (⟨⟨w.heap.conf,w.heap.words,Z1w w.heap.pages (Z0Q w).toNat n,w.heap.space,w.heap.bump⟩,w.old,w.taken,w.queue,w.scanned,w.rep⟩,4096 + Z0Q w * w.heap.conf.pw + (w.heap.pages.getD (Z0Q w).toNat default).used,true) := by rw [Work.place,if_pos hf]
  unfold Z4p at hf
  have hm := hw.tk _ (Z1u hf.1)
  have hi : (Z0Q w).toNat < w.heap.pages.length := by omega
  have ok := h.pt.b _ hi
  have u := ok.k1 hm.2.2
  rw [e]
  refine ⟨h.pt.setPage hi (Or.inr hm.2.2) ⟨ok.s,ok.n,ok.k,fun q => by simp only at q; omega,fun _ => by simp only; omega,fun q => by simp only at q; omega⟩ (Or.inr hm.2.2), ?_, ?_⟩
  ·intro x hx
   simp only
   rw [Z3c,Z0r hi]
   split
   ·rename_i q
    have := h.tk _ (Z1u hf.1)
    simp only
    omega
   ·exact h.tk x hx
  ·intro p hp
   rcases List.mem_or_eq_of_mem_set hp with hp | rfl
   ·exact h.pin p hp
   ·exact h.pin (w.heap.pages.getD (Z0Q w).toNat default) (getD_in hi)
 ·by_cases hg : 0 ≤ Z0v w
  ·have e : w.place n = (⟨⟨w.heap.conf,w.heap.words,Z1w (Z2q w) (Z0v w).toNat n,w.heap.space,w.heap.bump⟩,w.old,w.taken ++ [Z0v w],w.queue,w.scanned,w.rep⟩,4096 + Z0v w * w.heap.conf.pw,true) := by rw [Work.place,if_neg hf,if_pos hg]
   obtain ⟨g1,g2,g3⟩ := Z34 (h := ⟨w.heap.conf,w.heap.words,w.heap.pages,1 - w.heap.space,w.heap.bump⟩) (by simp only; omega) hg n
   have g1' : Z1w (Z2q w) (Z0v w).toNat n = w.heap.pages.set (Z0v w).toNat ⟨1,1 - w.heap.space,n,0⟩ := g1
   have g2' : (w.heap.pages.getD (Z0v w).toNat default).kind = 0 := g2
   have g3' : (Z0v w).toNat < w.heap.pages.length := g3
   rw [e,g1']
   refine ⟨h.pt.setPage g3' (Or.inl g2') ⟨by simp only; omega,by simp,by simp,by simp,fun _ => by simp only; omega,by simp⟩ (Or.inr rfl), ?_, ?_⟩
   ·intro x hx
    simp only at hx ⊢
    rw [Z0r g3']
    split
    ·rfl
    ·rename_i hne
     rcases List.mem_append.1 hx with hx | hx
     ·exact h.tk x hx
     ·simp at hx; subst hx; exact absurd rfl hne
   ·intro p hp
    rcases List.mem_or_eq_of_mem_set hp with hp | rfl
    ·exact h.pin p hp
    ·exact hB
  ·rw [Work.place,if_neg hf,if_neg hg] at hc
   simp at hc
theorem Tab.fwd {B : Int} (hB : 0 ≤ B) (w : Work) (r : Int) (hw : WkOk w) (hi : Inv w) (h : Tab B w) (e : (w.fwd r).2.2 = 0) : Tab B (w.fwd r).1 := by
 unfold Work.fwd at e ⊢
 split at e
 ·rename_i c1
  rw [if_pos c1]
  exact h
 ·rename_i c1
  rw [if_neg c1]
  split at e
  ·simp at e
  ·rename_i c2
   rw [if_neg c2]
   have c2' : r ∈ w.old := Decidable.not_not.1 c2
   split at e
   ·rename_i c3
    rw [if_pos c3]
    exact h
   ·rename_i c3
    rw [if_neg c3]
    split at e
    ·simp at e
    ·rename_i c4
     rw [if_neg c4]
     split at e
     ·rename_i c5
      rw [if_pos c5]
      exact ⟨h.pt,h.tk,h.pin⟩
     ·rename_i c5
      rw [if_neg c5]
      split at e
      ·rename_i c6
       rw [if_pos c6]
       have hsp := hw.sp
       have o := Z3B hw.conf (Decidable.not_not.1 c4)
       have hpl := hw.pl
       have hl : Z16 w r < w.heap.pages.length := by unfold Z16; omega
       refine ⟨h.pt.flip hl c6 (by omega), ?_, ?_⟩
       ·intro x hx
        have t := hw.tk x hx
        simp only [Work.keep,Work.flip]
        rw [Z1r (by omega)]
        split
        ·rename_i hc
         exfalso
         by_cases hx' : x.toNat = Z16 w r
         ·rw [hx'] at t; omega
         ·have := (Z7J (l := w.heap.pages) (i := Z16 w r) (m := x.toNat - Z16 w r - 1) (by omega)).2
          rw [show Z16 w r + 1 + (x.toNat - Z16 w r - 1) = x.toNat by omega] at this
          omega
        ·exact h.tk x hx
       ·intro p hp
        simp only [Work.keep,Work.flip,Z0G,List.mem_map,List.mem_range] at hp
        obtain ⟨j,hj,rfl⟩ := hp
        split
        ·exact h.pin (w.heap.pages.getD j default) (getD_in hj)
        ·exact h.pin (w.heap.pages.getD j default) (getD_in hj)
      ·rename_i c6
       rw [if_neg c6]
       split at e
       ·simp at e
       ·rename_i c7
        rw [if_neg c7]
        have c7' : (w.place (sizeH (hdW w r))).2.2 = true := by simpa using c7
        have hz := hi.z r c2'
        have hs := Z5K w r
        have hp : sizeH (hdW w r) ≤ w.heap.conf.pw := by
         rw [Z3a]
         rcases hz with hz | hz
         ·exact absurd hz c6
         ·exact hz
        obtain ⟨q1,q2,q3⟩ := h.place hB hw ⟨hs.1,hp⟩ c7'
        exact ⟨q1,q2,q3⟩
theorem Z4C {B : Int} {h : Heap} (hp : Z02 h = true) (hb : ∀ p ∈ h.pages,p.pins ≤ B) : Tab B (beginW h) := by
 have hp' := hp
 rw [Z1d] at hp'
 have hs := hp'.2.2.2.1
 refine ⟨?_,by simp [beginW], ?_⟩
 ·refine hp'.2.2.2.2.2.mapPages _ ?_ ?_ ?_ ?_
  ·intro p hp
   unfold begQ
   split
   ·rename_i hc
    exact ⟨by simp only; omega,hp.n,hp.k,fun q => by simp only at q; omega,hp.k1,fun q => by simp only at q; omega⟩
   ·exact hp
  ·intro p hp hk
   unfold begQ at hk ⊢
   split at hk
   ·rename_i hc; simp only at hk; omega
   ·rename_i hc; rw [if_neg hc]; exact ⟨hk,rfl⟩
  ·intro p hp hk
   unfold begQ at hk
   split at hk
   ·rename_i hc; simp only at hk; omega
   ·exact hk
  ·intro p q hp hq h2 h3 he
   have e1 : begQ (1 - h.space) p = p := by rw [begQ,if_neg (by omega)]
   have e2 : begQ (1 - h.space) q = q := by rw [begQ,if_neg (by omega)]
   rw [e1,e2]
   exact ⟨⟨fun _ => h3,fun _ => h2⟩,fun _ => he⟩
 ·intro p hp
  simp only [beginW,List.mem_map] at hp
  obtain ⟨q,hq,rfl⟩ := hp
  unfold begQ
  split
  ·exact hb q hq
  ·exact hb q hq
theorem ZiT {B : Int} (hB : 0 ≤ B) {h : Heap} {s : List Int} (hw : WOk h.words) (hp : Z02 h = true) (hb : ∀ p ∈ h.pages,p.pins ≤ B) (e : (rootsF (beginW h) s).2.2 = 0) (e2 : (allF (rootsF (beginW h) s).1).2 = 0) : Tab B (cW2 h s) :=
 ZiI (Tab B) (fun w r hw hi h e => h.fwd hB w r hw hi e) (fun w q j hw hi h hq h0 h1 e => (Tab.fwd hB w _ hw hi h e).withWords _) (fun w n h => ⟨h.pt,h.tk,h.pin⟩) hw hp (Z4C hp hb) e e2
structure MOk (w : WorldM) (n : Nat) : Prop where
 words : WOk w.heap.words
 hv : Z07 w.heap.conf = true
 pl : (w.heap.pages.length : Int) = w.heap.conf.pg
 L : (w.heap.words.length : Int) = w.heap.conf.pw * w.heap.conf.pg
 pins : ∀ j,j < w.heap.pages.length → 0 ≤ (w.heap.pages.getD j default).pins ∧ (w.heap.pages.getD j default).pins ≤ n
 us : ∀ j,j < w.heap.pages.length → 0 ≤ (w.heap.pages.getD j default).used ∧ (w.heap.pages.getD j default).used ≤ 256
 strong : ULe w.strong
 weak : ULe w.weak
 sl : w.strong.length ≤ n
 wl : w.weak.length ≤ n
theorem MOk.wm {w : WorldM} {n : Nat} (h : MOk w n) (hn : n ≤ 1000000) : WMok w := ⟨h.words,h.strong,h.weak,Nat.le_trans h.sl (by omega),Nat.le_trans h.wl (by omega)⟩
def WorldM.dup (w : WorldM) (t : Tape) : WorldM := ⟨w.heap,w.strong ++ [w.pick t],w.weak⟩
def WorldM.step (w : WorldM) (t : Tape) : WorldM :=
 if t.next 12 ≤ 3 then w.put ((t.step 12).header w.heap.conf)
 else if t.next 12 ≤ 6 then w.link (t.step 12)
 else if t.next 12 ≤ 7 then w.pin (t.step 12)
 else if t.next 12 ≤ 9 then w.drop (t.step 12)
 else if t.next 12 ≤ 10 then w.collect
 else w.dup (t.step 12)
def WorldM.stepT (w : WorldM) (t : Tape) : Tape :=
 if t.next 12 ≤ 3 then (t.step 12).headerT w.heap.conf
 else if t.next 12 ≤ 6 then w.linkT (t.step 12)
 else if t.next 12 ≤ 7 then w.pinT (t.step 12)
 else if t.next 12 ≤ 9 then w.dropT (t.step 12)
 else if t.next 12 ≤ 10 then t.step 12
 else w.pickT (t.step 12)
theorem Z3C (t : Tape) (c : Conf) : 0 ≤ (t.header c).map ∧ (t.header c).map ≤ 4294967295 := by
 have h : ∀ n : Int,0 ≤ ((Z1y t c).step 4).next (2 ^ (min (min n 32) 12).toNat) ∧ ((Z1y t c).step 4).next (2 ^ (min (min n 32) 12).toNat) ≤ 4294967295 := by
  intro n
  have p := Zh9 (n := min (min n 32) 12) (by omega)
  have r := Z0A ((Z1y t c).step 4) (n := 2 ^ (min (min n 32) 12).toNat) p.1
  omega
 unfold Tape.header
 split
 ·simp
 ·split
  ·simp
  ·exact h _
theorem Z1U (t : Tape) (d : Int) (hd : t.next 12 = d) (ht : TOk t) : LentSpec Tryz.prog 33 [.pt 0 0 0,int 12] [t.b] (int d) [(t.step 12).b] := by
 rw [← hd]
 exact Z0z t 12 ht (by decide) (by decide)
section
variable (w : WorldM) (t : Tape) (n : Nat) (hm : MOk w n) (hn : n ≤ 1000000) (ht : TOk t) (ha : t.at' ≤ 900000)
include hm hn ht ha
theorem Zfh : LentSpec Tryz.prog 31 [w.av,.pt 0 0 0] [t.b] (w.step t).av [(w.stepT t).b] := by
 have hw := hm.wm hn
 have h1 := hm.words
 have h2 := hm.strong
 have h3 := hm.weak
 have h4 := hm.sl
 have h5 := hm.wl
 have s1 := Z3o (t := t) 12
 have k1 := Z4c ht s1.2.2 (by omega) (by omega)
 have n1 := Z0A t (n := 12) (by decide)
 have hmap := Z3C (t.step 12) w.heap.conf
 have hv := hm.hv
 have hpl := hm.pl
 have hpn : ∀ j,j < w.heap.pages.length → -1048576 ≤ (w.heap.pages.getD j default).pins ∧ (w.heap.pages.getD j default).pins ≤ 4294967296 := fun j hj => by
  have := hm.pins j hj; omega
 have hd : t.next 12 = 0 ∨ t.next 12 = 1 ∨ t.next 12 = 2 ∨ t.next 12 = 3 ∨ t.next 12 = 4 ∨ t.next 12 = 5 ∨ t.next 12 = 6 ∨ t.next 12 = 7 ∨ t.next 12 = 8 ∨ t.next 12 = 9 ∨ t.next 12 = 10 ∨ t.next 12 = 11 := by omega
 rcases hd with hd | hd | hd | hd | hd | hd | hd | hd | hd | hd | hd | hd
 ·have e7 : w.step t = w.put ((t.step 12).header w.heap.conf) := by simp [WorldM.step,hd]
  have e8 : w.stepT t = (t.step 12).headerT w.heap.conf := by simp [WorldM.stepT,hd]
  rw [e7,e8]
  exact lF Tryz.func31 [] (Fp 6 (@Z1U t (0) ‹_› ‹_›) (Fp 17 (@Z2E (t.step 12) w.heap.conf ‹_› (by omega) ‹_›) (Fc 18 (@Z6J w ((t.step 12).header w.heap.conf) ‹_› ‹_›) Fz)))
 ·have e7 : w.step t = w.put ((t.step 12).header w.heap.conf) := by simp [WorldM.step,hd]
  have e8 : w.stepT t = (t.step 12).headerT w.heap.conf := by simp [WorldM.stepT,hd]
  rw [e7,e8]
  exact lF Tryz.func31 [] (Fp 6 (@Z1U t (1) ‹_› ‹_›) (Fp 17 (@Z2E (t.step 12) w.heap.conf ‹_› (by omega) ‹_›) (Fc 18 (@Z6J w ((t.step 12).header w.heap.conf) ‹_› ‹_›) Fz)))
 ·have e7 : w.step t = w.put ((t.step 12).header w.heap.conf) := by simp [WorldM.step,hd]
  have e8 : w.stepT t = (t.step 12).headerT w.heap.conf := by simp [WorldM.stepT,hd]
  rw [e7,e8]
  exact lF Tryz.func31 [] (Fp 6 (@Z1U t (2) ‹_› ‹_›) (Fp 17 (@Z2E (t.step 12) w.heap.conf ‹_› (by omega) ‹_›) (Fc 18 (@Z6J w ((t.step 12).header w.heap.conf) ‹_› ‹_›) Fz)))
 ·have e7 : w.step t = w.put ((t.step 12).header w.heap.conf) := by simp [WorldM.step,hd]
  have e8 : w.stepT t = (t.step 12).headerT w.heap.conf := by simp [WorldM.stepT,hd]
  rw [e7,e8]
  exact lF Tryz.func31 [] (Fp 6 (@Z1U t (3) ‹_› ‹_›) (Fp 17 (@Z2E (t.step 12) w.heap.conf ‹_› (by omega) ‹_›) (Fc 18 (@Z6J w ((t.step 12).header w.heap.conf) ‹_› ‹_›) Fz)))
 ·have e7 : w.step t = w.link (t.step 12) := by simp [WorldM.step,hd]
  have e8 : w.stepT t = w.linkT (t.step 12) := by simp [WorldM.stepT,hd]
  rw [e7,e8]
  exact lF Tryz.func31 [] (Fp 6 (@Z1U t (4) ‹_› ‹_›) (Fp 25 (@Z7b w (t.step 12) ‹_› ‹_› (by omega)) Fz))
 ·have e7 : w.step t = w.link (t.step 12) := by simp [WorldM.step,hd]
  have e8 : w.stepT t = w.linkT (t.step 12) := by simp [WorldM.stepT,hd]
  rw [e7,e8]
  exact lF Tryz.func31 [] (Fp 6 (@Z1U t (5) ‹_› ‹_›) (Fp 25 (@Z7b w (t.step 12) ‹_› ‹_› (by omega)) Fz))
 ·have e7 : w.step t = w.link (t.step 12) := by simp [WorldM.step,hd]
  have e8 : w.stepT t = w.linkT (t.step 12) := by simp [WorldM.stepT,hd]
  rw [e7,e8]
  exact lF Tryz.func31 [] (Fp 6 (@Z1U t (6) ‹_› ‹_›) (Fp 25 (@Z7b w (t.step 12) ‹_› ‹_› (by omega)) Fz))
 ·have e7 : w.step t = w.pin (t.step 12) := by simp [WorldM.step,hd]
  have e8 : w.stepT t = w.pinT (t.step 12) := by simp [WorldM.stepT,hd]
  rw [e7,e8]
  exact lF Tryz.func31 [] (Fp 6 (@Z1U t (7) ‹_› ‹_›) (Fp 30 (@Zh0 w (t.step 12) ‹_› ‹_› (by omega) ‹_› (by omega) ‹_›) Fz))
 ·have e7 : w.step t = w.drop (t.step 12) := by simp [WorldM.step,hd]
  have e8 : w.stepT t = w.dropT (t.step 12) := by simp [WorldM.stepT,hd]
  rw [e7,e8]
  exact lF Tryz.func31 [] (Fp 6 (@Z1U t (8) ‹_› ‹_›) (Fp 36 (@ZaE w (t.step 12) ‹_› ‹_› (by omega)) Fz))
 ·have e7 : w.step t = w.drop (t.step 12) := by simp [WorldM.step,hd]
  have e8 : w.stepT t = w.dropT (t.step 12) := by simp [WorldM.stepT,hd]
  rw [e7,e8]
  exact lF Tryz.func31 [] (Fp 6 (@Z1U t (9) ‹_› ‹_›) (Fp 36 (@ZaE w (t.step 12) ‹_› ‹_› (by omega)) Fz))
 ·have e7 : w.step t = w.collect := by simp [WorldM.step,hd]
  have e8 : w.stepT t = t.step 12 := by simp [WorldM.stepT,hd]
  rw [e7,e8]
  exact lF Tryz.func31 [] (Fp 6 (@Z1U t (10) ‹_› ‹_›) (Fc 40 (@Zaw w ‹_› (by omega) (by omega) ‹_› ‹_›) Fz))
 ·have e7 : w.step t = w.dup (t.step 12) := by simp [WorldM.step,hd]
  have e8 : w.stepT t = w.pickT (t.step 12) := by simp [WorldM.stepT,hd]
  rw [e7,e8]
  exact lF Tryz.func31 [] (Fh 49 [.els (List.map wdv (w.strong ++ [w.pick (t.step 12)]))] (Fp 6 (@Z1U t (11) ‹_› ‹_›) (Fs 41 (List.map wdv []) (Fa (by (simp [WorldM.dup, *]; omega) : (List.map wdv []).length + (List.map wdv w.strong).length≤2 ^ 30) (Fs 44 (List.map wdv w.strong) (Fp 47 (@Z1V w (t.step 12) ‹_› ‹_› (by omega)) (Fs 48 (List.map wdv [w.pick (t.step 12)]) (Fa (by (simp [WorldM.dup, *]; omega) : (List.map wdv w.strong).length + (List.map wdv [w.pick (t.step 12)]).length≤2 ^ 30) (Fa (by simp [WorldM.dup,List.map_take,List.map_drop,List.map_set,List.map_append,wdv,idv] : List.map wdv w.strong ++ List.map wdv [w.pick (t.step 12)] =List.map wdv (w.strong ++ [w.pick (t.step 12)])) Fz)))))))))
end
theorem Z8F {pw s : Int} {l : List Page} {ws : List Int} (h : WOk ws) : ∀ i,WOk (Z22 pw s l ws i)
 | 0 => h
 | i + 1 => by
  have ih := Z8F (pw := pw) (s := s) (l := l) h i
  unfold Z22
  split
  ·intro x hx
   simp only [spl,List.mem_append,List.mem_replicate] at hx
   rcases hx with (hx | hx) | hx
   ·exact ih x (List.mem_of_mem_take hx)
   ·omega
   ·exact ih x (List.mem_of_mem_drop hx)
  ·exact ih
theorem Zji {c : Conf} {l : List Page} (h : PT c l) (s : Int) : PT c (l.map (Z1f s)) := by
 refine h.mapPages _ ?_ ?_ ?_ ?_
 ·intro p hp
  unfold Z1f
  split
  ·exact ⟨by simp,by simp,by simp,by simp,by simp,by simp⟩
  ·exact hp
 ·intro p hp hk
  unfold Z1f at hk ⊢
  split at hk
  ·simp at hk
  ·rename_i hc; rw [if_neg hc]; exact ⟨hk,rfl⟩
 ·intro p hp hk
  unfold Z1f at hk
  split at hk
  ·simp at hk
  ·exact hk
 ·intro p q hp hq h2 h3 he
  by_cases hg : p.space = s
  ·have e1 : Z1f s p = ⟨0,0,0,0⟩ := by rw [Z1f,if_pos ⟨by omega,hg⟩]
   have e2 : Z1f s q = ⟨0,0,0,0⟩ := by rw [Z1f,if_pos ⟨by omega,by omega⟩]
   rw [e1,e2]
   simp
  ·have e1 : Z1f s p = p := by rw [Z1f,if_neg (by unfold Z2W; omega)]
   have e2 : Z1f s q = q := by rw [Z1f,if_neg (by unfold Z2W; omega)]
   rw [e1,e2]
   exact ⟨⟨fun _ => h3,fun _ => h2⟩,fun _ => he⟩
theorem Z6O {w : Work} (hw : WkOk w) (k : List Int) : ∀ i,∀ x ∈ Z2A w k i,0 ≤ x ∧ x ≤ 4294967296
 | 0,x,hx => by simp [Z2A] at hx
 | i + 1,x,hx => by
  simp only [Z2A,List.mem_append,List.mem_singleton] at hx
  rcases hx with hx | rfl
  ·exact Z6O hw k i x hx
  ·have h := Z3K w k i
   unfold Z5E
   split
   ·omega
   ·unfold Z1o
    rw [h.2.2.2.1,h.1]
    split
    ·rename_i hq
     have := hw.q _ hq
     omega
    ·have := Z5P (Z0S hw.words (k.getD i default)).1
     omega
structure ColOk (B : Int) (h : Heap) (s k : List Int) : Prop where
 p0 : Z02 h = true
 p1 : Z02 (Z0h h s k).1 = true
 w : WOk (Z0h h s k).1.words
 n : ∀ p ∈ (Z0h h s k).1.pages,p.pins ≤ B
 c : (Z0h h s k).1.conf = h.conf
 r : ∀ x ∈ (Z0h h s k).2.1,0 ≤ x ∧ x ≤ 4294967296
 rl : (Z0h h s k).2.1.length = s.length
 v : ∀ x ∈ (Z0h h s k).2.2.1,0 ≤ x ∧ x ≤ 4294967296
 vl : (Z0h h s k).2.2.1.length = k.length
theorem Z6a {B : Int} (hB : 0 ≤ B) {h : Heap} {s k : List Int} (hw : WOk h.words) (hb : ∀ p ∈ h.pages,p.pins ≤ B) (e : (Z0h h s k).2.2.2.2 = 0) : ColOk B h s k := by
 by_cases hp : Z02 h = true
 ·by_cases hr : Z0l h s = true ∧ Z0l h k = true
  ·by_cases e1 : (rootsF (beginW h) s).2.2 = 0
   ·by_cases e2 : (allF (rootsF (beginW h) s).1).2 = 0
    ·have e7 : Z0h h s k = (endH (cW5 h s k),(rootsF (beginW h) s).2.1,Z2A (cW2 h s) k k.length,(cW5 h s k).rep,0) := by rw [Z0h,if_pos hp,if_pos hr,if_pos e1,if_pos e2]
     have ho := Z2P (roots := s) (Z2Z hw hp) (Z2O hp) e1
     have c := cOk h s k hw hp e1 e2
     have c5 := cOk5 h s k hw hp e1 e2
     have tb := ZiT hB hw hp hb e1 e2
     obtain ⟨g1,g2,g3,g4,g5⟩ := c.h4
     have hsp := c.w2.sp
     have hc2 : (cW2 h s).heap.conf = h.conf := c.x2.c
     have hpl := c.w2.pl
     rw [hc2] at hpl
     have hL := c.i4.L
     rw [g1] at hL
     have hfl := Z4N (s := (cW4 h s k).heap.space) c5.2.2.2.1 (cW4 h s k).heap.pages.length (Nat.le_refl _)
     refine ⟨hp, ?_, ?_, ?_, ?_, ?_, ?_, ?_, ?_⟩
     ·rw [e7,Z1d]
      simp only [endH,cW5,Z0V,g1,g2,g3,g4]
      have hptf := Zji (s := (cW2 h s).heap.space) tb.pt
      rw [hc2] at hptf
      refine ⟨(Z08 hp).1, ?_,by simp only [List.length_map]; exact hpl,by omega, ?_,hptf⟩
      ·rw [g1,g2,g3] at hfl
       rw [hfl]
       exact hL
      ·split
       ·rename_i ht
        have hm := Z1u (w := cW2 h s) ht
        have t1 := c.w2.tk _ hm
        have t2 := tb.tk _ hm
        refine Or.inr ⟨t1.1,by simp only [List.length_map]; exact t1.2.1, ?_⟩
        have hx : (List.map (Z1f (cW2 h s).heap.space) (cW2 h s).heap.pages).getD (Z0Q (cW2 h s)).toNat default = (cW2 h s).heap.pages.getD (Z0Q (cW2 h s)).toNat default := by
         have hi : (Z0Q (cW2 h s)).toNat < (cW2 h s).heap.pages.length := by omega
         have : (List.map (Z1f (cW2 h s).heap.space) (cW2 h s).heap.pages).getD (Z0Q (cW2 h s)).toNat default = Z1f (cW2 h s).heap.space ((cW2 h s).heap.pages.getD (Z0Q (cW2 h s)).toNat default) := by simp [List.getD_eq_getElem?_getD,hi]
         rw [this,Z1f,if_neg (by unfold Z2W; omega)]
        show ((List.map (Z1f (cW2 h s).heap.space) (cW2 h s).heap.pages).getD (Z0Q (cW2 h s)).toNat default).kind = 1
        rw [hx]
        exact t1.2.2
       ·exact Or.inl rfl
     ·rw [e7]
      exact Z8F c.f4.words _
     ·rw [e7]
      intro p hp'
      simp only [endH,cW5,Z0V,g2,List.mem_map] at hp'
      obtain ⟨q,hq,rfl⟩ := hp'
      unfold Z1f
      split
      ·exact hB
      ·exact tb.pin q hq
     ·rw [e7]
      exact g1
     ·rw [e7]
      exact ho.2.2.2.1
     ·rw [e7]
      exact ho.2.2.2.2
     ·rw [e7]
      exact Z6O c.w2 k _
     ·rw [e7]
      exact Z76 _ _ _
    ·rw [Z0h,if_pos hp,if_pos hr,if_pos e1,if_neg e2] at e
     exact absurd e e2
   ·rw [Z0h,if_pos hp,if_pos hr,if_neg e1] at e
    exact absurd e e1
  ·rw [Z0h,if_pos hp,if_neg hr] at e
   simp at e
 ·rw [Z0h,if_neg hp] at e
  simp at e
theorem ZbP {h : Heap} (hp : Z02 h = true) : ∀ p ∈ h.pages,0 ≤ p.pins := by
 rw [Z1d] at hp
 intro p hp'
 obtain ⟨i,hi,e⟩ := List.mem_iff_getElem.1 hp'
 have := (hp.2.2.2.2.2.b i hi).n.1
 rwa [show h.pages.getD i default = p by rw [List.getD_eq_getElem?_getD,List.getElem?_eq_getElem hi,e]; rfl] at this
theorem MOk.of_proper {w : WorldM} {n : Nat} (hp : Z02 w.heap = true) (hw : WOk w.heap.words) (hn : ∀ p ∈ w.heap.pages,p.pins ≤ n) (h1 : ULe w.strong) (h2 : ULe w.weak) (h3 : w.strong.length ≤ n) (h4 : w.weak.length ≤ n) : MOk w n := by
 have po := Z08 hp
 exact ⟨hw,po.1,po.2.2.2.2.2.2.2.1,po.2.2.2.2.2.1,fun j hj => ⟨ZbP hp _ (getD_in hj),hn _ (getD_in hj)⟩,fun j hj => by have := Z0D hp hj; omega,h1,h2,h3,h4⟩
theorem MOk.pin_mem {w : WorldM} {n : Nat} (h : MOk w n) : ∀ p ∈ w.heap.pages,0 ≤ p.pins ∧ p.pins ≤ n := by
 intro p hp
 obtain ⟨i,hi,e⟩ := List.mem_iff_getElem.1 hp
 have := h.pins i hi
 rwa [show w.heap.pages.getD i default = p by rw [List.getD_eq_getElem?_getD,List.getElem?_eq_getElem hi,e]; rfl] at this
theorem MOk.mono {w : WorldM} {n : Nat} (h : MOk w n) : MOk w (n + 1) :=
 ⟨h.words,h.hv,h.pl,h.L,fun j hj => by have := h.pins j hj; omega,h.us,h.strong,h.weak,by have := h.sl; omega,by have := h.wl; omega⟩
theorem ZbR {l : List Int} (h : ULe l) {x : Int} (hx : 0 ≤ x ∧ x ≤ 18446744073709551615) : ULe (l ++ [x]) := by
 intro y hy
 simp only [List.mem_append,List.mem_singleton] at hy
 rcases hy with hy | rfl
 ·exact h y hy
 ·exact hx
theorem MOk.put {w : WorldM} {n : Nat} (h : MOk w n) {hd : Header} (hm : 0 ≤ hd.map ∧ hd.map ≤ 4294967295) : MOk (w.put hd) (n + 1) := by
 unfold WorldM.put
 split
 ·rename_i e
  obtain ⟨k1,k2,k3,k4,k5,k6,k7,k8⟩ := Z77 h.words hm e
  have po := Z08 k1
  have hl := h.sl
  have hl2 := h.wl
  have z := (Z3R k2).2.1
  have a1 := k3.lo
  have a2 := k3.hi
  refine MOk.of_proper k7 k8 ?_ (ZbR h.strong (by rw [k5]; omega)) h.weak (by simp; omega) (by simp only; omega)
  intro p hp
  simp only at hp
  rw [k6] at hp
  simp only at hp
  rcases k3.pin p hp with q | ⟨q,q1,q2⟩
  ·omega
  ·have := h.pin_mem q q1; omega
 ·exact h.mono
theorem MOk.link {w : WorldM} {n : Nat} (h : MOk w n) (hn : n ≤ 1000000) (t : Tape) : MOk (w.link t) (n + 1) := by
 unfold WorldM.link
 split
 ·rename_i hc
  have g := Z3T hc.1
  have hw := h.wm hn
  have hlen : 1 ≤ (getH w.heap (w.pick t)).1.length := by omega
  have n1 := Z0A (w.pickT (w.pickT t)) (n := 8) (by decide)
  have hi : 0 ≤ Z1G w t ∧ Z1G w t < (getH w.heap (w.pick t)).1.length := by
   unfold Z1G
   rw [Int.tmod_eq_emod_of_nonneg n1.1]
   exact ⟨Int.emod_nonneg _ (by omega),Int.emod_lt_of_pos _ (by omega)⟩
  have hv : 0 ≤ Z1K w t ∧ Z1K w t ≤ 18446744073709551615 := by
   unfold Z1K
   split
   ·exact Z2z hw _
   ·have := Z0A ((w.pickT (w.pickT t)).step 8) (n := 1048576) (by decide)
    omega
  obtain ⟨s1,s2,s3⟩ := Z5d h.words hv hc.1 hi
  have hl := h.sl
  have hl2 := h.wl
  refine MOk.of_proper s2 s3 ?_ h.strong h.weak (by simp only; omega) (by simp only; omega)
  intro p hp
  simp only at hp
  rw [s1] at hp
  have := h.pin_mem p hp
  omega
 ·exact h.mono
theorem ZeP {w : WorldM} {n : Nat} (h : MOk w n) {i : Nat} (hi : i < w.heap.pages.length) {d : Int} (hd : d = 1 ∨ (d = -1 ∧ 0 < (w.heap.pages.getD i default).pins)) : MOk (pinB w i d) (n + 1) := by
 have hp := h.pins i hi
 refine ⟨h.words,h.hv, ?_,h.L, ?_, ?_,h.strong,h.weak,by have := h.sl; simp only [pinB]; omega,by have := h.wl; simp only [pinB]; omega⟩
 ·simp only [pinB,List.length_set]; exact h.pl
 ·intro j hj
  simp only [pinB,List.length_set] at hj ⊢
  rw [Z0r hi]
  split
  ·simp only; omega
  ·have := h.pins j hj; omega
 ·intro j hj
  simp only [pinB,List.length_set] at hj ⊢
  rw [Z0r hi]
  split
  ·exact h.us i hi
  ·exact h.us j hj
theorem MOk.pin {w : WorldM} {n : Nat} (h : MOk w n) (t : Tape) : MOk (w.pin t) (n + 1) := by
 unfold WorldM.pin
 split
 ·rename_i e
  have o := Z3B h.hv e
  have hpl := h.pl
  have hi : pinI w t < w.heap.pages.length := by unfold pinI; omega
  split
  ·rename_i hc
   exact ZeP h hi (Or.inr ⟨rfl,hc.1⟩)
  ·split
   ·exact ZeP h hi (Or.inl rfl)
   ·exact h.mono
 ·exact h.mono
theorem MOk.drop {w : WorldM} {n : Nat} (h : MOk w n) (t : Tape) : MOk (w.drop t) (n + 1) := by
 unfold WorldM.drop
 split
 ·have hl := h.sl
  have hl2 := h.wl
  refine ⟨h.words,h.hv,h.pl,h.L,fun j hj => by have := h.pins j hj; simp only; omega,h.us, ?_, ?_, ?_, ?_⟩
  ·intro x hx
   rcases List.mem_append.1 hx with hx | hx
   ·exact h.strong x (List.mem_of_mem_take hx)
   ·exact h.strong x (List.mem_of_mem_drop hx)
  ·simp only
   split
   ·exact ZbR h.weak (Z4D h.strong _)
   ·exact h.weak
  ·simp only [List.length_append,List.length_take,List.length_drop]; omega
  ·simp only
   split
   ·simp; omega
   ·omega
 ·exact h.mono
theorem MOk.collect {w : WorldM} {n : Nat} (h : MOk w n) : MOk w.collect (n + 1) := by
 unfold WorldM.collect
 split
 ·rename_i e
  have c := Z6a (B := n) (by omega) h.words (fun p hp => (h.pin_mem p hp).2) e
  have hl := h.sl
  have hl2 := h.wl
  refine MOk.of_proper c.p1 c.w (fun p hp => by have := c.n p hp; omega) (fun x hx => by have := c.r x hx; omega) (fun x hx => by have := c.v x hx; omega) (by simp only [c.rl]; omega) (by simp only [c.vl]; omega)
 ·exact h.mono
theorem MOk.step {w : WorldM} {n : Nat} (h : MOk w n) (hn : n ≤ 1000000) (t : Tape) : MOk (w.step t) (n + 1) := by
 unfold WorldM.step
 repeat' split
 ·exact h.put (Z3C _ _)
 ·exact h.link hn _
 ·exact h.pin _
 ·exact h.drop _
 ·exact h.collect
 ·have hl := h.sl
  have hl2 := h.wl
  exact ⟨h.words,h.hv,h.pl,h.L,fun j hj => by have := h.pins j hj; simp only [WorldM.dup] at *; omega,h.us,ZbR h.strong (Z2z (h.wm hn) _),h.weak,by simp only [WorldM.dup,List.length_append,List.length_singleton]; omega,by simp only [WorldM.dup]; omega⟩
def pgOf (w : Work) (x : Int) : Page := w.heap.pages.getD (ofA w.heap.conf x).1.toNat default
structure Rt (w : Work) : Prop where
 q : ∀ x ∈ w.queue,((pgOf w x).kind = 1 ∨ (pgOf w x).kind = 2) ∧ (pgOf w x).space = 1 - w.heap.space
 t : ∀ x ∈ w.old,(Z0q (loadA w.heap.words x).1).2 = true → (Z0q (loadA w.heap.words x).1).1 ∈ w.queue
theorem Z8T {a : Int} (h0 : 0 ≤ a) (h1 : a < 4294967296) : Z0q (4 * a + 2) = (a,true) := by
 have e : (4 * a + 2) / 4 = a := by omega
 rw [Z0q,if_pos (by omega),e]
theorem Rt.copy {B : Int} {w : Work} (hw : WkOk w) (h : Inv w) (hT : Tab B w) (hR : Rt w) {r n : Int} (hr : r ∈ w.old) (hq : r ∉ w.queue) (hn : n = hlA w.heap.words r + 1) (hp : n ≤ w.heap.conf.pw) (hc : (w.place n).2.2 = true) : Rt ((w.place n).1.copy r (w.place n).2.1 n) := by
 have hlr := Z0g w.heap.words r
 obtain ⟨i,p,t,h1,h2,h3,h4,h5,h6,h7,h8,e⟩ := Z4V hw ⟨by omega,hp⟩ hc
 have hsp : p.space = 1 - w.heap.space := by
  by_cases hf : Z4p w n
  ·have e7 : w.place n = (⟨⟨w.heap.conf,w.heap.words,Z1w w.heap.pages (Z0Q w).toNat n,w.heap.space,w.heap.bump⟩,w.old,w.taken,w.queue,w.scanned,w.rep⟩,4096 + Z0Q w * w.heap.conf.pw + (w.heap.pages.getD (Z0Q w).toNat default).used,true) := by rw [Work.place,if_pos hf]
   unfold Z4p at hf
   have hm := hw.tk _ (Z1u hf.1)
   have ht := hT.tk _ (Z1u hf.1)
   have hi : (Z0Q w).toNat < w.heap.pages.length := by omega
   rw [e7] at e
   simp only [Z3c,Work.mk.injEq,Heap.mk.injEq] at e
   have e2 := e.1.2.2.1
   have g1 : (w.heap.pages.set i p).getD i default = p := by rw [Z0r h1,if_pos rfl]
   rw [← e2,Z0r hi] at g1
   split at g1
   ·rw [← g1]; exact ht
   ·rename_i hne
    have g2 : (w.heap.pages.set i p).getD (Z0Q w).toNat default = w.heap.pages.getD (Z0Q w).toNat default := by rw [Z0r h1,if_neg (fun q => hne q.symm)]
    rw [← e2,Z0r hi,if_pos rfl] at g2
    have := congrArg Page.used g2
    simp only at this
    omega
  ·by_cases hg : 0 ≤ Z0v w
   ·have e7 : w.place n = (⟨⟨w.heap.conf,w.heap.words,Z1w (Z2q w) (Z0v w).toNat n,w.heap.space,w.heap.bump⟩,w.old,w.taken ++ [Z0v w],w.queue,w.scanned,w.rep⟩,4096 + Z0v w * w.heap.conf.pw,true) := by rw [Work.place,if_neg hf,if_pos hg]
    obtain ⟨g1,g2,g3⟩ := Z34 (h := ⟨w.heap.conf,w.heap.words,w.heap.pages,1 - w.heap.space,w.heap.bump⟩) (by have := hw.sp; simp only; omega) hg n
    have g1' : Z1w (Z2q w) (Z0v w).toNat n = w.heap.pages.set (Z0v w).toNat ⟨1,1 - w.heap.space,n,0⟩ := g1
    have g2' : (w.heap.pages.getD (Z0v w).toNat default).kind = 0 := g2
    have g3' : (Z0v w).toNat < w.heap.pages.length := g3
    rw [e7,g1'] at e
    simp only [Work.mk.injEq,Heap.mk.injEq] at e
    have e2 := e.1.2.2.1
    have k1 : (w.heap.pages.set i p).getD i default = p := by rw [Z0r h1,if_pos rfl]
    rw [← e2,Z0r g3'] at k1
    split at k1
    ·rw [← k1]
    ·rename_i hne
     have k2 : (w.heap.pages.set i p).getD (Z0v w).toNat default = w.heap.pages.getD (Z0v w).toNat default := by rw [Z0r h1,if_neg (fun q => hne q.symm)]
     rw [← e2,Z0r g3',if_pos rfl] at k2
     rw [← k2] at g2'
     simp at g2'
   ·rw [Work.place,if_neg hf,if_neg hg] at hc
    simp at hc
 have hb := validB_iff.1 hw.conf
 have hpl := hw.pl
 have hL := h.L
 have hio : (i : Int) * w.heap.conf.pw + w.heap.conf.pw ≤ w.heap.conf.pw * w.heap.conf.pg := by
  have := Z10 (i := i) (j := w.heap.conf.pg) (pw := w.heap.conf.pw) (by omega) (by omega)
  rw [Int.mul_comm w.heap.conf.pw]; exact this
 have hi0 : 0 ≤ (i : Int) * w.heap.conf.pw := Int.mul_nonneg (by omega) (by omega)
 have har := area hw.conf
 rw [e,h8]
 generalize hu : occP (w.heap.pages.getD i default) = u at *
 have hof : (ofA w.heap.conf (4096 + (i : Int) * w.heap.conf.pw + u)).1.toNat = i := by
  have := Z8r (c := w.heap.conf) (i := i) (o := u) hw.conf (by omega) (by omega)
  rw [show 4096 + (i : Int) * w.heap.conf.pw + u = 4096 + ((i : Int) * w.heap.conf.pw + u) by omega,this]
  simp
 generalize ha : 4096 + (i : Int) * w.heap.conf.pw + u = at' at *
 have hrr := h.r r (List.mem_append_left _ hr)
 have hf := h.f i h1 (by rcases h2 with h2 | h2; exact Or.inl h2; exact Or.inr h2.1)
 rw [hu] at hf
 obtain ⟨m1,m2,m3⟩ := Z7O (ws := w.heap.words) (a := at') (b := r) (n := n) (by omega) (by omega) (by omega)
 have hsr : 4096 ≤ r ∧ r < 4096 + (moveA w.heap.words at' r n).1.length := by omega
 refine ⟨?_, ?_⟩
 ·intro x hx
  simp only [Work.copy,List.mem_append,List.mem_singleton] at hx
  simp only [pgOf,Work.copy]
  rw [Z0r h1]
  split
  ·exact ⟨Or.inl h3,hsp⟩
  ·rename_i hne
   rcases hx with hx | rfl
   ·exact hR.q x hx
   ·exact absurd hof.symm hne
 ·intro x hx ht
  simp only [Work.copy] at hx ht ⊢
  by_cases hxr : x = r
  ·subst hxr
   rw [Z2w hsr] at ht ⊢
   simp only
   rw [Z8T (by omega) (by omega)]
   simp
  ·have hfx := hf x (List.mem_append_left _ hx)
   have hlx := Z0g w.heap.words x
   have el : loadA (Z0F (moveA w.heap.words at' r n).1 r (4 * at' + 2)).1 x = loadA w.heap.words x := by rw [Z0B hsr hxr,m3 x (by omega)]
   rw [el] at ht ⊢
   exact List.mem_append_left _ (hR.t x hx ht)
structure PR (B : Int) (w : Work) : Prop where
 tab : Tab B w
 rt : Rt w
def ToOk (w : Work) (x : Int) : Prop := x = 0 ∨ x ∈ w.queue
theorem Zin {B : Int} (w : Work) (r : Int) (hp : PR B w) (e : (w.fwd r).2.2 = 0) : ToOk (w.fwd r).1 (w.fwd r).2.1 := by
 unfold Work.fwd at e ⊢
 split at e
 ·rename_i c1
  rw [if_pos c1]
  exact c1
 ·rename_i c1
  rw [if_neg c1]
  split at e
  ·simp at e
  ·rename_i c2
   rw [if_neg c2]
   have c2' : r ∈ w.old := Decidable.not_not.1 c2
   split at e
   ·rename_i c3
    rw [if_pos c3]
    exact Or.inr (hp.rt.t r c2' c3)
   ·rename_i c3
    rw [if_neg c3]
    split at e
    ·simp at e
    ·rename_i c4
     rw [if_neg c4]
     split at e
     ·rename_i c5
      rw [if_pos c5]
      exact Or.inr (List.mem_append_right _ (by simp))
     ·rename_i c5
      rw [if_neg c5]
      split at e
      ·rename_i c6
       rw [if_pos c6]
       exact Or.inr (List.mem_append_right _ (by simp))
      ·rename_i c6
       rw [if_neg c6]
       split at e
       ·simp at e
       ·rename_i c7
        rw [if_neg c7]
        exact Or.inr (List.mem_append_right _ (by simp))
theorem PR.fwd {B : Int} (hB : 0 ≤ B) (w : Work) (r : Int) (hw : WkOk w) (hi : Inv w) (h : PR B w) (e : (w.fwd r).2.2 = 0) : PR B (w.fwd r).1 := by
 refine ⟨h.tab.fwd hB w r hw hi e, ?_⟩
 have hR := h.rt
 have hsp := hw.sp
 unfold Work.fwd at e ⊢
 split at e
 ·rename_i c1
  rw [if_pos c1]
  exact hR
 ·rename_i c1
  rw [if_neg c1]
  have c1' : r ∉ w.queue := fun h => c1 (Or.inr h)
  split at e
  ·simp at e
  ·rename_i c2
   rw [if_neg c2]
   have c2' : r ∈ w.old := Decidable.not_not.1 c2
   split at e
   ·rename_i c3
    rw [if_pos c3]
    exact hR
   ·rename_i c3
    rw [if_neg c3]
    split at e
    ·simp at e
    ·rename_i c4
     rw [if_neg c4]
     have o := Z3B hw.conf (Decidable.not_not.1 c4)
     have hpl := hw.pl
     split at e
     ·rename_i c5
      rw [if_pos c5]
      simp only [Z1c,decide_eq_true_eq] at c5
      have ok := h.tab.pt.b (ofA w.heap.conf r).1.toNat (by omega)
      have oks := ok.s
      refine ⟨?_,fun x hx ht => List.mem_append_left _ (hR.t x hx ht)⟩
      intro x hx
      simp only [Work.keep,List.mem_append,List.mem_singleton] at hx
      rcases hx with hx | rfl
      ·exact hR.q x hx
      ·refine ⟨Or.inl c5.2.2.1, ?_⟩
       simp only [pgOf,Work.keep]
       omega
     ·rename_i c5
      rw [if_neg c5]
      split at e
      ·rename_i c6
       rw [if_pos c6]
       refine ⟨?_,fun x hx ht => List.mem_append_left _ (hR.t x hx ht)⟩
       have hlr : (ofA w.heap.conf r).1.toNat < w.heap.pages.length := by omega
       intro x hx
       simp only [Work.keep,List.mem_append,List.mem_singleton] at hx
       have hxl : (ofA w.heap.conf x).1.toNat < w.heap.pages.length := by
        rcases hx with hx | rfl
        ·by_cases q : (ofA w.heap.conf x).1.toNat < w.heap.pages.length
         ·exact q
         ·have := (hR.q x hx).1
          rw [pgOf,List.getD_eq_getElem?_getD,List.getElem?_eq_none (by omega)] at this
          simp only [Option.getD_none] at this
          have d : (default : Page).kind = 0 := rfl
          omega
        ·exact hlr
       simp only [pgOf,Work.keep,Work.flip]
       rw [Z1r hxl]
       split
       ·refine ⟨?_,rfl⟩
        rcases hx with hx | rfl
        ·exact (hR.q x hx).1
        ·exact Or.inr c6
       ·rename_i hne
        rcases hx with hx | rfl
        ·exact hR.q x hx
        ·exact absurd ⟨Nat.le_refl _,Nat.le_add_right _ _⟩ hne
      ·rename_i c6
       rw [if_neg c6]
       split at e
       ·simp at e
       ·rename_i c7
        rw [if_neg c7]
        have c7' : (w.place (sizeH (hdW w r))).2.2 = true := by simpa using c7
        have hz := hi.z r c2'
        have hp : sizeH (hdW w r) ≤ w.heap.conf.pw := by
         rw [Z3a]
         rcases hz with hz | hz
         ·exact absurd hz c6
         ·exact hz
        exact hR.copy hw hi h.tab c2' c1' (Z3a w r) hp c7'
theorem PR.in1 {B : Int} (hB : 0 ≤ B) (w : Work) (q j : Int) (hw : WkOk w) (hi : Inv w) (h : PR B w) (hq : q ∈ w.queue) (h0 : 0 ≤ j) (h1 : j < hlA w.heap.words q) (e : (w.fwd (loadA w.heap.words (q + 1 + j)).1).2.2 = 0) : PR B (w.in1 (q + 1 + j)) := by
 have hf := PR.fwd hB w _ hw hi h e
 obtain ⟨i1,x1⟩ := Z5X hw hi _ e
 have hq1 := x1.q q hq
 have hl1 := x1.l q hq
 have hr := i1.r q (List.mem_append_right _ hq1)
 have hs := i1.s q (List.mem_append_right _ hq1)
 have hin : 4096 ≤ q + 1 + j ∧ q + 1 + j < 4096 + (w.fwd (loadA w.heap.words (q + 1 + j)).1).1.heap.words.length := by omega
 refine ⟨hf.tab.withWords _,hf.rt.q,fun x hx ht => ?_⟩
 have el : loadA (Z0F (w.fwd (loadA w.heap.words (q + 1 + j)).1).1.heap.words (q + 1 + j) (w.fwd (loadA w.heap.words (q + 1 + j)).1).2.1).1 x = loadA (w.fwd (loadA w.heap.words (q + 1 + j)).1).1.heap.words x := by
  refine Z0B hin fun hc => ?_
  have := hs x (List.mem_append_left _ hx) (by omega)
  omega
 simp only [Work.in1] at hx ht ⊢
 rw [el] at ht ⊢
 exact hf.rt.t x hx ht
theorem Z6x {h : Heap} (hp : Z02 h = true) : Rt (beginW h) := by
 refine ⟨by simp [beginW],fun x hx ht => ?_⟩
 exfalso
 simp only [beginW] at hx ht
 obtain ⟨j,j1,o⟩ := (Z7y hp).1 x hx
 have e := o.at'
 have k := ZcI e
 unfold atH at e
 rw [if_pos k.1,if_pos k.2.1] at e
 split at e
 ·rename_i g
  have hd := g.2.2
  unfold decodeH at hd
  split at hd
  ·rename_i c
   have c1 := c.1
   have c2 := c.2
   unfold Z06 at c1 c2
   split at c2
   ·unfold Z0q at ht
    split at ht
    ·simp only at c2; omega
    ·simp at ht
   ·rename_i hv; rw [if_neg hv] at c1; simp at c1
  ·simp at hd
 ·simp at e
theorem ZiA {B : Int} (hB : 0 ≤ B) {h : Heap} {s : List Int} (hw : WOk h.words) (hp : Z02 h = true) (hb : ∀ p ∈ h.pages,p.pins ≤ B) (e : (rootsF (beginW h) s).2.2 = 0) (e2 : (allF (rootsF (beginW h) s).1).2 = 0) : PR B (cW2 h s) :=
 ZiI (PR B) (fun w r hw hi h e => PR.fwd hB w r hw hi h e) (fun w q j hw hi h hq h0 h1 e => PR.in1 hB w q j hw hi h hq h0 h1 e) (fun w n h => ⟨⟨h.tab.pt,h.tab.tk,h.tab.pin⟩,h.rt.q,h.rt.t⟩) hw hp ⟨Z4C hp hb,Z6x hp⟩ e e2
theorem Z6P {B : Int} (hB : 0 ≤ B) {w : Work} {roots : List Int} (hw : WkOk w) (h : Inv w) (hp : PR B w) : ∀ k,(∀ j,j < k → Z26 w roots j = 0) → ∀ x ∈ (Z1j w roots k).2,ToOk (Z1j w roots k).1 x
 | 0,_,x,hx => by simp [Z1j] at hx
 | k + 1,hh,x,hx => by
  have ih := Z6P hB (roots := roots) hw h hp k (fun j hj => hh j (by omega))
  have ok := (Z2N (roots := roots) hw k (fun j hj => hh j (by omega))).1
  have iv := (Z4U (roots := roots) hw h k (fun j hj => hh j (by omega))).1
  have pr := Z9w (PR B) (fun w r hw hi h e => PR.fwd hB w r hw hi h e) (roots := roots) hw h hp k (fun j hj => hh j (by omega))
  have he := hh k (by omega)
  simp only [Z1j,List.mem_append,List.mem_singleton] at hx ⊢
  rcases hx with hx | rfl
  ·rcases ih x hx with q | q
   ·exact Or.inl q
   ·exact Or.inr ((Z5X ok iv _ he).2.q x q)
  ·exact Zin _ _ pr he
theorem Z6h (w : WorldM) (t : Tape) (n : Nat) (hm : MOk w n) (hn : n ≤ 1000000) (ht : TOk t) (ha : t.at' ≤ 900000) : LentSpec Tryz.prog 31 [w.av,.pt 0 0 0] [t.b] (w.step t).av [(w.stepT t).b] :=
 Zfh w t n hm hn ht ha
structure TUp (n : Int) (t u : Tape) : Prop where
 l : u.l = t.l
 lo : t.at' ≤ u.at'
 hi : u.at' ≤ t.at' + n
theorem TUp.step (t : Tape) (n : Int) : TUp 1 t (t.step n) := by
 have := Z3o (t := t) n
 exact ⟨this.2.2,this.1,this.2.1⟩
theorem TUp.trans {m n : Int} {t u v : Tape} (h1 : TUp m t u) (h2 : TUp n u v) : TUp (m + n) t v :=
 ⟨h2.l.trans h1.l,by have := h1.lo; have := h2.lo; omega,by have := h1.hi; have := h2.hi; omega⟩
theorem TUp.mono {m n : Int} {t u : Tape} (h : TUp m t u) (hmn : m ≤ n) : TUp n t u := ⟨h.l,h.lo,by have := h.hi; omega⟩
theorem ZdR (t : Tape) (c : Conf) : TUp 10 t (t.headerT c) := by
 have h1 : TUp 4 t (Z1y t c) := by
  unfold Z1y
  split
  ·exact (((TUp.step t _).trans (TUp.step _ 12)).trans (TUp.step _ _)).mono (by decide)
  ·exact ((TUp.step t _).trans (TUp.step _ 12)).mono (by decide)
 unfold Tape.headerT
 repeat' split
 ·exact (h1.trans (TUp.step _ 4)).mono (by decide)
 ·exact (h1.trans (TUp.step _ 4)).mono (by decide)
 ·exact ((h1.trans (TUp.step _ 4)).trans (TUp.step _ _)).mono (by decide)
theorem ZgK (w : WorldM) (t : Tape) : TUp 10 t (w.linkT t) := by
 have h1 : TUp 1 t (w.pickT t) := TUp.step _ _
 have h2 : TUp 1 (w.pickT t) (w.pickT (w.pickT t)) := TUp.step _ _
 unfold WorldM.linkT
 split
 ·exact ((((h1.trans h2).trans (TUp.step _ 8))).trans (TUp.step _ _)).mono (by decide)
 ·exact ((h1.trans h2).trans (TUp.step _ 8)).mono (by decide)
theorem ZhM (w : WorldM) (t : Tape) : (w.stepT t).l = t.l ∧ t.at' + 1 ≤ (w.stepT t).at' ∧ (w.stepT t).at' ≤ t.at' + 20 := by
 have h0 : (t.step 12).at' = t.at' + 1 ∧ (t.step 12).l = t.l := by simp [Tape.step]
 have key : TUp 10 (t.step 12) (w.stepT t) := by
  unfold WorldM.stepT
  repeat' split
  ·exact ZdR _ _
  ·exact ZgK _ _
  ·unfold WorldM.pinT
   split
   ·exact ((TUp.step _ _).trans (TUp.step _ 2)).mono (by decide)
   ·exact (TUp.step _ _).mono (by decide)
  ·unfold WorldM.dropT
   split
   ·exact ((TUp.step _ _).trans (TUp.step _ 3)).mono (by decide)
   ·exact ⟨rfl,by omega,by omega⟩
  ·exact ⟨rfl,by omega,by omega⟩
  ·exact (TUp.step _ _).mono (by decide)
 have a := key.l
 have b := key.lo
 have c := key.hi
 exact ⟨a.trans h0.2,by omega,by omega⟩
def mkS (w : WorldM) (t : Tape) : Nat → WorldM × Tape
 | 0 => (w,t)
 | k + 1 => ((mkS w t k).1.step (mkS w t k).2,(mkS w t k).1.stepT (mkS w t k).2)
def mkB (w : WorldM) (t : Tape) (k : Nat) : Bool := decide (((mkS w t k).2.l.length : Int) ≤ (mkS w t k).2.at')
def mkN (w : WorldM) (t : Tape) : Nat := ((List.range (2 + t.l.length)).find? (mkB w t)).getD 0
def Zcm (w : WorldM) (t : Tape) : WorldM := (mkS w t (mkN w t)).1
theorem Zdl (w : WorldM) (t : Tape) : ∀ k : Nat,(mkS w t k).2.l = t.l ∧ t.at' + k ≤ (mkS w t k).2.at' ∧ (mkS w t k).2.at' ≤ t.at' + 20 * k
 | 0 => by simp [mkS]
 | k + 1 => by
  have ih := Zdl w t k
  have := ZhM (mkS w t k).1 (mkS w t k).2
  refine ⟨this.1.trans ih.1, ?_, ?_⟩
  ·simp only [mkS]; omega
  ·simp only [mkS]; omega
theorem Z8i {w : WorldM} {n : Nat} (h : MOk w n) (t : Tape) : ∀ k,n + k ≤ 1000000 → MOk (mkS w t k).1 (n + k)
 | 0,_ => h
 | k + 1,hk => (Z8i h t k (by omega)).step (by omega) _
theorem Zda (w : WorldM) (t : Tape) (ht : 0 ≤ t.at') : mkB w t (mkN w t) = true ∧ (∀ j,j < mkN w t → mkB w t j = false) ∧ mkN w t ≤ t.l.length + 1 := by
 cases hb : (List.range (2 + t.l.length)).find? (mkB w t) with
 | none =>
  exfalso
  have := List.find?_eq_none.1 hb t.l.length (List.mem_range.2 (by omega))
  have u := Zdl w t t.l.length
  simp only [mkB,decide_eq_true_eq,u.1] at this
  omega
 | some k =>
  obtain ⟨h1,h2,h3⟩ := List.find?_range_eq_some.1 hb
  have h2 := List.mem_range.1 h2
  have e : mkN w t = k := by rw [mkN,hb]; rfl
  rw [e]
  exact ⟨h1,fun j hj => by simpa using h3 j hj,by omega⟩
def mkLA (w : WorldM) (t : Tape) : Tg := ⟨tm 22 [(2,.pt 8002 0 0),(3,.pt 32012 0 0),(4,.pt 40004 0 0)],[(40004,.box 30 w.cells),(32012,t.b),(8002,.box 30 [int 0,int 0,.d (.sl 0 []),.d (.sl 0 []),int 0,int 0,.d (.sl 0 []),.d (.sl 0 [])])],60⟩
theorem Zhz (w : WorldM) (t : Tape) (n : Nat) (hm : MOk w n) (hn : n ≤ 1000000) (ht : TOk t) (ha : t.at' ≤ 900000) (hd : t.at' < t.l.length) : CSpec Tryz.prog (rndF Tryz.f8 0) (mkLA w t).st .nrm (mkLA (w.step t) (w.stepT t)).st := by
 exact sF [] [] (Fp 16 (@Z6w t ‹_›) (Ftb 17 (!decide ((↑t.l.length : Int)≤t.at')) (Fp 20 (@Z6h w t n ‹_› ‹_› ‹_› ‹_›) Fz)))
theorem ZjU (w : WorldM) (t : Tape) (ht : TOk t) (hd : ¬ t.at' < t.l.length) : CSpec Tryz.prog (rndF Tryz.f8 0) (mkLA w t).st (.ext 0) (Tg.st ⟨tm 22 [(2,.pt 8002 0 0),(4,.pt 40004 0 0)],[(40004,.box 30 w.cells),(8002,.box 30 [int 0,int 0,.d (.sl 0 []),.d (.sl 0 []),int 0,int 0,.d (.sl 0 []),.d (.sl 0 [])])],60⟩) := by
 exact sF [] [] (Fp 16 (@Z6w t ‹_›) (Ffb 17 (!decide ((↑t.l.length : Int)≤t.at')) Fz))
theorem ZiO (w : WorldM) (t : Tape) (hm : MOk w 0) (hl : t.l.length ≤ 300) (h0 : 0 ≤ t.at') (h1 : t.at' ≤ 1000) : CSpec Tryz.prog (blkF Tryz.f8 0) (Tg.st ⟨tm 22 [(2,.pt 8002 0 0),(3,.pt 32012 0 0),(4,.pt 40004 0 0)],[(40004,.box 30 w.cells),(32012,t.b),(8002,.box 30 [int 0,int 0,.d (.sl 0 []),.d (.sl 0 []),int 0,int 0,.d (.sl 0 []),.d (.sl 0 [])])],60⟩) .nrm (Tg.st ⟨tm 22 [(2,.pt 8002 0 0),(4,.pt 40004 0 0)],[(40004,.box 30 (Zcm w t).cells),(8002,.box 30 [int 0,int 0,.d (.sl 0 []),.d (.sl 0 []),int 0,int 0,.d (.sl 0 []),.d (.sl 0 [])])],60⟩) := by
 have hk := Zda w t h0
 have tok : ∀ k,k ≤ mkN w t → TOk (mkS w t k).2 ∧ (mkS w t k).2.at' ≤ 900000 := fun k hk' => by
  have u := Zdl w t k
  refine ⟨?_,by omega⟩
  unfold TOk
  rw [u.1]
  omega
 refine Z0d (S := fun k => (mkLA (mkS w t k).1 (mkS w t k).2).st) (mkN w t) (by kernel_rfl) (fun k hk' => ?_) ?_
 ·have hs := hk.2.1 k hk'
  simp only [mkB,decide_eq_false_iff_not] at hs
  have m := Z8i hm t k (by omega)
  exact Zhz _ _ (0 + k) m (by omega) (tok k (by omega)).1 (tok k (by omega)).2 (by omega)
 ·have hs := hk.1
  simp only [mkB,decide_eq_true_eq] at hs
  exact ZjU _ _ (tok _ (Nat.le_refl _)).1 (by omega)
def mkLB (w : WorldM) (t : Tape) : Tg := ⟨tm 22 [(2,.pt 8002 0 0),(3,.pt 24012 0 0),(4,.pt 32004 0 0)],[(32004,.box 30 w.cells),(24012,t.b),(8002,.box 30 [int 0,int 0,.d (.sl 0 []),.d (.sl 0 []),int 0,int 0,.d (.sl 0 []),.d (.sl 0 [])])],60⟩
theorem Zii (w : WorldM) (t : Tape) (n : Nat) (hm : MOk w n) (hn : n ≤ 1000000) (ht : TOk t) (ha : t.at' ≤ 900000) (hd : t.at' < t.l.length) : CSpec Tryz.prog (rndF Tryz.f8 0) (mkLB w t).st .nrm (mkLB (w.step t) (w.stepT t)).st := by
 exact sF [] [] (Fp 16 (@Z6w t ‹_›) (Ftb 17 (!decide ((↑t.l.length : Int)≤t.at')) (Fp 20 (@Z6h w t n ‹_› ‹_› ‹_› ‹_›) Fz)))
theorem ZjV (w : WorldM) (t : Tape) (ht : TOk t) (hd : ¬ t.at' < t.l.length) : CSpec Tryz.prog (rndF Tryz.f8 0) (mkLB w t).st (.ext 0) (Tg.st ⟨tm 22 [(2,.pt 8002 0 0),(4,.pt 32004 0 0)],[(32004,.box 30 w.cells),(8002,.box 30 [int 0,int 0,.d (.sl 0 []),.d (.sl 0 []),int 0,int 0,.d (.sl 0 []),.d (.sl 0 [])])],60⟩) := by
 exact sF [] [] (Fp 16 (@Z6w t ‹_›) (Ffb 17 (!decide ((↑t.l.length : Int)≤t.at')) Fz))
theorem ZiG (w : WorldM) (t : Tape) (hm : MOk w 0) (hl : t.l.length ≤ 300) (h0 : 0 ≤ t.at') (h1 : t.at' ≤ 1000) : CSpec Tryz.prog (blkF Tryz.f8 0) (Tg.st ⟨tm 22 [(2,.pt 8002 0 0),(3,.pt 24012 0 0),(4,.pt 32004 0 0)],[(32004,.box 30 w.cells),(24012,t.b),(8002,.box 30 [int 0,int 0,.d (.sl 0 []),.d (.sl 0 []),int 0,int 0,.d (.sl 0 []),.d (.sl 0 [])])],60⟩) .nrm (Tg.st ⟨tm 22 [(2,.pt 8002 0 0),(4,.pt 32004 0 0)],[(32004,.box 30 (Zcm w t).cells),(8002,.box 30 [int 0,int 0,.d (.sl 0 []),.d (.sl 0 []),int 0,int 0,.d (.sl 0 []),.d (.sl 0 [])])],60⟩) := by
 have hk := Zda w t h0
 have tok : ∀ k,k ≤ mkN w t → TOk (mkS w t k).2 ∧ (mkS w t k).2.at' ≤ 900000 := fun k hk' => by
  have u := Zdl w t k
  refine ⟨?_,by omega⟩
  unfold TOk
  rw [u.1]
  omega
 refine Z0d (S := fun k => (mkLB (mkS w t k).1 (mkS w t k).2).st) (mkN w t) (by kernel_rfl) (fun k hk' => ?_) ?_
 ·have hs := hk.2.1 k hk'
  simp only [mkB,decide_eq_false_iff_not] at hs
  have m := Z8i hm t k (by omega)
  exact Zii _ _ (0 + k) m (by omega) (tok k (by omega)).1 (tok k (by omega)).2 (by omega)
 ·have hs := hk.1
  simp only [mkB,decide_eq_true_eq] at hs
  exact ZjV _ _ (tok _ (Nat.le_refl _)).1 (by omega)
def Z36 (l : List Int) : Tape := ⟨l.take 300,0⟩
def Z04 (l : List Int) : WorldM := Zcm (Z36 l).empty (((Z36 l).step 4).step 5)
theorem Za2 (t : Tape) : MOk t.empty 0 := by
 have hv := Z2s t
 have hb := validB_iff.1 hv
 refine ⟨?_,hv, ?_, ?_, ?_, ?_, ?_, ?_,by simp [Tape.empty],by simp [Tape.empty]⟩
 ·intro x hx
  simp only [Tape.empty,Z1Q,List.mem_replicate] at hx
  omega
 ·simp only [Tape.empty,Z1Q,List.length_replicate]; omega
 ·have := area hv
  simp only [Tape.empty,Z1Q,List.length_replicate]; omega
 ·intro j hj
  simp only [Tape.empty,Z1Q,List.length_replicate] at hj ⊢
  have : (List.replicate t.conf.pg.toNat (⟨0,0,0,0⟩ : Page)).getD j default = ⟨0,0,0,0⟩ := by simp [List.getD_eq_getElem?_getD,hj]
  rw [this]; simp
 ·intro j hj
  simp only [Tape.empty,Z1Q,List.length_replicate] at hj ⊢
  have : (List.replicate t.conf.pg.toNat (⟨0,0,0,0⟩ : Page)).getD j default = ⟨0,0,0,0⟩ := by simp [List.getD_eq_getElem?_getD,hj]
  rw [this]; simp
 ·intro x hx; simp [Tape.empty] at hx
 ·intro x hx; simp [Tape.empty] at hx
theorem Z61 (l : List Int) : (((Z36 l).step 4).step 5).l = l.take 300 ∧ (((Z36 l).step 4).step 5).at' = 2 := by simp [Z36,Tape.step]
theorem ZgV (l : List Int) : MOk (Z04 l) 1000 := by
 have e := Z61 l
 have hl : (((Z36 l).step 4).step 5).l.length ≤ 300 := by rw [e.1]; simp; omega
 have hk := Zda (Z36 l).empty (((Z36 l).step 4).step 5) (by omega)
 have m := Z8i (Za2 (Z36 l)) (((Z36 l).step 4).step 5) (mkN (Z36 l).empty (((Z36 l).step 4).step 5)) (by omega)
 have h2 : ∀ (w : WorldM) (a b : Nat),MOk w a → a ≤ b → MOk w b := fun w a b h hab =>
  ⟨h.words,h.hv,h.pl,h.L,fun j hj => by have := h.pins j hj; omega,h.us,h.strong,h.weak,by have := h.sl; omega,by have := h.wl; omega⟩
 exact h2 _ _ _ m (by omega)
theorem Z9e (l : List Int) (hl : l.length ≤ 140737488355328) : GSpec Tryz.prog 8 [Z1B l] false (Z04 l).av [] := by
 have e := Z61 l
 have he := Za2 (Z36 l)
 have h1 : (((Z36 l).step 4).step 5).l.length ≤ 300 := by rw [e.1]; simp; omega
 have h2 := e.2
 by_cases h : 300 < l.length
 ·have ht : TOk ⟨List.take (Int.toNat 300) l,0⟩ := by simp [TOk]; omega
  have e9 : Z36 l = ⟨List.take (Int.toNat 300) l,0⟩ := rfl
  unfold Z04
  rw [e9] at he h1 h2 ⊢
  exact gF [] Tryz.func8 [] (Fh 9 [.els (List.map idv (List.take (Int.toNat 300) l))] (Fl 6 idv l (Ftb 7 (decide (300 < (↑l.length : Int))) (Fa (by (simp only [List.length_map]; omega) : (0 :Int)≤(300 :Int)∧300≤(↑(List.map idv l).length : Int)) (Fa (by simp [List.map_take,List.map_drop,List.map_set,List.map_append,wdv,idv] : List.take (Int.toNat 300) (List.map idv l) =List.map idv (List.take (Int.toNat 300) l)) (Fp 14 (@Zan (Tape.mk (List.take (Int.toNat 300) l) 0) ‹_› (by (simp only [bs]; omega))) (Fu (@ZiO ((Tape.mk (List.take (Int.toNat 300) l) 0).empty) (((Tape.mk (List.take (Int.toNat 300) l) 0).step 4).step 5) ‹_› ‹_› (by omega) (by omega)) Fz)))))))
 ·have ht : TOk ⟨l,0⟩ := by simp [TOk]; omega
  have e9 : Z36 l = ⟨l,0⟩ := by rw [Z36,List.take_of_length_le (by omega)]
  unfold Z04
  rw [e9] at he h1 h2 ⊢
  exact gF [] Tryz.func8 [] (Fl 6 idv l (Ffb 7 (decide (300 < (↑l.length : Int))) (Fp 14 (@Zan (Tape.mk l 0) ‹_› (by (simp only [bs]; omega))) (Fu (@ZiG ((Tape.mk l 0).empty) (((Tape.mk l 0).step 4).step 5) ‹_› ‹_› (by omega) (by omega)) Fz))))
def RootOn (h : Heap) (r : Int) : Prop := (ofA h.conf r).2.2 = 0 → (h.pages.getD (ofA h.conf r).1.toNat default).kind = 1 ∨ (h.pages.getD (ofA h.conf r).1.toNat default).kind = 2
structure POk (w : WorldM) : Prop where
 p : Z02 w.heap = true
 s : ∀ r ∈ w.strong,RootOn w.heap r
 k : ∀ r ∈ w.weak,RootOn w.heap r
theorem ZjF (h : Heap) : RootOn h 0 := by
 intro e
 exfalso
 unfold ofA at e
 split at e
 ·split at e
  ·omega
  ·simp at e
 ·simp at e
theorem Zcy {h : Heap} {n : Int} (hp : Z02 h = true) (hn : 1 ≤ n ∧ n ≤ h.conf.pw) (e : (Z0a h n).2.2 = true) : (∀ j : Nat,(h.pages.getD j default).kind ≠ 0 → ((Z0a h n).1.pages.getD j default).kind = (h.pages.getD j default).kind) ∧ RootOn (Z0a h n).1 (Z0a h n).2.1 := by
 have hp' := hp
 rw [Z1d] at hp
 obtain ⟨p1,p2,p3,p4,p5,p6⟩ := hp
 have hb := validB_iff.1 p1
 by_cases hf : Z2C h n
 ·have e7 : Z0a h n = (⟨h.conf,h.words,Z1w h.pages h.bump.toNat n,h.space,h.bump⟩,4096 + h.bump * h.conf.pw + (h.pages.getD h.bump.toNat default).used,true) := by rw [Z0a,if_pos hf]
  unfold Z2C at hf
  have hbi : h.bump.toNat < h.pages.length := by omega
  have hk : (h.pages.getD h.bump.toNat default).kind = 1 := by omega
  have u := (p6.b h.bump.toNat hbi).k1 hk
  rw [e7]
  refine ⟨fun j hj => ?_,fun _ => ?_⟩
  ·simp only [Z3c]
   rw [Z0r hbi]
   split
   ·rename_i q; subst q; rfl
   ·rfl
  ·have := Z8r (c := h.conf) (i := h.bump) (o := (h.pages.getD h.bump.toNat default).used) p1 (by omega) (by omega)
   simp only [Z3c]
   rw [show 4096 + h.bump * h.conf.pw + (h.pages.getD h.bump.toNat default).used = 4096 + (h.bump * h.conf.pw + (h.pages.getD h.bump.toNat default).used) by omega,this]
   simp only
   rw [Z0r hbi,if_pos rfl]
   exact Or.inl hk
 ·by_cases hg : 0 ≤ first h.pages 1 ∧ (Z0H h.pages : Int) < Z0M h.conf
  ·have e7 : Z0a h n = (⟨h.conf,h.words,Z1w (Z2r h) (first h.pages 1).toNat n,h.space,first h.pages 1⟩,4096 + first h.pages 1 * h.conf.pw + ((Z2r h).getD (first h.pages 1).toNat default).used,true) := by rw [Z0a,if_neg hf,if_pos hg]
   obtain ⟨g1,g2,g3⟩ := Z34 p4 hg.1 n
   have g4 := congrArg Page.used (Z24 p4 hg.1).2.2.2
   simp only at g4
   rw [e7,g1,g4]
   refine ⟨fun j hj => ?_,fun _ => ?_⟩
   ·simp only
    rw [Z0r g3]
    split
    ·rename_i q; subst q; exact absurd g2 hj
    ·rfl
   ·have := Z8r (c := h.conf) (i := first h.pages 1) (o := 0) p1 (by omega) (by omega)
    simp only
    rw [show 4096 + first h.pages 1 * h.conf.pw + 0 = 4096 + (first h.pages 1 * h.conf.pw + 0) by omega,this]
    simp only
    rw [Z0r g3,if_pos rfl]
    exact Or.inl rfl
  ·rw [Z0a,if_neg hf,if_neg hg] at e
   simp at e
theorem Zcs {h : Heap} {n : Int} (hp : Z02 h = true) (hk : 1 ≤ need h.conf n) (e : (Z0k h n (need h.conf n)).2.2 = true) : (∀ j : Nat,(h.pages.getD j default).kind ≠ 0 → ((Z0k h n (need h.conf n)).1.pages.getD j default).kind = (h.pages.getD j default).kind) ∧ RootOn (Z0k h n (need h.conf n)).1 (Z0k h n (need h.conf n)).2.1 := by
 have hp' := hp
 rw [Z1d] at hp
 obtain ⟨p1,p2,p3,p4,p5,p6⟩ := hp
 have hb := validB_iff.1 p1
 by_cases hg : 0 ≤ first h.pages (need h.conf n) ∧ Z0H h.pages + need h.conf n ≤ Z0M h.conf
 ·obtain ⟨g1,g2,g3⟩ := Z18 hg.1
  have el : (Z1M h.conf h.pages (first h.pages (need h.conf n)) h.space n).1 = tookP h.pages (first h.pages (need h.conf n)).toNat (need h.conf n).toNat ⟨2,h.space,n,0⟩ ⟨3,h.space,0,0⟩ := by
   rw [Z1M,if_pos ⟨hk,by omega⟩,Z2f,if_pos (by omega),if_pos g3]
  have e7 : Z0k h n (need h.conf n) = (⟨h.conf,h.words,tookP h.pages (first h.pages (need h.conf n)).toNat (need h.conf n).toNat ⟨2,h.space,n,0⟩ ⟨3,h.space,0,0⟩,h.space,h.bump⟩,4096 + first h.pages (need h.conf n) * h.conf.pw,true) := by rw [Z0k,if_pos hg,el]
  have hf : ∀ j,j < (need h.conf n).toNat → (h.pages.getD ((first h.pages (need h.conf n)).toNat + j) default).kind = 0 := freeK_iff.1 g3
  have hgt := Z5Q (l := h.pages) (i := (first h.pages (need h.conf n)).toNat) (k := (need h.conf n).toNat) (p := ⟨2,h.space,n,0⟩) (q := ⟨3,h.space,0,0⟩) (by omega) (by omega)
  rw [e7]
  refine ⟨fun j hj => ?_,fun _ => ?_⟩
  ·simp only
   have hne : ¬ ((first h.pages (need h.conf n)).toNat ≤ j ∧ j < (first h.pages (need h.conf n)).toNat + (need h.conf n).toNat) := fun hc => by
    have := hf (j - (first h.pages (need h.conf n)).toNat) (by omega)
    rw [show (first h.pages (need h.conf n)).toNat + (j - (first h.pages (need h.conf n)).toNat) = j by omega] at this
    exact hj this
   rw [hgt,if_neg (by omega),if_neg (by omega)]
  ·have := Z8r (c := h.conf) (i := first h.pages (need h.conf n)) (o := 0) p1 (by omega) (by omega)
   simp only
   rw [show 4096 + first h.pages (need h.conf n) * h.conf.pw = 4096 + (first h.pages (need h.conf n) * h.conf.pw + 0) by omega,this]
   simp only
   rw [hgt,if_pos rfl]
   exact Or.inr rfl
 ·rw [Z0k,if_neg hg] at e
  simp at e
theorem RootOn.mono {h h' : Heap} {r : Int} (hr : RootOn h r) (hc : h'.conf = h.conf) (hk : ∀ j : Nat,(h.pages.getD j default).kind ≠ 0 → (h'.pages.getD j default).kind = (h.pages.getD j default).kind) : RootOn h' r := by
 intro e
 rw [hc] at e ⊢
 have q := hr e
 rw [hk _ (by omega)]
 exact q
theorem Zee {c : Conf} {hd : Header} (ha : Z1b c hd = true) (hv : Z07 c = true) (hn : ¬ 0 < need c (sizeH hd)) : sizeH hd ≤ c.pw := by
 obtain ⟨a1,a2,a3,a4,a5⟩ := Z3R ha
 have hb := validB_iff.1 hv
 unfold need at hn a4
 split at a4
 ·rename_i hc
  rw [if_pos hc] at hn
  split at a4
  ·omega
  ·rename_i hd'
   rw [if_neg hd'] at hn
   have e := Int.mul_ediv_add_emod (sizeH hd + c.pw - 1) c.pw
   have hz : (sizeH hd + c.pw - 1) / c.pw = 0 := by omega
   rw [hz] at e
   have := Int.emod_lt_of_pos (sizeH hd + c.pw - 1) (b := c.pw) (by omega)
   omega
 ·omega
theorem POk.put {w : WorldM} (h : POk w) (hw : WOk w.heap.words) {hd : Header} (hm : 0 ≤ hd.map ∧ hd.map ≤ 4294967295) : POk (w.put hd) := by
 unfold WorldM.put
 split
 ·rename_i e
  obtain ⟨k1,k2,k3,k4,k5,k6,k7,k8⟩ := Z77 hw hm e
  have hv := (Z08 k1).1
  obtain ⟨a1,a2,a3,a4,a5⟩ := Z3R k2
  have kk : (∀ j : Nat,(w.heap.pages.getD j default).kind ≠ 0 → ((put7 w.heap hd).1.pages.getD j default).kind = (w.heap.pages.getD j default).kind) ∧ RootOn (put7 w.heap hd).1 (put7 w.heap hd).2.1 := by
   by_cases hn : 0 < need w.heap.conf (sizeH hd)
   ·have e7 : put7 w.heap hd = Z0k w.heap (sizeH hd) (need w.heap.conf (sizeH hd)) := by rw [put7,if_pos hn]
    rw [e7] at k4 ⊢
    exact Zcs k1 (by omega) k4
   ·have e7 : put7 w.heap hd = Z0a w.heap (sizeH hd) := by rw [put7,if_neg hn]
    rw [e7] at k4 ⊢
    exact Zcy k1 ⟨a2,Zee k2 hv hn⟩ k4
  have hc : (new7 w.heap hd).1.conf = w.heap.conf := by rw [k6]; exact k3.c
  have hk : ∀ j : Nat,(w.heap.pages.getD j default).kind ≠ 0 → ((new7 w.heap hd).1.pages.getD j default).kind = (w.heap.pages.getD j default).kind := by rw [k6]; exact kk.1
  refine ⟨k7,fun r hr => ?_,fun r hr => (h.k r hr).mono hc hk⟩
  rcases List.mem_append.1 hr with hr | hr
  ·exact (h.s r hr).mono hc hk
  ·simp only [List.mem_singleton] at hr
   subst hr
   rw [k5,k6]
   exact kk.2
 ·exact h
theorem POk.link {w : WorldM} {n : Nat} (h : POk w) (hm : MOk w n) (hn : n ≤ 1000000) (t : Tape) : POk (w.link t) := by
 unfold WorldM.link
 split
 ·rename_i hc
  have hw := hm.wm hn
  have g := Z3T hc.1
  have n1 := Z0A (w.pickT (w.pickT t)) (n := 8) (by decide)
  have hi : 0 ≤ Z1G w t ∧ Z1G w t < (getH w.heap (w.pick t)).1.length := by
   unfold Z1G
   rw [Int.tmod_eq_emod_of_nonneg n1.1]
   exact ⟨Int.emod_nonneg _ (by omega),Int.emod_lt_of_pos _ (by omega)⟩
  have hv : 0 ≤ Z1K w t ∧ Z1K w t ≤ 18446744073709551615 := by
   unfold Z1K
   split
   ·exact Z2z hw _
   ·have := Z0A ((w.pickT (w.pickT t)).step 8) (n := 1048576) (by decide)
    omega
  obtain ⟨s1,s2,s3⟩ := Z5d hm.words hv hc.1 hi
  refine ⟨s2,fun r hr => ?_,fun r hr => ?_⟩
  ·simp only
   rw [s1]
   exact h.s r hr
  ·simp only
   rw [s1]
   exact h.k r hr
 ·exact h
theorem PT.setPins {c : Conf} {l : List Page} (h : PT c l) {i : Nat} (hi : i < l.length) (hk : (l.getD i default).kind = 1 ∨ (l.getD i default).kind = 2) {n : Int} (hn : 0 ≤ n ∧ n ≤ 2147483647) : PT c (l.set i ⟨(l.getD i default).kind,(l.getD i default).space,(l.getD i default).used,n⟩) := by
 have e : ∀ j,((l.set i ⟨(l.getD i default).kind,(l.getD i default).space,(l.getD i default).used,n⟩).getD j default).kind = (l.getD j default).kind ∧ ((l.set i ⟨(l.getD i default).kind,(l.getD i default).space,(l.getD i default).used,n⟩).getD j default).space = (l.getD j default).space ∧ ((l.set i ⟨(l.getD i default).kind,(l.getD i default).space,(l.getD i default).used,n⟩).getD j default).used = (l.getD j default).used := by
  intro j
  rw [Z0r hi]
  split
  ·rename_i q; subst q; exact ⟨rfl,rfl,rfl⟩
  ·exact ⟨rfl,rfl,rfl⟩
 refine ⟨?_, ?_, ?_⟩
 ·intro j hj
  rw [List.length_set] at hj
  rw [Z0r hi]
  split
  ·have b := h.b i hi
   exact ⟨b.s,hn,b.k,fun q => by simp only at q; omega,b.k1,fun q => by simp only at q; omega⟩
  ·exact h.b j hj
 ·intro j hj hk2
  rw [List.length_set] at hj
  rw [(e j).1] at hk2
  rw [(e j).2.2,(e j).2.1]
  have q := h.lg j hj hk2
  refine ⟨q.1,fun m h1 h2 => ?_⟩
  rw [List.length_set,(e _).1,(e _).2.1]
  exact q.2 m h1 h2
 ·intro j hj hk3
  rw [List.length_set] at hj
  rw [(e j).1] at hk3
  obtain ⟨a,a1,a2,a3⟩ := h.tl j hj hk3
  exact ⟨a,a1,by rw [(e a).1]; exact a2,by rw [(e a).2.2]; exact a3⟩
theorem Zdh {w : WorldM} {n : Nat} (h : POk w) (hm : MOk w n) (hn : n ≤ 1000000) {i : Nat} (hi : i < w.heap.pages.length) (hk : (w.heap.pages.getD i default).kind = 1 ∨ (w.heap.pages.getD i default).kind = 2) {d : Int} (hd : d = 1 ∨ (d = -1 ∧ 0 < (w.heap.pages.getD i default).pins)) : POk (pinB w i d) := by
 have hp := hm.pins i hi
 have kk : ∀ j : Nat,((pinB w i d).heap.pages.getD j default).kind = (w.heap.pages.getD j default).kind := by
  intro j
  simp only [pinB]
  rw [Z0r hi]
  split
  ·rename_i q; subst q; rfl
  ·rfl
 have pr := h.p
 rw [Z1d] at pr
 obtain ⟨p1,p2,p3,p4,p5,p6⟩ := pr
 refine ⟨?_,fun r hr => (h.s r hr).mono rfl (fun j _ => kk j),fun r hr => (h.k r hr).mono rfl (fun j _ => kk j)⟩
 rw [Z1d]
 refine ⟨p1,p2,by simp only [pinB,List.length_set]; exact p3,p4, ?_,p6.setPins hi hk (by omega)⟩
 rcases p5 with p5 | p5
 ·exact Or.inl p5
 ·refine Or.inr ⟨p5.1,by simp only [pinB,List.length_set]; exact p5.2.1, ?_⟩
  rw [show (pinB w i d).heap.bump = w.heap.bump from rfl,kk]
  exact p5.2.2
theorem Zdf (w : WorldM) (t : Tape) : w.pick t = 0 ∨ w.pick t ∈ w.strong ∨ w.pick t ∈ w.weak := by
 have hn := Z0A t (n := (w.refs.length : Int)) (by simp [WorldM.refs]; omega)
 have : w.pick t ∈ w.refs := getD_mem_iff.2 ⟨_,by omega,rfl⟩
 simpa [WorldM.refs] using this
theorem POk.pick {w : WorldM} (h : POk w) (t : Tape) : RootOn w.heap (w.pick t) := by
 rcases Zdf w t with e | e | e
 ·rw [e]; exact ZjF _
 ·exact h.s _ e
 ·exact h.k _ e
theorem POk.pin {w : WorldM} {n : Nat} (h : POk w) (hm : MOk w n) (hn : n ≤ 1000000) (t : Tape) : POk (w.pin t) := by
 unfold WorldM.pin
 split
 ·rename_i e
  have o := Z3B hm.hv e
  have hpl := hm.pl
  have hi : pinI w t < w.heap.pages.length := by unfold pinI; omega
  have hk := h.pick t e
  split
  ·rename_i hc
   exact Zdh h hm hn hi hk (Or.inr ⟨rfl,hc.1⟩)
  ·split
   ·exact Zdh h hm hn hi hk (Or.inl rfl)
   ·exact h
 ·exact h
theorem POk.drop {w : WorldM} (h : POk w) (t : Tape) : POk (w.drop t) := by
 unfold WorldM.drop
 split
 ·rename_i hl
  have n1 := Z0A t (n := (w.strong.length : Int)) (by omega)
  refine ⟨h.p,fun r hr => ?_,fun r hr => ?_⟩
  ·rcases List.mem_append.1 hr with hr | hr
   ·exact h.s r (List.mem_of_mem_take hr)
   ·exact h.s r (List.mem_of_mem_drop hr)
  ·simp only at hr
   split at hr
   ·rcases List.mem_append.1 hr with hr | hr
    ·exact h.k r hr
    ·simp only [List.mem_singleton] at hr
     subst hr
     refine h.s _ (getD_mem_iff.2 ⟨_, ?_,rfl⟩)
     unfold ZeS
     omega
   ·exact h.k r hr
 ·exact h
theorem POk.collect {w : WorldM} {n : Nat} (h : POk w) (hm : MOk w n) : POk w.collect := by
 unfold WorldM.collect
 split
 ·rename_i e
  have c := Z6a (B := n) (by omega) hm.words (fun p hp => (hm.pin_mem p hp).2) e
  have hp := h.p
  by_cases hr : Z0l w.heap w.strong = true ∧ Z0l w.heap w.weak = true
  ·by_cases e1 : (rootsF (beginW w.heap) w.strong).2.2 = 0
   ·by_cases e2 : (allF (rootsF (beginW w.heap) w.strong).1).2 = 0
    ·have e7 : Z0h w.heap w.strong w.weak = (endH (cW5 w.heap w.strong w.weak),(rootsF (beginW w.heap) w.strong).2.1,Z2A (cW2 w.heap w.strong) w.weak w.weak.length,(cW5 w.heap w.strong w.weak).rep,0) := by rw [Z0h,if_pos hp,if_pos hr,if_pos e1,if_pos e2]
     have hb := Z2Z hm.words hp
     have hi := Z2O hp
     have pr0 : PR n (beginW w.heap) := ⟨Z4C hp (fun p hp => (hm.pin_mem p hp).2),Z6x hp⟩
     have pr := ZiA (B := n) (by omega) hm.words hp (fun p hp => (hm.pin_mem p hp).2) e1 e2
     have ck := cOk w.heap w.strong w.weak hm.words hp e1 e2
     obtain ⟨g1,g2,g3,g4,g5⟩ := ck.h4
     have hc2 : (cW2 w.heap w.strong).heap.conf = w.heap.conf := ck.x2.c
     have hsp := ck.w2.sp
     have seen : ∀ x,ToOk (cW2 w.heap w.strong) x → RootOn (endH (cW5 w.heap w.strong w.weak)) x := by
      intro x hx
      rcases hx with rfl | hx
      ·exact ZjF _
      ·intro he
       have q := pr.rt.q x hx
       unfold pgOf at q
       simp only [endH,cW5,Z0V,g1,g2,g3] at he ⊢
       rw [hc2] at q
       have hlt : (ofA w.heap.conf x).1.toNat < (cW2 w.heap w.strong).heap.pages.length := by
        by_cases hq : (ofA w.heap.conf x).1.toNat < (cW2 w.heap w.strong).heap.pages.length
        ·exact hq
        ·have q1 := q.1
         rw [List.getD_eq_getElem?_getD,List.getElem?_eq_none (by omega)] at q1
         simp only [Option.getD_none] at q1
         have d : (default : Page).kind = 0 := rfl
         omega
       have ef : (List.map (Z1f (cW2 w.heap w.strong).heap.space) (cW2 w.heap w.strong).heap.pages).getD (ofA w.heap.conf x).1.toNat default = Z1f (cW2 w.heap w.strong).heap.space ((cW2 w.heap w.strong).heap.pages.getD (ofA w.heap.conf x).1.toNat default) := by simp [List.getD_eq_getElem?_getD,hlt]
       rw [ef,Z1f,if_neg (by unfold Z2W; omega)]
       exact q.1
     have hall := Z2P (roots := w.strong) hb hi e1
     have ax := Z9a hall.1 hall.2.1 e2
     have r1 : ∀ x ∈ (rootsF (beginW w.heap) w.strong).2.1,ToOk (cW2 w.heap w.strong) x := by
      intro x hx
      have : ToOk (rootsF (beginW w.heap) w.strong).1 x := by
       unfold rootsF at e1 hx ⊢
       cases hbb : (List.range w.strong.length).find? (fun k => decide (Z26 (beginW w.heap) w.strong k ≠ 0)) with
       | none =>
        rw [hbb] at hx
        have h0 : ∀ j,j < w.strong.length → Z26 (beginW w.heap) w.strong j = 0 := fun j hj => by
         have := List.find?_eq_none.1 hbb j (List.mem_range.2 hj)
         simpa using this
        exact Z6P (B := n) (by omega) hb hi pr0 w.strong.length h0 x hx
       | some k =>
        rw [hbb] at e1
        simp only at e1
        have := (List.find?_range_eq_some.1 hbb).1
        simp [e1] at this
      rcases this with q | q
      ·exact Or.inl q
      ·exact Or.inr (ax.2.q x q)
     have r2 : ∀ i,i ≤ w.weak.length → ∀ x ∈ Z2A (cW2 w.heap w.strong) w.weak i,ToOk (cW2 w.heap w.strong) x := by
      intro i
      induction i with
      | zero => intro _ x hx; simp [Z2A] at hx
      | succ i ih =>
       intro hi' x hx
       simp only [Z2A,List.mem_append,List.mem_singleton] at hx
       rcases hx with hx | rfl
       ·exact ih (by omega) x hx
       ·have hs := Z3K (cW2 w.heap w.strong) w.weak i
        unfold Z5E
        split
        ·exact Or.inl rfl
        ·rename_i hne
         unfold Z1o
         rw [hs.2.2.2.1,hs.1]
         split
         ·rename_i hq; exact Or.inr hq
         ·cases ht : (Z0q (loadA (cW2 w.heap w.strong).heap.words (w.weak.getD i default)).1).2 with
          | true =>
           refine Or.inr (pr.rt.t _ ?_ ht)
           have ho : (cW2 w.heap w.strong).old = (Z03 w.heap).1 := ck.x2.o
           rw [ho]
           have hrf := hr.2
           simp only [Z0l,Bool.and_eq_true,Option.isNone_iff_eq_none] at hrf
           have := List.find?_eq_none.1 hrf.2 i (List.mem_range.2 (by omega))
           simp only [rfsB,decide_eq_true_eq,not_and,Decidable.not_not] at this
           exact this hne
          | false =>
           refine Or.inl ?_
           unfold Z0q at ht ⊢
           split at ht
           ·simp at ht
           ·rename_i hcc; rw [if_neg hcc]
     have p1 := c.p1
     rw [e7] at p1 ⊢
     exact ⟨p1,fun x hx => seen x (r1 x hx),fun x hx => seen x (r2 _ (Nat.le_refl _) x hx)⟩
    ·rw [Z0h,if_pos hp,if_pos hr,if_pos e1,if_neg e2] at e
     exact absurd e e2
   ·rw [Z0h,if_pos hp,if_pos hr,if_neg e1] at e
    exact absurd e e1
  ·rw [Z0h,if_pos hp,if_neg hr] at e
   simp at e
 ·exact h
theorem POk.step {w : WorldM} {n : Nat} (h : POk w) (hm : MOk w n) (hn : n ≤ 1000000) (t : Tape) : POk (w.step t) := by
 unfold WorldM.step
 repeat' split
 ·exact h.put hm.words (Z3C _ _)
 ·exact h.link hm hn _
 ·exact h.pin hm hn _
 ·exact h.drop _
 ·exact h.collect hm
 ·refine ⟨h.p,fun r hr => ?_,h.k⟩
  rcases List.mem_append.1 hr with hr | hr
  ·exact h.s r hr
  ·simp only [List.mem_singleton] at hr
   subst hr
   exact h.pick _
theorem ZaS (t : Tape) : POk t.empty := by
 refine ⟨?_,by simp [Tape.empty],by simp [Tape.empty]⟩
 have hv := Z2s t
 have hb := validB_iff.1 hv
 have ha := area hv
 rw [Z1d]
 have hg : ∀ j,j < t.conf.pg.toNat → (List.replicate t.conf.pg.toNat (⟨0,0,0,0⟩ : Page)).getD j default = ⟨0,0,0,0⟩ := fun j hj => by simp [List.getD_eq_getElem?_getD,hj]
 refine ⟨hv,by simp only [Tape.empty,Z1Q,List.length_replicate]; omega,by simp only [Tape.empty,Z1Q,List.length_replicate]; omega,Or.inl rfl,Or.inl rfl, ?_⟩
 simp only [Tape.empty,Z1Q]
 refine ⟨fun j hj => ?_,fun j hj hk => ?_,fun j hj hk => ?_⟩
 ·rw [List.length_replicate] at hj
  rw [hg j hj]
  exact ⟨by simp,by simp,by simp,by simp,by simp,by simp⟩
 ·rw [List.length_replicate] at hj
  rw [hg j hj] at hk
  simp at hk
 ·rw [List.length_replicate] at hj
  rw [hg j hj] at hk
  simp at hk
theorem Zgg {w : WorldM} {n : Nat} (h : POk w) (hm : MOk w n) (t : Tape) : ∀ k,n + k ≤ 1000000 → POk (mkS w t k).1
 | 0,_ => h
 | k + 1,hk => (Zgg h hm t k (by omega)).step (Z8i hm t k (by omega)) (by omega) _
def hdA (ws : List Int) (a : Int) : Header := (decodeH (loadA ws a).1).1
def okA (ws : List Int) (a : Int) : Prop := (decodeH (loadA ws a).1).2 = true
def kdA (ws : List Int) (a : Int) : Int := (hdA ws a).kind
def kpA (ws : List Int) (a : Int) : Int := if kdA ws a = 0 then 1 else hlA ws a + 1
def bsP (h : Heap) (i : Nat) : Int := 4096 + i * h.conf.pw
def tile (ws : List Int) : Int → Int → List Int → Prop
 | a,b,[] => a = b
 | a,b,x :: l => x = a ∧ okA ws a ∧ tile ws (a + hlA ws a + 1) b l
theorem Z3y (ws : List Int) (a : Int) : sizeH (hdA ws a) = hlA ws a + 1 := by
 unfold hdA
 rw [sizeH,if_pos (Z2b _)]
 rfl
theorem ZbW {ws : List Int} : ∀ {l : List Int} {a b : Int},tile ws a b l → a ≤ b
 | [],a,b,h => by simp only [tile] at h; omega
 | x :: l,a,b,h => by
  have := ZbW h.2.2
  have := Z0g ws a
  omega
theorem Z1A {ws : List Int} {x : Int} : ∀ {l : List Int} {a b : Int},tile ws a b l → x ∈ l → okA ws x ∧ a ≤ x ∧ x + hlA ws x < b
 | [],_,_,_,hx => by simp at hx
 | y :: l,a,b,h,hx => by
  have hr := Z0g ws a
  rcases List.mem_cons.1 hx with rfl | hx
  ·have := ZbW h.2.2
   rw [h.1]
   exact ⟨h.2.1,by omega,by omega⟩
  ·have := Z1A h.2.2 hx
   exact ⟨this.1,by omega,this.2.2⟩
theorem Z9H {ws : List Int} {x y : Int} : ∀ {l : List Int} {a b : Int},tile ws a b l → x ∈ l → y ∈ l → x < y → x + hlA ws x < y
 | [],_,_,_,hx,_,_ => by simp at hx
 | z :: l,a,b,h,hx,hy,hxy => by
  have hr := Z0g ws a
  have h1 := h.1
  rcases List.mem_cons.1 hx with e | hx'
  ·rcases List.mem_cons.1 hy with e2 | hy'
   ·omega
   ·have := (Z1A h.2.2 hy').2.1
    rw [e,h1]
    omega
  ·rcases List.mem_cons.1 hy with e2 | hy'
   ·have := (Z1A h.2.2 hx').2.1
    omega
   ·exact Z9H h.2.2 hx' hy' hxy
theorem Za3 {ws : List Int} {m : List Int} {b c : Int} : ∀ {l : List Int} {a : Int},tile ws a b l → tile ws b c m → tile ws a c (l ++ m)
 | [],a,h,h2 => by simp only [tile] at h; subst h; exact h2
 | _ :: _,_,h,h2 => ⟨h.1,h.2.1,Za3 h.2.2 h2⟩
theorem Z2a {ws ws' : List Int} : ∀ {l : List Int} {a b : Int},tile ws a b l → (∀ x ∈ l,okA ws' x ∧ hlA ws' x = hlA ws x) → tile ws' a b l
 | [],_,_,h,_ => h
 | x :: l,a,b,h,hh => by
  have hx := hh x (by simp)
  have h1 := h.1
  subst h1
  refine ⟨rfl,hx.1, ?_⟩
  rw [hx.2]
  exact Z2a h.2.2 fun y hy => hh y (List.mem_cons_of_mem _ hy)
theorem Z8N {ws : List Int} {c : Int} : ∀ {l : List Int} {a b : Int},tile ws a b l → a ≤ c → c < b → ∃ x ∈ l,x ≤ c ∧ c ≤ x + hlA ws x
 | [],a,b,h,h1,h2 => by simp only [tile] at h; omega
 | x :: l,a,b,h,h1,h2 => by
  by_cases hc : c ≤ a + hlA ws a
  ·exact ⟨a,by rw [h.1]; simp,h1,hc⟩
  ·obtain ⟨y,hy,h3⟩ := Z8N h.2.2 (show a + hlA ws a + 1 ≤ c by omega) h2
   exact ⟨y,List.mem_cons_of_mem _ hy,h3⟩
theorem Z1O {ws ws' : List Int} {a : Int} (h : (loadA ws' a).1 = (loadA ws a).1) : (okA ws a → okA ws' a) ∧ hlA ws' a = hlA ws a ∧ kdA ws' a = kdA ws a ∧ hdA ws' a = hdA ws a ∧ kpA ws' a = kpA ws a := by
 have e : hdA ws' a = hdA ws a := by rw [hdA,hdA,h]
 have e2 : hlA ws' a = hlA ws a := by rw [hlA,hlA,h]
 have e3 : kdA ws' a = kdA ws a := by rw [kdA,kdA,e]
 exact ⟨fun q => by rw [okA,h]; exact q,e2,e3,e,by rw [kpA,kpA,e2,e3]⟩
structure Gt (h : Heap) (T : Nat → List Int) : Prop where
 p : Z02 h = true
 t1 : ∀ i,i < h.pages.length → (h.pages.getD i default).kind = 1 → tile h.words (bsP h i) (bsP h i + (h.pages.getD i default).used) (T i)
 t2 : ∀ i,i < h.pages.length → (h.pages.getD i default).kind = 2 → T i = [bsP h i] ∧ okA h.words (bsP h i) ∧ hlA h.words (bsP h i) + 1 = (h.pages.getD i default).used
 t0 : ∀ i x,x ∈ T i → i < h.pages.length ∧ ((h.pages.getD i default).kind = 1 ∨ (h.pages.getD i default).kind = 2)
structure Gd (h : Heap) (T : Nat → List Int) : Prop where
 p : Z02 h = true
 sp : ∀ i,i < h.pages.length → (h.pages.getD i default).kind ≠ 0 → (h.pages.getD i default).space = h.space
 t1 : ∀ i,i < h.pages.length → (h.pages.getD i default).kind = 1 → tile h.words (bsP h i) (bsP h i + (h.pages.getD i default).used) (T i) ∧ ∀ x ∈ T i,hlA h.words x + 1 ≤ Z00 h.conf
 t2 : ∀ i,i < h.pages.length → (h.pages.getD i default).kind = 2 → T i = [bsP h i] ∧ okA h.words (bsP h i) ∧ hlA h.words (bsP h i) + 1 = (h.pages.getD i default).used ∧ kdA h.words (bsP h i) ≠ 0
 t0 : ∀ i x,x ∈ T i → i < h.pages.length ∧ ((h.pages.getD i default).kind = 1 ∨ (h.pages.getD i default).kind = 2)
 d : ∀ a,(loadA h.words a).1 ≠ 0 → ∃ i x,x ∈ T i ∧ x ≤ a ∧ a < x + kpA h.words x
 q : ∀ i x k,x ∈ T i → kdA h.words x ≠ 0 → 0 ≤ k → k < hlA h.words x → Z0n (hdA h.words x) k = true → (loadA h.words (x + 1 + k)).1 = 0 ∨ ∃ j,(loadA h.words (x + 1 + k)).1 ∈ T j ∧ kdA h.words (loadA h.words (x + 1 + k)).1 ≠ 0
 cr : (crowd h.pages : Int) ≤ h.conf.pg / 4
def Ob (h : Heap) (T : Nat → List Int) (x : Int) : Prop := ∃ j,x ∈ T j ∧ kdA h.words x ≠ 0
section
variable {h : Heap} {T : Nat → List Int} (g : Gt h T)
include g
theorem Gt.on {i : Nat} {x : Int} (hx : x ∈ T i) : i < h.pages.length ∧ ((h.pages.getD i default).kind = 1 ∨ (h.pages.getD i default).kind = 2) ∧ bsP h i ≤ x ∧ x < bsP h i + h.conf.pw ∧ x + hlA h.words x < bsP h i + (h.pages.getD i default).used ∧ okA h.words x ∧ ((h.pages.getD i default).kind = 2 → x = bsP h i ∧ hlA h.words x + 1 = (h.pages.getD i default).used) := by
 have t := g.t0 i x hx
 have po := Z08 g.p
 have pp := Z0D g.p t.1
 have hr := Z0g h.words x
 refine ⟨t.1,t.2, ?_⟩
 rcases t.2 with k | k
 ·have m := Z1A (g.t1 i t.1 k) hx
  exact ⟨m.2.1,by omega,m.2.2,m.1,fun q => by omega⟩
 ·have m := g.t2 i t.1 k
  rw [m.1] at hx
  have hx := List.mem_singleton.1 hx
  subst hx
  exact ⟨by omega,by omega,by omega,m.2.1,fun _ => ⟨rfl,m.2.2⟩⟩
theorem Gt.ofx {i : Nat} {x : Int} (hx : x ∈ T i) : ofA h.conf x = ((i : Int),x - bsP h i,0) := by
 have o := g.on hx
 have po := Z08 g.p
 have := Z8r (c := h.conf) (i := i) (o := x - bsP h i) po.1 (by omega) (by omega)
 rw [← this]
 congr 1
 unfold bsP
 omega
theorem Gt.sep {i j : Nat} {x y : Int} (hx : x ∈ T i) (hy : y ∈ T j) (hxy : x < y) : x + hlA h.words x < y := by
 have o1 := g.on hx
 have o2 := g.on hy
 have r2 := Z0g h.words y
 have r1 := Z0g h.words x
 unfold bsP at o1 o2
 rcases Nat.lt_trichotomy i j with q | q | q
 ·have := Z3X g.p q o2.1 o1.2.1 (by omega)
  omega
 ·subst q
  rcases o1.2.1 with k | k
  ·exact Z9H (g.t1 i o1.1 k) hx hy hxy
  ·have := (o1.2.2.2.2.2.2 k).1
   have := (o2.2.2.2.2.2.2 k).1
   omega
 ·have := Z3X g.p q o1.1 o2.2.1 (by omega)
  omega
theorem Gt.free {i j : Nat} {x : Int} (hi : i < h.pages.length) (hk : (h.pages.getD i default).kind = 0 ∨ (h.pages.getD i default).kind = 1) (hx : x ∈ T j) : x + hlA h.words x < bsP h i + occP (h.pages.getD i default) ∨ bsP h i + h.conf.pw ≤ x := by
 have o := g.on hx
 have po := Z08 g.p
 have pp := Z0D g.p hi
 have hoc : 0 ≤ occP (h.pages.getD i default) := by unfold occP; split <;> omega
 unfold bsP at o ⊢
 rcases Nat.lt_trichotomy i j with q | q | q
 ·have := Z10 (i := i) (j := j) (pw := h.conf.pw) (by omega) (by omega)
  omega
 ·subst q
  rw [occP,if_neg (by omega)]
  omega
 ·have := Z3X g.p q hi o.2.1 (by omega)
  omega
theorem Gt.at' {i : Nat} {x : Int} (hx : x ∈ T i) : atH h x = (hdA h.words x,0) := by
 have o := g.on hx
 have r := Z0g h.words x
 have s : sizeH (decodeH (loadA h.words x).1).1 = hlA h.words x + 1 := Z3y h.words x
 unfold atH
 rw [if_pos g.p,g.ofx hx]
 simp only [Int.toNat_natCast,s,if_true]
 rw [if_pos ⟨o.2.1,by omega,o.2.2.2.2.2.1⟩,if_neg]
 ·rfl
 ·have := o.2.2.2.2.2.2
  omega
theorem ZaK {i : Nat} (hi : i < h.pages.length) (hk : (h.pages.getD i default).kind = 1) : ∀ (f : Nat) (o : Int) (l : List Int),tile h.words (bsP h i + o) (bsP h i + (h.pages.getD i default).used) l → (∀ x ∈ l,x ∈ T i) → 0 ≤ o → (h.pages.getD i default).used - o ≤ f → Z31 h i f o = some l
 | 0,o,[],ht,hm,h0,hf => rfl
 | 0,o,x :: l,ht,hm,h0,hf => by
  have := ZbW ht.2.2
  have := Z0g h.words (bsP h i + o)
  omega
 | f + 1,o,[],ht,hm,h0,hf => by
  simp only [tile] at ht
  unfold Z31
  rw [if_neg]
  show ¬ o < (h.pages.getD (i : Int).toNat default).used
  rw [Int.toNat_natCast]
  omega
 | f + 1,o,x :: l,ht,hm,h0,hf => by
  have hx := hm x (by simp)
  have e := ht.1
  have on := g.on hx
  have po := Z08 g.p
  have hr := Z0g h.words x
  have hpg : pg h (i : Int) = h.pages.getD i default := by simp [pg]
  have ea : adr h i o = x := by
   unfold adr address
   rw [if_pos po.1,if_pos (inB_iff.2 ⟨by omega,by omega,h0,by omega⟩),e]
   unfold bsP
   simp only
   omega
  have t3 := ht.2.2
  rw [← e] at t3
  have ih := ZaK hi hk f (o + (hlA h.words x + 1)) l (by rw [show bsP h i + (o + (hlA h.words x + 1)) = x + hlA h.words x + 1 by omega]; exact t3) (fun y hy => hm y (List.mem_cons_of_mem _ hy)) (by omega) (by omega)
  unfold Z31
  rw [hpg,if_pos (by omega),ea,g.at' hx]
  simp only [if_true]
  rw [if_neg (by omega),Z3y,ih]
  rfl
theorem Gt.page {i : Nat} (hi : i < h.pages.length) : Z0t h i = (T i,0) := by
 have pp := Z0D g.p hi
 have hpg : pg h (i : Int) = h.pages.getD i default := by simp [pg]
 unfold Z0t
 rw [if_pos g.p,if_pos (by omega),hpg]
 by_cases hk : (h.pages.getD i default).kind = 0 ∨ (h.pages.getD i default).kind = 3
 ·rw [if_pos hk]
  have : T i = [] := List.eq_nil_iff_forall_not_mem.2 fun x hx => by have := (g.t0 i x hx).2; omega
  rw [this]
 ·rw [if_neg hk]
  by_cases h1 : (h.pages.getD i default).kind = 1
  ·have := ZaK g hi h1 256 0 (T i) (by rw [Int.add_zero]; exact (g.t1 i hi h1)) (fun _ q => q) (by omega) (by omega)
   rw [this]
  ·have h2 : (h.pages.getD i default).kind = 2 := by omega
   have t := g.t2 i hi h2
   have hx : bsP h i ∈ T i := by rw [t.1]; simp
   have on := g.on hx
   have po := Z08 g.p
   have hr := Z0g h.words (bsP h i)
   have ea : adr h i 0 = bsP h i := by
    unfold adr address
    rw [if_pos po.1,if_pos (inB_iff.2 ⟨by omega,by omega,by omega,by omega⟩)]
    unfold bsP
    simp
   have : Z31 h i 256 0 = some (T i) := by
    unfold Z31
    rw [hpg,if_pos (by omega),ea,g.at' hx]
    simp only [if_true]
    rw [if_pos h2,t.1]
   rw [this]
theorem Gt.starts : ∀ (f i : Nat),i + f = h.pages.length → (Z0x h f i).2 = 0 ∧ ∀ x,x ∈ (Z0x h f i).1 ↔ ∃ j,i ≤ j ∧ x ∈ T j
 | 0,i,hf => by
  refine ⟨rfl,fun x => ⟨fun hx => by simp [Z0x] at hx, ?_⟩⟩
  rintro ⟨j,hj,hx⟩
  have := (g.t0 j x hx).1
  omega
 | f + 1,i,hf => by
  obtain ⟨i1,i2⟩ := Gt.starts f (i + 1) (by omega)
  unfold Z0x
  rw [g.page (show i < h.pages.length by omega)]
  simp only [i1,if_true]
  refine ⟨trivial,fun x => ?_⟩
  rw [List.mem_append,i2]
  constructor
  ·rintro (hx | ⟨j,hj,hx⟩)
   ·exact ⟨i,Nat.le_refl _,hx⟩
   ·exact ⟨j,by omega,hx⟩
  ·rintro ⟨j,hj,hx⟩
   by_cases q : j = i
   ·subst q; exact Or.inl hx
   ·exact Or.inr ⟨j,by omega,hx⟩
theorem Gt.objs : (Z03 h).2 = 0 ∧ ∀ x,x ∈ (Z03 h).1 ↔ Ob h T x := by
 have s := g.starts h.pages.length 0 (by omega)
 have e : Z0J h = Z0x h h.pages.length 0 := by rw [Z0J,if_pos g.p]
 unfold Z03
 rw [e]
 refine ⟨s.1,fun x => ?_⟩
 rw [List.mem_filter,s.2]
 constructor
 ·rintro ⟨⟨j,_,hj⟩,hb⟩
  have hb' : (atH h x).1.kind ≠ 0 := of_decide_eq_true hb
  rw [g.at' hj] at hb'
  exact ⟨j,hj,hb'⟩
 ·rintro ⟨j,hj,hb⟩
  refine ⟨⟨j,by omega,hj⟩,decide_eq_true ?_⟩
  rw [g.at' hj]
  exact hb
end
section
variable {h : Heap} {T : Nat → List Int} (g : Gd h T)
include g
theorem Gd.gt : Gt h T := ⟨g.p,fun i hi hk => (g.t1 i hi hk).1,fun i hi hk => ⟨(g.t2 i hi hk).1,(g.t2 i hi hk).2.1,(g.t2 i hi hk).2.2.1⟩,g.t0⟩
theorem Gd.on {i : Nat} {x : Int} (hx : x ∈ T i) : i < h.pages.length ∧ ((h.pages.getD i default).kind = 1 ∨ (h.pages.getD i default).kind = 2) ∧ bsP h i ≤ x ∧ x < bsP h i + h.conf.pw ∧ x + hlA h.words x < bsP h i + (h.pages.getD i default).used ∧ okA h.words x ∧ ((h.pages.getD i default).kind = 2 → x = bsP h i ∧ hlA h.words x + 1 = (h.pages.getD i default).used) := g.gt.on hx
theorem Gd.ofx {i : Nat} {x : Int} (hx : x ∈ T i) : ofA h.conf x = ((i : Int),x - bsP h i,0) := g.gt.ofx hx
theorem Gd.sep {i j : Nat} {x y : Int} (hx : x ∈ T i) (hy : y ∈ T j) (hxy : x < y) : x + hlA h.words x < y := g.gt.sep hx hy hxy
theorem Gd.free {i j : Nat} {x : Int} (hi : i < h.pages.length) (hk : (h.pages.getD i default).kind = 0 ∨ (h.pages.getD i default).kind = 1) (hx : x ∈ T j) : x + hlA h.words x < bsP h i + occP (h.pages.getD i default) ∨ bsP h i + h.conf.pw ≤ x := g.gt.free hi hk hx
theorem Gd.at' {i : Nat} {x : Int} (hx : x ∈ T i) : atH h x = (hdA h.words x,0) := g.gt.at' hx
theorem Gd.page {i : Nat} (hi : i < h.pages.length) : Z0t h i = (T i,0) := g.gt.page hi
theorem Gd.objs : (Z03 h).2 = 0 ∧ ∀ x,x ∈ (Z03 h).1 ↔ Ob h T x := g.gt.objs
end
theorem ZfF {l : List Page} : ∀ {i j : Nat},j ≤ i → (l.getD j default).kind ≠ 3 → (∀ m,j < m → m ≤ i → (l.getD m default).kind = 3) → Z1h l i = j
 | 0,j,h,_,_ => by simp [Z1h]; omega
 | i + 1,j,h,hk,hm => by
  unfold Z1h
  by_cases q : j = i + 1
  ·subst q
   rw [if_neg hk]
  ·rw [if_pos (hm (i + 1) (by omega) (Nat.le_refl _))]
   exact ZfF (by omega) hk fun m h1 h2 => hm m h1 (by omega)
theorem Zib {ws : List Int} {a n : Int} {k : Nat} (hn : 0 ≤ n) (ha : 4096 ≤ a ∧ a - 4096 + n ≤ ws.length) (hk : (k : Int) < n) : (Z15 ws a n).1.getD k default = (loadA ws (a + k)).1 := by
 unfold Z15 loadA
 rw [if_neg (by omega),if_pos ha,if_pos (by omega)]
 simp only [List.getD_eq_getElem?_getD]
 rw [List.getElem?_take_of_lt (by omega),List.getElem?_drop,show (a - 4096).toNat + k = (a + k - 4096).toNat by omega]
 rfl
section
variable {h : Heap} {T : Nat → List Int} (g : Gd h T)
include g
theorem Gd.inw {i : Nat} {x : Int} (hx : x ∈ T i) : 4096 ≤ x ∧ x + hlA h.words x < 4096 + h.words.length := by
 have o := g.on hx
 have po := Z08 g.p
 have u := Z9n g.p o.1 o.2.1
 have h0 : 0 ≤ (i : Int) * h.conf.pw := Int.mul_nonneg (by omega) (by omega)
 unfold bsP at o
 omega
theorem Gd.head {i j : Nat} {x a : Int} (hx : x ∈ T j) (h1 : x ≤ a) (h2 : a ≤ x + hlA h.words x) (hi : i < h.pages.length) (h3 : bsP h i ≤ a) (h4 : a < bsP h i + h.conf.pw) : Z1h h.pages i = j := by
 have o := g.on hx
 have po := Z08 g.p
 unfold bsP at o h3 h4
 have hji : j ≤ i := by
  by_cases q : j ≤ i
  ·exact q
  ·have := Z10 (i := i) (j := j) (pw := h.conf.pw) (by omega) (by omega)
   omega
 refine ZfF hji (by omega) fun m m1 m2 => ?_
 have hms := Z10 (i := j) (j := m) (pw := h.conf.pw) (by omega) (by omega)
 have hmi : (m : Int) * h.conf.pw ≤ i * h.conf.pw := Int.mul_le_mul_of_nonneg_right (by omega) (by omega)
 rcases o.2.1 with k | k
 ·have pp := Z0D g.p o.1
  omega
 ·by_cases q : (h.pages.getD m default).kind = 3
  ·exact q
  ·have := Z3X g.p m1 (by omega) (Or.inr k) q
   omega
theorem Gd.badd {i k : Nat} (hi : i < h.pages.length) (hk : (k : Int) < h.conf.pw) : badD h i (Z3t h i) k = false := by
 have po := Z08 g.p
 unfold badD
 have ew : Z46 h i k = (loadA h.words (bsP h i + k)).1 := by
  unfold Z46 address
  rw [if_pos po.1,if_pos (inB_iff.2 ⟨by omega,by omega,by omega,by omega⟩)]
  unfold bsP
  simp only
  rw [Int.add_assoc]
 rw [ew]
 by_cases h0 : (loadA h.words (bsP h i + k)).1 = 0
 ·rw [h0]; simp
 ·obtain ⟨j,x,hx,h1,h2⟩ := g.d _ h0
  have hr := Z0g h.words x
  have hkp : kpA h.words x ≤ hlA h.words x + 1 := by unfold kpA; split <;> omega
  have hh := g.head hx h1 (by omega) hi (by omega) (by omega)
  have hb : (Z3t h i).getD k default = true := by
   unfold Z3t Z1z
   rw [hh,g.page (g.on hx).1]
   have hkk : k < h.conf.pw.toNat := by omega
   simp only [List.getD_eq_getElem?_getD,List.getElem?_map,List.getElem?_range hkk,Option.map_some,Option.getD_some,List.any_eq_true]
   refine ⟨x,hx, ?_⟩
   unfold Za4
   have ek : Z7V h x = kpA h.words x := by
    unfold Z7V kpA
    rw [g.at' hx]
    rw [Z3y]
    rfl
   rw [ek,Bool.and_eq_true,decide_eq_true_eq,decide_eq_true_eq]
   unfold bsP at h1 h2
   omega
  rw [hb]
  simp
theorem Gd.dirt {i : Nat} (hi : i < h.pages.length) : Z3F h i (Z3t h i) = 0 := by
 have hl := ZaG h i
 unfold Z3F
 have : (List.range (Z3t h i).length).find? (badD h i (Z3t h i)) = none := by
  rw [List.find?_eq_none]
  intro k hk
  have hk := List.mem_range.1 hk
  rw [g.badd hi (by omega)]
  simp
 rw [this]
theorem Gd.cls {i : Nat} {x : Int} (hx : x ∈ T i) : Z2x h i x = false := by
 have o := g.on hx
 unfold Z2x
 rw [g.at' hx,Z3y,Int.toNat_natCast]
 rcases o.2.1 with k | k
 ·have := (g.t1 i o.1 k).2 x hx
  rw [k]
  simp
  omega
 ·have t := g.t2 i o.1 k
  have hx2 := (o.2.2.2.2.2.2 k).1
  have : (hdA h.words x).kind ≠ 0 := by rw [hx2]; exact t.2.2.2
  rw [k]
  simp
  exact this
theorem Gd.pageF {i : Nat} (hi : i < h.pages.length) : (pageF h i).fault = 0 := by
 have hs := g.sp i hi
 have hc : Z2e h i (T i) = 0 := by
  unfold Z2e
  have : (T i).find? (Z2x h i) = none := by
   rw [List.find?_eq_none]
   intro x hx
   rw [g.cls hx]
   simp
  rw [this]
  rfl
 unfold Go.Proofs.YtjflpmnenhdeeaaGreat.pageF
 rw [if_neg (by rintro ⟨q1,q2⟩; exact q2 (hs q1)),g.page hi,if_neg (by simp),if_neg (by rw [hc]; simp),if_neg (by rw [g.dirt hi]; simp)]
theorem Gd.fields {i : Nat} {x : Int} (hx : x ∈ T i) (hk : kdA h.words x ≠ 0) : getH h x = (hdA h.words x,0) ∧ ((Z0e h x).1.length : Int) = hlA h.words x ∧ ∀ k : Nat,(k : Int) < hlA h.words x → (Z0e h x).1.getD k default = (loadA h.words (x + 1 + k)).1 := by
 have n := g.inw hx
 have r := Z0g h.words x
 have eg : getH h x = (hdA h.words x,0) := by
  unfold getH
  rw [if_pos g.p,if_neg (by omega),g.at' hx,if_neg]
  rintro ⟨_,q⟩
  exact hk q
 have ef : Z0e h x = Z15 h.words (x + 1) (hlA h.words x) := by
  unfold Z0e
  rw [eg,if_pos rfl]
  rfl
 refine ⟨eg, ?_, ?_⟩
 ·rw [ef]
  unfold Z15
  rw [if_neg (by omega),if_pos (by omega)]
  simp only [List.length_take,List.length_drop]
  omega
 ·intro k hk
  rw [ef]
  exact Zib r.1 (by omega) hk
theorem Gd.good : Z0E h = ⟨0,0,0⟩ := by
 have ob := g.objs
 have h1 : Z56 h = none := by
  unfold Z56
  rw [List.find?_eq_none]
  intro i hi
  have := g.pageF (List.mem_range.1 hi)
  simp [this]
 have h2 : Z0U h (Z03 h).1 = ⟨0,0,0⟩ := by
  unfold Z0U
  have : (List.range (Z03 h).1.length).find? (fun i => (Z21 h (Z03 h).1 i).isSome) = none := by
   rw [List.find?_eq_none]
   intro i hi
   have hm : (Z03 h).1.getD i default ∈ (Z03 h).1 := getD_mem_iff.2 ⟨i,List.mem_range.1 hi,rfl⟩
   have : Z21 h (Z03 h).1 i = none := by
    unfold Z21
    generalize (Z03 h).1.getD i default = x at hm ⊢
    obtain ⟨j,hj,hkd⟩ := (ob.2 x).1 hm
    have f := g.fields hj hkd
    rw [List.find?_eq_none]
    intro k hk
    have hk := List.mem_range.1 hk
    have hk2 : (k : Int) < hlA h.words x := by omega
    unfold Zaq
    rw [f.1,f.2.2 k hk2]
    intro hc
    simp only [Bool.and_eq_true,Bool.not_eq_true',decide_eq_true_eq,decide_eq_false_iff_not] at hc
    rcases g.q j x k hj hkd (by omega) hk2 hc.1.1 with q | ⟨m,q1,q2⟩
    ·exact hc.1.2 q
    ·exact hc.2 ((ob.2 _).2 ⟨m,q1,q2⟩)
   rw [this]
   simp
  rw [this]
 unfold Z0E
 rw [if_pos g.p,h1]
 simp only [h2,ne_eq,not_true_eq_false,if_false]
 rw [if_neg]
 have := g.cr
 show ¬ h.conf.pg / 4 < (crowd h.pages : Int)
 omega
theorem Gd.refers {s : List Int} (hs : ∀ r ∈ s,r = 0 ∨ Ob h T r) : Z0l h s = true := by
 unfold Z0l
 rw [Bool.and_eq_true,decide_eq_true_eq]
 refine ⟨g.good, ?_⟩
 have : (List.range s.length).find? (rfsB s (Z03 h).1) = none := by
  rw [List.find?_eq_none]
  intro i hi
  have hm : s.getD i default ∈ s := getD_mem_iff.2 ⟨i,List.mem_range.1 hi,rfl⟩
  unfold rfsB
  rw [decide_eq_true_eq]
  rintro ⟨q1,q2⟩
  rcases hs _ hm with q | q
  ·exact q1 q
  ·exact q2 ((g.objs.2 _).2 q)
 rw [this]
 rfl
end
theorem decode_encode {hd : Header} (hv : Z0i hd = true) (hm : 0 ≤ hd.map ∧ hd.map ≤ 4294967295) : decodeH (Z06 hd).1 = (hd,true) := by
 have b := validH_iff.1 hv
 have e1 : Z06 hd = (1 + 4 * hd.kind + 16 * hd.length + 65536 * hd.map,0) := by rw [Z06,if_pos hv]
 have e2 : Z3S (1 + 4 * hd.kind + 16 * hd.length + 65536 * hd.map) = hd := by
  obtain ⟨k,l,m⟩ := hd
  simp only at b hm
  simp only [Z3S,Header.mk.injEq]
  omega
 rw [e1]
 unfold decodeH
 simp only [e2,e1]
 simp
theorem Z78 {l l' : List Page} : ∀ n : Nat,(∀ i,i < n → (l'.getD i default).kind = 1 → 0 < (l'.getD i default).pins → (l.getD i default).kind = 1 ∧ 0 < (l.getD i default).pins) → Z0L l' n ≤ Z0L l n
 | 0,_ => Nat.le_refl _
 | n + 1,hh => by
  have ih := Z78 n fun i hi => hh i (by omega)
  have hn := hh n (by omega)
  unfold Z0L
  split
  ·rename_i c
   rw [if_pos (hn c.1 c.2)]
   omega
  ·split <;> omega
theorem Z8u {l : List Page} {i : Nat} {p : Page} (hi : i < l.length) : ∀ n : Nat,Z0L (l.set i p) n ≤ Z0L l n + 1 ∧ (n ≤ i → Z0L (l.set i p) n ≤ Z0L l n)
 | 0 => ⟨by simp [Z0L],fun _ => Nat.le_refl _⟩
 | n + 1 => by
  obtain ⟨i1,i2⟩ := Z8u (p := p) hi n
  unfold Z0L
  rw [Z0r hi]
  by_cases q : i = n
  ·have := i2 (by omega)
   subst q
   refine ⟨?_,fun q => by omega⟩
   split <;> split <;> omega
  ·rw [if_neg q]
   refine ⟨?_,fun q2 => ?_⟩
   ·split <;> omega
   ·have := i2 (by omega)
    split <;> omega
theorem Z5B {l l' : List Page} (hl : l'.length = l.length) (hh : ∀ i,i < l.length → (l'.getD i default).kind = 1 → 0 < (l'.getD i default).pins → (l.getD i default).kind = 1 ∧ 0 < (l.getD i default).pins) : crowd l' ≤ crowd l := by
 unfold crowd
 rw [hl]
 exact Z78 _ hh
theorem Gd.pages {h h' : Heap} {T : Nat → List Int} (g : Gd h T) (hp : Z02 h' = true) (hc : h'.conf = h.conf) (hw : h'.words = h.words) (hs : h'.space = h.space) (hl : h'.pages.length = h.pages.length)
  (hh : ∀ i,i < h.pages.length → (h'.pages.getD i default).kind = (h.pages.getD i default).kind ∧ (h'.pages.getD i default).space = (h.pages.getD i default).space ∧ (h'.pages.getD i default).used = (h.pages.getD i default).used) (hcr : (crowd h'.pages : Int) ≤ h.conf.pg / 4) : Gd h' T := by
 have hb : ∀ i,bsP h' i = bsP h i := fun i => by rw [bsP,bsP,hc]
 refine ⟨hp, ?_, ?_, ?_, ?_,by rw [hw]; exact g.d,by rw [hw]; exact g.q,by rw [hc]; exact hcr⟩
 ·intro i hi hk
  rw [hl] at hi
  rw [(hh i hi).1] at hk
  rw [(hh i hi).2.1,hs]
  exact g.sp i hi hk
 ·intro i hi hk
  rw [hl] at hi
  rw [(hh i hi).1] at hk
  rw [(hh i hi).2.2,hw,hb,hc]
  exact g.t1 i hi hk
 ·intro i hi hk
  rw [hl] at hi
  rw [(hh i hi).1] at hk
  rw [(hh i hi).2.2,hw,hb]
  exact g.t2 i hi hk
 ·intro i x hx
  have t := g.t0 i x hx
  rw [hl,(hh i t.1).1]
  exact t
theorem Gd.store {h : Heap} {T : Nat → List Int} (g : Gd h T) {x k v : Int} (hx : Ob h T x) (hk : 0 ≤ k ∧ k < hlA h.words x) (hv : Z0n (hdA h.words x) k = true → v = 0 ∨ Ob h T v) :
  Gd { h with words := (Z0F h.words (x + 1 + k) v).1 } T ∧ (∀ i y,y ∈ T i → (loadA (Z0F h.words (x + 1 + k) v).1 y).1 = (loadA h.words y).1) := by
 obtain ⟨j,hj,hkd⟩ := hx
 have n := g.inw hj
 have hin : 4096 ≤ x + 1 + k ∧ x + 1 + k < 4096 + h.words.length := by omega
 have hlen := Z2m (ws := h.words) (v := v) hin
 have key : ∀ i y,y ∈ T i → (loadA (Z0F h.words (x + 1 + k) v).1 y).1 = (loadA h.words y).1 := by
  intro i y hy
  rw [Z0B hin]
  intro e
  have := g.sep hj hy (by omega)
  omega
 have ky : ∀ i y,y ∈ T i → okA h.words y ∧ okA (Z0F h.words (x + 1 + k) v).1 y ∧ hlA (Z0F h.words (x + 1 + k) v).1 y = hlA h.words y ∧ kdA (Z0F h.words (x + 1 + k) v).1 y = kdA h.words y ∧ hdA (Z0F h.words (x + 1 + k) v).1 y = hdA h.words y ∧ kpA (Z0F h.words (x + 1 + k) v).1 y = kpA h.words y := by
  intro i y hy
  have o := Z1O (key i y hy)
  have := (g.on hy).2.2.2.2.2.1
  exact ⟨this,o.1 this,o.2⟩
 refine ⟨⟨?_,g.sp, ?_, ?_,g.t0, ?_, ?_,g.cr⟩,key⟩
 ·have q := g.p
  rw [Z1d] at q ⊢
  refine ⟨q.1, ?_,q.2.2.1,q.2.2.2.1,q.2.2.2.2.1,q.2.2.2.2.2⟩
  simp only [hlen]
  exact q.2.1
 ·intro i hi hk1
  have t := g.t1 i hi hk1
  exact ⟨Z2a t.1 fun y hy => ⟨(ky i y hy).2.1,(ky i y hy).2.2.1⟩,fun y hy => by rw [(ky i y hy).2.2.1]; exact t.2 y hy⟩
 ·intro i hi hk2
  have t := g.t2 i hi hk2
  have q := ky i (bsP h i) (by rw [t.1]; simp)
  refine ⟨t.1,q.2.1, ?_, ?_⟩
  ·exact q.2.2.1 ▸ t.2.2.1
  ·exact q.2.2.2.1 ▸ t.2.2.2
 ·intro a ha
  by_cases e : a = x + 1 + k
  ·refine ⟨j,x,hj,by omega, ?_⟩
   simp only
   rw [(ky j x hj).2.2.2.2.2,kpA,if_neg hkd]
   omega
  ·simp only at ha
   rw [Z0B hin e] at ha
   obtain ⟨i,y,hy,h1,h2⟩ := g.d a ha
   refine ⟨i,y,hy,h1, ?_⟩
   simp only
   rw [(ky i y hy).2.2.2.2.2]
   exact h2
 ·intro i y m hy hkd2 h0 h1 hp
  simp only at hkd2 h1 hp ⊢
  obtain ⟨c0,c1,c2,c3,c4,c5⟩ := ky i y hy
  rw [c3] at hkd2
  rw [c2] at h1
  rw [c4] at hp
  have fin : ∀ z,z = 0 ∨ Ob h T z → z = 0 ∨ ∃ j,z ∈ T j ∧ kdA (Z0F h.words (x + 1 + k) v).1 z ≠ 0 := by
   rintro z (q | ⟨b,b1,b2⟩)
   ·exact Or.inl q
   ·exact Or.inr ⟨b,b1,by rw [(ky b z b1).2.2.2.1]; exact b2⟩
  by_cases e : y + 1 + m = x + 1 + k
  ·have hyx : y = x := by
    rcases Int.lt_trichotomy y x with q | q | q
    ·have := g.sep hy hj q; omega
    ·exact q
    ·have := g.sep hj hy q; omega
   subst hyx
   have hmk : m = k := by omega
   subst hmk
   rw [Z2w hin]
   exact fin _ (hv hp)
  ·rw [Z0B hin e]
   exact fin _ (g.q i y m hy hkd2 h0 h1 hp)
theorem Gd.add {h h' : Heap} {T : Nat → List Int} (g : Gd h T) {i : Nat} {a : Int} {hd : Header} (hv : Z0i hd = true) (hm : 0 ≤ hd.map ∧ hd.map ≤ 4294967295) (hk : hd.kind ≠ 0)
  (hp : Z02 h' = true) (hc : h'.conf = h.conf) (hs : h'.space = h.space) (hl : h'.pages.length = h.pages.length) (hw : h'.words = (Z0b h.words a (objW hd)).1)
  (hin : 4096 ≤ a ∧ a + sizeH hd ≤ 4096 + h.words.length) (hi : i < h.pages.length)
  (hj : ∀ j,j < h.pages.length → j ≠ i → h'.pages.getD j default = h.pages.getD j default ∨ ((h.pages.getD j default).kind = 0 ∧ (h'.pages.getD j default).kind = 3 ∧ (h'.pages.getD j default).space = h.space))
  (hI : ((h.pages.getD i default).kind = 0 ∨ (h.pages.getD i default).kind = 1) ∧ (h'.pages.getD i default).kind = 1 ∧ a = bsP h i + occP (h.pages.getD i default) ∧ (h'.pages.getD i default).used = occP (h.pages.getD i default) + sizeH hd ∧ sizeH hd ≤ Z00 h.conf ∨ (h.pages.getD i default).kind = 0 ∧ (h'.pages.getD i default).kind = 2 ∧ a = bsP h i ∧ (h'.pages.getD i default).used = sizeH hd)
  (hsp : (h'.pages.getD i default).space = h.space) (hcr : crowd h'.pages ≤ crowd h.pages) (hdis : ∀ j x,x ∈ T j → x + hlA h.words x < a ∨ a + sizeH hd ≤ x) :
  Gd h' (fun j => if j = i then T i ++ [a] else T j) ∧ kdA h'.words a ≠ 0 ∧ hdA h'.words a = hd ∧ (∀ k,a < k → k < a + sizeH hd → (loadA h'.words k).1 = 0) ∧ (∀ k,k < a ∨ a + sizeH hd ≤ k → loadA h'.words k = loadA h.words k) := by
 have ow := Zc8 hv hm
 have hs1 : sizeH hd = hd.length + 1 := by rw [sizeH,if_pos hv]
 have vb := validH_iff.1 hv
 have hin' : 4096 ≤ a ∧ a - 4096 + (objW hd).length ≤ h.words.length := by omega
 have out : ∀ k,k < a ∨ a + sizeH hd ≤ k → loadA h'.words k = loadA h.words k := by
  intro k hk
  rw [hw]
  exact Z1W hin' (by omega)
 have wa : (loadA h'.words a).1 = (Z06 hd).1 := by
  rw [hw,Z1R hin' (by omega)]
  simp [objW]
 have z : ∀ k,a < k → k < a + sizeH hd → (loadA h'.words k).1 = 0 := by
  intro k h1 h2
  rw [hw,Z1R hin' (by omega)]
  have : (k - a).toNat = (k - a - 1).toNat + 1 := by omega
  rw [this,objW]
  simp [List.getD_eq_getElem?_getD,List.getElem?_replicate]
  split <;> rfl
 have de := decode_encode hv hm
 have ha1 : hdA h'.words a = hd := by rw [hdA,wa,de]
 have ha2 : okA h'.words a := by rw [okA,wa,de]
 have ha3 : hlA h'.words a = hd.length := by rw [hlA,wa,de]
 have ha4 : kdA h'.words a ≠ 0 := by rw [kdA,ha1]; exact hk
 have hb : ∀ j,bsP h' j = bsP h j := fun j => by rw [bsP,bsP,hc]
 have ky : ∀ j x,x ∈ T j → okA h'.words x ∧ hlA h'.words x = hlA h.words x ∧ kdA h'.words x = kdA h.words x ∧ hdA h'.words x = hdA h.words x ∧ kpA h'.words x = kpA h.words x ∧ ∀ m,0 ≤ m → m ≤ hlA h.words x → loadA h'.words (x + m) = loadA h.words (x + m) := by
  intro j x hx
  have d := hdis j x hx
  have r := Z0g h.words x
  have o := Z1O (ws := h.words) (ws' := h'.words) (a := x) (by rw [out x (by omega)])
  refine ⟨o.1 (g.on hx).2.2.2.2.2.1,o.2.1,o.2.2.1,o.2.2.2.1,o.2.2.2.2,fun m h1 h2 => out _ (by omega)⟩
 have mem : ∀ j x,x ∈ (if j = i then T i ++ [a] else T j) → x ∈ T j ∨ (j = i ∧ x = a) := by
  intro j x hx
  split at hx
  ·rename_i q
   subst q
   rcases List.mem_append.1 hx with hx | hx
   ·exact Or.inl hx
   ·exact Or.inr ⟨rfl,List.mem_singleton.1 hx⟩
  ·exact Or.inl hx
 have mem2 : ∀ j x,x ∈ T j → x ∈ (if j = i then T i ++ [a] else T j) := by
  intro j x hx
  split
  ·rename_i q
   subst q
   exact List.mem_append_left _ hx
  ·exact hx
 have mem3 : a ∈ (if i = i then T i ++ [a] else T i) := by simp
 have hnil : (h.pages.getD i default).kind = 0 → T i = [] := fun q => List.eq_nil_iff_forall_not_mem.2 fun x hx => by have := (g.t0 i x hx).2; omega
 refine ⟨⟨hp, ?_, ?_, ?_, ?_, ?_, ?_, ?_⟩,ha4,ha1,z,out⟩
 ·intro j hj1 hk1
  rw [hl] at hj1
  rw [hs]
  by_cases q : j = i
  ·subst q; exact hsp
  ·rcases hj j hj1 q with e | e
   ·rw [e] at hk1 ⊢
    exact g.sp j hj1 hk1
   ·exact e.2.2
 ·intro j hj1 hk1
  rw [hl] at hj1
  rw [hb,hc]
  by_cases q : j = i
  ·subst q
   simp only [if_true]
   rcases hI with ⟨c1,c2,c3,c4,c5⟩ | c
   ·refine ⟨?_, ?_⟩
    ·have last : tile h'.words a (bsP h j + (h'.pages.getD j default).used) [a] := ⟨rfl,ha2,by rw [ha3]; simp only [tile]; omega⟩
     refine Za3 (b := a) ?_ last
     rcases c1 with c1 | c1
     ·rw [hnil c1]
      rw [occP,if_pos c1] at c3
      simp only [tile]; omega
     ·have t := (g.t1 j hi c1).1
      rw [occP,if_neg (by omega)] at c3
      rw [c3]
      exact Z2a t fun x hx => ⟨(ky j x hx).1,(ky j x hx).2.1⟩
    ·intro x hx
     rcases List.mem_append.1 hx with hx | hx
     ·rw [(ky j x hx).2.1]
      rcases c1 with c1 | c1
      ·rw [hnil c1] at hx; simp at hx
      ·exact (g.t1 j hi c1).2 x hx
     ·have := List.mem_singleton.1 hx
      subst this
      omega
   ·omega
  ·rw [if_neg q]
   rcases hj j hj1 q with e | e
   ·rw [e] at hk1 ⊢
    have t := g.t1 j hj1 hk1
    exact ⟨Z2a t.1 fun x hx => ⟨(ky j x hx).1,(ky j x hx).2.1⟩,fun x hx => by rw [(ky j x hx).2.1]; exact t.2 x hx⟩
   ·omega
 ·intro j hj1 hk2
  rw [hl] at hj1
  rw [hb]
  by_cases q : j = i
  ·subst q
   simp only [if_true]
   rcases hI with c | ⟨c1,c2,c3,c4⟩
   ·omega
   ·rw [hnil c1,← c3,ha3]
    exact ⟨rfl,ha2,by omega,ha4⟩
  ·rw [if_neg q]
   rcases hj j hj1 q with e | e
   ·rw [e] at hk2 ⊢
    have t := g.t2 j hj1 hk2
    have k := ky j (bsP h j) (by rw [t.1]; simp)
    exact ⟨t.1,k.1,by rw [k.2.1]; exact t.2.2.1,by rw [k.2.2.1]; exact t.2.2.2⟩
   ·omega
 ·intro j x hx
  rw [hl]
  rcases mem j x hx with hx | ⟨q,_⟩
  ·have t := g.t0 j x hx
   refine ⟨t.1, ?_⟩
   by_cases q : j = i
   ·subst q
    rcases hI with c | c <;> omega
   ·rcases hj j t.1 q with e | e
    ·rw [e]; exact t.2
    ·omega
  ·subst q
   exact ⟨hi,by rcases hI with c | c <;> omega⟩
 ·intro k hk0
  by_cases hr : k < a ∨ a + sizeH hd ≤ k
  ·rw [out k hr] at hk0
   obtain ⟨j,x,hx,h1,h2⟩ := g.d k hk0
   exact ⟨j,x,mem2 j x hx,h1,by rw [(ky j x hx).2.2.2.2.1]; exact h2⟩
  ·refine ⟨i,a,mem3,by omega, ?_⟩
   rw [kpA,if_neg ha4,ha3]
   omega
 ·intro j x k hx hkd h0 h1 hpt
  rcases mem j x hx with hx | ⟨_,q⟩
  ·have c := ky j x hx
   rw [c.2.2.1] at hkd
   rw [c.2.1] at h1
   rw [c.2.2.2.1] at hpt
   have e := c.2.2.2.2.2 (1 + k) (by omega) (by omega)
   rw [← Int.add_assoc] at e
   rw [e]
   rcases g.q j x k hx hkd h0 h1 hpt with q | ⟨b,b1,b2⟩
   ·exact Or.inl q
   ·exact Or.inr ⟨b,mem2 b _ b1,by rw [(ky b _ b1).2.2.1]; exact b2⟩
  ·subst q
   rw [ha3] at h1
   exact Or.inl (z _ (by omega) (by omega))
 ·rw [hc]
  have := g.cr
  omega
structure NewOk (h h' : Heap) (T : Nat → List Int) (hd : Header) (i : Nat) (a : Int) : Prop where
 g : Gd h' (fun j => if j = i then T i ++ [a] else T j)
 k : kdA h'.words a ≠ 0
 e : hdA h'.words a = hd
 z : ∀ k,a < k → k < a + sizeH hd → (loadA h'.words k).1 = 0
 o : ∀ k,k < a ∨ a + sizeH hd ≤ k → loadA h'.words k = loadA h.words k
 d : ∀ j x,x ∈ T j → x + hlA h.words x < a ∨ a + sizeH hd ≤ x
 c : h'.conf = h.conf
theorem Ze9 {c : Conf} {n : Int} (hn : ¬ 0 < need c n) (h0 : 0 ≤ need c n) : n ≤ Z00 c := by
 unfold need at hn h0
 split at h0
 ·rename_i hc
  rw [if_pos hc] at hn
  have hb := validB_iff.1 hc.1
  rw [Z00,if_pos hc.1,Int.tdiv_eq_ediv_of_nonneg (by omega)]
  split at h0
  ·rename_i hd; exact hd
  ·rename_i hd
   rw [if_neg hd] at hn
   have e := Int.mul_ediv_add_emod (n + c.pw - 1) c.pw
   have := Int.emod_lt_of_pos (n + c.pw - 1) (b := c.pw) (by omega)
   have hz : (n + c.pw - 1) / c.pw = 0 := by omega
   rw [hz] at e
   omega
 ·omega
theorem Gd.newOk {h : Heap} {T : Nat → List Int} (g : Gd h T) {hd : Header} (hw : WOk h.words) (hm : 0 ≤ hd.map ∧ hd.map ≤ 4294967295) (e : (new7 h hd).2.2 = 0) : ∃ i,NewOk h (new7 h hd).1 T hd i (new7 h hd).2.1 := by
 obtain ⟨k1,k2,k3,k4,k5,k6,k7,k8⟩ := Z77 hw hm e
 obtain ⟨a1,a2,a3,a4,a5⟩ := Z3R k2
 have po := Z08 g.p
 have hpt := g.p
 rw [Z1d] at hpt
 obtain ⟨p1,p2,p3,p4,p5,p6⟩ := hpt
 have hin : 4096 ≤ (put7 h hd).2.1 ∧ (put7 h hd).2.1 + sizeH hd ≤ 4096 + h.words.length := ⟨k3.lo,k3.hi⟩
 have e1 : (new7 h hd).1.conf = h.conf := by rw [k6]; exact k3.c
 have e2 : (new7 h hd).1.space = h.space := by rw [k6]; exact k3.sp
 have e3 : (new7 h hd).1.pages.length = h.pages.length := by rw [k6]; exact k3.l
 have e4 : (new7 h hd).1.words = (Z0b h.words (put7 h hd).2.1 (objW hd)).1 := by rw [k6]
 have e5 : (new7 h hd).1.pages = (put7 h hd).1.pages := by rw [k6]
 rw [k5]
 have fin : ∀ i : Nat,i < h.pages.length → (∀ j,j < h.pages.length → j ≠ i → (new7 h hd).1.pages.getD j default = h.pages.getD j default ∨ ((h.pages.getD j default).kind = 0 ∧ ((new7 h hd).1.pages.getD j default).kind = 3 ∧ ((new7 h hd).1.pages.getD j default).space = h.space)) →
   ((h.pages.getD i default).kind = 0 ∨ (h.pages.getD i default).kind = 1) ∧ ((new7 h hd).1.pages.getD i default).kind = 1 ∧ (put7 h hd).2.1 = bsP h i + occP (h.pages.getD i default) ∧ ((new7 h hd).1.pages.getD i default).used = occP (h.pages.getD i default) + sizeH hd ∧ sizeH hd ≤ Z00 h.conf ∨ (h.pages.getD i default).kind = 0 ∧ ((new7 h hd).1.pages.getD i default).kind = 2 ∧ (put7 h hd).2.1 = bsP h i ∧ ((new7 h hd).1.pages.getD i default).used = sizeH hd →
   ((new7 h hd).1.pages.getD i default).space = h.space → crowd (new7 h hd).1.pages ≤ crowd h.pages → (∀ j x,x ∈ T j → x + hlA h.words x < (put7 h hd).2.1 ∨ (put7 h hd).2.1 + sizeH hd ≤ x) → ∃ i,NewOk h (new7 h hd).1 T hd i (put7 h hd).2.1 := by
  intro i hi hj hI hsp hcr hdis
  obtain ⟨q1,q2,q3,q4,q5⟩ := g.add a1 hm a5 k7 e1 e2 e3 e4 hin hi hj hI hsp hcr hdis
  exact ⟨i,q1,q2,q3,q4,q5,hdis,e1⟩
 rw [e5] at fin
 by_cases hn : 0 < need h.conf (sizeH hd)
 ·have e7 : put7 h hd = Z0k h (sizeH hd) (need h.conf (sizeH hd)) := by rw [put7,if_pos hn]
  rw [e7] at k4 fin ⊢
  by_cases hg : 0 ≤ first h.pages (need h.conf (sizeH hd)) ∧ Z0H h.pages + need h.conf (sizeH hd) ≤ Z0M h.conf
  ·obtain ⟨g1,g2,g3⟩ := Z18 hg.1
   have el : (Z1M h.conf h.pages (first h.pages (need h.conf (sizeH hd))) h.space (sizeH hd)).1 = tookP h.pages (first h.pages (need h.conf (sizeH hd))).toNat (need h.conf (sizeH hd)).toNat ⟨2,h.space,sizeH hd,0⟩ ⟨3,h.space,0,0⟩ := by
    rw [Z1M,if_pos ⟨g1,by omega⟩,Z2f,if_pos (by omega),if_pos g3]
   have e8 : Z0k h (sizeH hd) (need h.conf (sizeH hd)) = (⟨h.conf,h.words,tookP h.pages (first h.pages (need h.conf (sizeH hd))).toNat (need h.conf (sizeH hd)).toNat ⟨2,h.space,sizeH hd,0⟩ ⟨3,h.space,0,0⟩,h.space,h.bump⟩,4096 + first h.pages (need h.conf (sizeH hd)) * h.conf.pw,true) := by rw [Z0k,if_pos hg,el]
   have hf : ∀ j,j < (need h.conf (sizeH hd)).toNat → (h.pages.getD ((first h.pages (need h.conf (sizeH hd))).toNat + j) default).kind = 0 := freeK_iff.1 g3
   have hu := Z4b g1
   rw [e8] at fin ⊢
   simp only at fin ⊢
   generalize hk : need h.conf (sizeH hd) = k at *
   generalize hfi : first h.pages k = f at *
   have hge : ∀ j,(tookP h.pages f.toNat k.toNat ⟨2,h.space,sizeH hd,0⟩ ⟨3,h.space,0,0⟩).getD j default = if j = f.toNat then ⟨2,h.space,sizeH hd,0⟩ else if f.toNat < j ∧ j < f.toNat + k.toNat then ⟨3,h.space,0,0⟩ else h.pages.getD j default := Z5Q (by omega) (by omega)
   have h0 := hf 0 (by omega)
   rw [Nat.add_zero] at h0
   refine fin f.toNat (by omega) ?_ ?_ ?_ ?_ ?_
   ·intro j hj1 hj2
    rw [hge,if_neg hj2]
    split
    ·rename_i q
     have := hf (j - f.toNat) (by omega)
     rw [show f.toNat + (j - f.toNat) = j by omega] at this
     exact Or.inr ⟨this,rfl,rfl⟩
    ·exact Or.inl rfl
   ·rw [hge,if_pos rfl]
    refine Or.inr ⟨h0,rfl, ?_,rfl⟩
    rw [bsP,Int.toNat_of_nonneg (by omega)]
   ·rw [hge,if_pos rfl]
   ·refine Z5B (Z5w (by omega)) fun j hj1 q1 q2 => ?_
    rw [hge] at q1 q2
    split at q1
    ·simp at q1
    ·rename_i c1
     rw [if_neg c1] at q2
     split at q1
     ·simp at q1
     ·rename_i c2
      rw [if_neg c2] at q2
      exact ⟨q1,q2⟩
   ·intro j x hx
    have o := g.on hx
    have hr := Z0g h.words x
    unfold bsP at o
    have hfe : ((f.toNat : Nat) : Int) = f := by omega
    by_cases q : j < f.toNat
    ·have := Z3X g.p q (by omega) o.2.1 (by omega)
     rw [hfe] at this
     omega
    ·have hjk : f.toNat + k.toNat ≤ j := by
      by_cases q2 : f.toNat + k.toNat ≤ j
      ·exact q2
      ·have := hf (j - f.toNat) (by omega)
       rw [show f.toNat + (j - f.toNat) = j by omega] at this
       omega
     have := Int.mul_le_mul_of_nonneg_right (show f + k ≤ (j : Int) by omega) (show 0 ≤ h.conf.pw by omega)
     rw [Int.add_mul] at this
     omega
  ·rw [Z0k,if_neg hg] at k4
   simp at k4
 ·have e7 : put7 h hd = Z0a h (sizeH hd) := by rw [put7,if_neg hn]
  have hsm := Ze9 hn a4
  have hsw : Z00 h.conf ≤ h.conf.pw := by
   rw [Z00,if_pos p1,Int.tdiv_eq_ediv_of_nonneg (by omega)]
   omega
  rw [e7] at k4 fin ⊢
  by_cases hf : Z2C h (sizeH hd)
  ·have e8 : Z0a h (sizeH hd) = (⟨h.conf,h.words,Z1w h.pages h.bump.toNat (sizeH hd),h.space,h.bump⟩,4096 + h.bump * h.conf.pw + (h.pages.getD h.bump.toNat default).used,true) := by rw [Z0a,if_pos hf]
   unfold Z2C at hf
   have hbi : h.bump.toNat < h.pages.length := by omega
   have hk : (h.pages.getD h.bump.toNat default).kind = 1 := by omega
   have hbe : ((h.bump.toNat : Nat) : Int) = h.bump := by omega
   have hoc : occP (h.pages.getD h.bump.toNat default) = (h.pages.getD h.bump.toNat default).used := by rw [occP,if_neg (by omega)]
   rw [e8,Z3c] at fin
   rw [e8]
   simp only at fin ⊢
   refine fin h.bump.toNat hbi ?_ ?_ ?_ ?_ ?_
   ·intro j hj1 hj2
    rw [Z0r hbi,if_neg (fun q => hj2 q.symm)]
    exact Or.inl rfl
   ·rw [Z0r hbi,if_pos rfl,hoc]
    refine Or.inl ⟨Or.inr hk,hk, ?_,rfl,hsm⟩
    rw [bsP,hbe]
   ·rw [Z0r hbi,if_pos rfl]
    exact hf.2.1
   ·refine Z5B (by rw [List.length_set]) fun j hj1 q1 q2 => ?_
    rw [Z0r hbi] at q1 q2
    split at q1
    ·rename_i c
     rw [if_pos c] at q2
     subst c
     exact ⟨q1,q2⟩
    ·rename_i c
     rw [if_neg c] at q2
     exact ⟨q1,q2⟩
   ·intro j x hx
    have := g.free hbi (Or.inr hk) hx
    rw [hoc,bsP,hbe] at this
    omega
  ·by_cases hg : 0 ≤ first h.pages 1 ∧ (Z0H h.pages : Int) < Z0M h.conf
   ·have e8 : Z0a h (sizeH hd) = (⟨h.conf,h.words,Z1w (Z2r h) (first h.pages 1).toNat (sizeH hd),h.space,first h.pages 1⟩,4096 + first h.pages 1 * h.conf.pw + ((Z2r h).getD (first h.pages 1).toNat default).used,true) := by rw [Z0a,if_neg hf,if_pos hg]
    obtain ⟨g1,g2,g3⟩ := Z34 p4 hg.1 (sizeH hd)
    have g4 := congrArg Page.used (Z24 p4 hg.1).2.2.2
    simp only at g4
    have hbe : (((first h.pages 1).toNat : Nat) : Int) = first h.pages 1 := by omega
    have hoc : occP (h.pages.getD (first h.pages 1).toNat default) = 0 := by rw [occP,if_pos g2]
    rw [e8,g1,g4] at fin
    rw [e8,g4]
    simp only at fin ⊢
    refine fin (first h.pages 1).toNat g3 ?_ ?_ ?_ ?_ ?_
    ·intro j hj1 hj2
     rw [Z0r g3,if_neg (fun q => hj2 q.symm)]
     exact Or.inl rfl
    ·rw [Z0r g3,if_pos rfl,hoc]
     refine Or.inl ⟨Or.inl g2,rfl, ?_,by simp,hsm⟩
     rw [bsP,hbe]
    ·rw [Z0r g3,if_pos rfl]
    ·refine Z5B (by rw [List.length_set]) fun j hj1 q1 q2 => ?_
     rw [Z0r g3] at q1 q2
     split at q1
     ·rename_i c
      rw [if_pos c] at q2
      simp at q2
     ·rename_i c
      rw [if_neg c] at q2
      exact ⟨q1,q2⟩
    ·intro j x hx
     have := g.free g3 (Or.inl g2) hx
     rw [hoc,bsP,hbe] at this
     omega
   ·rw [Z0a,if_neg hf,if_neg hg] at k4
    simp at k4
def RtOb (h : Heap) (T : Nat → List Int) (l : List Int) : Prop := ∀ r ∈ l,r = 0 ∨ Ob h T r
def WG (w : WorldM) : Prop := ∃ T,Gd w.heap T ∧ RtOb w.heap T w.strong ∧ RtOb w.heap T w.weak
theorem NewOk.ob {h h' : Heap} {T : Nat → List Int} {hd : Header} {i : Nat} {a : Int} (n : NewOk h h' T hd i a) {x : Int} (hx : Ob h T x) : Ob h' (fun j => if j = i then T i ++ [a] else T j) x := by
 obtain ⟨j,hj,hk⟩ := hx
 have r := Z0g h.words x
 have o := Z1O (ws := h.words) (ws' := h'.words) (a := x) (by rw [n.o x (by have := n.d j x hj; omega)])
 refine ⟨j, ?_,by rw [o.2.2.1]; exact hk⟩
 show x ∈ (if j = i then T i ++ [a] else T j)
 split
 ·rename_i q; subst q; exact List.mem_append_left _ hj
 ·exact hj
theorem NewOk.ob0 {h h' : Heap} {T : Nat → List Int} {hd : Header} {i : Nat} {a : Int} (n : NewOk h h' T hd i a) : Ob h' (fun j => if j = i then T i ++ [a] else T j) a :=
 ⟨i,by simp,n.k⟩
theorem WG.put {w : WorldM} (h : WG w) (hw : WOk w.heap.words) {hd : Header} (hm : 0 ≤ hd.map ∧ hd.map ≤ 4294967295) : WG (w.put hd) := by
 unfold WorldM.put
 split
 ·rename_i e
  obtain ⟨T,g,g1,g2⟩ := h
  obtain ⟨i,n⟩ := g.newOk hw hm e
  refine ⟨_,n.g,fun r hr => ?_,fun r hr => ?_⟩
  ·rcases List.mem_append.1 hr with hr | hr
   ·rcases g1 r hr with q | q
    ·exact Or.inl q
    ·exact Or.inr (n.ob q)
   ·have := List.mem_singleton.1 hr
    subst this
    exact Or.inr n.ob0
  ·rcases g2 r hr with q | q
   ·exact Or.inl q
   ·exact Or.inr (n.ob q)
 ·exact h
theorem WG.pick {w : WorldM} {T : Nat → List Int} (g1 : RtOb w.heap T w.strong) (g2 : RtOb w.heap T w.weak) (t : Tape) : w.pick t = 0 ∨ Ob w.heap T (w.pick t) := by
 rcases Zdf w t with e | e | e
 ·exact Or.inl e
 ·exact g1 _ e
 ·exact g2 _ e
theorem Gd.setf {h : Heap} {T : Nat → List Int} (g : Gd h T) (hw : WOk h.words) {a i v : Int} (hv : 0 ≤ v ∧ v ≤ 18446744073709551615) (ha : Ob h T a) (hi : 0 ≤ i ∧ i < (getH h a).1.length) (hp : Z0n (getH h a).1 i = true → v = 0 ∨ Ob h T v) : Gd (Z0c h a i v).1 T ∧ ∀ x,Ob h T x → Ob (Z0c h a i v).1 T x := by
 obtain ⟨j,hj,hk⟩ := ha
 have f := g.fields hj hk
 obtain ⟨s1,s2,s3⟩ := Z5d hw hv (a := a) (i := i) (by rw [f.1]) hi
 rw [f.1] at hi hp
 have q := g.store (v := v) ⟨j,hj,hk⟩ hi hp
 rw [s1]
 refine ⟨q.1, ?_⟩
 rintro x ⟨m,m1,m2⟩
 refine ⟨m,m1, ?_⟩
 have := (Z1O (q.2 m x m1)).2.2.1
 simp only
 rw [this]
 exact m2
theorem WG.link {w : WorldM} {n : Nat} (h : WG w) (hm : MOk w n) (hn : n ≤ 1000000) (t : Tape) : WG (w.link t) := by
 unfold WorldM.link
 split
 ·rename_i hc
  obtain ⟨T,g,g1,g2⟩ := h
  have hw := hm.wm hn
  have gg := Z3T hc.1
  have n1 := Z0A (w.pickT (w.pickT t)) (n := 8) (by decide)
  have hi : 0 ≤ Z1G w t ∧ Z1G w t < (getH w.heap (w.pick t)).1.length := by
   unfold Z1G
   rw [Int.tmod_eq_emod_of_nonneg n1.1]
   exact ⟨Int.emod_nonneg _ (by omega),Int.emod_lt_of_pos _ (by omega)⟩
  have hv : 0 ≤ Z1K w t ∧ Z1K w t ≤ 18446744073709551615 := by
   unfold Z1K
   split
   ·exact Z2z hw _
   ·have := Z0A ((w.pickT (w.pickT t)).step 8) (n := 1048576) (by decide)
    omega
  have ho : Ob w.heap T (w.pick t) := by
   rcases WG.pick g1 g2 t with q | q
   ·omega
   ·exact q
  have s := g.setf hm.words hv ho hi (fun q => by
   unfold Z1K
   rw [if_pos q]
   exact WG.pick g1 g2 _)
  exact ⟨T,s.1,fun r hr => (g1 r hr).imp id (s.2 r),fun r hr => (g2 r hr).imp id (s.2 r)⟩
 ·exact h
theorem WG.pinned {w : WorldM} (h : WG w) {i : Nat} {d : Int} (hp : Z02 (pinB w i d).heap = true) (hi : i < w.heap.pages.length) (hd : d = -1 ∨ 0 < (w.heap.pages.getD i default).pins ∨ (w.heap.pages.getD i default).kind = 2 ∨ (crowd w.heap.pages : Int) < w.heap.conf.pg / 4) : WG (pinB w i d) := by
 obtain ⟨T,g,g1,g2⟩ := h
 have pp := Z0D g.p hi
 have ks : ∀ j,j < w.heap.pages.length → ((pinB w i d).heap.pages.getD j default).kind = (w.heap.pages.getD j default).kind ∧ ((pinB w i d).heap.pages.getD j default).space = (w.heap.pages.getD j default).space ∧ ((pinB w i d).heap.pages.getD j default).used = (w.heap.pages.getD j default).used := by
  intro j hj
  simp only [pinB]
  rw [Z0r hi]
  split
  ·rename_i q; subst q; exact ⟨rfl,rfl,rfl⟩
  ·exact ⟨rfl,rfl,rfl⟩
 have hcr : (crowd (pinB w i d).heap.pages : Int) ≤ w.heap.conf.pg / 4 := by
  have c0 := g.cr
  have mono : (0 < (w.heap.pages.getD i default).pins + d → (w.heap.pages.getD i default).kind = 1 → 0 < (w.heap.pages.getD i default).pins) → (crowd (pinB w i d).heap.pages : Int) ≤ w.heap.conf.pg / 4 := by
   intro hh
   have : crowd (pinB w i d).heap.pages ≤ crowd w.heap.pages := by
    refine Z5B (by simp [pinB]) fun j hj q1 q2 => ?_
    simp only [pinB] at q1 q2
    rw [Z0r hi] at q1 q2
    split at q1
    ·rename_i c
     rw [if_pos c] at q2
     subst c
     exact ⟨q1,hh q2 q1⟩
    ·rename_i c
     rw [if_neg c] at q2
     exact ⟨q1,q2⟩
   omega
  rcases hd with q | q | q | q
  ·exact mono (by omega)
  ·exact mono (by omega)
  ·exact mono (by omega)
  ·have := (Z8u (p := ⟨(w.heap.pages.getD i default).kind,(w.heap.pages.getD i default).space,(w.heap.pages.getD i default).used,(w.heap.pages.getD i default).pins + d⟩) hi w.heap.pages.length).1
   have e : crowd (pinB w i d).heap.pages = Z0L (w.heap.pages.set i ⟨(w.heap.pages.getD i default).kind,(w.heap.pages.getD i default).space,(w.heap.pages.getD i default).used,(w.heap.pages.getD i default).pins + d⟩) w.heap.pages.length := by
    simp only [crowd,pinB,List.length_set]
   have e2 : crowd w.heap.pages = Z0L w.heap.pages w.heap.pages.length := rfl
   omega
 exact ⟨T,g.pages hp rfl rfl rfl (by simp [pinB]) ks hcr,g1,g2⟩
theorem WG.pin {w : WorldM} {n : Nat} (h : WG w) (hp : POk w) (hm : MOk w n) (hn : n ≤ 1000000) (t : Tape) : WG (w.pin t) := by
 have p1 := (hp.pin hm hn t).p
 unfold WorldM.pin at p1 ⊢
 split
 ·rename_i e
  rw [if_pos e] at p1
  have o := Z3B hm.hv e
  have hpl := hm.pl
  have hi : pinI w t < w.heap.pages.length := by unfold pinI; omega
  split
  ·rename_i c
   rw [if_pos c] at p1
   exact h.pinned p1 hi (Or.inl rfl)
  ·rename_i c
   rw [if_neg c] at p1
   split
   ·rename_i c2
    rw [if_pos c2] at p1
    exact h.pinned p1 hi (Or.inr c2)
   ·exact h
 ·exact h
theorem WG.drop {w : WorldM} (h : WG w) (t : Tape) : WG (w.drop t) := by
 unfold WorldM.drop
 split
 ·rename_i hl
  obtain ⟨T,g,g1,g2⟩ := h
  have n1 := Z0A t (n := (w.strong.length : Int)) (by omega)
  refine ⟨T,g,fun r hr => ?_,fun r hr => ?_⟩
  ·rcases List.mem_append.1 hr with hr | hr
   ·exact g1 r (List.mem_of_mem_take hr)
   ·exact g1 r (List.mem_of_mem_drop hr)
  ·simp only at hr
   split at hr
   ·rcases List.mem_append.1 hr with hr | hr
    ·exact g2 r hr
    ·simp only [List.mem_singleton] at hr
     subst hr
     refine g1 _ (getD_mem_iff.2 ⟨_, ?_,rfl⟩)
     unfold ZeS
     omega
   ·exact g2 r hr
 ·exact h
theorem WG.dup {w : WorldM} (h : WG w) (t : Tape) : WG (w.dup t) := by
 obtain ⟨T,g,g1,g2⟩ := h
 refine ⟨T,g,fun r hr => ?_,g2⟩
 rcases List.mem_append.1 hr with hr | hr
 ·exact g1 r hr
 ·simp only [List.mem_singleton] at hr
  subst hr
  exact WG.pick g1 g2 _
theorem Zi9 (t : Tape) : WG t.empty := by
 have hpr := (ZaS t).p
 have hv := Z2s t
 have hb := validB_iff.1 hv
 have hz : ∀ j,(t.empty.heap.pages.getD j default).kind = 0 ∧ (t.empty.heap.pages.getD j default).pins = 0 := by
  intro j
  simp only [Tape.empty,Z1Q,List.getD_eq_getElem?_getD,List.getElem?_replicate]
  split
  ·exact ⟨rfl,rfl⟩
  ·exact ⟨rfl,rfl⟩
 refine ⟨fun _ => [],⟨hpr, ?_, ?_, ?_,by simp, ?_,by simp, ?_⟩,by simp [RtOb,Tape.empty],by simp [RtOb,Tape.empty]⟩
 ·intro i _ hk
  exact absurd (hz i).1 hk
 ·intro i _ hk
  rw [(hz i).1] at hk
  omega
 ·intro i _ hk
  rw [(hz i).1] at hk
  omega
 ·intro a ha
  exfalso
  apply ha
  show (loadA (List.replicate (t.conf.pw * t.conf.pg).toNat 0) a).1 = 0
  unfold loadA
  by_cases c : 4096 ≤ a ∧ a < 4096 + ((List.replicate (t.conf.pw * t.conf.pg).toNat (0 : Int)).length : Int)
  ·rw [if_pos c]
   simp only [List.getD_eq_getElem?_getD,List.getElem?_replicate]
   split <;> rfl
  ·rw [if_neg c]
 ·have : crowd t.empty.heap.pages = 0 := by
   have h0 : ∀ n,Z0L t.empty.heap.pages n = 0 := by
    intro n
    induction n with
    | zero => rfl
    | succ n ih =>
     unfold Z0L
     rw [ih,if_neg (by rw [(hz n).1]; omega)]
   exact h0 _
  rw [this]
  show (0 : Int) ≤ t.conf.pg / 4
  omega
theorem Z8d {w : Work} {n : Int} (hw : WkOk w) (hn : 1 ≤ n ∧ n ≤ w.heap.conf.pw) (h : (w.place n).2.2 = true) :
  ∃ (i : Nat) (p : Page) (t : List Int),i < w.heap.pages.length ∧ ((w.heap.pages.getD i default).kind = 0 ∧ t = w.taken ++ [(i : Int)] ∧ p.pins = 0 ∨ (i : Int) ∈ w.taken ∧ (w.heap.pages.getD i default).kind = 1 ∧ t = w.taken ∧ p.pins = (w.heap.pages.getD i default).pins) ∧ p.kind = 1 ∧ p.used = occP (w.heap.pages.getD i default) + n ∧ occP (w.heap.pages.getD i default) + n ≤ w.heap.conf.pw ∧ 0 ≤ occP (w.heap.pages.getD i default) ∧ (w.place n).2.1 = 4096 + i * w.heap.conf.pw + occP (w.heap.pages.getD i default) ∧
  (w.place n).1 = ⟨⟨w.heap.conf,w.heap.words,w.heap.pages.set i p,w.heap.space,w.heap.bump⟩,w.old,t,w.queue,w.scanned,w.rep⟩ := by
 by_cases hf : Z4p w n
 ·have e : w.place n = (⟨⟨w.heap.conf,w.heap.words,Z1w w.heap.pages (Z0Q w).toNat n,w.heap.space,w.heap.bump⟩,w.old,w.taken,w.queue,w.scanned,w.rep⟩,4096 + Z0Q w * w.heap.conf.pw + (w.heap.pages.getD (Z0Q w).toNat default).used,true) := by rw [Work.place,if_pos hf]
  unfold Z4p at hf
  have hm := hw.tk _ (Z1u hf.1)
  have hu := hw.us (Z0Q w).toNat (by omega)
  have hoc : occP (w.heap.pages.getD (Z0Q w).toNat default) = (w.heap.pages.getD (Z0Q w).toNat default).used := by rw [occP,if_neg (by omega)]
  have hle : (((Z0Q w).toNat : Nat) : Int) = Z0Q w := by omega
  refine ⟨(Z0Q w).toNat,⟨(w.heap.pages.getD (Z0Q w).toNat default).kind,(w.heap.pages.getD (Z0Q w).toNat default).space,(w.heap.pages.getD (Z0Q w).toNat default).used + n,(w.heap.pages.getD (Z0Q w).toNat default).pins⟩,w.taken,by omega,Or.inr ⟨by rw [hle]; exact Z1u hf.1,hm.2.2,rfl,rfl⟩,hm.2.2, ?_,by rw [hoc]; omega,by rw [hoc]; omega, ?_, ?_⟩
  ·rw [hoc]
  ·rw [e,hoc,hle]
  ·rw [e,Z3c]
 ·by_cases hg : 0 ≤ Z0v w
  ·have e : w.place n = (⟨⟨w.heap.conf,w.heap.words,Z1w (Z2q w) (Z0v w).toNat n,w.heap.space,w.heap.bump⟩,w.old,w.taken ++ [Z0v w],w.queue,w.scanned,w.rep⟩,4096 + Z0v w * w.heap.conf.pw,true) := by rw [Work.place,if_neg hf,if_pos hg]
   obtain ⟨g1,g2,g3⟩ := Z34 (h := ⟨w.heap.conf,w.heap.words,w.heap.pages,1 - w.heap.space,w.heap.bump⟩) (by have := hw.sp; simp only; omega) hg n
   have g1' : Z1w (Z2q w) (Z0v w).toNat n = w.heap.pages.set (Z0v w).toNat ⟨1,1 - w.heap.space,n,0⟩ := g1
   have g2' : (w.heap.pages.getD (Z0v w).toNat default).kind = 0 := g2
   have g3' : (Z0v w).toNat < w.heap.pages.length := g3
   have hoc : occP (w.heap.pages.getD (Z0v w).toNat default) = 0 := by rw [occP,if_pos g2']
   have hle : (((Z0v w).toNat : Nat) : Int) = Z0v w := by omega
   refine ⟨(Z0v w).toNat,⟨1,1 - w.heap.space,n,0⟩,w.taken ++ [Z0v w],g3',Or.inl ⟨g2',by rw [hle],rfl⟩,rfl,by rw [hoc]; simp,by rw [hoc]; omega,by rw [hoc]; omega, ?_, ?_⟩
   ·rw [e,hoc,hle]; simp
   ·rw [e,g1']
  ·rw [Work.place,if_neg hf,if_neg hg] at h
   simp at h
structure KI (h : Heap) (T tq : Nat → List Int) (w : Work) : Prop where
 c : w.heap.conf = h.conf
 sp : w.heap.space = h.space
 old : ∀ x,x ∈ w.old ↔ Ob h T x
 pl : w.heap.pages.length = h.pages.length
 wl : w.heap.words.length = h.words.length
 pg : ∀ i : Nat,(i : Int) ∉ w.taken → (w.heap.pages.getD i default).kind = (h.pages.getD i default).kind ∧ (w.heap.pages.getD i default).used = (h.pages.getD i default).used ∧ (w.heap.pages.getD i default).pins = (h.pages.getD i default).pins
 tk : ∀ i : Nat,(i : Int) ∈ w.taken → i < h.pages.length ∧ (h.pages.getD i default).kind = 0 ∧ (w.heap.pages.getD i default).kind = 1 ∧ (w.heap.pages.getD i default).pins = 0 ∧ (w.heap.pages.getD i default).used ≤ h.conf.pw ∧ tile w.heap.words (bsP h i) (bsP h i + (w.heap.pages.getD i default).used) (tq i) ∧ ∀ x ∈ tq i,x ∈ w.queue ∧ kdA w.heap.words x ≠ 0 ∧ hlA w.heap.words x + 1 ≤ Z00 h.conf
 tk0 : ∀ i : Nat,(i : Int) ∉ w.taken → tq i = []
 q : ∀ x ∈ w.queue,(∃ i : Nat,(i : Int) ∉ w.taken ∧ x ∈ T i ∧ kdA h.words x ≠ 0 ∧ (w.heap.pages.getD i default).space ≠ w.heap.space) ∨ (∃ i : Nat,(i : Int) ∈ w.taken ∧ x ∈ tq i)
 hd : ∀ i x,x ∈ T i → (loadA w.heap.words x).1 = (loadA h.words x).1 ∨ ((Z0q (loadA w.heap.words x).1).2 = true ∧ (w.heap.pages.getD i default).kind = 1 ∧ (w.heap.pages.getD i default).space = w.heap.space)
 dt : ∀ a,(loadA w.heap.words a).1 ≠ 0 → (∃ i x,x ∈ T i ∧ x ≤ a ∧ a < x + kpA h.words x) ∨ (∃ i : Nat,(i : Int) ∈ w.taken ∧ bsP h i ≤ a ∧ a < bsP h i + (w.heap.pages.getD i default).used)
 lg : ∀ i : Nat,(h.pages.getD i default).kind = 2 → (w.heap.pages.getD i default).space ≠ w.heap.space → bsP h i ∈ w.queue
section
variable {h : Heap} {T : Nat → List Int} (g : Gd h T)
include g
theorem KI.nt {tq : Nat → List Int} {w : Work} (k : KI h T tq w) {i : Nat} {x : Int} (hx : x ∈ T i) : (i : Int) ∉ w.taken := by
 intro q
 have := (k.tk i q).2.1
 have := (g.t0 i x hx).2
 omega
theorem KI.sepT {tq : Nat → List Int} {w : Work} (k : KI h T tq w) {i j : Nat} {x y : Int} (hi : (i : Int) ∈ w.taken) (hx : x ∈ tq i) (hy : y ∈ T j) : bsP h i ≤ x ∧ x + hlA w.heap.words x < bsP h i + h.conf.pw ∧ (y + hlA h.words y < bsP h i ∨ bsP h i + h.conf.pw ≤ y) := by
 have t := k.tk i hi
 have m := Z1A t.2.2.2.2.2.1 hx
 have f := g.free t.1 (Or.inl t.2.1) hy
 rw [occP,if_pos t.2.1] at f
 exact ⟨m.2.1,by omega,by omega⟩
omit g in
theorem KI.sepQ (g : Gd h T) {tq : Nat → List Int} {w : Work} (k : KI h T tq w) {i j : Nat} {x y : Int} (hi : (i : Int) ∈ w.taken) (hx : x ∈ tq i) (hj : (j : Int) ∈ w.taken) (hy : y ∈ tq j) (hxy : x < y) : x + hlA w.heap.words x < y := by
 have t := k.tk i hi
 have u := k.tk j hj
 have m := Z1A t.2.2.2.2.2.1 hx
 have n := Z1A u.2.2.2.2.2.1 hy
 have po := Z08 g.p
 have r := Z0g w.heap.words y
 unfold bsP at m n
 rcases Nat.lt_trichotomy i j with q | q | q
 ·have := Z10 (i := i) (j := j) (pw := h.conf.pw) (by omega) (by omega)
  omega
 ·subst q
  exact Z9H t.2.2.2.2.2.1 hx hy hxy
 ·have := Z10 (i := j) (j := i) (pw := h.conf.pw) (by omega) (by omega)
  omega
theorem KI.withWords {tq : Nat → List Int} {w : Work} (k : KI h T tq w) {l : List Int} (hl : l.length = w.heap.words.length) (h1 : ∀ i x,x ∈ T i → (loadA l x).1 = (loadA w.heap.words x).1) (h2 : ∀ (i : Nat) x,(i : Int) ∈ w.taken → x ∈ tq i → (loadA l x).1 = (loadA w.heap.words x).1)
  (h3 : ∀ a,(loadA l a).1 ≠ 0 → (loadA w.heap.words a).1 ≠ 0 ∨ (∃ i x,x ∈ T i ∧ x ≤ a ∧ a < x + kpA h.words x) ∨ (∃ i : Nat,(i : Int) ∈ w.taken ∧ bsP h i ≤ a ∧ a < bsP h i + (w.heap.pages.getD i default).used)) :
  KI h T tq ⟨⟨w.heap.conf,l,w.heap.pages,w.heap.space,w.heap.bump⟩,w.old,w.taken,w.queue,w.scanned,w.rep⟩ := by
 refine ⟨k.c,k.sp,k.old,k.pl,hl.trans k.wl,k.pg, ?_,k.tk0,k.q, ?_, ?_,k.lg⟩
 ·intro i hi
  obtain ⟨t1,t2,t3,t4,t5,t6,t7⟩ := k.tk i hi
  have ky := fun x hx => Z1O (h2 i x hi hx)
  refine ⟨t1,t2,t3,t4,t5,Z2a t6 fun x hx => ⟨(ky x hx).1 (Z1A t6 hx).1,(ky x hx).2.1⟩,fun x hx => ?_⟩
  have := t7 x hx
  simp only
  rw [(ky x hx).2.2.1,(ky x hx).2.1]
  exact this
 ·intro i x hx
  simp only
  rw [h1 i x hx]
  exact k.hd i x hx
 ·intro a ha
  rcases h3 a ha with q | q
  ·exact k.dt a q
  ·exact q
theorem KI.keep {tq : Nat → List Int} {w : Work} (k : KI h T tq w) {r : Int} {i : Nat} (hi : r ∈ T i) (hk : kdA h.words r ≠ 0) (hs : (w.heap.pages.getD i default).space ≠ w.heap.space) : KI h T tq (w.keep r) := by
 refine ⟨k.c,k.sp,k.old,k.pl,k.wl,k.pg, ?_,k.tk0, ?_,k.hd,k.dt, ?_⟩
 ·intro j hj
  obtain ⟨t1,t2,t3,t4,t5,t6,t7⟩ := k.tk j hj
  exact ⟨t1,t2,t3,t4,t5,t6,fun x hx => ⟨List.mem_append_left _ (t7 x hx).1,(t7 x hx).2⟩⟩
 ·intro x hx
  simp only [Work.keep,List.mem_append,List.mem_singleton] at hx
  rcases hx with hx | rfl
  ·exact k.q x hx
  ·exact Or.inl ⟨i,k.nt g hi,hi,hk,hs⟩
 ·intro j h1 h2
  exact List.mem_append_left _ (k.lg j h1 h2)
theorem KI.flip {tq : Nat → List Int} {w : Work} (k : KI h T tq w) (hw : WkOk w) {r : Int} {i : Nat} (hi : r ∈ T i) (hk : kdA h.words r ≠ 0) (h2 : (w.heap.pages.getD i default).kind = 2) : KI h T tq ((w.flip i).keep r) := by
 have hil := (g.t0 i r hi).1
 have hpl := k.pl
 have hsp := hw.sp
 have hu : ∀ j,((Z0G w.heap.pages i (Z0y w.heap.pages i) (1 - w.heap.space)).getD j default).kind = (w.heap.pages.getD j default).kind ∧ ((Z0G w.heap.pages i (Z0y w.heap.pages i) (1 - w.heap.space)).getD j default).used = (w.heap.pages.getD j default).used ∧ ((Z0G w.heap.pages i (Z0y w.heap.pages i) (1 - w.heap.space)).getD j default).pins = (w.heap.pages.getD j default).pins := by
  intro j
  by_cases hj : j < w.heap.pages.length
  ·rw [Z1r hj]
   split
   ·exact ⟨rfl,rfl,rfl⟩
   ·exact ⟨rfl,rfl,rfl⟩
  ·rw [List.getD_eq_getElem?_getD,List.getD_eq_getElem?_getD,List.getElem?_eq_none (by rw [Z1s]; omega),List.getElem?_eq_none (by omega)]
   exact ⟨rfl,rfl,rfl⟩
 have hs1 : ∀ j,(w.heap.pages.getD j default).kind = 1 → ((Z0G w.heap.pages i (Z0y w.heap.pages i) (1 - w.heap.space)).getD j default).space = (w.heap.pages.getD j default).space := by
  intro j hj
  by_cases hjl : j < w.heap.pages.length
  ·rw [Z1r hjl]
   split
   ·rename_i c
    exfalso
    by_cases q : j = i
    ·subst q; omega
    ·have := (Z7J (l := w.heap.pages) (i := i) (m := j - i - 1) (by omega)).2
     rw [show i + 1 + (j - i - 1) = j by omega] at this
     omega
   ·rfl
  ·rw [List.getD_eq_getElem?_getD,List.getD_eq_getElem?_getD,List.getElem?_eq_none (by rw [Z1s]; omega),List.getElem?_eq_none (by omega)]
 have hs2 : ∀ j,(w.heap.pages.getD j default).space ≠ w.heap.space → ((Z0G w.heap.pages i (Z0y w.heap.pages i) (1 - w.heap.space)).getD j default).space ≠ w.heap.space := by
  intro j hj
  by_cases hjl : j < w.heap.pages.length
  ·rw [Z1r hjl]
   split
   ·simp only [Zbk]; omega
   ·exact hj
  ·rw [List.getD_eq_getElem?_getD,List.getElem?_eq_none (by rw [Z1s]; omega)]
   rw [List.getD_eq_getElem?_getD,List.getElem?_eq_none (by omega)] at hj
   exact hj
 have hs3 : ∀ j,(w.heap.pages.getD j default).kind = 2 → j ≠ i → ((Z0G w.heap.pages i (Z0y w.heap.pages i) (1 - w.heap.space)).getD j default).space = (w.heap.pages.getD j default).space := by
  intro j hj hne
  by_cases hjl : j < w.heap.pages.length
  ·rw [Z1r hjl]
   split
   ·rename_i c
    exfalso
    have := (Z7J (l := w.heap.pages) (i := i) (m := j - i - 1) (by omega)).2
    rw [show i + 1 + (j - i - 1) = j by omega] at this
    omega
   ·rfl
  ·rw [List.getD_eq_getElem?_getD,List.getElem?_eq_none (by omega)] at hj
   have d : (default : Page).kind = 0 := rfl
   simp only [Option.getD_none] at hj
   omega
 have hsi : ((Z0G w.heap.pages i (Z0y w.heap.pages i) (1 - w.heap.space)).getD i default).space ≠ w.heap.space := by
  rw [Z1r (by omega),if_pos ⟨Nat.le_refl _,Nat.le_add_right _ _⟩]
  simp only [Zbk]
  omega
 have kf : KI h T tq ⟨⟨w.heap.conf,w.heap.words,Z0G w.heap.pages i (Z0y w.heap.pages i) (1 - w.heap.space),w.heap.space,w.heap.bump⟩,w.old,w.taken,w.queue ++ [r],w.scanned,w.rep⟩ := by
  refine ⟨k.c,k.sp,k.old,by simp only [Z1s]; exact k.pl,k.wl, ?_, ?_,k.tk0, ?_, ?_, ?_, ?_⟩
  ·intro j hj
   simp only [hu]
   exact k.pg j hj
  ·intro j hj
   simp only [hu]
   obtain ⟨t1,t2,t3,t4,t5,t6,t7⟩ := k.tk j hj
   exact ⟨t1,t2,t3,t4,t5,t6,fun x hx => ⟨List.mem_append_left _ (t7 x hx).1,(t7 x hx).2⟩⟩
  ·intro x hx
   simp only [List.mem_append,List.mem_singleton] at hx
   rcases hx with hx | rfl
   ·rcases k.q x hx with ⟨j,j1,j2,j3,j4⟩ | q
    ·exact Or.inl ⟨j,j1,j2,j3,hs2 j j4⟩
    ·exact Or.inr q
   ·exact Or.inl ⟨i,k.nt g hi,hi,hk,hsi⟩
  ·intro j x hx
   rcases k.hd j x hx with q | q
   ·exact Or.inl q
   ·refine Or.inr ⟨q.1, ?_, ?_⟩
    ·simp only [hu]; exact q.2.1
    ·simp only; rw [hs1 j q.2.1]; exact q.2.2
  ·intro a ha
   simp only [hu]
   exact k.dt a ha
  ·intro j h1 h2'
   simp only at h2' ⊢
   by_cases q : j = i
   ·subst q
    have := (g.on hi).2.2.2.2.2.2 h1
    rw [← this.1]
    simp
   ·have hjt : (j : Int) ∉ w.taken := fun q => by have := (k.tk j q).2.1; omega
    rw [hs3 j (by rw [(k.pg j hjt).1]; exact h1) q] at h2'
    exact List.mem_append_left _ (k.lg j h1 h2')
 exact ⟨kf.c,kf.sp,kf.old,kf.pl,kf.wl,kf.pg,kf.tk,kf.tk0,kf.q,kf.hd,kf.dt,kf.lg⟩
end
end Go.Proofs.YtjflpmnenhdeeaaGreat
