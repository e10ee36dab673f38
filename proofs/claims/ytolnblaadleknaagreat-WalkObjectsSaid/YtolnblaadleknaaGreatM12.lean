/-
 The statement WalkObjects: part 12.
 Conditions: none.
-/
import Derived.Test.YtolnblaadleknaaGreatM11
set_option maxRecDepth 100000
set_option maxHeartbeats 2000000
set_option linter.all false
namespace Go.Proofs.YtolnblaadleknaaGreat
open Go.Sx
theorem adr_at {h : Heap} {i o : Int} (e : (address h.conf i o).2 = 0) : adr h i o = 4096 + (i * h.conf.pw + o) ∧ 0 ≤ i ∧ i < h.conf.pg ∧ 0 ≤ o ∧ o < h.conf.pw := by
 unfold address at e
 split at e
 ·rename_i hv
  split at e
  ·rename_i hb
   have hb' := hb
   unfold inB at hb
   simp at hb
   refine ⟨?_,by omega,by omega,by omega,by omega⟩
   unfold adr address
   rw [if_pos hv,if_pos hb']
  ·simp at e
 ·simp at e
theorem items_from {h : Heap} {i : Int} : ∀ {f : Nat} {o : Int},∀ x ∈ (itemsG h i f o).1,4096 + (i * h.conf.pw + o) ≤ x.addr ∧ x.addr < 4096 + (i * h.conf.pw + h.conf.pw)
 | 0,o,x,hx => by simp [itemsG] at hx
 | f + 1,o,x,hx => by
  unfold itemsG at hx
  split at hx
  ·split at hx
   ·rename_i h1
    have ha := adr_at h1.1
    rcases List.mem_cons.1 hx with rfl | hx
    ·simp only; omega
    ·have := items_from x hx
     have := sizeH_bounds (atH h (adr h i o)).1
     omega
   ·simp at hx
  ·simp at hx
theorem items_inc {h : Heap} {i : Int} : ∀ {f : Nat} {o : Int},((itemsG h i f o).1.map (·.addr)).Pairwise (· < ·)
 | 0,o => by simp [itemsG]
 | f + 1,o => by
  unfold itemsG
  split
  ·split
   ·rename_i h1
    have ha := adr_at h1.1
    have hs := sizeH_pos h1.2
    rw [List.map_cons,List.pairwise_cons]
    refine ⟨fun y hy => ?_,items_inc⟩
    obtain ⟨x,hx,rfl⟩ := List.mem_map.1 hy
    have := (items_from x hx).1
    simp only; omega
   ·simp
  ·simp
theorem listedW_from {h : Heap} {i : Int} : ∀ x ∈ (listedW h i).1,4096 + i * h.conf.pw ≤ x.addr ∧ x.addr < 4096 + (i + 1) * h.conf.pw := by
 intro x hx
 have e : (i + 1) * h.conf.pw = i * h.conf.pw + h.conf.pw := by rw [Int.add_mul,Int.one_mul]
 unfold listedW inItems at hx
 split at hx
 ·split at hx
  ·have := items_from x hx
   omega
  ·simp at hx
 ·simp at hx
theorem listedW_inc (h : Heap) (i : Int) : ((listedW h i).1.map (·.addr)).Pairwise (· < ·) := by
 unfold listedW inItems
 split
 ·split
  ·exact items_inc
  ·simp
 ·simp
theorem allR_from {h : Heap} (hw : 0 ≤ h.conf.pw) : ∀ (f i : Nat),∀ x ∈ (allR h f i).1,4096 + i * h.conf.pw ≤ x.addr
 | 0,i,x,hx => by simp [allR] at hx
 | f + 1,i,x,hx => by
  unfold allR at hx
  split at hx
  ·split at hx
   ·rcases List.mem_append.1 hx with hx | hx
    ·exact (listedW_from x hx).1
    ·have := allR_from hw f (i + 1) x hx
     have e : ((i + 1 : Nat) : Int) * h.conf.pw = i * h.conf.pw + h.conf.pw := by push_cast; rw [Int.add_mul,Int.one_mul]
     omega
   ·simp at hx
  ·simp at hx
theorem allR_inc {h : Heap} (hw : 0 ≤ h.conf.pw) : ∀ (f i : Nat),((allR h f i).1.map (·.addr)).Pairwise (· < ·)
 | 0,i => by simp [allR]
 | f + 1,i => by
  unfold allR
  split
  ·split
   ·rw [List.map_append,List.pairwise_append]
    refine ⟨listedW_inc h i,allR_inc hw f (i + 1),fun a ha b hb => ?_⟩
    obtain ⟨x,hx,rfl⟩ := List.mem_map.1 ha
    obtain ⟨y,hy,rfl⟩ := List.mem_map.1 hb
    have h1 := (listedW_from x hx).2
    have h2 := allR_from hw f (i + 1) y hy
    have e : ((i + 1 : Nat) : Int) * h.conf.pw = ((i : Int) + 1) * h.conf.pw := by push_cast; rfl
    omega
   ·simp
  ·simp
theorem starts_inc (h : Heap) : (startsW h).1.Pairwise (· < ·) := by
 rw [allW_eq h]
 unfold allW
 split
 ·rename_i hp
  exact allR_inc (by have := proper_ok hp; omega) _ _
 ·simp
theorem objects_inc (h : Heap) : (objectsW h).1.Pairwise (· < ·) := by
 unfold objectsW
 exact (starts_inc h).filter _
def posB (l : List Int) (v : Int) : Nat := (l.takeWhile (fun x => decide (x < v))).length
theorem posB_le (l : List Int) (v : Int) : posB l v ≤ l.length := by
 unfold posB; exact (List.takeWhile_sublist _).length_le
theorem posB_lt {l : List Int} {v : Int} (hs : l.Pairwise (· < ·)) {k : Nat} (hk : k < l.length) : (l.getD k default < v ↔ k < posB l v) := by
 have e : l.getD k default = l[k] := by rw [List.getD_eq_getElem?_getD,List.getElem?_eq_getElem hk]; rfl
 rw [e]
 constructor
 ·intro h
  by_cases hc : k < posB l v
  ·exact hc
  ·exfalso
   have hp : posB l v < l.length := by omega
   have h2 := tw_end (fun x => decide (x < v)) l hp
   have h3 : ¬ l[posB l v] < v := by
    have : decide (l[posB l v] < v) = false := h2
    simpa using this
   rcases Nat.lt_or_ge (posB l v) k with hlt | hge
   ·have := List.pairwise_iff_getElem.1 hs (posB l v) k hp hk hlt
    omega
   ·have : posB l v = k := by omega
    simp only [this] at h3
    exact h3 h
 ·intro h
  obtain ⟨h1,h2⟩ := tw_lt _ _ _ h
  simpa using h2
theorem posB_mem {l : List Int} {v : Int} (hs : l.Pairwise (· < ·)) : (v ∈ l ↔ posB l v < l.length ∧ l.getD (posB l v) default = v) := by
 constructor
 ·intro h
  obtain ⟨k,hk,e⟩ := List.getElem_of_mem h
  have e2 : l.getD k default = v := by rw [List.getD_eq_getElem?_getD,List.getElem?_eq_getElem hk,← e]; rfl
  have h1 : ¬ k < posB l v := fun q => by have := (posB_lt (v := v) hs hk).2 q; omega
  have h2 : k = posB l v := by
   rcases Nat.lt_or_ge (posB l v) k with hlt | hge
   ·have hp : posB l v < l.length := by omega
    have h3 : ¬ l.getD (posB l v) default < v := fun q => by have := (posB_lt (v := v) hs hp).1 q; omega
    have h4 := List.pairwise_iff_getElem.1 hs (posB l v) k hp hk hlt
    have e5 : l.getD (posB l v) default = l[posB l v] := by rw [List.getD_eq_getElem?_getD,List.getElem?_eq_getElem hp]; rfl
    omega
   ·omega
  subst h2
  exact ⟨hk,e2⟩
 ·rintro ⟨h1,h2⟩
  rw [← h2,List.getD_eq_getElem?_getD,List.getElem?_eq_getElem h1]
  exact List.getElem_mem h1
theorem isNaN0 (x : Int) : GSpec Tryz.prog 173 [u64 x] true (bool false) [] := by
 exact gF [] Tryz.func173 [true] (Fa (by simp only [bs, *,true_or,or_true,true_and,and_true,not_true_eq_false,not_false_eq_true,Bool.true_eq_false,Bool.false_eq_true] : (x != x)=false) Fz)
theorem isNaN1 (x : Int) : GSpec Tryz.prog 219 [u64 x] true (bool false) [] := by
 exact gF [] Tryz.func219 [true] (Fa (by simp only [bs, *,true_or,or_true,true_and,and_true,not_true_eq_false,not_false_eq_true,Bool.true_eq_false,Bool.false_eq_true] : (x != x)=false) Fz)
theorem cmpLess (x y : Int) : GSpec Tryz.prog 172 [u64 x,u64 y] true (bool (decide (x < y))) [] := by
 exact gF [] Tryz.func172 [] (Fc 6 (@isNaN1 x) (FcG 9 false (fun hg => by (try simp only [bs] at hg); exact @isNaN1 y) Fz))
def bsL (l : List Int) (v : Int) (i j : Nat) : Tg := ⟨tm 54 [(0,wordsV l),(1,u64 v),(4,int 0),(5,bool false),(6,int l.length),(7,int i),(8,int j)],[],60⟩
section
variable (l : List Int) (v : Int) (hl : l.length ≤ 1048576) (i j : Nat) (hij : i < j) (hj : j ≤ l.length)
include hl hij hj
theorem bsLess (hlt : l.getD ((i + j) / 2) default < v) : CSpec Tryz.prog (rndF Tryz.f103 0) (bsL l v i j).st .nrm (bsL l v ((i + j) / 2 + 1) j).st := by
 rcases bb (decide (l.getD (((↑i : Int) + (↑j : Int)) / 2).toNat default < v)) with hc0 | hc0<;>have hc0p:=hc0<;>simp only [bs] at hc0p
 ·exact sF [] [] (Fh 27 [.call true (Sx.bool (decide (l.getD (((↑i : Int) + (↑j : Int)) / 2).toNat default < v))) [],.br true] (Ftb 15 (decide ((↑i : Int) < (↑j : Int))) (Fi 18 ((↑i : Int) + (↑j : Int)) (Fv 19 ((↑i : Int) + (↑j : Int)) (Fg 20 (by exact fdiv2 rfl (by decide) : ((↑i : Int) + (↑j : Int)).fdiv (2 ^ min (Int.toNat 1) 64) =((↑i : Int) + (↑j : Int)) / 2) (Fo ((0 :Int)≤1) (Fi 21 (((↑i : Int) + (↑j : Int)) / 2) (Fek 24 wdv l (((↑i : Int) + (↑j : Int)) / 2) ((((↑i : Int) + (↑j : Int)) / 2).toNat) (Fa (@cmpLess (l.getD (((↑i : Int) + (↑j : Int)) / 2).toNat default) v) (Fa hc0 (Fi 29 (((↑i : Int) + (↑j : Int)) / (2 :Int) + 1) Fz)))))))))))
 ·contradiction
theorem bsMore (hlt : ¬ l.getD ((i + j) / 2) default < v) : CSpec Tryz.prog (rndF Tryz.f103 0) (bsL l v i j).st .nrm (bsL l v i ((i + j) / 2)).st := by
 rcases bb (decide (l.getD (((↑i : Int) + (↑j : Int)) / 2).toNat default < v)) with hc0 | hc0<;>have hc0p:=hc0<;>simp only [bs] at hc0p
 ·contradiction
 ·exact sF [] [] (Fh 27 [.call true (Sx.bool (decide (l.getD (((↑i : Int) + (↑j : Int)) / 2).toNat default < v))) [],.br false] (Ftb 15 (decide ((↑i : Int) < (↑j : Int))) (Fi 18 ((↑i : Int) + (↑j : Int)) (Fv 19 ((↑i : Int) + (↑j : Int)) (Fg 20 (by exact fdiv2 rfl (by decide) : ((↑i : Int) + (↑j : Int)).fdiv (2 ^ min (Int.toNat 1) 64) =((↑i : Int) + (↑j : Int)) / 2) (Fo ((0 :Int)≤1) (Fi 21 (((↑i : Int) + (↑j : Int)) / 2) (Fek 24 wdv l (((↑i : Int) + (↑j : Int)) / 2) ((((↑i : Int) + (↑j : Int)) / 2).toNat) (Fa (@cmpLess (l.getD (((↑i : Int) + (↑j : Int)) / 2).toNat default) v) (Fa hc0 Fz))))))))))
end
theorem bsEnd (l : List Int) (v : Int) (i : Nat) : CSpec Tryz.prog (rndF Tryz.f103 0) (bsL l v i i).st (.ext 0) (Tg.st ⟨tm 54 [(0,wordsV l),(1,u64 v),(6,int l.length),(7,int i)],[],60⟩) := by
 exact sF [] [] (Ffb 15 (decide ((↑i : Int) < (↑i : Int))) Fz)
theorem bsGo (l : List Int) (v : Int) (hl : l.length ≤ 1048576) (hs : l.Pairwise (· < ·)) : ∀ (f i j : Nat),j ≤ i + f → i ≤ posB l v → posB l v ≤ j → j ≤ l.length →
  LSpec Tryz.prog Tryz.f103 0 (bsL l v i j).st (.ext 0) (Tg.st ⟨tm 54 [(0,wordsV l),(1,u64 v),(6,int l.length),(7,int (posB l v))],[],60⟩) := by
 intro f
 induction f with
 | zero =>
  intro i j h1 h2 h3 h4
  obtain ⟨rfl,rfl⟩ : i = posB l v ∧ j = posB l v := by omega
  exact .endx (bsEnd l v _)
 | succ f ih =>
  intro i j h1 h2 h3 h4
  by_cases hij : i < j
  ·have hp := posB_lt hs (v := v) (k := (i + j) / 2) (by omega)
   by_cases hlt : l.getD ((i + j) / 2) default < v
   ·have := hp.1 hlt
    exact .next (bsLess l v hl i j hij h4 hlt) (ih ((i + j) / 2 + 1) j (by omega) (by omega) h3 h4)
   ·have : ¬ (i + j) / 2 < posB l v := fun q => hlt (hp.2 q)
    exact .next (bsMore l v hl i j hij h4 hlt) (ih i ((i + j) / 2) (by omega) h2 (by omega) (by omega))
  ·obtain ⟨rfl,rfl⟩ : i = posB l v ∧ j = posB l v := by omega
   exact .endx (bsEnd l v _)
theorem bsLoop (l : List Int) (v : Int) (hl : l.length ≤ 1048576) (hs : l.Pairwise (· < ·)) : CSpec Tryz.prog (blkF Tryz.f103 0) (Tg.st ⟨tm 54 [(0,wordsV l),(1,u64 v),(4,int 0),(5,bool false),(6,int l.length),(7,int 0),(8,int l.length)],[],60⟩) .nrm
  (Tg.st ⟨tm 54 [(0,wordsV l),(1,u64 v),(6,int l.length),(7,int (posB l v))],[],60⟩) :=
 (bsGo l v hl hs l.length 0 l.length (by omega) (by omega) (posB_le l v) (Nat.le_refl _)).ext (by kernel_rfl)
theorem bsearch (l : List Int) (v : Int) (hl : l.length ≤ 1048576) (hs : l.Pairwise (· < ·)) : GSpec Tryz.prog 103 [wordsV l,u64 v] true (.tu [int (posB l v),bool (decide (v ∈ l))]) [] := by
 have hm := posB_mem (v := v) hs
 have hp := posB_le l v
 by_cases h1 : posB l v < l.length
 ·by_cases h2 : l.getD (posB l v) default = v
  ·have e : decide (v ∈ l) = true := by simpa using hm.2 ⟨h1,h2⟩
   rw [e]
   exact gF [] Tryz.func103 [false,false,false,false,false,false,false,false,false,false,false,false,false,false,false,false,false,false,false,false,false,false,false,false,true] (Fl 11 wdv l (Fu (@bsLoop l v ‹_› ‹_›) (FeG 38 (decide ((↑(posB l v) : Int) < (↑l.length : Int))) wdv l (↑(posB l v) : Int) (posB l v) (FeG 45 (decide ((↑(posB l v) : Int) < (↑l.length : Int))&&!l.getD (posB l v) default == v) wdv l (↑(posB l v) : Int) (posB l v) (FcG 47 (decide ((↑(posB l v) : Int) < (↑l.length : Int))&&!l.getD (posB l v) default == v) (fun hg => by (try simp only [bs] at hg); exact @isNaN0 (l.getD (posB l v) default)) (FcG 50 (decide ((↑(posB l v) : Int) < (↑l.length : Int))&&!l.getD (posB l v) default == v&&false) (fun hg => by (try simp only [bs] at hg); exact @isNaN0 v) (Fr (↑(posB l v) : Int) (Fb ((decide ((↑(posB l v) : Int) < (↑l.length : Int))&&(l.getD (posB l v) default == v||false))=true) Fz))))))))
  ·have e : decide (v ∈ l) = false := by
    simp only [decide_eq_false_iff_not]
    exact fun q => h2 (hm.1 q).2
   rw [e]
   exact gF [] Tryz.func103 [false,false,false,false,false,false,false,false,false,false,false,false,false,false,false,false,false,false,false,false,false,false,false,false,true] (Fl 11 wdv l (Fu (@bsLoop l v ‹_› ‹_›) (FeG 38 (decide ((↑(posB l v) : Int) < (↑l.length : Int))) wdv l (↑(posB l v) : Int) (posB l v) (FeG 45 (decide ((↑(posB l v) : Int) < (↑l.length : Int))&&!l.getD (posB l v) default == v) wdv l (↑(posB l v) : Int) (posB l v) (FcG 47 (decide ((↑(posB l v) : Int) < (↑l.length : Int))&&!l.getD (posB l v) default == v) (fun hg => by (try simp only [bs] at hg); exact @isNaN0 (l.getD (posB l v) default)) (FcG 50 (decide ((↑(posB l v) : Int) < (↑l.length : Int))&&!l.getD (posB l v) default == v&&false) (fun hg => by (try simp only [bs] at hg); exact @isNaN0 v) (Fr (↑(posB l v) : Int) (Fa (by simp only [bs, *,true_or,or_true,true_and,and_true,not_true_eq_false,not_false_eq_true,Bool.true_eq_false,Bool.false_eq_true] : (decide ((↑(posB l v) : Int) < (↑l.length : Int))&&(l.getD (posB l v) default == v||false))=false) Fz))))))))
 ·have e : decide (v ∈ l) = false := by
   simp only [decide_eq_false_iff_not]
   exact fun q => h1 (hm.1 q).1
  rw [e]
  exact gF [] Tryz.func103 [false,false,false,false,false,false,false,false,false,false,false,false,false,false,false,false,false,false,false,false,false,false,false,false,true] (Fl 11 wdv l (Fu (@bsLoop l v ‹_› ‹_›) (FeG 38 (decide ((↑(posB l v) : Int) < (↑l.length : Int))) wdv l (↑(posB l v) : Int) (posB l v) (FeG 45 (decide ((↑(posB l v) : Int) < (↑l.length : Int))&&!l.getD (posB l v) default == v) wdv l (↑(posB l v) : Int) (posB l v) (FcG 47 (decide ((↑(posB l v) : Int) < (↑l.length : Int))&&!l.getD (posB l v) default == v) (fun hg => by (try simp only [bs] at hg); exact @isNaN0 (l.getD (posB l v) default)) (FcG 50 (decide ((↑(posB l v) : Int) < (↑l.length : Int))&&!l.getD (posB l v) default == v&&false) (fun hg => by (try simp only [bs] at hg); exact @isNaN0 v) (Fr (↑(posB l v) : Int) (Fb ((decide ((↑(posB l v) : Int) < (↑l.length : Int))&&(l.getD (posB l v) default == v||false))=false) Fz))))))))
theorem ref6IsObject (h : Heap) (a : Int) (hw : WOk h.words) : GSpec Tryz.prog 36 [h.av,u64 a] true (bool (decide (a ∈ (objectsW h).1))) [] := by
 have hn := objectsW_len h
 exact gF [] Tryz.func36 [] (Fc 9 (@ref6Objects h ‹_›) (Fc 14 (@ref6Has ((objectsW h).fst) a (by omega)) Fz))
theorem walkIsObject (h : Heap) (a : Int) (hw : WOk h.words) : GSpec Tryz.prog 35 [h.av,u64 a] true (bool (decide (a ∈ (objectsW h).1))) [] := by
 have hn := objectsW_len h
 have hs := objects_inc h
 by_cases e : (objectsW h).2 = 0
 ·exact gF [] Tryz.func35 [] (Fc 11 (@walkObjects h ‹_›) (Ffb 15 ((objectsW h).snd != 0) (Fc 19 (@bsearch ((objectsW h).fst) a (by omega) ‹_›) Fz)))
 ·have e8 : (objectsW h).1 = [] := by
   have := objs_bad h (fun q => e (by rw [objs_eq h q]))
   rw [this]
  rw [e8]
  exact gF [] Tryz.func35 [] (Fc 11 (@walkObjects h ‹_›) (Ftb 15 ((objectsW h).snd != 0) Fz))
def afterF (w : Work) (r : Int) : Int := if r ∈ w.queue then r else (targetA (loadA w.heap.words r).1).1
theorem ref12after (w : Work) (r : Int) (hw : WOk w.heap.words) (hl : w.heap.words.length ≤ 4096) (hq : w.queue.length ≤ 1048576) (h0 : 0 ≤ r ∧ r ≤ 18446744073709551615) : GSpec Tryz.prog 150 [w.av,u64 r] true (u64 (afterF w r)) [] := by
 have h1 := loadA_range hw r
 rcases bb (decide (r ∈ w.queue)) with hc0 | hc0<;>have hc0p:=hc0<;>simp only [bs] at hc0p
 ·exact gF [] Tryz.func150 [true] (Fh 12 [.call true (Sx.bool (decide (r ∈ w.queue))) [],.br true] (Fa (@ref6Has w.queue r ‹_›) (Fa hc0 (Fa (by simp [afterF, *] : r =afterF w r) Fz))))
 ·exact gF [] Tryz.func150 [true] (Fh 12 [.call true (Sx.bool (decide (r ∈ w.queue))) [],.br false] (Fa (@ref6Has w.queue r ‹_›) (Fa hc0 (Fc 19 (@ref2Load w.heap.words r (by omega) ‹_›) (Fc 24 (@ref3Target ((loadA w.heap.words r).fst) (by omega) (by omega)) (Fa (by simp [afterF, *] : (targetA (loadA w.heap.words r).fst).fst =afterF w r) Fz))))))
theorem ref10GetW (w : Work) (a : Int) (hw : WOk w.heap.words) (h1 : w.heap.words.length ≤ 4096) (h0 : 0 ≤ a ∧ a ≤ 18446744073709551615) : GSpec Tryz.prog 209 [w.av,u64 a] true (hdW w a).av [] := by
 have h2 := loadA_range hw a
 exact gF [] Tryz.func209 [] (Fc 14 (@ref2Load w.heap.words a (by omega) ‹_›) (Fc 19 (@ref3Decode ((loadA w.heap.words a).fst) (by omega) (by omega)) Fz))
def fill1 (w : Work) (x : Int) : Work := if promB w (ofA w.heap.conf x).1 = true ∧ x ∉ w.queue then ⟨⟨w.heap.conf,(writeA w.heap.words x (objW ⟨0,(hdW w x).length,0⟩)).1,w.heap.pages,w.heap.space,w.heap.bump⟩,w.old,w.taken,w.queue,w.scanned,⟨w.rep.copied,w.rep.kept,w.rep.filled + 1,w.rep.freed,w.rep.cleared,w.rep.steps⟩⟩ else w
def fillN (w : Work) : Nat → Work
 | 0 => w
 | k + 1 => fill1 (fillN w k) (w.old.getD k default)
def fillL (w : Work) (i : Nat) : Tg := ⟨tm 84 [(1,.pt 8001 0 0),(2,.pt 8002 0 0),(3,int i)],[(8002,.box 100 [int 0,int 0,.d (.sl 0 []),.d (.sl 0 []),int 0,int 0,.d (.sl 0 []),.d (.sl 0 []),.d (.sl 0 []),int 0,int 0,int 0,int 0,int 0,int 0,int 0]),(8001,.box 100 w.cells)],60⟩
structure FOk (w : Work) : Prop where
 words : WOk w.heap.words
 wl : w.heap.words.length ≤ 4096
 pl : w.heap.pages.length ≤ 64
 ol : w.old.length ≤ 524288
 o : ∀ x ∈ w.old,0 ≤ x ∧ x ≤ 8192
 tl : w.taken.length ≤ 1000000
 ql : w.queue.length ≤ 1000000
theorem WkOk.fok {w : Work} (h : WkOk w) : FOk w := by
 have h1 := h.mu
 have h2 := h.tl
 have h3 := h.pl
 have h4 := validB_iff.1 h.conf
 exact ⟨h.words,h.wl,by omega,h.ol,h.o,by omega,by omega⟩
theorem fill_obj {n : Int} (h : 0 ≤ n ∧ n ≤ 255) : encodeH ⟨0,n,0⟩ = (1 + 16 * n,0) := by
 have hv : validH ⟨0,n,0⟩ = true := validH_iff.2 ⟨by simp,by simp,h.1,h.2,by simp⟩
 rw [encodeH,if_pos hv]
 simp
section
variable (w : Work) (i : Nat) (hw : FOk w) (hi : i < w.old.length) (hr : 0 ≤ w.rep.filled ∧ w.rep.filled ≤ 1000000)
include hw hi hr
theorem fillRound : CSpec Tryz.prog (rndF Tryz.f152 0) (fillL w i).st .nrm (fillL (fill1 w (w.old.getD i default)) (i + 1)).st := by
 have h1 := hw.words
 have h2 := hw.wl
 have h3 := hw.pl
 have h4 := hw.ol
 have h5 := hw.tl
 have h6 := hw.ql
 have hx := hw.o _ (getD_mem_iff.2 ⟨i,hi,rfl⟩)
 have hm := decodeH_map (loadA w.heap.words (w.old.getD i default)).1 (loadA_range h1 _).1
 have hh : 0 ≤ (hdW w (w.old.getD i default)).length ∧ (hdW w (w.old.getD i default)).length ≤ 255 := hlA_range w.heap.words (w.old.getD i default)
 have he := fill_obj hh
 by_cases c1 : promB w (ofA w.heap.conf (w.old.getD i default)).1 = true
 ·by_cases c2 : w.old.getD i default ∈ w.queue
  ·have e7 : fill1 w (w.old.getD i default) = w := by rw [fill1,if_neg (by rintro ⟨_,q⟩; exact q c2)]
   rw [e7]
   exact sF [] [] (Fl 13 wdv w.old (Ftb 14 (decide ((↑i : Int) < (↑w.old.length : Int))) (Fek 24 wdv w.old (↑i) i (Fc 26 (@refOf w.heap.conf (w.old.getD i default) (by omega) (by omega)) (Fc 32 (@ref10Promoted w ((ofA w.heap.conf (w.old.getD i default)).fst) (by omega) (by omega)) (FeG 40 (!!promB w (ofA w.heap.conf (w.old.getD i default)).fst) wdv w.old (↑i) i (FcG 42 (!!promB w (ofA w.heap.conf (w.old.getD i default)).fst) (fun hg => by (try simp only [bs] at hg); exact @ref6Has w.queue (w.old.getD i default) (by (try simp only [bs] at hg); omega)) (Ft 43 (by simp only [bs, *,true_or,or_true,true_and,and_true,not_true_eq_false,not_false_eq_true,Bool.true_eq_false,Bool.false_eq_true] : (!promB w (ofA w.heap.conf (w.old.getD i default)).fst||decide (w.old.getD i default ∈ w.queue))=true) (Fx 16 i Fz)))))))))
  ·have e7 : fill1 w (w.old.getD i default) = ⟨⟨w.heap.conf,(writeA w.heap.words (w.old.getD i default) (objW ⟨0,(hdW w (w.old.getD i default)).length,0⟩)).1,w.heap.pages,w.heap.space,w.heap.bump⟩,w.old,w.taken,w.queue,w.scanned,⟨w.rep.copied,w.rep.kept,w.rep.filled + 1,w.rep.freed,w.rep.cleared,w.rep.steps⟩⟩ := by rw [fill1,if_pos ⟨c1,c2⟩]
   rw [e7]
   exact sF [] [] (Fh 71 [.els (List.map wdv ([(encodeH (Header.mk 0 (hdW w (w.old.getD i default)).length 0)).fst] ++ List.replicate (hdW w (w.old.getD i default)).length.toNat 0))] (Fl 13 wdv w.old (Ftb 14 (decide ((↑i : Int) < (↑w.old.length : Int))) (Fek 24 wdv w.old (↑i) i (Fc 26 (@refOf w.heap.conf (w.old.getD i default) (by omega) (by omega)) (Fc 32 (@ref10Promoted w ((ofA w.heap.conf (w.old.getD i default)).fst) (by omega) (by omega)) (FeG 40 (!!promB w (ofA w.heap.conf (w.old.getD i default)).fst) wdv w.old (↑i) i (FcG 42 (!!promB w (ofA w.heap.conf (w.old.getD i default)).fst) (fun hg => by (try simp only [bs] at hg); exact @ref6Has w.queue (w.old.getD i default) (by (try simp only [bs] at hg); omega)) (Ff 43 (by simp only [bs, *,true_or,or_true,true_and,and_true,not_true_eq_false,not_false_eq_true,Bool.true_eq_false,Bool.false_eq_true] : (!promB w (ofA w.heap.conf (w.old.getD i default)).fst||decide (w.old.getD i default ∈ w.queue))=false) (Fek 48 wdv w.old (↑i) i (Fc 50 (@ref10GetW w (w.old.getD i default) ‹_› ‹_› (by omega)) (Fc 55 (@ref3Encode (Header.mk 0 (hdW w (w.old.getD i default)).length 0) (by (simp only [bs]; omega))) (Fek 65 wdv w.old (↑i) i (Fs 68 (List.map wdv [(encodeH (Header.mk 0 (hdW w (w.old.getD i default)).length 0)).fst]) (Fa (by grind [objW] : 0≤(hdW w (w.old.getD i default)).length∧(↑(List.map wdv [(encodeH (Header.mk 0 (hdW w (w.old.getD i default)).length 0)).fst]).length : Int) + (hdW w (w.old.getD i default)).length≤2 ^ 30) (Fa (by simp [objW,List.map_take,List.map_drop,List.map_set,List.map_append,wdv,idv] : List.map wdv [(encodeH (Header.mk 0 (hdW w (w.old.getD i default)).length 0)).fst] ++ List.replicate (hdW w (w.old.getD i default)).length.toNat [du64 0] =List.map wdv ([(encodeH (Header.mk 0 (hdW w (w.old.getD i default)).length 0)).fst] ++ List.replicate (hdW w (w.old.getD i default)).length.toNat 0)) (Fc 72 (@ref2Write w.heap.words ([(encodeH (Header.mk 0 (hdW w (w.old.getD i default)).length 0)).fst] ++ List.replicate (hdW w (w.old.getD i default)).length.toNat 0) (w.old.getD i default) (by omega) (by omega) (by grind [objW])) (Fi 80 (w.rep.filled + 1) (Fx 16 i Fz)))))))))))))))))))
 ·have e7 : fill1 w (w.old.getD i default) = w := by rw [fill1,if_neg (by rintro ⟨q,_⟩; exact c1 q)]
  rw [e7]
  exact sF [] [] (Fl 13 wdv w.old (Ftb 14 (decide ((↑i : Int) < (↑w.old.length : Int))) (Fek 24 wdv w.old (↑i) i (Fc 26 (@refOf w.heap.conf (w.old.getD i default) (by omega) (by omega)) (Fc 32 (@ref10Promoted w ((ofA w.heap.conf (w.old.getD i default)).fst) (by omega) (by omega)) (FeG 40 (!!promB w (ofA w.heap.conf (w.old.getD i default)).fst) wdv w.old (↑i) i (FcG 42 (!!promB w (ofA w.heap.conf (w.old.getD i default)).fst) (fun hg => by (try simp only [bs] at hg); exact @ref6Has w.queue (w.old.getD i default) (by (try simp only [bs] at hg); omega)) (Ft 43 (by simp only [bs, *,true_or,or_true,true_and,and_true,not_true_eq_false,not_false_eq_true,Bool.true_eq_false,Bool.false_eq_true] : (!promB w (ofA w.heap.conf (w.old.getD i default)).fst||decide (w.old.getD i default ∈ w.queue))=true) (Fx 16 i Fz)))))))))
end
theorem fillEnd (w : Work) : CSpec Tryz.prog (rndF Tryz.f152 0) (fillL w w.old.length).st (.ext 0) (Tg.st ⟨tm 84 [(1,.pt 8001 0 0),(2,.pt 8002 0 0)],[(8002,.box 100 [int 0,int 0,.d (.sl 0 []),.d (.sl 0 []),int 0,int 0,.d (.sl 0 []),.d (.sl 0 []),.d (.sl 0 []),int 0,int 0,int 0,int 0,int 0,int 0,int 0]),(8001,.box 100 w.cells)],60⟩) := by
 exact sF [] [] (Fl 13 wdv w.old (Ffb 14 (decide ((↑w.old.length : Int) < (↑w.old.length : Int))) Fz))
theorem fill1_is (w : Work) (x : Int) : ∃ l n,fill1 w x = ⟨⟨w.heap.conf,l,w.heap.pages,w.heap.space,w.heap.bump⟩,w.old,w.taken,w.queue,w.scanned,⟨w.rep.copied,w.rep.kept,n,w.rep.freed,w.rep.cleared,w.rep.steps⟩⟩ ∧ l.length ≤ w.heap.words.length ∧ (WOk w.heap.words → WOk l) ∧ w.rep.filled ≤ n ∧ n ≤ w.rep.filled + 1 := by
 unfold fill1
 split
 ·refine ⟨_,_,rfl,write_len _ _ _,fun h => wok_write h ?_ _,by omega,by omega⟩
  intro y hy
  have hh : 0 ≤ (hdW w x).length ∧ (hdW w x).length ≤ 255 := hlA_range w.heap.words x
  simp only [objW,List.mem_cons,List.mem_replicate,fill_obj hh] at hy
  rcases hy with rfl | ⟨_,rfl⟩ <;> omega
 ·exact ⟨w.heap.words,w.rep.filled,rfl,Nat.le_refl _,fun h => h,by omega,by omega⟩
theorem fillN_is (w : Work) (hw : FOk w) : ∀ k,FOk (fillN w k) ∧ (fillN w k).heap.conf = w.heap.conf ∧ (fillN w k).heap.pages = w.heap.pages ∧ (fillN w k).heap.space = w.heap.space ∧ (fillN w k).heap.bump = w.heap.bump ∧ (fillN w k).old = w.old ∧ (fillN w k).taken = w.taken ∧ (fillN w k).queue = w.queue ∧ (fillN w k).rep.freed = w.rep.freed ∧ (fillN w k).rep.cleared = w.rep.cleared ∧ w.rep.filled ≤ (fillN w k).rep.filled ∧ (fillN w k).rep.filled ≤ w.rep.filled + k
 | 0 => ⟨hw,rfl,rfl,rfl,rfl,rfl,rfl,rfl,rfl,rfl,by simp [fillN],by simp [fillN]⟩
 | k + 1 => by
  obtain ⟨i0,i1,i2,i3,i4,i5,i6,i7,i8,i9,i10,i11⟩ := fillN_is w hw k
  obtain ⟨l,n,e,e1,e2,e3,e4⟩ := fill1_is (fillN w k) (w.old.getD k default)
  have : fillN w (k + 1) = _ := e
  rw [this]
  have hl := i0.wl
  exact ⟨⟨e2 i0.words,by simp only; omega,i0.pl,i0.ol,i0.o,i0.tl,i0.ql⟩,i1,i2,i3,i4,i5,i6,i7,i8,i9,by simp only; omega,by simp only; omega⟩
section
variable (w : Work) (hw : FOk w) (hr : w.rep.filled = 0)
include hw hr
theorem fillLoop : CSpec Tryz.prog (blkF Tryz.f152 0) (Tg.st ⟨tm 84 [(1,.pt 8001 0 0),(2,.pt 8002 0 0),(3,int 0)],[(8002,.box 100 [int 0,int 0,.d (.sl 0 []),.d (.sl 0 []),int 0,int 0,.d (.sl 0 []),.d (.sl 0 []),.d (.sl 0 []),int 0,int 0,int 0,int 0,int 0,int 0,int 0]),(8001,.box 100 w.cells)],60⟩) .nrm (Tg.st ⟨tm 84 [(1,.pt 8001 0 0),(2,.pt 8002 0 0)],[(8002,.box 100 [int 0,int 0,.d (.sl 0 []),.d (.sl 0 []),int 0,int 0,.d (.sl 0 []),.d (.sl 0 []),.d (.sl 0 []),int 0,int 0,int 0,int 0,int 0,int 0,int 0]),(8001,.box 100 (fillN w w.old.length).cells)],60⟩) := by
 have hol := hw.ol
 refine loop_ext_of (S := fun k => (fillL (fillN w k) k).st) w.old.length (by kernel_rfl) (fun k hk => ?_) ?_
 ·have h := fillN_is w hw k
  have := fillRound (fillN w k) k h.1 (by rw [h.2.2.2.2.2.1]; exact hk) (by omega)
  rw [h.2.2.2.2.2.1] at this
  exact this
 ·have h := fillN_is w hw w.old.length
  have := fillEnd (fillN w w.old.length)
  rw [h.2.2.2.2.2.1] at this
  exact this
theorem ref12fill : GSpec Tryz.prog 152 [w.av] false (fillN w w.old.length).av [] := by
 exact gF [] Tryz.func152 [] (Fu (@fillLoop w ‹_› ‹_›) Fz)
end
def goneB (s : Int) (p : Page) : Prop := p.kind ≠ 0 ∧ p.space = s
instance (s : Int) (p : Page) : Decidable (goneB s p) := by unfold goneB; infer_instance
def freeQ (s : Int) (p : Page) : Page := if goneB s p then ⟨0,0,0,0⟩ else p
def freeWs (pw s : Int) (l : List Page) (ws : List Int) : Nat → List Int
 | 0 => ws
 | i + 1 => if goneB s (l.getD i default) then spl (freeWs pw s l ws i) (i * pw.toNat) (List.replicate pw.toNat 0) else freeWs pw s l ws i
def freeC (n s : Int) (l : List Page) : Nat → Int
 | 0 => n
 | i + 1 => if goneB s (l.getD i default) then freeC n s l i + 1 else freeC n s l i
def freeL (w : Work) (ps : List Page) (ws : List Int) (n : Int) (i : Nat) : Tg := ⟨tm 78 [(1,.pt 8001 0 0),(2,.pt 8002 0 0),(3,int i)],[(8001,.box 100 [int w.heap.conf.pw,int w.heap.conf.pg,.ow 24017,.ow 16010,int w.heap.space,int w.heap.bump,wordsV w.old,intsV w.taken,wordsV w.queue,int w.scanned,int w.rep.copied,int w.rep.kept,int w.rep.filled,int n,int w.rep.cleared,int w.rep.steps]),(24017,.arr 56 1 (ws.map wdv)),(16010,.arr 134 4 (ps.map Page.dv)),(8002,.box 100 [int 0,int 0,.d (.sl 0 []),.d (.sl 0 []),int 0,int 0,.d (.sl 0 []),.d (.sl 0 []),.d (.sl 0 []),int 0,int 0,int 0,int 0,int 0,int 0,int 0])],60⟩
theorem freeSkip (w : Work) (ps : List Page) (ws : List Int) (n : Int) (i : Nat) (hl : ps.length ≤ 64) (hi : i < ps.length) (hb : ¬ goneB w.heap.space (ps.getD i default)) : CSpec Tryz.prog (rndF Tryz.f151 0) (freeL w ps ws n i).st .nrm (freeL w ps ws n (i + 1)).st := by
 unfold goneB at hb
 have hb' : ¬ ((ps.getD (i : Int).toNat default).kind ≠ 0 ∧ (ps.getD (i : Int).toNat default).space = w.heap.space) := hb
 exact sF [] [] (Fl 24 Page.dv ps (Ftb 25 (decide ((↑i : Int) < (↑ps.length : Int))) (Fm 33 Page.dv ps (↑i) ((↑i : Int).toNat) (Ftb 44 ((ps.getD (↑i : Int).toNat default).kind == 0||(ps.getD (↑i : Int).toNat default).space != w.heap.space) (Fx 27 i Fz)))))
def zeroL (w : Work) (ps : List Page) (ws : List Int) (n : Int) (i k : Nat) : Tg := ⟨tm 78 [(1,.pt 8001 0 0),(2,.pt 8002 0 0),(3,int i),(5,int k)],[(8001,.box 100 [int w.heap.conf.pw,int w.heap.conf.pg,.ow 24017,.ow 16010,int w.heap.space,int w.heap.bump,wordsV w.old,intsV w.taken,wordsV w.queue,int w.scanned,int w.rep.copied,int w.rep.kept,int w.rep.filled,int n,int w.rep.cleared,int w.rep.steps]),(16010,.arr 134 4 (ps.map Page.dv)),(24017,.arr 56 1 ((wr ws (List.replicate w.heap.conf.pw.toNat 0) (i * w.heap.conf.pw.toNat) k).map wdv)),(8002,.box 100 [int 0,int 0,.d (.sl 0 []),.d (.sl 0 []),int 0,int 0,.d (.sl 0 []),.d (.sl 0 []),.d (.sl 0 []),int 0,int 0,int 0,int 0,int 0,int 0,int 0])],64⟩
section
variable (w : Work) (ps : List Page) (ws : List Int) (n : Int) (i k : Nat) (hp : 0 ≤ w.heap.conf.pw ∧ w.heap.conf.pw ≤ 64) (hi : i ≤ 64) (hl : i * w.heap.conf.pw.toNat + w.heap.conf.pw.toNat ≤ ws.length) (hw : ws.length ≤ 4096)
include hp hi hl hw
theorem zeroRound (hk : k < w.heap.conf.pw.toNat) : CSpec Tryz.prog (rndF Tryz.f151 2) (zeroL w ps ws n i k).st .nrm (zeroL w ps ws n i (k + 1)).st := by
 have hs := wr_succ (ws := ws) (l := List.replicate w.heap.conf.pw.toNat 0) (i := i * w.heap.conf.pw.toNat) (k := k) (by simpa using hl) (by simpa using hk) (0 : Int)
 rw [show (List.replicate w.heap.conf.pw.toNat (0 : Int)).getD k 0 = 0 by simp [List.getD,hk]] at hs
 have hn := wr_len (ws := ws) (l := List.replicate w.heap.conf.pw.toNat (0 : Int)) (i := i * w.heap.conf.pw.toNat) (k := k) (by simpa using hl) (by simp; omega)
 have em : (i : Int) * w.heap.conf.pw = ((i * w.heap.conf.pw.toNat : Nat) : Int) := by rw [Int.natCast_mul,Int.toNat_of_nonneg hp.1]
 have ei : (i : Int) * w.heap.conf.pw + k = ((i * w.heap.conf.pw.toNat + k : Nat) : Int) := by omega
 exact sF [] [false,false,false,false,false,false,true] (Fh 10076 [.els (List.map wdv ((wr ws (List.replicate w.heap.conf.pw.toNat 0) (i * w.heap.conf.pw.toNat) k).set (↑(i * w.heap.conf.pw.toNat + k) : Int).toNat 0))] (Ftb 62 (decide ((↑k : Int) < w.heap.conf.pw)) (Fi 73 ((↑i : Int) * w.heap.conf.pw) (Fg 75 (by rw [wrapI' (by omega) (by omega)]; omega : IntKind.i64.wrap ((↑i : Int) * w.heap.conf.pw + (↑k : Int)) =(↑(i * w.heap.conf.pw.toNat + k) : Int)) (Fa (by (simp only [List.length_map]; omega) : 0≤(↑(i * w.heap.conf.pw.toNat + k) : Int)∧(↑(i * w.heap.conf.pw.toNat + k) : Int).toNat < (List.map wdv (wr ws (List.replicate w.heap.conf.pw.toNat 0) (i * w.heap.conf.pw.toNat) k)).length) (Fa (by (simp only [List.length_map]; omega) : (↑(i * w.heap.conf.pw.toNat + k) : Int).toNat < (List.map wdv (wr ws (List.replicate w.heap.conf.pw.toNat 0) (i * w.heap.conf.pw.toNat) k)).length) (Fa (by simp [List.map_take,List.map_drop,List.map_set,List.map_append,wdv,idv] : (List.map wdv (wr ws (List.replicate w.heap.conf.pw.toNat 0) (i * w.heap.conf.pw.toNat) k)).set (↑(i * w.heap.conf.pw.toNat + k) : Int).toNat [du64 0] =List.map wdv ((wr ws (List.replicate w.heap.conf.pw.toNat 0) (i * w.heap.conf.pw.toNat) k).set (↑(i * w.heap.conf.pw.toNat + k) : Int).toNat 0)) (Fx 64 k (Fr (56 : Int) (Fa (by refine congrArg _ ?_; exact hs : List.map wdv ((wr ws (List.replicate w.heap.conf.pw.toNat 0) (i * w.heap.conf.pw.toNat) k).set (↑(i * w.heap.conf.pw.toNat + k) : Int).toNat 0) =List.map wdv (wr ws (List.replicate w.heap.conf.pw.toNat 0) (i * w.heap.conf.pw.toNat) (k + 1))) Fz))))))))))
theorem zeroEnd : CSpec Tryz.prog (rndF Tryz.f151 2) (zeroL w ps ws n i w.heap.conf.pw.toNat).st (.ext 2) (Tg.st ⟨tm 78 [(1,.pt 8001 0 0),(2,.pt 8002 0 0),(3,int i)],[(8001,.box 100 [int w.heap.conf.pw,int w.heap.conf.pg,.ow 24017,.ow 16010,int w.heap.space,int w.heap.bump,wordsV w.old,intsV w.taken,wordsV w.queue,int w.scanned,int w.rep.copied,int w.rep.kept,int w.rep.filled,int n,int w.rep.cleared,int w.rep.steps]),(16010,.arr 134 4 (ps.map Page.dv)),(24017,.arr 56 1 ((spl ws (i * w.heap.conf.pw.toNat) (List.replicate w.heap.conf.pw.toNat 0)).map wdv)),(8002,.box 100 [int 0,int 0,.d (.sl 0 []),.d (.sl 0 []),int 0,int 0,.d (.sl 0 []),.d (.sl 0 []),.d (.sl 0 []),int 0,int 0,int 0,int 0,int 0,int 0,int 0])],64⟩) := by
 have hs := wr_all ws (List.replicate w.heap.conf.pw.toNat (0 : Int)) (i * w.heap.conf.pw.toNat)
 rw [List.length_replicate] at hs
 exact sF [] [false,false,false,false,false,true] (Ffb 62 (decide ((↑w.heap.conf.pw.toNat : Int) < w.heap.conf.pw)) (Fr (56 : Int) (Fa (by refine congrArg _ ?_; assumption : List.map wdv (wr ws (List.replicate w.heap.conf.pw.toNat 0) (i * w.heap.conf.pw.toNat) w.heap.conf.pw.toNat) =List.map wdv (spl ws (i * w.heap.conf.pw.toNat) (List.replicate w.heap.conf.pw.toNat 0))) Fz)))
theorem zeroLoop : CSpec Tryz.prog (blkF Tryz.f151 2) (Tg.st ⟨tm 78 [(1,.pt 8001 0 0),(2,.pt 8002 0 0),(3,int i),(5,int 0)],[(8001,.box 100 [int w.heap.conf.pw,int w.heap.conf.pg,.ow 24017,.ow 16010,int w.heap.space,int w.heap.bump,wordsV w.old,intsV w.taken,wordsV w.queue,int w.scanned,int w.rep.copied,int w.rep.kept,int w.rep.filled,int n,int w.rep.cleared,int w.rep.steps]),(16010,.arr 134 4 (ps.map Page.dv)),(24017,.arr 56 1 (ws.map wdv)),(8002,.box 100 [int 0,int 0,.d (.sl 0 []),.d (.sl 0 []),int 0,int 0,.d (.sl 0 []),.d (.sl 0 []),.d (.sl 0 []),int 0,int 0,int 0,int 0,int 0,int 0,int 0])],64⟩) .nrm (Tg.st ⟨tm 78 [(1,.pt 8001 0 0),(2,.pt 8002 0 0),(3,int i)],[(8001,.box 100 [int w.heap.conf.pw,int w.heap.conf.pg,.ow 24017,.ow 16010,int w.heap.space,int w.heap.bump,wordsV w.old,intsV w.taken,wordsV w.queue,int w.scanned,int w.rep.copied,int w.rep.kept,int w.rep.filled,int n,int w.rep.cleared,int w.rep.steps]),(16010,.arr 134 4 (ps.map Page.dv)),(24017,.arr 56 1 ((spl ws (i * w.heap.conf.pw.toNat) (List.replicate w.heap.conf.pw.toNat 0)).map wdv)),(8002,.box 100 [int 0,int 0,.d (.sl 0 []),.d (.sl 0 []),int 0,int 0,.d (.sl 0 []),.d (.sl 0 []),.d (.sl 0 []),int 0,int 0,int 0,int 0,int 0,int 0,int 0])],64⟩) := by
 have := loop_ext_of (S := fun k => (zeroL w ps ws n i k).st) w.heap.conf.pw.toNat (by kernel_rfl) (fun k hk => zeroRound w ps ws n i k hp hi hl hw hk) (zeroEnd w ps ws n i hp hi hl hw)
 simp only [zeroL,wr_zero] at this
 exact this
end
theorem freeTake (w : Work) (ps : List Page) (ws : List Int) (n : Int) (i : Nat) (hl : ps.length ≤ 64) (hi : i < ps.length) (hb : goneB w.heap.space (ps.getD i default)) (hp : 0 ≤ w.heap.conf.pw ∧ w.heap.conf.pw ≤ 64) (hs : i * w.heap.conf.pw.toNat + w.heap.conf.pw.toNat ≤ ws.length) (hw : ws.length ≤ 4096) (hn : 0 ≤ n ∧ n ≤ 64) : CSpec Tryz.prog (rndF Tryz.f151 0) (freeL w ps ws n i).st .nrm (freeL w (ps.set i ⟨0,0,0,0⟩) (spl ws (i * w.heap.conf.pw.toNat) (List.replicate w.heap.conf.pw.toNat 0)) (n + 1) (i + 1)).st := by
 unfold goneB at hb
 have hb' : (ps.getD (i : Int).toNat default).kind ≠ 0 ∧ (ps.getD (i : Int).toNat default).space = w.heap.space := hb
 exact sF [] [] (Fh 10050 [.els (List.map Page.dv (ps.set (↑i : Int).toNat (Page.mk 0 0 0 0)))] (Fl 24 Page.dv ps (Ftb 25 (decide ((↑i : Int) < (↑ps.length : Int))) (Fm 33 Page.dv ps (↑i) ((↑i : Int).toNat) (Ffb 44 ((ps.getD (↑i : Int).toNat default).kind == 0||(ps.getD (↑i : Int).toNat default).space != w.heap.space) (Fa (by (simp only [List.length_map]; omega) : 0≤(↑i : Int)∧(↑i : Int).toNat < (List.map Page.dv ps).length) (Fa (by (simp only [List.length_map]; omega) : (↑i : Int).toNat < (List.map Page.dv ps).length) (Fa (by rw [List.map_set]; rfl : (List.map Page.dv ps).set (↑i : Int).toNat [dint 0,dint 0,dint 0,dint 0] =List.map Page.dv (ps.set (↑i : Int).toNat (Page.mk 0 0 0 0))) (Fi 54 (n + 1) (Fu (@zeroLoop w (ps.set (↑i : Int).toNat (Page.mk 0 0 0 0)) ws (n + 1) i ‹_› (by omega) ‹_› ‹_›) (Fx 27 i Fz)))))))))))
theorem freeWs_len {pw s : Int} {l : List Page} {ws : List Int} (h : l.length * pw.toNat ≤ ws.length) : ∀ i,i ≤ l.length → (freeWs pw s l ws i).length = ws.length
 | 0,_ => rfl
 | i + 1,hi => by
  have ih := freeWs_len (s := s) h i (by omega)
  have hm : (i + 1) * pw.toNat ≤ l.length * pw.toNat := Nat.mul_le_mul_right _ hi
  rw [Nat.add_mul,Nat.one_mul] at hm
  unfold freeWs
  split
  ·rw [spl_len (by simp; omega),ih]
  ·exact ih
theorem freeC_range (n s : Int) (l : List Page) : ∀ i : Nat,n ≤ freeC n s l i ∧ freeC n s l i ≤ n + i
 | 0 => by simp [freeC]
 | i + 1 => by
  have ih := freeC_range n s l i
  unfold freeC
  split <;> omega
def freeW (w : Work) : Work := ⟨⟨w.heap.conf,freeWs w.heap.conf.pw w.heap.space w.heap.pages w.heap.words w.heap.pages.length,w.heap.pages.map (freeQ w.heap.space),w.heap.space,w.heap.bump⟩,w.old,w.taken,w.queue,w.scanned,⟨w.rep.copied,w.rep.kept,w.rep.filled,freeC w.rep.freed w.heap.space w.heap.pages w.heap.pages.length,w.rep.cleared,w.rep.steps⟩⟩
theorem freeEnd (w : Work) (ps : List Page) (ws : List Int) (n : Int) : CSpec Tryz.prog (rndF Tryz.f151 0) (freeL w ps ws n ps.length).st (.ext 0) (Tg.st ⟨tm 78 [(1,.pt 8001 0 0),(2,.pt 8002 0 0)],[(8001,.box 100 [int w.heap.conf.pw,int w.heap.conf.pg,.ow 24017,.ow 16010,int w.heap.space,int w.heap.bump,wordsV w.old,intsV w.taken,wordsV w.queue,int w.scanned,int w.rep.copied,int w.rep.kept,int w.rep.filled,int n,int w.rep.cleared,int w.rep.steps]),(24017,.arr 56 1 (ws.map wdv)),(16010,.arr 134 4 (ps.map Page.dv)),(8002,.box 100 [int 0,int 0,.d (.sl 0 []),.d (.sl 0 []),int 0,int 0,.d (.sl 0 []),.d (.sl 0 []),.d (.sl 0 []),int 0,int 0,int 0,int 0,int 0,int 0,int 0])],60⟩) := by
 exact sF [] [] (Fl 24 Page.dv ps (Ffb 25 (decide ((↑ps.length : Int) < (↑ps.length : Int))) Fz))
section
variable (w : Work) (hl : w.heap.pages.length ≤ 64) (hp : 0 ≤ w.heap.conf.pw ∧ w.heap.conf.pw ≤ 64) (hs : w.heap.pages.length * w.heap.conf.pw.toNat ≤ w.heap.words.length) (hw : w.heap.words.length ≤ 4096) (hr : w.rep.freed = 0)
include hl hp hs hw hr
theorem freeLoop : CSpec Tryz.prog (blkF Tryz.f151 0) (Tg.st ⟨tm 78 [(1,.pt 8001 0 0),(2,.pt 8002 0 0),(3,int 0)],[(8001,.box 100 [int w.heap.conf.pw,int w.heap.conf.pg,.ow 24017,.ow 16010,int w.heap.space,int w.heap.bump,wordsV w.old,intsV w.taken,wordsV w.queue,int w.scanned,int w.rep.copied,int w.rep.kept,int w.rep.filled,int w.rep.freed,int w.rep.cleared,int w.rep.steps]),(24017,.arr 56 1 (w.heap.words.map wdv)),(16010,.arr 134 4 (w.heap.pages.map Page.dv)),(8002,.box 100 [int 0,int 0,.d (.sl 0 []),.d (.sl 0 []),int 0,int 0,.d (.sl 0 []),.d (.sl 0 []),.d (.sl 0 []),int 0,int 0,int 0,int 0,int 0,int 0,int 0])],60⟩) .nrm (Tg.st ⟨tm 78 [(1,.pt 8001 0 0),(2,.pt 8002 0 0)],[(8001,.box 100 [int w.heap.conf.pw,int w.heap.conf.pg,.ow 24017,.ow 16010,int w.heap.space,int w.heap.bump,wordsV w.old,intsV w.taken,wordsV w.queue,int w.scanned,int w.rep.copied,int w.rep.kept,int w.rep.filled,int (freeC w.rep.freed w.heap.space w.heap.pages w.heap.pages.length),int w.rep.cleared,int w.rep.steps]),(24017,.arr 56 1 ((freeWs w.heap.conf.pw w.heap.space w.heap.pages w.heap.words w.heap.pages.length).map wdv)),(16010,.arr 134 4 ((w.heap.pages.map (freeQ w.heap.space)).map Page.dv)),(8002,.box 100 [int 0,int 0,.d (.sl 0 []),.d (.sl 0 []),int 0,int 0,.d (.sl 0 []),.d (.sl 0 []),.d (.sl 0 []),int 0,int 0,int 0,int 0,int 0,int 0,int 0])],60⟩) := by
 refine loop_ext_of (S := fun k => (freeL w (preM (freeQ w.heap.space) w.heap.pages k) (freeWs w.heap.conf.pw w.heap.space w.heap.pages w.heap.words k) (freeC w.rep.freed w.heap.space w.heap.pages k) k).st) w.heap.pages.length (by kernel_rfl) (fun k hk => ?_) ?_
 ·have h1 := preM_len (freeQ w.heap.space) w.heap.pages k
  have h2 := preM_get (freeQ w.heap.space) w.heap.pages (Nat.le_refl k) default
  have h3 := freeWs_len (s := w.heap.space) hs k (by omega)
  have h4 := freeC_range w.rep.freed w.heap.space w.heap.pages k
  by_cases hb : goneB w.heap.space (w.heap.pages.getD k default)
  ·have e1 := preM_succ (freeQ w.heap.space) w.heap.pages hk default
   have e2 : freeWs w.heap.conf.pw w.heap.space w.heap.pages w.heap.words (k + 1) = spl (freeWs w.heap.conf.pw w.heap.space w.heap.pages w.heap.words k) (k * w.heap.conf.pw.toNat) (List.replicate w.heap.conf.pw.toNat 0) := by rw [freeWs,if_pos hb]
   have e3 : freeC w.rep.freed w.heap.space w.heap.pages (k + 1) = freeC w.rep.freed w.heap.space w.heap.pages k + 1 := by rw [freeC,if_pos hb]
   rw [freeQ,if_pos hb] at e1
   rw [← e1,e2,e3]
   have hm : (k + 1) * w.heap.conf.pw.toNat ≤ w.heap.pages.length * w.heap.conf.pw.toNat := Nat.mul_le_mul_right _ hk
   rw [Nat.add_mul,Nat.one_mul] at hm
   exact freeTake w _ _ _ k (by omega) (by omega) (by rw [h2]; exact hb) hp (by omega) (by omega) (by omega)
  ·have e1 := preM_same (freeQ w.heap.space) w.heap.pages hk default (by rw [freeQ,if_neg hb])
   have e2 : freeWs w.heap.conf.pw w.heap.space w.heap.pages w.heap.words (k + 1) = freeWs w.heap.conf.pw w.heap.space w.heap.pages w.heap.words k := by rw [freeWs,if_neg hb]
   have e3 : freeC w.rep.freed w.heap.space w.heap.pages (k + 1) = freeC w.rep.freed w.heap.space w.heap.pages k := by rw [freeC,if_neg hb]
   rw [← e1,e2,e3]
   exact freeSkip w _ _ _ k (by omega) (by omega) (by rw [h2]; exact hb)
 ·have h := freeEnd w (preM (freeQ w.heap.space) w.heap.pages w.heap.pages.length) (freeWs w.heap.conf.pw w.heap.space w.heap.pages w.heap.words w.heap.pages.length) (freeC w.rep.freed w.heap.space w.heap.pages w.heap.pages.length)
  rw [preM_len,preM_all] at h
  simp only [preM_all]
  exact h
theorem ref12free : GSpec Tryz.prog 151 [w.av] false (freeW w).av [] := by
 have h1 := freeWs_len (s := w.heap.space) hs w.heap.pages.length (Nat.le_refl _)
 have h2 := freeC_range w.rep.freed w.heap.space w.heap.pages w.heap.pages.length
 exact gF [] Tryz.func151 [] (Fs 6 (List.map Page.dv []) (Fa (by (simp [freeW, *]; omega) : (List.map Page.dv []).length + (List.map Page.dv w.heap.pages).length≤2 ^ 30) (Fs 10 (List.map Page.dv w.heap.pages) (Fs 13 (List.map wdv []) (Fa (by (simp [freeW, *]; omega) : (List.map wdv []).length + (List.map wdv w.heap.words).length≤2 ^ 30) (Fs 17 (List.map wdv w.heap.words) (Fu (@freeLoop w ‹_› ‹_› ‹_› ‹_› ‹_›) Fz)))))))
end
def rep0 : Rep := ⟨0,0,0,0,0,0⟩
theorem refersF_good {h : Heap} {l : List Int} (e : refersF h l = true) : checkF h = ⟨0,0,0⟩ := by
 simp only [refersF,Bool.and_eq_true,decide_eq_true_eq] at e
 exact e.1
section
variable (h : Heap) (s k : List Int) (hw : WOk h.words) (hs : s.length ≤ 1048575) (hk : k.length ≤ 1048575) (hs2 : ULe s) (hk2 : ULe k)
include hw hs hk hs2 hk2
theorem collectA (hp : properB h = false) : GSpec Tryz.prog 69 [h.av,wordsV s,wordsV k] false (.tu [noHeap.av,wordsV [],wordsV [],.ag rep0.cells,int 1]) [] := by
 exact gF [] Tryz.func69 [] (Fc 20 (@ref4Proper h) (Ftb 21 (!properB h) (Fnl (Fnl (Fnl (Fnl Fz))))))
theorem collectB (hp : properB h = true) (hr : refersF h s = false ∨ refersF h k = false) : GSpec Tryz.prog 69 [h.av,wordsV s,wordsV k] false (.tu [noHeap.av,wordsV [],wordsV [],.ag rep0.cells,int 19]) [] := by
 by_cases h1 : refersF h s = false
 ·exact gF [] Tryz.func69 [] (Fc 20 (@ref4Proper h) (Ffb 21 (!properB h) (Fc 26 (@ref9Refers h s ‹_› (by omega)) (FcG 31 (!!refersF h s) (fun hg => by (try simp only [bs] at hg); exact @refersBad h k (by (try simp only [bs] at hg); assumption) (by (try simp only [bs] at hg); grind [noHeap,rep0])) (Ft 33 (by simp only [bs, *,true_or,or_true,true_and,and_true,not_true_eq_false,not_false_eq_true,Bool.true_eq_false,Bool.false_eq_true] : (!refersF h s||true)=true) (Fnl (Fnl (Fnl (Fnl Fz)))))))))
 ·have h2 : refersF h k = false := by
   rcases hr with hr | hr
   ·exact absurd hr h1
   ·exact hr
  exact gF [] Tryz.func69 [] (Fc 20 (@ref4Proper h) (Ffb 21 (!properB h) (Fc 26 (@ref9Refers h s ‹_› (by omega)) (FcG 31 (!!refersF h s) (fun hg => by (try simp only [bs] at hg); exact @ref9Refers h k (by (try simp only [bs] at hg); assumption) (by (try simp only [bs] at hg); omega)) (Ftb 33 (!refersF h s||!refersF h k) (Fnl (Fnl (Fnl (Fnl Fz)))))))))
theorem collectC (hp : properB h = true) (hr : refersF h s = true) (hr' : refersF h k = true) (e : ¬ (rootsF (beginW h) s).2.2 = 0) : GSpec Tryz.prog 69 [h.av,wordsV s,wordsV k] false (.tu [noHeap.av,wordsV [],wordsV [],.ag rep0.cells,int (rootsF (beginW h) s).2.2]) [] := by
 have hb := begin_ok hw hp
 have hg := refersF_good hr
 exact gF [] Tryz.func69 [] (Fc 20 (@ref4Proper h) (Ffb 21 (!properB h) (Fc 26 (@ref9Refers h s ‹_› (by omega)) (FcG 31 (!!refersF h s) (fun hg => by (try simp only [bs] at hg); exact @ref9Refers h k (by (try simp only [bs] at hg); assumption) (by (try simp only [bs] at hg); omega)) (Ff 33 (by simp only [bs, *,true_or,or_true,true_and,and_true,not_true_eq_false,not_false_eq_true,Bool.true_eq_false,Bool.false_eq_true] : (!refersF h s||!refersF h k)=false) (Fc 38 (@ref10BeginC h ‹_› ‹_› ‹_›) (Fc 44 (@ref11Roots (beginW h) s ‹_› ‹_› ‹_›) (Ftb 49 ((rootsF (beginW h) s).snd.snd != 0) (Fnl (Fnl (Fnl (Fnl Fz))))))))))))
theorem collectD (hp : properB h = true) (hr : refersF h s = true) (hr' : refersF h k = true) (e : (rootsF (beginW h) s).2.2 = 0) (e2 : ¬ (allF (rootsF (beginW h) s).1).2 = 0) : GSpec Tryz.prog 69 [h.av,wordsV s,wordsV k] false (.tu [noHeap.av,wordsV [],wordsV [],.ag rep0.cells,int (allF (rootsF (beginW h) s).1).2]) [] := by
 have hb := begin_ok hw hp
 have hi := begin_inv hp
 have hg := refersF_good hr
 have ho := rootsF_ok (roots := s) hb hi e
 have ho1 := ho.1
 exact gF [] Tryz.func69 [] (Fc 20 (@ref4Proper h) (Ffb 21 (!properB h) (Fc 26 (@ref9Refers h s ‹_› (by omega)) (FcG 31 (!!refersF h s) (fun hg => by (try simp only [bs] at hg); exact @ref9Refers h k (by (try simp only [bs] at hg); assumption) (by (try simp only [bs] at hg); omega)) (Ff 33 (by simp only [bs, *,true_or,or_true,true_and,and_true,not_true_eq_false,not_false_eq_true,Bool.true_eq_false,Bool.false_eq_true] : (!refersF h s||!refersF h k)=false) (Fc 38 (@ref10BeginC h ‹_› ‹_› ‹_›) (Fc 44 (@ref11Roots (beginW h) s ‹_› ‹_› ‹_›) (Ffb 49 ((rootsF (beginW h) s).snd.snd != 0) (Fc 55 (@ref11All ((rootsF (beginW h) s).fst) ‹_›) (Ftb 59 ((allF (rootsF (beginW h) s).fst).snd != 0) (Fnl (Fnl (Fnl (Fnl Fz))))))))))))))
end
def weakTo (w : Work) (x : Int) : Int := if x = 0 then 0 else afterF w x
def weak1 (w : Work) (x : Int) : Work := ⟨w.heap,w.old,w.taken,w.queue,w.scanned,⟨w.rep.copied,w.rep.kept,w.rep.filled,w.rep.freed,if x ≠ 0 ∧ afterF w x = 0 then w.rep.cleared + 1 else w.rep.cleared,w.rep.steps⟩⟩
def weakS (w : Work) (k : List Int) : Nat → Work
 | 0 => w
 | i + 1 => weak1 (weakS w k i) (k.getD i default)
def weakO (w : Work) (k : List Int) : Nat → List Int
 | 0 => []
 | i + 1 => weakO w k i ++ [weakTo (weakS w k i) (k.getD i default)]
theorem weakS_is (w : Work) (k : List Int) : ∀ i,(weakS w k i).heap = w.heap ∧ (weakS w k i).old = w.old ∧ (weakS w k i).taken = w.taken ∧ (weakS w k i).queue = w.queue ∧ (weakS w k i).rep.filled = w.rep.filled ∧ (weakS w k i).rep.freed = w.rep.freed ∧ w.rep.cleared ≤ (weakS w k i).rep.cleared ∧ (weakS w k i).rep.cleared ≤ w.rep.cleared + i
 | 0 => ⟨rfl,rfl,rfl,rfl,rfl,rfl,by simp [weakS],by simp [weakS]⟩
 | i + 1 => by
  obtain ⟨h1,h2,h3,h4,h5,h6,h7,h8⟩ := weakS_is w k i
  refine ⟨h1,h2,h3,h4,h5,h6, ?_, ?_⟩
  ·simp only [weakS,weak1]; split <;> omega
  ·simp only [weakS,weak1]; split <;> omega
theorem weakO_len (w : Work) (k : List Int) : ∀ i,(weakO w k i).length = i
 | 0 => rfl
 | i + 1 => by simp [weakO,weakO_len w k i]
def weakL (w : Work) (k roots out : List Int) (i : Nat) : Tg := ⟨tm 122 [(2,wordsV k),(6,.pt 8006 0 0),(7,.d (.sl 0 [])),(8,.d (.sl 0 [])),(9,.pt 8009 0 0),(10,int 0),(11,.pt 32011 0 0),(13,wordsV roots),(15,.ow 72015),(16,int i)],[(72015,.arr 56 1 (out.map wdv)),(32011,.box 100 w.cells),(8009,.box 95 [int 0,int 0,int 0,int 0,int 0,int 0]),(8006,.box 28 [int 0,int 0,.d (.sl 0 []),.d (.sl 0 []),int 0,int 0])],60⟩
section
variable (w : Work) (k roots out : List Int) (i : Nat) (hw : WOk w.heap.words) (hl : w.heap.words.length ≤ 4096) (hq : w.queue.length ≤ 1048576) (hk : k.length ≤ 1048575) (hx : 0 ≤ k.getD i default ∧ k.getD i default ≤ 18446744073709551615) (ho : out.length ≤ 1048576) (hi : i < k.length) (hc : 0 ≤ w.rep.cleared ∧ w.rep.cleared ≤ 2097152)
include hw hl hq hk hx ho hi hc
theorem weakRound : CSpec Tryz.prog (rndF Tryz.f69 0) (weakL w k roots out i).st .nrm (weakL (weak1 w (k.getD i default)) k roots (out ++ [weakTo w (k.getD i default)]) (i + 1)).st := by
 by_cases h0 : k.getD i default = 0
 ·have e1 : weakTo w (k.getD i default) = 0 := by rw [weakTo,if_pos h0]
  have e2 : weak1 w (k.getD i default) = w := by rw [weak1,if_neg (by rintro ⟨q,_⟩; exact q h0)]
  rw [e1,e2]
  exact sF [(504091,72015)] [] (Fh 91 [.els (List.map wdv (out ++ [0]))] (Fl 65 wdv k (Ftb 66 (decide ((↑i : Int) < (↑k.length : Int))) (Fek 71 wdv k (↑i) i (Ffb 73 (k.getD i default != 0) (Fs 90 (List.map wdv [0]) (Fa (by (simp [*]; omega) : (List.map wdv out).length + (List.map wdv [0]).length≤2 ^ 30) (Fa (by simp [List.map_take,List.map_drop,List.map_set,List.map_append,wdv,idv] : List.map wdv out ++ List.map wdv [0] =List.map wdv (out ++ [0])) (Fx 68 i Fz)))))))))
 ·have e1 : weakTo w (k.getD i default) = afterF w (k.getD i default) := by rw [weakTo,if_neg h0]
  rw [e1]
  by_cases h2 : afterF w (k.getD i default) = 0
  ·have e2 : weak1 w (k.getD i default) = ⟨w.heap,w.old,w.taken,w.queue,w.scanned,⟨w.rep.copied,w.rep.kept,w.rep.filled,w.rep.freed,w.rep.cleared + 1,w.rep.steps⟩⟩ := by rw [weak1,if_pos ⟨h0,h2⟩]
   rw [e2]
   exact sF [(528091,72015)] [] (Fh 91 [.els (List.map wdv (out ++ [afterF w (k.getD i default)]))] (Fl 65 wdv k (Ftb 66 (decide ((↑i : Int) < (↑k.length : Int))) (Fek 71 wdv k (↑i) i (Ftb 73 (k.getD i default != 0) (Fek 77 wdv k (↑i) i (Fc 79 (@ref12after w (k.getD i default) ‹_› ‹_› ‹_› ‹_›) (Ftb 81 (afterF w (k.getD i default) == 0) (Fi 85 (w.rep.cleared + 1) (Fs 90 (List.map wdv [afterF w (k.getD i default)]) (Fa (by (simp [*]; omega) : (List.map wdv out).length + (List.map wdv [afterF w (k.getD i default)]).length≤2 ^ 30) (Fa (by simp [List.map_take,List.map_drop,List.map_set,List.map_append,wdv,idv] : List.map wdv out ++ List.map wdv [afterF w (k.getD i default)] =List.map wdv (out ++ [afterF w (k.getD i default)])) (Fx 68 i Fz)))))))))))))
  ·have e2 : weak1 w (k.getD i default) = w := by rw [weak1,if_neg (by rintro ⟨_,q⟩; exact h2 q)]
   rw [e2]
   exact sF [(520091,72015)] [] (Fh 91 [.els (List.map wdv (out ++ [afterF w (k.getD i default)]))] (Fl 65 wdv k (Ftb 66 (decide ((↑i : Int) < (↑k.length : Int))) (Fek 71 wdv k (↑i) i (Ftb 73 (k.getD i default != 0) (Fek 77 wdv k (↑i) i (Fc 79 (@ref12after w (k.getD i default) ‹_› ‹_› ‹_› ‹_›) (Ffb 81 (afterF w (k.getD i default) == 0) (Fs 90 (List.map wdv [afterF w (k.getD i default)]) (Fa (by (simp [*]; omega) : (List.map wdv out).length + (List.map wdv [afterF w (k.getD i default)]).length≤2 ^ 30) (Fa (by simp [List.map_take,List.map_drop,List.map_set,List.map_append,wdv,idv] : List.map wdv out ++ List.map wdv [afterF w (k.getD i default)] =List.map wdv (out ++ [afterF w (k.getD i default)])) (Fx 68 i Fz))))))))))))
end
theorem weakEnd (w : Work) (k roots out : List Int) : CSpec Tryz.prog (rndF Tryz.f69 0) (weakL w k roots out k.length).st (.ext 0) (Tg.st ⟨tm 122 [(6,.pt 8006 0 0),(7,.d (.sl 0 [])),(8,.d (.sl 0 [])),(9,.pt 8009 0 0),(10,int 0),(11,.pt 32011 0 0),(13,wordsV roots),(15,.ow 72015)],[(72015,.arr 56 1 (out.map wdv)),(32011,.box 100 w.cells),(8009,.box 95 [int 0,int 0,int 0,int 0,int 0,int 0]),(8006,.box 28 [int 0,int 0,.d (.sl 0 []),.d (.sl 0 []),int 0,int 0])],60⟩) := by
 exact sF [] [] (Fl 65 wdv k (Ffb 66 (decide ((↑k.length : Int) < (↑k.length : Int))) Fz))
theorem weakLoop (w : Work) (k roots : List Int) (hw : WOk w.heap.words) (hl : w.heap.words.length ≤ 4096) (hq : w.queue.length ≤ 1048576) (hk : k.length ≤ 1048575) (hx : ULe k) (hc : w.rep.cleared = 0) : CSpec Tryz.prog (blkF Tryz.f69 0) (Tg.st ⟨tm 122 [(2,wordsV k),(6,.pt 8006 0 0),(7,.d (.sl 0 [])),(8,.d (.sl 0 [])),(9,.pt 8009 0 0),(10,int 0),(11,.pt 32011 0 0),(13,wordsV roots),(15,.ow 72015),(16,int 0)],[(72015,.arr 56 1 []),(32011,.box 100 w.cells),(8009,.box 95 [int 0,int 0,int 0,int 0,int 0,int 0]),(8006,.box 28 [int 0,int 0,.d (.sl 0 []),.d (.sl 0 []),int 0,int 0])],60⟩) .nrm (Tg.st ⟨tm 122 [(6,.pt 8006 0 0),(7,.d (.sl 0 [])),(8,.d (.sl 0 [])),(9,.pt 8009 0 0),(10,int 0),(11,.pt 32011 0 0),(13,wordsV roots),(15,.ow 72015)],[(72015,.arr 56 1 ((weakO w k k.length).map wdv)),(32011,.box 100 (weakS w k k.length).cells),(8009,.box 95 [int 0,int 0,int 0,int 0,int 0,int 0]),(8006,.box 28 [int 0,int 0,.d (.sl 0 []),.d (.sl 0 []),int 0,int 0])],60⟩) := by
 refine loop_ext_of (S := fun i => (weakL (weakS w k i) k roots (weakO w k i) i).st) k.length (by kernel_rfl) (fun i hi => ?_) (weakEnd _ k roots _)
 have h := weakS_is w k i
 exact weakRound _ k roots _ i (by rw [h.1]; exact hw) (by rw [h.1]; exact hl) (by rw [h.2.2.2.1]; exact hq) hk (getD_mem hx i) (by rw [weakO_len]; omega) hi (by omega)
abbrev cB (h : Heap) (s k : List Int) : Work := weakS (allF (rootsF (beginW h) s).fst).fst k k.length
abbrev cA (h : Heap) (s k : List Int) : Work := fillN (cB h s k) (cB h s k).old.length
theorem decode_fill {n : Int} (h : 0 ≤ n ∧ n ≤ 255) : (decodeH (1 + 16 * n)).1.length = n := by
 have e : hdrOf (1 + 16 * n) = ⟨0,n,0⟩ := by
  simp only [hdrOf,Header.mk.injEq]
  omega
 have he := fill_obj h
 unfold decodeH
 rw [e,he]
 simp
theorem fill1_inv {w : Work} (h : Inv w) {x : Int} (hx : x ∈ w.old) : Inv (fill1 w x) := by
 unfold fill1
 split
 ·rename_i hc
  have hr := h.r x (List.mem_append_left _ hx)
  have hh := hlA_range w.heap.words x
  have hl : (objW ⟨0,(hdW w x).length,0⟩).length = (hlA w.heap.words x + 1).toNat := by
   show (objW ⟨0,hlA w.heap.words x,0⟩).length = _
   simp [objW]; omega
  have hin : 4096 ≤ x ∧ x - 4096 + (objW ⟨0,(hdW w x).length,0⟩).length ≤ w.heap.words.length := by omega
  have hlen : (writeA w.heap.words x (objW ⟨0,(hdW w x).length,0⟩)).1.length = w.heap.words.length := by
   unfold writeA
   rw [if_pos hin]
   exact spl_len (by omega)
  have := h.withWords hlen (fun a ha => ?_)
  ·exact ⟨this.L,this.r,this.s,this.f,this.z⟩
  ·by_cases he : a = x
   ·subst he
    have : hlA (writeA w.heap.words a (objW ⟨0,(hdW w a).length,0⟩)).1 a = hlA w.heap.words a := by
     have e1 := load_write_in (b := a) hin (by omega)
     unfold hlA at *
     rw [e1]
     have e2 : (objW ⟨0,(hdW w a).length,0⟩).getD (a - a).toNat 0 = 1 + 16 * (decodeH (loadA w.heap.words a).1).1.length := by
      rw [Int.sub_self]
      show (encodeH ⟨0,(hdW w a).length,0⟩).1 = _
      rw [fill_obj (show 0 ≤ (hdW w a).length ∧ (hdW w a).length ≤ 255 from hh)]
      rfl
     rw [e2]
     exact decode_fill hh
    omega
   ·have s1 := h.s a ha x (List.mem_append_left _ hx)
    have s2 := h.s x (List.mem_append_left _ hx) a ha
    have ha0 := hlA_range w.heap.words a
    have : hlA (writeA w.heap.words x (objW ⟨0,(hdW w x).length,0⟩)).1 a = hlA w.heap.words a := by
     have e1 := load_write_out (b := a) hin (by
      rcases Int.lt_or_lt_of_ne he with q | q
      ·exact Or.inl q
      ·have := s2 q; exact Or.inr (by omega))
     unfold hlA
     rw [e1]
    omega
 ·exact h
theorem fillN_inv {w : Work} (hw : FOk w) (h : Inv w) : ∀ k,k ≤ w.old.length → Inv (fillN w k)
 | 0,_ => h
 | k + 1,hk => fill1_inv (fillN_inv hw h k (by omega)) (by rw [(fillN_is w hw k).2.2.2.2.2.1]; exact getD_mem_iff.2 ⟨k,by omega,rfl⟩)
theorem weakS_inv {w : Work} (h : Inv w) (k : List Int) : ∀ i,Inv (weakS w k i)
 | 0 => h
 | i + 1 => by
  have ih := weakS_inv h k i
  exact ⟨ih.L,ih.r,ih.s,ih.f,ih.z⟩
theorem weakS_fok {w : Work} (h : FOk w) (k : List Int) : ∀ i,FOk (weakS w k i)
 | 0 => h
 | i + 1 => by
  have ih := weakS_fok h k i
  exact ⟨ih.words,ih.wl,ih.pl,ih.ol,ih.o,ih.tl,ih.ql⟩
def cW2 (h : Heap) (s : List Int) : Work := (allF (rootsF (beginW h) s).1).1
def cW3 (h : Heap) (s k : List Int) : Work := weakS (cW2 h s) k k.length
def cW4 (h : Heap) (s k : List Int) : Work := fillN (cW3 h s k) (cW3 h s k).old.length
def cW5 (h : Heap) (s k : List Int) : Work := freeW (cW4 h s k)
def endH (w : Work) : Heap := ⟨w.heap.conf,w.heap.words,w.heap.pages,1 - w.heap.space,if 0 < w.taken.length then lastT w else -1⟩
structure COk (h : Heap) (s k : List Int) : Prop where
 w2 : WkOk (cW2 h s)
 i2 : Inv (cW2 h s)
 x2 : Ext (beginW h) (cW2 h s)
 f3 : FOk (cW3 h s k)
 i3 : Inv (cW3 h s k)
 r3 : (cW3 h s k).rep.filled = 0 ∧ (cW3 h s k).rep.freed = 0
 f4 : FOk (cW4 h s k)
 i4 : Inv (cW4 h s k)
 h4 : (cW4 h s k).heap.conf = h.conf ∧ (cW4 h s k).heap.pages = (cW2 h s).heap.pages ∧ (cW4 h s k).heap.space = (cW2 h s).heap.space ∧ (cW4 h s k).taken = (cW2 h s).taken ∧ (cW4 h s k).rep.freed = 0
section
variable (h : Heap) (s k : List Int) (hw : WOk h.words) (hp : properB h = true) (e : (rootsF (beginW h) s).2.2 = 0) (e2 : (allF (rootsF (beginW h) s).1).2 = 0)
include hw hp e e2
theorem cOk : COk h s k := by
 have hb := begin_ok hw hp
 have hi := begin_inv hp
 have ho := rootsF_ok (roots := s) hb hi e
 have w2 : WkOk (cW2 h s) := allF_ok _ ho.1 e2
 have i2 := allF_inv ho.1 ho.2.1 e2
 have x2 : Ext (beginW h) (cW2 h s) := ho.2.2.1.trans i2.2
 have f3 : FOk (cW3 h s k) := weakS_fok w2.fok k _
 have i3 : Inv (cW3 h s k) := weakS_inv i2.1 k _
 obtain ⟨a1,a2,a3,a4,a5,a6,a7,a8⟩ := weakS_is (cW2 h s) k k.length
 have hr0 := w2.r0
 have r3 : (cW3 h s k).rep.filled = 0 ∧ (cW3 h s k).rep.freed = 0 := ⟨a5.trans hr0.1,a6.trans hr0.2.1⟩
 obtain ⟨b0,b1,b2,b3,b4,b5,b6,b7,b8,b9,b10,b11⟩ := fillN_is (cW3 h s k) f3 (cW3 h s k).old.length
 refine ⟨w2,i2.1,x2,f3,i3,r3,b0,fillN_inv f3 i3 _ (Nat.le_refl _), ?_, ?_, ?_, ?_, ?_⟩
 ·show (fillN (cW3 h s k) (cW3 h s k).old.length).heap.conf = _
  rw [b1]
  show (weakS (cW2 h s) k k.length).heap.conf = _
  rw [a1]
  exact x2.c
 ·show (fillN (cW3 h s k) (cW3 h s k).old.length).heap.pages = _
  rw [b2]
  show (weakS (cW2 h s) k k.length).heap.pages = _
  rw [a1]
 ·show (fillN (cW3 h s k) (cW3 h s k).old.length).heap.space = _
  rw [b3]
  show (weakS (cW2 h s) k k.length).heap.space = _
  rw [a1]
 ·show (fillN (cW3 h s k) (cW3 h s k).old.length).taken = _
  rw [b6]
  exact a3
 ·show (fillN (cW3 h s k) (cW3 h s k).old.length).rep.freed = _
  rw [b8]
  exact r3.2
theorem cOk5 : (cW4 h s k).heap.pages.length ≤ 64 ∧ 0 ≤ (cW4 h s k).heap.conf.pw ∧ (cW4 h s k).heap.conf.pw ≤ 64 ∧ (cW4 h s k).heap.pages.length * (cW4 h s k).heap.conf.pw.toNat ≤ (cW4 h s k).heap.words.length ∧ (cW4 h s k).heap.words.length ≤ 4096 := by
 have c := cOk h s k hw hp e e2
 have po := proper_ok hp
 have hL := c.i4.L
 have hpl := c.w2.pl
 have hc2 := c.x2.c
 have hc : (cW2 h s).heap.conf = h.conf := hc2
 rw [hc] at hpl
 rw [c.h4.1] at hL
 have hl4 := c.f4.wl
 rw [c.h4.1,c.h4.2.1]
 refine ⟨by omega,by omega,by omega, ?_,hl4⟩
 have : (((cW2 h s).heap.pages.length * h.conf.pw.toNat : Nat) : Int) = h.conf.pw * h.conf.pg := by
  rw [Int.natCast_mul,Int.toNat_of_nonneg (by omega),hpl,Int.mul_comm]
 omega
end
def collectF (h : Heap) (s k : List Int) : Heap × List Int × List Int × Rep × Int :=
 if properB h = true then
  (if refersF h s = true ∧ refersF h k = true then
   (if (rootsF (beginW h) s).2.2 = 0 then
    (if (allF (rootsF (beginW h) s).1).2 = 0 then (endH (cW5 h s k),(rootsF (beginW h) s).2.1,weakO (cW2 h s) k k.length,(cW5 h s k).rep,0)
    else (noHeap,[],[],rep0,(allF (rootsF (beginW h) s).1).2))
   else (noHeap,[],[],rep0,(rootsF (beginW h) s).2.2))
  else (noHeap,[],[],rep0,19))
 else (noHeap,[],[],rep0,1)
section
variable (h : Heap) (s k : List Int) (hw : WOk h.words) (hs : s.length ≤ 1048575) (hk : k.length ≤ 1048575) (hs2 : ULe s) (hk2 : ULe k)
include hw hs hk hs2 hk2
theorem collectE (hp : properB h = true) (hr : refersF h s = true) (hr' : refersF h k = true) (e : (rootsF (beginW h) s).2.2 = 0) (e2 : (allF (rootsF (beginW h) s).1).2 = 0) : GSpec Tryz.prog 69 [h.av,wordsV s,wordsV k] false (.tu [(endH (cW5 h s k)).av,wordsV (rootsF (beginW h) s).2.1,wordsV (weakO (cW2 h s) k k.length),.ag (cW5 h s k).rep.cells,int 0]) [] := by
 have hb := begin_ok hw hp
 have hi := begin_inv hp
 have hg := refersF_good hr
 have ho := rootsF_ok (roots := s) hb hi e
 have ho1 := ho.1
 have ho4 := ho.2.2.2.2
 have c := cOk h s k hw hp e e2
 obtain ⟨q1,q2,q3,q4,q5⟩ := cOk5 h s k hw hp e e2
 have w2 := c.w2
 have f3 := c.f3
 have r3 := c.r3.1
 obtain ⟨g1,g2,g3,g4,g5⟩ := c.h4
 have v1 := w2.words
 have v2 := w2.wl
 have v3 := w2.mu
 have v4 := w2.tl
 have v5 := w2.sp
 have v6 := w2.r0.2.2
 have v7 := congrArg List.length g4
 have z1 : (freeW (cW4 h s k)).taken = (cW4 h s k).taken := rfl
 have v8 := congrArg List.length z1
 have z2 : (freeW (cW4 h s k)).heap.space = (cW4 h s k).heap.space := rfl
 clear c
 unfold cW4 at *
 unfold cW3 at *
 unfold cW2 at *
 have Q0 {h_ c_ p_} (r_ : Fq h_ c_ p_) := Fc 20 (@ref4Proper h) (Ffb 21 (!properB h) (Fc 26 (@ref9Refers h s ‹_› (by omega)) (FcG 31 (!!refersF h s) (fun hg => by (try simp only [bs] at hg); exact @ref9Refers h k (by (try simp only [bs] at hg); assumption) (by (try simp only [bs] at hg); omega)) (Ff 33 (by simp only [bs, *,true_or,or_true,true_and,and_true,not_true_eq_false,not_false_eq_true,Bool.true_eq_false,Bool.false_eq_true] : (!refersF h s||!refersF h k)=false) (Fc 38 (@ref10BeginC h ‹_› ‹_› ‹_›) (Fc 44 (@ref11Roots (beginW h) s ‹_› ‹_› ‹_›) (Ffb 49 ((rootsF (beginW h) s).snd.snd != 0) (Fc 55 (@ref11All ((rootsF (beginW h) s).fst) ‹_›) (Ffb 59 ((allF (rootsF (beginW h) s).fst).snd != 0) (Fu (@weakLoop ((allF (rootsF (beginW h) s).fst).fst) k ((rootsF (beginW h) s).snd.fst) ‹_› ‹_› (by omega) ‹_› ‹_› ‹_›) (Fc 93 (@ref12fill (weakS (allF (rootsF (beginW h) s).fst).fst k k.length) ‹_› ‹_›) (Fc 94 (@ref12free (fillN (weakS (allF (rootsF (beginW h) s).fst).fst k k.length) (weakS (allF (rootsF (beginW h) s).fst).fst k k.length).old.length) ‹_› (by omega) ‹_› ‹_› ‹_›) (Fi 98 (1 - (freeW (fillN (weakS (allF (rootsF (beginW h) s).fst).fst k k.length) (weakS (allF (rootsF (beginW h) s).fst).fst k k.length).old.length)).heap.space) (Fl 105 idv (freeW (fillN (weakS (allF (rootsF (beginW h) s).fst).fst k k.length) (weakS (allF (rootsF (beginW h) s).fst).fst k k.length).old.length)).taken r_))))))))))))))
 rcases bb (decide (0 < (↑(freeW (fillN (weakS (allF (rootsF (beginW h) s).fst).fst k k.length) (weakS (allF (rootsF (beginW h) s).fst).fst k k.length).old.length)).taken.length : Int))) with hc0 | hc0<;>have hc0p:=hc0<;>simp only [bs] at hc0p
 ·exact gF [] Tryz.func69 [false,false,false,false,false,false,false,false,false,false,false,false,false,false,false,false,false,false,true] (Fh 15 [.own] (Q0 (Ft 107 hc0 (Fi 111 ((↑(freeW (fillN (weakS (allF (rootsF (beginW h) s).fst).fst k k.length) (weakS (allF (rootsF (beginW h) s).fst).fst k k.length).old.length)).taken.length : Int) - 1) (Fek 112 idv ((freeW (fillN (weakS (allF (rootsF (beginW h) s).fst).fst k k.length) (weakS (allF (rootsF (beginW h) s).fst).fst k k.length).old.length)).taken) ((↑(freeW (fillN (weakS (allF (rootsF (beginW h) s).fst).fst k k.length) (weakS (allF (rootsF (beginW h) s).fst).fst k k.length).old.length)).taken.length : Int) - 1) (((↑(freeW (fillN (weakS (allF (rootsF (beginW h) s).fst).fst k k.length) (weakS (allF (rootsF (beginW h) s).fst).fst k k.length).old.length)).taken.length : Int) - 1).toNat) (Fr ((endH (cW5 h s k)).conf.pw) (Fr ((endH (cW5 h s k)).conf.pg) (Fr (List.map wdv (endH (cW5 h s k)).words) (Fr (List.map Page.dv (endH (cW5 h s k)).pages) (Fr ((endH (cW5 h s k)).space) (Fa (by (simp only [endH,cW5,cW4,cW3,cW2,lastT]; (repeat' split) <;> first | rfl | omega | (exfalso; omega) | simp_all) : (freeW (fillN (weakS (allF (rootsF (beginW h) s).fst).fst k k.length) (weakS (allF (rootsF (beginW h) s).fst).fst k k.length).old.length)).taken.getD ((↑(freeW (fillN (weakS (allF (rootsF (beginW h) s).fst).fst k k.length) (weakS (allF (rootsF (beginW h) s).fst).fst k k.length).old.length)).taken.length : Int) - 1).toNat default =(endH (cW5 h s k)).bump) (Fr (List.map wdv (rootsF (beginW h) s).snd.fst) (Fr (List.map wdv (weakO (allF (rootsF (beginW h) s).fst).fst k k.length)) (Fr ((cW5 h s k).rep.copied) (Fr ((cW5 h s k).rep.kept) (Fr ((cW5 h s k).rep.filled) (Fr ((cW5 h s k).rep.freed) (Fr ((cW5 h s k).rep.cleared) (Fr ((cW5 h s k).rep.steps) (Fr (0 : Int) Fz))))))))))))))))))))
 ·exact gF [] Tryz.func69 [false,false,false,false,false,false,false,false,false,false,false,false,false,false,false,false,false,false,true] (Fh 15 [.own] (Q0 (Ff 107 hc0 (Fr ((endH (cW5 h s k)).conf.pw) (Fr ((endH (cW5 h s k)).conf.pg) (Fr (List.map wdv (endH (cW5 h s k)).words) (Fr (List.map Page.dv (endH (cW5 h s k)).pages) (Fr ((endH (cW5 h s k)).space) (Fa (by (simp [endH,cW5,cW4,cW3,cW2,lastT, *]; omega) : (-1 : Int) =(endH (cW5 h s k)).bump) (Fr (List.map wdv (rootsF (beginW h) s).snd.fst) (Fr (List.map wdv (weakO (allF (rootsF (beginW h) s).fst).fst k k.length)) (Fr ((cW5 h s k).rep.copied) (Fr ((cW5 h s k).rep.kept) (Fr ((cW5 h s k).rep.filled) (Fr ((cW5 h s k).rep.freed) (Fr ((cW5 h s k).rep.cleared) (Fr ((cW5 h s k).rep.steps) (Fr (0 : Int) Fz))))))))))))))))))
end
def pinB (w : WorldM) (i : Nat) (n : Int) : WorldM := ⟨⟨w.heap.conf,w.heap.words,w.heap.pages.set i ⟨(w.heap.pages.getD i default).kind,(w.heap.pages.getD i default).space,(w.heap.pages.getD i default).used,(w.heap.pages.getD i default).pins + n⟩,w.heap.space,w.heap.bump⟩,w.strong,w.weak⟩
def pinI (w : WorldM) (t : Tape) : Nat := (ofA w.heap.conf (w.pick t)).1.toNat
def WorldM.pin (w : WorldM) (t : Tape) : WorldM :=
  if (ofA w.heap.conf (w.pick t)).2.2 = 0 then
    (if 0 < (w.heap.pages.getD (pinI w t) default).pins ∧ (w.pickT t).next 2 = 0 then pinB w (pinI w t) (-1)
     else if 0 < (w.heap.pages.getD (pinI w t) default).pins ∨ (w.heap.pages.getD (pinI w t) default).kind = 2 ∨ (crowd w.heap.pages : Int) < w.heap.conf.pg / 4 then pinB w (pinI w t) 1 else w) else w
def WorldM.pinT (w : WorldM) (t : Tape) : Tape := if (ofA w.heap.conf (w.pick t)).2.2 = 0 ∧ 0 < (w.heap.pages.getD (pinI w t) default).pins then (w.pickT t).step 2 else w.pickT t
theorem worldPin (w : WorldM) (t : Tape) (hw : WMok w) (ht : TOk t) (ha : t.at' ≤ 1000000) (hv : validB w.heap.conf = true) (hp : (w.heap.pages.length : Int) = w.heap.conf.pg) (hpn : ∀ j,j < w.heap.pages.length → -1048576 ≤ (w.heap.pages.getD j default).pins ∧ (w.heap.pages.getD j default).pins ≤ 4294967296) : LentSpec Tryz.prog 160 [w.av,.pt 0 0 0] [t.b] (w.pin t).av [(w.pinT t).b] := by
 have hb := validB_iff.1 hv
 have s1 := pickT_at w t
 have k1 := tok_of ht s1.2.2 (by omega) (by omega)
 have p1 := pick_range hw t
 have q1 := hpn (pinI w t)
 have hcr := crowdN_le w.heap.pages w.heap.pages.length
 unfold pinI at q1
 have o1 := fun e => ofA_ok (a := w.pick t) hv e
 by_cases e : (ofA w.heap.conf (w.pick t)).2.2 = 0
 ·have o2 := o1 e
  by_cases c1 : 0 < (w.heap.pages.getD (ofA w.heap.conf (w.pick t)).1.toNat default).pins
  ·have eT : w.pinT t = (w.pickT t).step 2 := by rw [WorldM.pinT,if_pos ⟨e,c1⟩]
   by_cases c2 : (w.pickT t).next 2 = 0
   ·have eP : w.pin t = ⟨⟨w.heap.conf,w.heap.words,w.heap.pages.set (ofA w.heap.conf (w.pick t)).1.toNat ⟨(w.heap.pages.getD (ofA w.heap.conf (w.pick t)).1.toNat default).kind,(w.heap.pages.getD (ofA w.heap.conf (w.pick t)).1.toNat default).space,(w.heap.pages.getD (ofA w.heap.conf (w.pick t)).1.toNat default).used,(w.heap.pages.getD (ofA w.heap.conf (w.pick t)).1.toNat default).pins - 1⟩,w.heap.space,w.heap.bump⟩,w.strong,w.weak⟩ := by rw [WorldM.pin,if_pos e,if_pos ⟨c1,c2⟩]; rfl
    rw [eP,eT]
    exact lF Tryz.func160 [] (Fh 42 [.br true] (Fh 37 [.br true] (Fh 51 [.el (w.heap.pages.getD (ofA w.heap.conf (w.pick t)).fst.toNat default).dv] (Fp 12 (@worldPick w t ‹_› ‹_› (by omega)) (Fc 18 (@refOf w.heap.conf (w.pick t) (by omega) (by omega)) (Ffb 23 ((ofA w.heap.conf (w.pick t)).snd.snd != 0) (Fs 25 (List.map Page.dv []) (Fa (by (simp [*]; omega) : (List.map Page.dv []).length + (List.map Page.dv w.heap.pages).length≤2 ^ 30) (Fs 29 (List.map Page.dv w.heap.pages) (Fm 41 Page.dv w.heap.pages ((ofA w.heap.conf (w.pick t)).fst) ((ofA w.heap.conf (w.pick t)).fst.toNat) (Fb (decide (0 < (w.heap.pages.getD (ofA w.heap.conf (w.pick t)).fst.toNat default).pins)=true) (Fp 45 (@tapeNext (w.pickT t) (2) ‹_› (by omega) (by omega)) (Fb (((w.pickT t).next (2 :Int) == 0)=true) (Fa (by exact el_of (by omega) : (List.map Page.dv w.heap.pages)[(ofA w.heap.conf (w.pick t)).fst.toNat]? = some (w.heap.pages.getD (ofA w.heap.conf (w.pick t)).fst.toNat default).dv) (Fi 52 ((w.heap.pages.getD (ofA w.heap.conf (w.pick t)).fst.toNat default).pins - 1) (Fa (by exact el_of (by omega) : (List.map Page.dv w.heap.pages)[(ofA w.heap.conf (w.pick t)).fst.toNat]? = some (w.heap.pages.getD (ofA w.heap.conf (w.pick t)).fst.toNat default).dv) (FS 10054 Page.dv w.heap.pages ((ofA w.heap.conf (w.pick t)).fst.toNat) (Page.mk (w.heap.pages.getD (ofA w.heap.conf (w.pick t)).fst.toNat default).kind (w.heap.pages.getD (ofA w.heap.conf (w.pick t)).fst.toNat default).space (w.heap.pages.getD (ofA w.heap.conf (w.pick t)).fst.toNat default).used ((w.heap.pages.getD (ofA w.heap.conf (w.pick t)).fst.toNat default).pins - 1)) ((w.heap.pages.getD (ofA w.heap.conf (w.pick t)).fst.toNat default).dv) Fz)))))))))))))))))
   ·have eP : w.pin t = ⟨⟨w.heap.conf,w.heap.words,w.heap.pages.set (ofA w.heap.conf (w.pick t)).1.toNat ⟨(w.heap.pages.getD (ofA w.heap.conf (w.pick t)).1.toNat default).kind,(w.heap.pages.getD (ofA w.heap.conf (w.pick t)).1.toNat default).space,(w.heap.pages.getD (ofA w.heap.conf (w.pick t)).1.toNat default).used,(w.heap.pages.getD (ofA w.heap.conf (w.pick t)).1.toNat default).pins + 1⟩,w.heap.space,w.heap.bump⟩,w.strong,w.weak⟩ := by rw [WorldM.pin,if_pos e,if_neg (fun q => c2 q.2),if_pos (.inl c1)]; rfl
    rw [eP,eT]
    exact lF Tryz.func160 [] (Fh 42 [.br true] (Fh 37 [.br false] (Fh 59 [.el (w.heap.pages.getD (ofA w.heap.conf (w.pick t)).fst.toNat default).dv] (Fh 65 [.el (w.heap.pages.getD (ofA w.heap.conf (w.pick t)).fst.toNat default).dv] (Fh 76 [.int (w.heap.conf.pg / 4)] (Fh 55 [.br true] (Fh 82 [.el (w.heap.pages.getD (ofA w.heap.conf (w.pick t)).fst.toNat default).dv] (Fp 12 (@worldPick w t ‹_› ‹_› (by omega)) (Fc 18 (@refOf w.heap.conf (w.pick t) (by omega) (by omega)) (Ffb 23 ((ofA w.heap.conf (w.pick t)).snd.snd != 0) (Fs 25 (List.map Page.dv []) (Fa (by (simp [*]; omega) : (List.map Page.dv []).length + (List.map Page.dv w.heap.pages).length≤2 ^ 30) (Fs 29 (List.map Page.dv w.heap.pages) (Fm 41 Page.dv w.heap.pages ((ofA w.heap.conf (w.pick t)).fst) ((ofA w.heap.conf (w.pick t)).fst.toNat) (Fb (decide (0 < (w.heap.pages.getD (ofA w.heap.conf (w.pick t)).fst.toNat default).pins)=true) (Fp 45 (@tapeNext (w.pickT t) (2) ‹_› (by omega) (by omega)) (Fb (((w.pickT t).next (2 :Int) == 0)=false) (Fa (by exact el_of (by omega) : (List.map Page.dv w.heap.pages)[(ofA w.heap.conf (w.pick t)).fst.toNat]? = some (w.heap.pages.getD (ofA w.heap.conf (w.pick t)).fst.toNat default).dv) (Fa (by intro hg; (try simp only [bs] at hg); exact el_of (by omega) : (!decide (0 < (w.heap.pages.getD (ofA w.heap.conf (w.pick t)).fst.toNat default).pins)) =true→(List.map Page.dv w.heap.pages)[(ofA w.heap.conf (w.pick t)).fst.toNat]? = some (w.heap.pages.getD (ofA w.heap.conf (w.pick t)).fst.toNat default).dv) (FcG 71 (!(decide (0 < (w.heap.pages.getD (ofA w.heap.conf (w.pick t)).fst.toNat default).pins)||(w.heap.pages.getD (ofA w.heap.conf (w.pick t)).fst.toNat default).kind == 2)) (fun hg => by (try simp only [bs] at hg); exact @madeCrowd w.heap (by (try simp only [bs] at hg); omega)) (Fa (by intro hg; (try simp only [bs] at hg); rw [wrapI' (by omega) (by omega)]; omega : (!(decide (0 < (w.heap.pages.getD (ofA w.heap.conf (w.pick t)).fst.toNat default).pins)||(w.heap.pages.getD (ofA w.heap.conf (w.pick t)).fst.toNat default).kind == 2)) =true→IntKind.i64.wrap (w.heap.conf.pg.tdiv 4) =w.heap.conf.pg / 4) (Fa (by intro hg; (try simp only [bs] at hg); omega : (!(decide (0 < (w.heap.pages.getD (ofA w.heap.conf (w.pick t)).fst.toNat default).pins)||(w.heap.pages.getD (ofA w.heap.conf (w.pick t)).fst.toNat default).kind == 2)) =true→(4 :Int) =0→False) (Fb ((decide (0 < (w.heap.pages.getD (ofA w.heap.conf (w.pick t)).fst.toNat default).pins)||(w.heap.pages.getD (ofA w.heap.conf (w.pick t)).fst.toNat default).kind == 2||decide ((↑(crowd w.heap.pages) : Int) < w.heap.conf.pg / 4))=true) (Fa (by exact el_of (by omega) : (List.map Page.dv w.heap.pages)[(ofA w.heap.conf (w.pick t)).fst.toNat]? = some (w.heap.pages.getD (ofA w.heap.conf (w.pick t)).fst.toNat default).dv) (Fi 83 ((w.heap.pages.getD (ofA w.heap.conf (w.pick t)).fst.toNat default).pins + 1) (Fa (by exact el_of (by omega) : (List.map Page.dv w.heap.pages)[(ofA w.heap.conf (w.pick t)).fst.toNat]? = some (w.heap.pages.getD (ofA w.heap.conf (w.pick t)).fst.toNat default).dv) (FS 10085 Page.dv w.heap.pages ((ofA w.heap.conf (w.pick t)).fst.toNat) (Page.mk (w.heap.pages.getD (ofA w.heap.conf (w.pick t)).fst.toNat default).kind (w.heap.pages.getD (ofA w.heap.conf (w.pick t)).fst.toNat default).space (w.heap.pages.getD (ofA w.heap.conf (w.pick t)).fst.toNat default).used ((w.heap.pages.getD (ofA w.heap.conf (w.pick t)).fst.toNat default).pins + 1)) ((w.heap.pages.getD (ofA w.heap.conf (w.pick t)).fst.toNat default).dv) Fz)))))))))))))))))))))))))))
  ·have eT : w.pinT t = w.pickT t := by rw [WorldM.pinT,if_neg (fun q => c1 q.2)]
   by_cases c3 : (w.heap.pages.getD (ofA w.heap.conf (w.pick t)).1.toNat default).kind = 2 ∨ (crowd w.heap.pages : Int) < w.heap.conf.pg / 4
   ·have eP : w.pin t = ⟨⟨w.heap.conf,w.heap.words,w.heap.pages.set (ofA w.heap.conf (w.pick t)).1.toNat ⟨(w.heap.pages.getD (ofA w.heap.conf (w.pick t)).1.toNat default).kind,(w.heap.pages.getD (ofA w.heap.conf (w.pick t)).1.toNat default).space,(w.heap.pages.getD (ofA w.heap.conf (w.pick t)).1.toNat default).used,(w.heap.pages.getD (ofA w.heap.conf (w.pick t)).1.toNat default).pins + 1⟩,w.heap.space,w.heap.bump⟩,w.strong,w.weak⟩ := by rw [WorldM.pin,if_pos e,if_neg (fun q => c1 q.1),if_pos (.inr c3)]; rfl
    rw [eP,eT]
    exact lF Tryz.func160 [] (Fh 42 [.br false] (Fh 45 [.lent (int ((w.pickT t).next 2)) [((w.pickT t).step 2).b]] (Fh 59 [.el (w.heap.pages.getD (ofA w.heap.conf (w.pick t)).fst.toNat default).dv] (Fh 65 [.el (w.heap.pages.getD (ofA w.heap.conf (w.pick t)).fst.toNat default).dv] (Fh 76 [.int (w.heap.conf.pg / 4)] (Fh 55 [.br true] (Fh 82 [.el (w.heap.pages.getD (ofA w.heap.conf (w.pick t)).fst.toNat default).dv] (Fp 12 (@worldPick w t ‹_› ‹_› (by omega)) (Fc 18 (@refOf w.heap.conf (w.pick t) (by omega) (by omega)) (Ffb 23 ((ofA w.heap.conf (w.pick t)).snd.snd != 0) (Fs 25 (List.map Page.dv []) (Fa (by (simp [*]; omega) : (List.map Page.dv []).length + (List.map Page.dv w.heap.pages).length≤2 ^ 30) (Fs 29 (List.map Page.dv w.heap.pages) (Fm 41 Page.dv w.heap.pages ((ofA w.heap.conf (w.pick t)).fst) ((ofA w.heap.conf (w.pick t)).fst.toNat) (Fb (decide (0 < (w.heap.pages.getD (ofA w.heap.conf (w.pick t)).fst.toNat default).pins)=false) (Fa (by exact el_of (by omega) : (List.map Page.dv w.heap.pages)[(ofA w.heap.conf (w.pick t)).fst.toNat]? = some (w.heap.pages.getD (ofA w.heap.conf (w.pick t)).fst.toNat default).dv) (Fa (by intro hg; (try simp only [bs] at hg); exact el_of (by omega) : (!decide (0 < (w.heap.pages.getD (ofA w.heap.conf (w.pick t)).fst.toNat default).pins)) =true→(List.map Page.dv w.heap.pages)[(ofA w.heap.conf (w.pick t)).fst.toNat]? = some (w.heap.pages.getD (ofA w.heap.conf (w.pick t)).fst.toNat default).dv) (FcG 71 (!(decide (0 < (w.heap.pages.getD (ofA w.heap.conf (w.pick t)).fst.toNat default).pins)||(w.heap.pages.getD (ofA w.heap.conf (w.pick t)).fst.toNat default).kind == 2)) (fun hg => by (try simp only [bs] at hg); exact @madeCrowd w.heap (by (try simp only [bs] at hg); omega)) (Fa (by intro hg; (try simp only [bs] at hg); rw [Int.tdiv_eq_ediv_of_nonneg (by omega),wrapI' (by omega) (by omega)] : (!(decide (0 < (w.heap.pages.getD (ofA w.heap.conf (w.pick t)).fst.toNat default).pins)||(w.heap.pages.getD (ofA w.heap.conf (w.pick t)).fst.toNat default).kind == 2)) =true→IntKind.i64.wrap (w.heap.conf.pg.tdiv 4) =w.heap.conf.pg / 4) (Fa (by intro hg; (try simp only [bs] at hg); omega : (!(decide (0 < (w.heap.pages.getD (ofA w.heap.conf (w.pick t)).fst.toNat default).pins)||(w.heap.pages.getD (ofA w.heap.conf (w.pick t)).fst.toNat default).kind == 2)) =true→(4 :Int) =0→False) (Fb ((decide (0 < (w.heap.pages.getD (ofA w.heap.conf (w.pick t)).fst.toNat default).pins)||(w.heap.pages.getD (ofA w.heap.conf (w.pick t)).fst.toNat default).kind == 2||decide ((↑(crowd w.heap.pages) : Int) < w.heap.conf.pg / 4))=true) (Fa (by exact el_of (by omega) : (List.map Page.dv w.heap.pages)[(ofA w.heap.conf (w.pick t)).fst.toNat]? = some (w.heap.pages.getD (ofA w.heap.conf (w.pick t)).fst.toNat default).dv) (Fi 83 ((w.heap.pages.getD (ofA w.heap.conf (w.pick t)).fst.toNat default).pins + 1) (Fa (by exact el_of (by omega) : (List.map Page.dv w.heap.pages)[(ofA w.heap.conf (w.pick t)).fst.toNat]? = some (w.heap.pages.getD (ofA w.heap.conf (w.pick t)).fst.toNat default).dv) (FS 10085 Page.dv w.heap.pages ((ofA w.heap.conf (w.pick t)).fst.toNat) (Page.mk (w.heap.pages.getD (ofA w.heap.conf (w.pick t)).fst.toNat default).kind (w.heap.pages.getD (ofA w.heap.conf (w.pick t)).fst.toNat default).space (w.heap.pages.getD (ofA w.heap.conf (w.pick t)).fst.toNat default).used ((w.heap.pages.getD (ofA w.heap.conf (w.pick t)).fst.toNat default).pins + 1)) ((w.heap.pages.getD (ofA w.heap.conf (w.pick t)).fst.toNat default).dv) Fz)))))))))))))))))))))))))
   ·have eP : w.pin t = w := by rw [WorldM.pin,if_pos e,if_neg (fun q => c1 q.1),if_neg (fun q => q.elim c1 c3)]
    rw [eP,eT]
    exact lF Tryz.func160 [] (Fh 42 [.br false] (Fh 45 [.lent (int ((w.pickT t).next 2)) [((w.pickT t).step 2).b]] (Fh 59 [.el (w.heap.pages.getD (ofA w.heap.conf (w.pick t)).fst.toNat default).dv] (Fh 65 [.el (w.heap.pages.getD (ofA w.heap.conf (w.pick t)).fst.toNat default).dv] (Fh 76 [.int (w.heap.conf.pg / 4)] (Fh 55 [.br false] (Fp 12 (@worldPick w t ‹_› ‹_› (by omega)) (Fc 18 (@refOf w.heap.conf (w.pick t) (by omega) (by omega)) (Ffb 23 ((ofA w.heap.conf (w.pick t)).snd.snd != 0) (Fs 25 (List.map Page.dv []) (Fa (by (simp [*]; omega) : (List.map Page.dv []).length + (List.map Page.dv w.heap.pages).length≤2 ^ 30) (Fs 29 (List.map Page.dv w.heap.pages) (Fm 41 Page.dv w.heap.pages ((ofA w.heap.conf (w.pick t)).fst) ((ofA w.heap.conf (w.pick t)).fst.toNat) (Fb (decide (0 < (w.heap.pages.getD (ofA w.heap.conf (w.pick t)).fst.toNat default).pins)=false) (Fa (by exact el_of (by omega) : (List.map Page.dv w.heap.pages)[(ofA w.heap.conf (w.pick t)).fst.toNat]? = some (w.heap.pages.getD (ofA w.heap.conf (w.pick t)).fst.toNat default).dv) (Fa (by intro hg; (try simp only [bs] at hg); exact el_of (by omega) : (!decide (0 < (w.heap.pages.getD (ofA w.heap.conf (w.pick t)).fst.toNat default).pins)) =true→(List.map Page.dv w.heap.pages)[(ofA w.heap.conf (w.pick t)).fst.toNat]? = some (w.heap.pages.getD (ofA w.heap.conf (w.pick t)).fst.toNat default).dv) (FcG 71 (!(decide (0 < (w.heap.pages.getD (ofA w.heap.conf (w.pick t)).fst.toNat default).pins)||(w.heap.pages.getD (ofA w.heap.conf (w.pick t)).fst.toNat default).kind == 2)) (fun hg => by (try simp only [bs] at hg); exact @madeCrowd w.heap (by (try simp only [bs] at hg); omega)) (Fa (by intro hg; (try simp only [bs] at hg); rw [Int.tdiv_eq_ediv_of_nonneg (by omega),wrapI' (by omega) (by omega)] : (!(decide (0 < (w.heap.pages.getD (ofA w.heap.conf (w.pick t)).fst.toNat default).pins)||(w.heap.pages.getD (ofA w.heap.conf (w.pick t)).fst.toNat default).kind == 2)) =true→IntKind.i64.wrap (w.heap.conf.pg.tdiv 4) =w.heap.conf.pg / 4) (Fa (by intro hg; (try simp only [bs] at hg); omega : (!(decide (0 < (w.heap.pages.getD (ofA w.heap.conf (w.pick t)).fst.toNat default).pins)||(w.heap.pages.getD (ofA w.heap.conf (w.pick t)).fst.toNat default).kind == 2)) =true→(4 :Int) =0→False) (Fb ((decide (0 < (w.heap.pages.getD (ofA w.heap.conf (w.pick t)).fst.toNat default).pins)||(w.heap.pages.getD (ofA w.heap.conf (w.pick t)).fst.toNat default).kind == 2||decide ((↑(crowd w.heap.pages) : Int) < w.heap.conf.pg / 4))=false) Fz))))))))))))))))))))
 ·have eP : w.pin t = w := by rw [WorldM.pin,if_neg e]
  have eT : w.pinT t = w.pickT t := by rw [WorldM.pinT,if_neg (fun q => e q.1)]
  rw [eP,eT]
  exact lF Tryz.func160 [] (Fp 12 (@worldPick w t ‹_› ‹_› (by omega)) (Fc 18 (@refOf w.heap.conf (w.pick t) (by omega) (by omega)) (Ftb 23 ((ofA w.heap.conf (w.pick t)).snd.snd != 0) Fz)))
theorem ref12Collect (h : Heap) (s k : List Int) (hw : WOk h.words) (hs : s.length ≤ 1048575) (hk : k.length ≤ 1048575) (hs2 : ULe s) (hk2 : ULe k) : GSpec Tryz.prog 69 [h.av,wordsV s,wordsV k] false (.tu [(collectF h s k).1.av,wordsV (collectF h s k).2.1,wordsV (collectF h s k).2.2.1,.ag (collectF h s k).2.2.2.1.cells,int (collectF h s k).2.2.2.2]) [] := by
 unfold collectF
 by_cases hp : properB h = true
 ·rw [if_pos hp]
  by_cases hr : refersF h s = true ∧ refersF h k = true
  ·rw [if_pos hr]
   by_cases e : (rootsF (beginW h) s).2.2 = 0
   ·rw [if_pos e]
    by_cases e2 : (allF (rootsF (beginW h) s).1).2 = 0
    ·rw [if_pos e2]
     exact collectE h s k hw hs hk hs2 hk2 hp hr.1 hr.2 e e2
    ·rw [if_neg e2]
     exact collectD h s k hw hs hk hs2 hk2 hp hr.1 hr.2 e e2
   ·rw [if_neg e]
    exact collectC h s k hw hs hk hs2 hk2 hp hr.1 hr.2 e
  ·rw [if_neg hr]
   refine collectB h s k hw hs hk hs2 hk2 hp ?_
   by_cases q : refersF h s = true
   ·refine Or.inr ?_
    have : ¬ refersF h k = true := fun q2 => hr ⟨q,q2⟩
    simpa using this
   ·exact Or.inl (by simpa using q)
 ·rw [if_neg hp]
  exact collectA h s k hw hs hk hs2 hk2 (by simpa using hp)
def WorldM.collect (w : WorldM) : WorldM := if (collectF w.heap w.strong w.weak).2.2.2.2 = 0 then ⟨(collectF w.heap w.strong w.weak).1,(collectF w.heap w.strong w.weak).2.1,(collectF w.heap w.strong w.weak).2.2.1⟩ else w
theorem worldCollect (w : WorldM) (hw : WOk w.heap.words) (hs : w.strong.length ≤ 1048575) (hk : w.weak.length ≤ 1048575) (hs2 : ULe w.strong) (hk2 : ULe w.weak) : GSpec Tryz.prog 162 [w.av] false w.collect.av [] := by
 by_cases e : (collectF w.heap w.strong w.weak).2.2.2.2 = 0
 ·have e7 : w.collect = ⟨(collectF w.heap w.strong w.weak).1,(collectF w.heap w.strong w.weak).2.1,(collectF w.heap w.strong w.weak).2.2.1⟩ := by rw [WorldM.collect,if_pos e]
  rw [e7]
  exact gF [] Tryz.func162 [] (Fc 15 (@ref12Collect w.heap w.strong w.weak ‹_› ‹_› ‹_› ‹_› ‹_›) (Ftb 22 ((collectF w.heap w.strong w.weak).snd.snd.snd.snd == 0) Fz))
 ·have e7 : w.collect = w := by rw [WorldM.collect,if_neg e]
  rw [e7]
  exact gF [] Tryz.func162 [] (Fc 15 (@ref12Collect w.heap w.strong w.weak ‹_› ‹_› ‹_› ‹_› ‹_›) (Ffb 22 ((collectF w.heap w.strong w.weak).snd.snd.snd.snd == 0) Fz))
section
variable (P : Work → Prop) (hf : ∀ w r,WkOk w → Inv w → P w → (w.fwd r).2.2 = 0 → P (w.fwd r).1)
 (hin : ∀ w q j,WkOk w → Inv w → P w → q ∈ w.queue → 0 ≤ j → j < hlA w.heap.words q → (w.fwd (loadA w.heap.words (q + 1 + j)).1).2.2 = 0 → P (w.in1 (q + 1 + j))) (hsd : ∀ w n,P w → P (stepD w n))
include hin in
theorem innN_P {w : Work} (hw : WkOk w) (h : Inv w) (hp : P w) {q : Int} (hq : q ∈ w.queue) {l : List Int} (hl : ∀ x ∈ l,0 ≤ x ∧ x < hlA w.heap.words q) : ∀ k,k ≤ l.length → (∀ j,j < k → innE w q l j = 0) → P (innN w q l k)
 | 0,_,_ => hp
 | k + 1,hk,he => by
  have ih := innN_P hw h hp hq hl k (by omega) (fun j hj => he j (by omega))
  have ok := (innN_ok hw q l k (fun j hj => he j (by omega))).1
  have iv := innN_inv hw h hq hl k (by omega) (fun j hj => he j (by omega))
  have hx := hl _ (getD_mem_iff.2 ⟨k,by omega,rfl⟩)
  exact hin _ q (l.getD k default) ok iv.1 ih (iv.2.q q hq) hx.1 (by rw [iv.2.l q hq]; exact hx.2) (he k (by omega))
include hin hsd in
theorem stepF_P {w : Work} (hw : WkOk w) (h : Inv w) (hp : P w) (e : (stepF w).2.2 = 0) : P (stepF w).1 := by
 by_cases hs : w.scanned < w.queue.length
 ·have hsc := hw.sc
  have hq : addrW w ∈ w.queue := getD_mem_iff.2 ⟨w.scanned.toNat,by omega,rfl⟩
  unfold stepF at e ⊢
  rw [if_pos hs] at e ⊢
  cases hb : (List.range (ptrsW w).length).find? (fun k => decide (innE w (addrW w) (ptrsW w) k ≠ 0)) with
  | none =>
   have h0 : ∀ j,j < (ptrsW w).length → innE w (addrW w) (ptrsW w) j = 0 := fun j hj => by
    have := List.find?_eq_none.1 hb j (List.mem_range.2 hj)
    simpa using this
   exact hsd _ _ (innN_P P hin hw h hp hq (l := ptrsW w) (pointersH_lt (hdW w (addrW w))) (ptrsW w).length (Nat.le_refl _) h0)
  | some k =>
   simp only [hb] at e
   have := (List.find?_range_eq_some.1 hb).1
   simp [e] at this
 ·have e : stepF w = (w,false,0) := by rw [stepF,if_neg hs]
  rw [e]
  exact hp
include hin hsd in
theorem itW_P {w : Work} (hw : WkOk w) (h : Inv w) (hp : P w) : ∀ k,(∀ j,j < k → stopB w j = false) → P (itW w k)
 | 0,_ => hp
 | k + 1,hh => by
  have ih := itW_P hw h hp k (fun j hj => hh j (by omega))
  have ok := (itW_ok hw k (fun j hj => hh j (by omega))).1
  have iv := (itW_inv hw h k (fun j hj => hh j (by omega))).1
  have hk := hh k (by omega)
  simp only [stopB,decide_eq_false_iff_not,not_or,Decidable.not_not] at hk
  exact stepF_P P hin hsd ok iv ih hk.1
include hin hsd in
theorem allF_P {w : Work} (hw : WkOk w) (h : Inv w) (hp : P w) (e : (allF w).2 = 0) : P (allF w).1 := by
 obtain ⟨k,hb⟩ := allF_some hw
 obtain ⟨h1,h2,h3⟩ := List.find?_range_eq_some.1 hb
 have h0 : ∀ j,j < k → stopB w j = false := fun j hj => by simpa using h3 j hj
 unfold allF at e ⊢
 rw [hb] at e ⊢
 simp only at e ⊢
 split at e
 ·rename_i c
  rw [if_pos c]
  exact stepF_P P hin hsd (itW_ok hw k h0).1 (itW_inv hw h k h0).1 (itW_P P hin hsd hw h hp k h0) c
 ·rename_i c
  exact absurd e c
include hf in
theorem rootsN_P {w : Work} {roots : List Int} (hw : WkOk w) (h : Inv w) (hp : P w) : ∀ k,(∀ j,j < k → rootsE w roots j = 0) → P (rootsN w roots k).1
 | 0,_ => hp
 | k + 1,hh => by
  have ih := rootsN_P hw h hp k (fun j hj => hh j (by omega))
  have ok := (rootsN_ok (roots := roots) hw k (fun j hj => hh j (by omega))).1
  have iv := (rootsN_inv (roots := roots) hw h k (fun j hj => hh j (by omega))).1
  exact hf _ _ ok iv ih (hh k (by omega))
include hf in
theorem rootsF_P {w : Work} {roots : List Int} (hw : WkOk w) (h : Inv w) (hp : P w) (e : (rootsF w roots).2.2 = 0) : P (rootsF w roots).1 := by
 unfold rootsF at e ⊢
 cases hb : (List.range roots.length).find? (fun k => decide (rootsE w roots k ≠ 0)) with
 | none =>
  have h0 : ∀ j,j < roots.length → rootsE w roots j = 0 := fun j hj => by
   have := List.find?_eq_none.1 hb j (List.mem_range.2 hj)
   simpa using this
  exact rootsN_P P hf hw h hp roots.length h0
 | some k =>
  simp only [hb] at e
  have := (List.find?_range_eq_some.1 hb).1
  simp [e] at this
include hf hin hsd in
theorem cW2_P {h : Heap} {s : List Int} (hw : WOk h.words) (hp : properB h = true) (h0 : P (beginW h)) (e : (rootsF (beginW h) s).2.2 = 0) (e2 : (allF (rootsF (beginW h) s).1).2 = 0) : P (cW2 h s) := by
 have hb := begin_ok hw hp
 have hi := begin_inv hp
 have ho := rootsF_ok (roots := s) hb hi e
 exact allF_P P hin hsd ho.1 ho.2.1 (rootsF_P P hf hb hi h0 e) e2
end
theorem tailsN_ge {l : List Page} {i k : Nat} (h : ∀ m,m < k → i + 1 + m < l.length ∧ (l.getD (i + 1 + m) default).kind = 3) : k ≤ tailsN l i := by
 by_cases hc : k ≤ tailsN l i
 ·exact hc
 ·have h1 := h (tailsN l i) (by omega)
  exact absurd h1.2 (tail_end h1.1)
theorem PT.flip {c : Conf} {l : List Page} (h : PT c l) {i : Nat} (hi : i < l.length) (hk : (l.getD i default).kind = 2) {s : Int} (hs : 0 ≤ s ∧ s ≤ 1) : PT c (flipP l i (tailsN l i) s) := by
 have hr : ∀ j,i < j → j ≤ i + tailsN l i → (l.getD j default).kind = 3 := fun j h1 h2 => by
  have := (tail_lt (l := l) (i := i) (m := j - i - 1) (by omega)).2
  rwa [show i + 1 + (j - i - 1) = j by omega] at this
 have hg : ∀ j,j < l.length → ((flipP l i (tailsN l i) s).getD j default).kind = (l.getD j default).kind ∧ ((flipP l i (tailsN l i) s).getD j default).used = (l.getD j default).used ∧ ((flipP l i (tailsN l i) s).getD j default).pins = (l.getD j default).pins := fun j hj => by
  rw [flipP_get hj]
  split
  ·exact ⟨rfl,rfl,rfl⟩
  ·exact ⟨rfl,rfl,rfl⟩
 refine ⟨?_, ?_, ?_⟩
 ·intro j hj
  rw [flipP_len] at hj
  have b := h.b j hj
  rw [flipP_get hj]
  split
  ·rename_i hc
   refine ⟨hs,b.n,b.k,fun q => ?_,b.k1,b.k3⟩
   exfalso
   have q' : (l.getD j default).kind = 0 := q
   by_cases hij : j = i
   ·subst hij; omega
   ·have := hr j (by omega) hc.2; omega
  ·exact b
 ·intro j hj hk2
  rw [flipP_len] at hj ⊢
  rw [(hg j hj).1] at hk2
  rw [(hg j hj).2.1]
  have q := h.lg j hj hk2
  refine ⟨q.1,fun m h1 h2 => ?_⟩
  have r := q.2 m h1 h2
  refine ⟨r.1,by rw [(hg _ r.1).1]; exact r.2.1, ?_⟩
  rw [flipP_get r.1,flipP_get hj]
  by_cases hij : j = i
  ·subst hij
   have hT : (need c (l.getD j default).used - 1).toNat ≤ tailsN l j := tailsN_ge fun m' hm' => by
    have := q.2 (m' + 1) (by omega) (by omega)
    rw [show j + 1 + m' = j + (m' + 1) by omega]
    exact ⟨this.1,this.2.1⟩
   rw [if_pos (by omega),if_pos (by omega)]
   rfl
  ·have hj1 : ¬ (i ≤ j ∧ j ≤ i + tailsN l i) := fun hc => by
    have := hr j (by omega) hc.2; omega
   have hj2 : ¬ (i ≤ j + m ∧ j + m ≤ i + tailsN l i) := fun hc => by
    by_cases hlt : j < i
    ·by_cases he : j + m = i
     ·have := r.2.1; rw [he] at this; omega
     ·have := (q.2 (i - j) (by omega) (by omega)).2.1
      rw [show j + (i - j) = i by omega] at this
      omega
    ·omega
   rw [if_neg hj1,if_neg hj2]
   exact r.2.2
 ·intro j hj hk3
  rw [flipP_len] at hj
  rw [(hg j hj).1] at hk3
  obtain ⟨a,a1,a2,a3⟩ := h.tl j hj hk3
  exact ⟨a,a1,by rw [(hg a (by omega)).1]; exact a2,by rw [(hg a (by omega)).2.1]; exact a3⟩
structure Tab (B : Int) (w : Work) : Prop where
 pt : PT w.heap.conf w.heap.pages
 tk : ∀ x ∈ w.taken,(w.heap.pages.getD x.toNat default).space = 1 - w.heap.space
 pin : ∀ p ∈ w.heap.pages,p.pins ≤ B
theorem Tab.withWords {B : Int} {w : Work} (h : Tab B w) (l : List Int) : Tab B ⟨⟨w.heap.conf,l,w.heap.pages,w.heap.space,w.heap.bump⟩,w.old,w.taken,w.queue,w.scanned,w.rep⟩ := ⟨h.pt,h.tk,h.pin⟩
theorem Tab.place {B : Int} (hB : 0 ≤ B) {w : Work} (hw : WkOk w) (h : Tab B w) {n : Int} (hn : 1 ≤ n ∧ n ≤ w.heap.conf.pw) (hc : (w.place n).2.2 = true) : PT (w.place n).1.heap.conf (w.place n).1.heap.pages ∧ (∀ x ∈ (w.place n).1.taken,((w.place n).1.heap.pages.getD x.toNat default).space = 1 - (w.place n).1.heap.space) ∧ ∀ p ∈ (w.place n).1.heap.pages,p.pins ≤ B := by
 have hsp := hw.sp
 by_cases hf : fitsW w n
 ·have e : w.place n = (⟨⟨w.heap.conf,w.heap.words,growP w.heap.pages (lastT w).toNat n,w.heap.space,w.heap.bump⟩,w.old,w.taken,w.queue,w.scanned,w.rep⟩,4096 + lastT w * w.heap.conf.pw + (w.heap.pages.getD (lastT w).toNat default).used,true) := by rw [Work.place,if_pos hf]
  unfold fitsW at hf
  have hm := hw.tk _ (lastT_mem hf.1)
  have hi : (lastT w).toNat < w.heap.pages.length := by omega
  have ok := h.pt.b _ hi
  have u := ok.k1 hm.2.2
  rw [e]
  refine ⟨h.pt.setPage hi (Or.inr hm.2.2) ⟨ok.s,ok.n,ok.k,fun q => by simp only at q; omega,fun _ => by simp only; omega,fun q => by simp only at q; omega⟩ (Or.inr hm.2.2), ?_, ?_⟩
  ·intro x hx
   simp only
   rw [growP_eq,getD_set hi]
   split
   ·rename_i q
    have := h.tk _ (lastT_mem hf.1)
    simp only
    omega
   ·exact h.tk x hx
  ·intro p hp
   rcases List.mem_or_eq_of_mem_set hp with hp | rfl
   ·exact h.pin p hp
   ·exact h.pin (w.heap.pages.getD (lastT w).toNat default) (getD_in hi)
 ·by_cases hg : 0 ≤ firstW w
  ·have e : w.place n = (⟨⟨w.heap.conf,w.heap.words,growP (freshW w) (firstW w).toNat n,w.heap.space,w.heap.bump⟩,w.old,w.taken ++ [firstW w],w.queue,w.scanned,w.rep⟩,4096 + firstW w * w.heap.conf.pw,true) := by rw [Work.place,if_neg hf,if_pos hg]
   obtain ⟨g1,g2,g3⟩ := fresh_grow (h := ⟨w.heap.conf,w.heap.words,w.heap.pages,1 - w.heap.space,w.heap.bump⟩) (by simp only; omega) hg n
   have g1' : growP (freshW w) (firstW w).toNat n = w.heap.pages.set (firstW w).toNat ⟨1,1 - w.heap.space,n,0⟩ := g1
   have g2' : (w.heap.pages.getD (firstW w).toNat default).kind = 0 := g2
   have g3' : (firstW w).toNat < w.heap.pages.length := g3
   rw [e,g1']
   refine ⟨h.pt.setPage g3' (Or.inl g2') ⟨by simp only; omega,by simp,by simp,by simp,fun _ => by simp only; omega,by simp⟩ (Or.inr rfl), ?_, ?_⟩
   ·intro x hx
    simp only at hx ⊢
    rw [getD_set g3']
    split
    ·rfl
    ·rename_i hne
     rcases List.mem_append.1 hx with hx | hx
     ·exact h.tk x hx
     ·simp at hx; subst hx; exact absurd rfl hne
   ·intro p hp
    rcases List.mem_or_eq_of_mem_set hp with hp | rfl
    ·exact h.pin p hp
    ·exact hB
  ·rw [Work.place,if_neg hf,if_neg hg] at hc
   simp at hc
theorem Tab.fwd {B : Int} (hB : 0 ≤ B) (w : Work) (r : Int) (hw : WkOk w) (hi : Inv w) (h : Tab B w) (e : (w.fwd r).2.2 = 0) : Tab B (w.fwd r).1 := by
 unfold Work.fwd at e ⊢
 split at e
 ·rename_i c1
  rw [if_pos c1]
  exact h
 ·rename_i c1
  rw [if_neg c1]
  split at e
  ·simp at e
  ·rename_i c2
   rw [if_neg c2]
   have c2' : r ∈ w.old := Decidable.not_not.1 c2
   split at e
   ·rename_i c3
    rw [if_pos c3]
    exact h
   ·rename_i c3
    rw [if_neg c3]
    split at e
    ·simp at e
    ·rename_i c4
     rw [if_neg c4]
     split at e
     ·rename_i c5
      rw [if_pos c5]
      exact ⟨h.pt,h.tk,h.pin⟩
     ·rename_i c5
      rw [if_neg c5]
      split at e
      ·rename_i c6
       rw [if_pos c6]
       have hsp := hw.sp
       have o := ofA_ok hw.conf (Decidable.not_not.1 c4)
       have hpl := hw.pl
       have hl : pageW' w r < w.heap.pages.length := by unfold pageW'; omega
       refine ⟨h.pt.flip hl c6 (by omega), ?_, ?_⟩
       ·intro x hx
        have t := hw.tk x hx
        simp only [Work.keep,Work.flip]
        rw [flipP_get (by omega)]
        split
        ·rename_i hc
         exfalso
         by_cases hx' : x.toNat = pageW' w r
         ·rw [hx'] at t; omega
         ·have := (tail_lt (l := w.heap.pages) (i := pageW' w r) (m := x.toNat - pageW' w r - 1) (by omega)).2
          rw [show pageW' w r + 1 + (x.toNat - pageW' w r - 1) = x.toNat by omega] at this
          omega
        ·exact h.tk x hx
       ·intro p hp
        simp only [Work.keep,Work.flip,flipP,List.mem_map,List.mem_range] at hp
        obtain ⟨j,hj,rfl⟩ := hp
        split
        ·exact h.pin (w.heap.pages.getD j default) (getD_in hj)
        ·exact h.pin (w.heap.pages.getD j default) (getD_in hj)
      ·rename_i c6
       rw [if_neg c6]
       split at e
       ·simp at e
       ·rename_i c7
        rw [if_neg c7]
        have c7' : (w.place (sizeH (hdW w r))).2.2 = true := by simpa using c7
        have hz := hi.z r c2'
        have hs := sizeH_hdW w r
        have hp : sizeH (hdW w r) ≤ w.heap.conf.pw := by
         rw [hdW_len]
         rcases hz with hz | hz
         ·exact absurd hz c6
         ·exact hz
        obtain ⟨q1,q2,q3⟩ := h.place hB hw ⟨hs.1,hp⟩ c7'
        exact ⟨q1,q2,q3⟩
theorem begin_tab {B : Int} {h : Heap} (hp : properB h = true) (hb : ∀ p ∈ h.pages,p.pins ≤ B) : Tab B (beginW h) := by
 have hp' := hp
 rw [proper_pt] at hp'
 have hs := hp'.2.2.2.1
 refine ⟨?_,by simp [beginW], ?_⟩
 ·refine hp'.2.2.2.2.2.mapPages _ ?_ ?_ ?_ ?_
  ·intro p hp
   unfold begQ
   split
   ·rename_i hc
    exact ⟨by simp only; omega,hp.n,hp.k,fun q => by simp only at q; omega,hp.k1,fun q => by simp only at q; omega⟩
   ·exact hp
  ·intro p hp hk
   unfold begQ at hk ⊢
   split at hk
   ·rename_i hc; simp only at hk; omega
   ·rename_i hc; rw [if_neg hc]; exact ⟨hk,rfl⟩
  ·intro p hp hk
   unfold begQ at hk
   split at hk
   ·rename_i hc; simp only at hk; omega
   ·exact hk
  ·intro p q hp hq h2 h3 he
   have e1 : begQ (1 - h.space) p = p := by rw [begQ,if_neg (by omega)]
   have e2 : begQ (1 - h.space) q = q := by rw [begQ,if_neg (by omega)]
   rw [e1,e2]
   exact ⟨⟨fun _ => h3,fun _ => h2⟩,fun _ => he⟩
 ·intro p hp
  simp only [beginW,List.mem_map] at hp
  obtain ⟨q,hq,rfl⟩ := hp
  unfold begQ
  split
  ·exact hb q hq
  ·exact hb q hq
theorem cW2_tab {B : Int} (hB : 0 ≤ B) {h : Heap} {s : List Int} (hw : WOk h.words) (hp : properB h = true) (hb : ∀ p ∈ h.pages,p.pins ≤ B) (e : (rootsF (beginW h) s).2.2 = 0) (e2 : (allF (rootsF (beginW h) s).1).2 = 0) : Tab B (cW2 h s) :=
 cW2_P (Tab B) (fun w r hw hi h e => h.fwd hB w r hw hi e) (fun w q j hw hi h hq h0 h1 e => (Tab.fwd hB w _ hw hi h e).withWords _) (fun w n h => ⟨h.pt,h.tk,h.pin⟩) hw hp (begin_tab hp hb) e e2
structure MOk (w : WorldM) (n : Nat) : Prop where
 words : WOk w.heap.words
 hv : validB w.heap.conf = true
 pl : (w.heap.pages.length : Int) = w.heap.conf.pg
 L : (w.heap.words.length : Int) = w.heap.conf.pw * w.heap.conf.pg
 pins : ∀ j,j < w.heap.pages.length → 0 ≤ (w.heap.pages.getD j default).pins ∧ (w.heap.pages.getD j default).pins ≤ n
 us : ∀ j,j < w.heap.pages.length → 0 ≤ (w.heap.pages.getD j default).used ∧ (w.heap.pages.getD j default).used ≤ 256
 strong : ULe w.strong
 weak : ULe w.weak
 sl : w.strong.length ≤ n
 wl : w.weak.length ≤ n
theorem MOk.wm {w : WorldM} {n : Nat} (h : MOk w n) (hn : n ≤ 1000000) : WMok w := ⟨h.words,h.strong,h.weak,Nat.le_trans h.sl (by omega),Nat.le_trans h.wl (by omega)⟩
def WorldM.dup (w : WorldM) (t : Tape) : WorldM := ⟨w.heap,w.strong ++ [w.pick t],w.weak⟩
def WorldM.step (w : WorldM) (t : Tape) : WorldM :=
 if t.next 12 ≤ 3 then w.put ((t.step 12).header w.heap.conf)
 else if t.next 12 ≤ 6 then w.link (t.step 12)
 else if t.next 12 ≤ 7 then w.pin (t.step 12)
 else if t.next 12 ≤ 9 then w.drop (t.step 12)
 else if t.next 12 ≤ 10 then w.collect
 else w.dup (t.step 12)
def WorldM.stepT (w : WorldM) (t : Tape) : Tape :=
 if t.next 12 ≤ 3 then (t.step 12).headerT w.heap.conf
 else if t.next 12 ≤ 6 then w.linkT (t.step 12)
 else if t.next 12 ≤ 7 then w.pinT (t.step 12)
 else if t.next 12 ≤ 9 then w.dropT (t.step 12)
 else if t.next 12 ≤ 10 then t.step 12
 else w.pickT (t.step 12)
theorem header_map (t : Tape) (c : Conf) : 0 ≤ (t.header c).map ∧ (t.header c).map ≤ 4294967295 := by
 have h : ∀ n : Int,0 ≤ ((hdr1T t c).step 4).next (2 ^ (min (min n 32) 12).toNat) ∧ ((hdr1T t c).step 4).next (2 ^ (min (min n 32) 12).toNat) ≤ 4294967295 := by
  intro n
  have p := pow12 (n := min (min n 32) 12) (by omega)
  have r := next_range ((hdr1T t c).step 4) (n := 2 ^ (min (min n 32) 12).toNat) p.1
  omega
 unfold Tape.header
 split
 ·simp
 ·split
  ·simp
  ·exact h _
theorem sp_next12 (t : Tape) (d : Int) (hd : t.next 12 = d) (ht : TOk t) : LentSpec Tryz.prog 107 [.pt 0 0 0,int 12] [t.b] (int d) [(t.step 12).b] := by
 rw [← hd]
 exact tapeNext t 12 ht (by decide) (by decide)
section
variable (w : WorldM) (t : Tape) (n : Nat) (hm : MOk w n) (hn : n ≤ 1000000) (ht : TOk t) (ha : t.at' ≤ 900000)
include hm hn ht ha
theorem worldStep : LentSpec Tryz.prog 77 [w.av,.pt 0 0 0] [t.b] (w.step t).av [(w.stepT t).b] := by
 have hw := hm.wm hn
 have h1 := hm.words
 have h2 := hm.strong
 have h3 := hm.weak
 have h4 := hm.sl
 have h5 := hm.wl
 have s1 := step_at (t := t) 12
 have k1 := tok_of ht s1.2.2 (by omega) (by omega)
 have n1 := next_range t (n := 12) (by decide)
 have hmap := header_map (t.step 12) w.heap.conf
 have hv := hm.hv
 have hpl := hm.pl
 have hpn : ∀ j,j < w.heap.pages.length → -1048576 ≤ (w.heap.pages.getD j default).pins ∧ (w.heap.pages.getD j default).pins ≤ 4294967296 := fun j hj => by
  have := hm.pins j hj; omega
 have hd : t.next 12 = 0 ∨ t.next 12 = 1 ∨ t.next 12 = 2 ∨ t.next 12 = 3 ∨ t.next 12 = 4 ∨ t.next 12 = 5 ∨ t.next 12 = 6 ∨ t.next 12 = 7 ∨ t.next 12 = 8 ∨ t.next 12 = 9 ∨ t.next 12 = 10 ∨ t.next 12 = 11 := by omega
 rcases hd with hd | hd | hd | hd | hd | hd | hd | hd | hd | hd | hd | hd
 ·have e7 : w.step t = w.put ((t.step 12).header w.heap.conf) := by simp [WorldM.step,hd]
  have e8 : w.stepT t = (t.step 12).headerT w.heap.conf := by simp [WorldM.stepT,hd]
  rw [e7,e8]
  exact lF Tryz.func77 [] (Fp 6 (@sp_next12 t (0) ‹_› ‹_›) (Fp 17 (@tapeHeader (t.step 12) w.heap.conf ‹_› (by omega) ‹_›) (Fc 18 (@worldPut w ((t.step 12).header w.heap.conf) ‹_› ‹_›) Fz)))
 ·have e7 : w.step t = w.put ((t.step 12).header w.heap.conf) := by simp [WorldM.step,hd]
  have e8 : w.stepT t = (t.step 12).headerT w.heap.conf := by simp [WorldM.stepT,hd]
  rw [e7,e8]
  exact lF Tryz.func77 [] (Fp 6 (@sp_next12 t (1) ‹_› ‹_›) (Fp 17 (@tapeHeader (t.step 12) w.heap.conf ‹_› (by omega) ‹_›) (Fc 18 (@worldPut w ((t.step 12).header w.heap.conf) ‹_› ‹_›) Fz)))
 ·have e7 : w.step t = w.put ((t.step 12).header w.heap.conf) := by simp [WorldM.step,hd]
  have e8 : w.stepT t = (t.step 12).headerT w.heap.conf := by simp [WorldM.stepT,hd]
  rw [e7,e8]
  exact lF Tryz.func77 [] (Fp 6 (@sp_next12 t (2) ‹_› ‹_›) (Fp 17 (@tapeHeader (t.step 12) w.heap.conf ‹_› (by omega) ‹_›) (Fc 18 (@worldPut w ((t.step 12).header w.heap.conf) ‹_› ‹_›) Fz)))
 ·have e7 : w.step t = w.put ((t.step 12).header w.heap.conf) := by simp [WorldM.step,hd]
  have e8 : w.stepT t = (t.step 12).headerT w.heap.conf := by simp [WorldM.stepT,hd]
  rw [e7,e8]
  exact lF Tryz.func77 [] (Fp 6 (@sp_next12 t (3) ‹_› ‹_›) (Fp 17 (@tapeHeader (t.step 12) w.heap.conf ‹_› (by omega) ‹_›) (Fc 18 (@worldPut w ((t.step 12).header w.heap.conf) ‹_› ‹_›) Fz)))
 ·have e7 : w.step t = w.link (t.step 12) := by simp [WorldM.step,hd]
  have e8 : w.stepT t = w.linkT (t.step 12) := by simp [WorldM.stepT,hd]
  rw [e7,e8]
  exact lF Tryz.func77 [] (Fp 6 (@sp_next12 t (4) ‹_› ‹_›) (Fp 25 (@worldLink w (t.step 12) ‹_› ‹_› (by omega)) Fz))
 ·have e7 : w.step t = w.link (t.step 12) := by simp [WorldM.step,hd]
  have e8 : w.stepT t = w.linkT (t.step 12) := by simp [WorldM.stepT,hd]
  rw [e7,e8]
  exact lF Tryz.func77 [] (Fp 6 (@sp_next12 t (5) ‹_› ‹_›) (Fp 25 (@worldLink w (t.step 12) ‹_› ‹_› (by omega)) Fz))
 ·have e7 : w.step t = w.link (t.step 12) := by simp [WorldM.step,hd]
  have e8 : w.stepT t = w.linkT (t.step 12) := by simp [WorldM.stepT,hd]
  rw [e7,e8]
  exact lF Tryz.func77 [] (Fp 6 (@sp_next12 t (6) ‹_› ‹_›) (Fp 25 (@worldLink w (t.step 12) ‹_› ‹_› (by omega)) Fz))
 ·have e7 : w.step t = w.pin (t.step 12) := by simp [WorldM.step,hd]
  have e8 : w.stepT t = w.pinT (t.step 12) := by simp [WorldM.stepT,hd]
  rw [e7,e8]
  exact lF Tryz.func77 [] (Fp 6 (@sp_next12 t (7) ‹_› ‹_›) (Fp 30 (@worldPin w (t.step 12) ‹_› ‹_› (by omega) ‹_› (by omega) ‹_›) Fz))
 ·have e7 : w.step t = w.drop (t.step 12) := by simp [WorldM.step,hd]
  have e8 : w.stepT t = w.dropT (t.step 12) := by simp [WorldM.stepT,hd]
  rw [e7,e8]
  exact lF Tryz.func77 [] (Fp 6 (@sp_next12 t (8) ‹_› ‹_›) (Fp 36 (@worldDrop w (t.step 12) ‹_› ‹_› (by omega)) Fz))
 ·have e7 : w.step t = w.drop (t.step 12) := by simp [WorldM.step,hd]
  have e8 : w.stepT t = w.dropT (t.step 12) := by simp [WorldM.stepT,hd]
  rw [e7,e8]
  exact lF Tryz.func77 [] (Fp 6 (@sp_next12 t (9) ‹_› ‹_›) (Fp 36 (@worldDrop w (t.step 12) ‹_› ‹_› (by omega)) Fz))
 ·have e7 : w.step t = w.collect := by simp [WorldM.step,hd]
  have e8 : w.stepT t = t.step 12 := by simp [WorldM.stepT,hd]
  rw [e7,e8]
  exact lF Tryz.func77 [] (Fp 6 (@sp_next12 t (10) ‹_› ‹_›) (Fc 40 (@worldCollect w ‹_› (by omega) (by omega) ‹_› ‹_›) Fz))
 ·have e7 : w.step t = w.dup (t.step 12) := by simp [WorldM.step,hd]
  have e8 : w.stepT t = w.pickT (t.step 12) := by simp [WorldM.stepT,hd]
  rw [e7,e8]
  exact lF Tryz.func77 [] (Fh 49 [.els (List.map wdv (w.strong ++ [w.pick (t.step 12)]))] (Fp 6 (@sp_next12 t (11) ‹_› ‹_›) (Fs 41 (List.map wdv []) (Fa (by (simp [WorldM.dup, *]; omega) : (List.map wdv []).length + (List.map wdv w.strong).length≤2 ^ 30) (Fs 44 (List.map wdv w.strong) (Fp 47 (@worldPick w (t.step 12) ‹_› ‹_› (by omega)) (Fs 48 (List.map wdv [w.pick (t.step 12)]) (Fa (by (simp [WorldM.dup, *]; omega) : (List.map wdv w.strong).length + (List.map wdv [w.pick (t.step 12)]).length≤2 ^ 30) (Fa (by simp [WorldM.dup,List.map_take,List.map_drop,List.map_set,List.map_append,wdv,idv] : List.map wdv w.strong ++ List.map wdv [w.pick (t.step 12)] =List.map wdv (w.strong ++ [w.pick (t.step 12)])) Fz)))))))))
end
theorem wok_freeWs {pw s : Int} {l : List Page} {ws : List Int} (h : WOk ws) : ∀ i,WOk (freeWs pw s l ws i)
 | 0 => h
 | i + 1 => by
  have ih := wok_freeWs (pw := pw) (s := s) (l := l) h i
  unfold freeWs
  split
  ·intro x hx
   simp only [spl,List.mem_append,List.mem_replicate] at hx
   rcases hx with (hx | hx) | hx
   ·exact ih x (List.mem_of_mem_take hx)
   ·omega
   ·exact ih x (List.mem_of_mem_drop hx)
  ·exact ih
theorem pt_free {c : Conf} {l : List Page} (h : PT c l) (s : Int) : PT c (l.map (freeQ s)) := by
 refine h.mapPages _ ?_ ?_ ?_ ?_
 ·intro p hp
  unfold freeQ
  split
  ·exact ⟨by simp,by simp,by simp,by simp,by simp,by simp⟩
  ·exact hp
 ·intro p hp hk
  unfold freeQ at hk ⊢
  split at hk
  ·simp at hk
  ·rename_i hc; rw [if_neg hc]; exact ⟨hk,rfl⟩
 ·intro p hp hk
  unfold freeQ at hk
  split at hk
  ·simp at hk
  ·exact hk
 ·intro p q hp hq h2 h3 he
  by_cases hg : p.space = s
  ·have e1 : freeQ s p = ⟨0,0,0,0⟩ := by rw [freeQ,if_pos ⟨by omega,hg⟩]
   have e2 : freeQ s q = ⟨0,0,0,0⟩ := by rw [freeQ,if_pos ⟨by omega,by omega⟩]
   rw [e1,e2]
   simp
  ·have e1 : freeQ s p = p := by rw [freeQ,if_neg (by unfold goneB; omega)]
   have e2 : freeQ s q = q := by rw [freeQ,if_neg (by unfold goneB; omega)]
   rw [e1,e2]
   exact ⟨⟨fun _ => h3,fun _ => h2⟩,fun _ => he⟩
theorem weakO_range {w : Work} (hw : WkOk w) (k : List Int) : ∀ i,∀ x ∈ weakO w k i,0 ≤ x ∧ x ≤ 4294967296
 | 0,x,hx => by simp [weakO] at hx
 | i + 1,x,hx => by
  simp only [weakO,List.mem_append,List.mem_singleton] at hx
  rcases hx with hx | rfl
  ·exact weakO_range hw k i x hx
  ·have h := weakS_is w k i
   unfold weakTo
   split
   ·omega
   ·unfold afterF
    rw [h.2.2.2.1,h.1]
    split
    ·rename_i hq
     have := hw.q _ hq
     omega
    ·have := targetA_range (loadA_range hw.words (k.getD i default)).1
     omega
structure ColOk (B : Int) (h : Heap) (s k : List Int) : Prop where
 p0 : properB h = true
 p1 : properB (collectF h s k).1 = true
 w : WOk (collectF h s k).1.words
 n : ∀ p ∈ (collectF h s k).1.pages,p.pins ≤ B
 c : (collectF h s k).1.conf = h.conf
 r : ∀ x ∈ (collectF h s k).2.1,0 ≤ x ∧ x ≤ 4294967296
 rl : (collectF h s k).2.1.length = s.length
 v : ∀ x ∈ (collectF h s k).2.2.1,0 ≤ x ∧ x ≤ 4294967296
 vl : (collectF h s k).2.2.1.length = k.length
theorem collect_ok {B : Int} (hB : 0 ≤ B) {h : Heap} {s k : List Int} (hw : WOk h.words) (hb : ∀ p ∈ h.pages,p.pins ≤ B) (e : (collectF h s k).2.2.2.2 = 0) : ColOk B h s k := by
 by_cases hp : properB h = true
 ·by_cases hr : refersF h s = true ∧ refersF h k = true
  ·by_cases e1 : (rootsF (beginW h) s).2.2 = 0
   ·by_cases e2 : (allF (rootsF (beginW h) s).1).2 = 0
    ·have e7 : collectF h s k = (endH (cW5 h s k),(rootsF (beginW h) s).2.1,weakO (cW2 h s) k k.length,(cW5 h s k).rep,0) := by rw [collectF,if_pos hp,if_pos hr,if_pos e1,if_pos e2]
     have ho := rootsF_ok (roots := s) (begin_ok hw hp) (begin_inv hp) e1
     have c := cOk h s k hw hp e1 e2
     have c5 := cOk5 h s k hw hp e1 e2
     have tb := cW2_tab hB hw hp hb e1 e2
     obtain ⟨g1,g2,g3,g4,g5⟩ := c.h4
     have hsp := c.w2.sp
     have hc2 : (cW2 h s).heap.conf = h.conf := c.x2.c
     have hpl := c.w2.pl
     rw [hc2] at hpl
     have hL := c.i4.L
     rw [g1] at hL
     have hfl := freeWs_len (s := (cW4 h s k).heap.space) c5.2.2.2.1 (cW4 h s k).heap.pages.length (Nat.le_refl _)
     refine ⟨hp, ?_, ?_, ?_, ?_, ?_, ?_, ?_, ?_⟩
     ·rw [e7,proper_pt]
      simp only [endH,cW5,freeW,g1,g2,g3,g4]
      have hptf := pt_free (s := (cW2 h s).heap.space) tb.pt
      rw [hc2] at hptf
      refine ⟨(proper_ok hp).1, ?_,by simp only [List.length_map]; exact hpl,by omega, ?_,hptf⟩
      ·rw [g1,g2,g3] at hfl
       rw [hfl]
       exact hL
      ·split
       ·rename_i ht
        have hm := lastT_mem (w := cW2 h s) ht
        have t1 := c.w2.tk _ hm
        have t2 := tb.tk _ hm
        refine Or.inr ⟨t1.1,by simp only [List.length_map]; exact t1.2.1, ?_⟩
        have hx : (List.map (freeQ (cW2 h s).heap.space) (cW2 h s).heap.pages).getD (lastT (cW2 h s)).toNat default = (cW2 h s).heap.pages.getD (lastT (cW2 h s)).toNat default := by
         have hi : (lastT (cW2 h s)).toNat < (cW2 h s).heap.pages.length := by omega
         have : (List.map (freeQ (cW2 h s).heap.space) (cW2 h s).heap.pages).getD (lastT (cW2 h s)).toNat default = freeQ (cW2 h s).heap.space ((cW2 h s).heap.pages.getD (lastT (cW2 h s)).toNat default) := by simp [List.getD_eq_getElem?_getD,hi]
         rw [this,freeQ,if_neg (by unfold goneB; omega)]
        show ((List.map (freeQ (cW2 h s).heap.space) (cW2 h s).heap.pages).getD (lastT (cW2 h s)).toNat default).kind = 1
        rw [hx]
        exact t1.2.2
       ·exact Or.inl rfl
     ·rw [e7]
      exact wok_freeWs c.f4.words _
     ·rw [e7]
      intro p hp'
      simp only [endH,cW5,freeW,g2,List.mem_map] at hp'
      obtain ⟨q,hq,rfl⟩ := hp'
      unfold freeQ
      split
      ·exact hB
      ·exact tb.pin q hq
     ·rw [e7]
      exact g1
     ·rw [e7]
      exact ho.2.2.2.1
     ·rw [e7]
      exact ho.2.2.2.2
     ·rw [e7]
      exact weakO_range c.w2 k _
     ·rw [e7]
      exact weakO_len _ _ _
    ·rw [collectF,if_pos hp,if_pos hr,if_pos e1,if_neg e2] at e
     exact absurd e e2
   ·rw [collectF,if_pos hp,if_pos hr,if_neg e1] at e
    exact absurd e e1
  ·rw [collectF,if_pos hp,if_neg hr] at e
   simp at e
 ·rw [collectF,if_neg hp] at e
  simp at e
theorem proper_pins {h : Heap} (hp : properB h = true) : ∀ p ∈ h.pages,0 ≤ p.pins := by
 rw [proper_pt] at hp
 intro p hp'
 obtain ⟨i,hi,e⟩ := List.mem_iff_getElem.1 hp'
 have := (hp.2.2.2.2.2.b i hi).n.1
 rwa [show h.pages.getD i default = p by rw [List.getD_eq_getElem?_getD,List.getElem?_eq_getElem hi,e]; rfl] at this
theorem MOk.of_proper {w : WorldM} {n : Nat} (hp : properB w.heap = true) (hw : WOk w.heap.words) (hn : ∀ p ∈ w.heap.pages,p.pins ≤ n) (h1 : ULe w.strong) (h2 : ULe w.weak) (h3 : w.strong.length ≤ n) (h4 : w.weak.length ≤ n) : MOk w n := by
 have po := proper_ok hp
 exact ⟨hw,po.1,po.2.2.2.2.2.2.2.1,po.2.2.2.2.2.1,fun j hj => ⟨proper_pins hp _ (getD_in hj),hn _ (getD_in hj)⟩,fun j hj => by have := proper_page hp hj; omega,h1,h2,h3,h4⟩
theorem MOk.pin_mem {w : WorldM} {n : Nat} (h : MOk w n) : ∀ p ∈ w.heap.pages,0 ≤ p.pins ∧ p.pins ≤ n := by
 intro p hp
 obtain ⟨i,hi,e⟩ := List.mem_iff_getElem.1 hp
 have := h.pins i hi
 rwa [show w.heap.pages.getD i default = p by rw [List.getD_eq_getElem?_getD,List.getElem?_eq_getElem hi,e]; rfl] at this
theorem MOk.mono {w : WorldM} {n : Nat} (h : MOk w n) : MOk w (n + 1) :=
 ⟨h.words,h.hv,h.pl,h.L,fun j hj => by have := h.pins j hj; omega,h.us,h.strong,h.weak,by have := h.sl; omega,by have := h.wl; omega⟩
theorem ule_app {l : List Int} (h : ULe l) {x : Int} (hx : 0 ≤ x ∧ x ≤ 18446744073709551615) : ULe (l ++ [x]) := by
 intro y hy
 simp only [List.mem_append,List.mem_singleton] at hy
 rcases hy with hy | rfl
 ·exact h y hy
 ·exact hx
theorem MOk.put {w : WorldM} {n : Nat} (h : MOk w n) {hd : Header} (hm : 0 ≤ hd.map ∧ hd.map ≤ 4294967295) : MOk (w.put hd) (n + 1) := by
 unfold WorldM.put
 split
 ·rename_i e
  obtain ⟨k1,k2,k3,k4,k5,k6,k7,k8⟩ := new7_ok h.words hm e
  have po := proper_ok k1
  have hl := h.sl
  have hl2 := h.wl
  have z := (asksH_ok k2).2.1
  have a1 := k3.lo
  have a2 := k3.hi
  refine MOk.of_proper k7 k8 ?_ (ule_app h.strong (by rw [k5]; omega)) h.weak (by simp; omega) (by simp only; omega)
  intro p hp
  simp only at hp
  rw [k6] at hp
  simp only at hp
  rcases k3.pin p hp with q | ⟨q,q1,q2⟩
  ·omega
  ·have := h.pin_mem q q1; omega
 ·exact h.mono
theorem MOk.link {w : WorldM} {n : Nat} (h : MOk w n) (hn : n ≤ 1000000) (t : Tape) : MOk (w.link t) (n + 1) := by
 unfold WorldM.link
 split
 ·rename_i hc
  have g := getH_ok hc.1
  have hw := h.wm hn
  have hlen : 1 ≤ (getH w.heap (w.pick t)).1.length := by omega
  have n1 := next_range (w.pickT (w.pickT t)) (n := 8) (by decide)
  have hi : 0 ≤ linkI w t ∧ linkI w t < (getH w.heap (w.pick t)).1.length := by
   unfold linkI
   rw [Int.tmod_eq_emod_of_nonneg n1.1]
   exact ⟨Int.emod_nonneg _ (by omega),Int.emod_lt_of_pos _ (by omega)⟩
  have hv : 0 ≤ linkV w t ∧ linkV w t ≤ 18446744073709551615 := by
   unfold linkV
   split
   ·exact pick_range hw _
   ·have := next_range ((w.pickT (w.pickT t)).step 8) (n := 1048576) (by decide)
    omega
  obtain ⟨s1,s2,s3⟩ := setField_ok h.words hv hc.1 hi
  have hl := h.sl
  have hl2 := h.wl
  refine MOk.of_proper s2 s3 ?_ h.strong h.weak (by simp only; omega) (by simp only; omega)
  intro p hp
  simp only at hp
  rw [s1] at hp
  have := h.pin_mem p hp
  omega
 ·exact h.mono
theorem pinB_ok {w : WorldM} {n : Nat} (h : MOk w n) {i : Nat} (hi : i < w.heap.pages.length) {d : Int} (hd : d = 1 ∨ (d = -1 ∧ 0 < (w.heap.pages.getD i default).pins)) : MOk (pinB w i d) (n + 1) := by
 have hp := h.pins i hi
 refine ⟨h.words,h.hv, ?_,h.L, ?_, ?_,h.strong,h.weak,by have := h.sl; simp only [pinB]; omega,by have := h.wl; simp only [pinB]; omega⟩
 ·simp only [pinB,List.length_set]; exact h.pl
 ·intro j hj
  simp only [pinB,List.length_set] at hj ⊢
  rw [getD_set hi]
  split
  ·simp only; omega
  ·have := h.pins j hj; omega
 ·intro j hj
  simp only [pinB,List.length_set] at hj ⊢
  rw [getD_set hi]
  split
  ·exact h.us i hi
  ·exact h.us j hj
theorem MOk.pin {w : WorldM} {n : Nat} (h : MOk w n) (t : Tape) : MOk (w.pin t) (n + 1) := by
 unfold WorldM.pin
 split
 ·rename_i e
  have o := ofA_ok h.hv e
  have hpl := h.pl
  have hi : pinI w t < w.heap.pages.length := by unfold pinI; omega
  split
  ·rename_i hc
   exact pinB_ok h hi (Or.inr ⟨rfl,hc.1⟩)
  ·split
   ·exact pinB_ok h hi (Or.inl rfl)
   ·exact h.mono
 ·exact h.mono
theorem MOk.drop {w : WorldM} {n : Nat} (h : MOk w n) (t : Tape) : MOk (w.drop t) (n + 1) := by
 unfold WorldM.drop
 split
 ·have hl := h.sl
  have hl2 := h.wl
  refine ⟨h.words,h.hv,h.pl,h.L,fun j hj => by have := h.pins j hj; simp only; omega,h.us, ?_, ?_, ?_, ?_⟩
  ·intro x hx
   rcases List.mem_append.1 hx with hx | hx
   ·exact h.strong x (List.mem_of_mem_take hx)
   ·exact h.strong x (List.mem_of_mem_drop hx)
  ·simp only
   split
   ·exact ule_app h.weak (getD_mem h.strong _)
   ·exact h.weak
  ·simp only [List.length_append,List.length_take,List.length_drop]; omega
  ·simp only
   split
   ·simp; omega
   ·omega
 ·exact h.mono
theorem MOk.collect {w : WorldM} {n : Nat} (h : MOk w n) : MOk w.collect (n + 1) := by
 unfold WorldM.collect
 split
 ·rename_i e
  have c := collect_ok (B := n) (by omega) h.words (fun p hp => (h.pin_mem p hp).2) e
  have hl := h.sl
  have hl2 := h.wl
  refine MOk.of_proper c.p1 c.w (fun p hp => by have := c.n p hp; omega) (fun x hx => by have := c.r x hx; omega) (fun x hx => by have := c.v x hx; omega) (by simp only [c.rl]; omega) (by simp only [c.vl]; omega)
 ·exact h.mono
theorem MOk.step {w : WorldM} {n : Nat} (h : MOk w n) (hn : n ≤ 1000000) (t : Tape) : MOk (w.step t) (n + 1) := by
 unfold WorldM.step
 repeat' split
 ·exact h.put (header_map _ _)
 ·exact h.link hn _
 ·exact h.pin _
 ·exact h.drop _
 ·exact h.collect
 ·have hl := h.sl
  have hl2 := h.wl
  exact ⟨h.words,h.hv,h.pl,h.L,fun j hj => by have := h.pins j hj; simp only [WorldM.dup] at *; omega,h.us,ule_app h.strong (pick_range (h.wm hn) _),h.weak,by simp only [WorldM.dup,List.length_append,List.length_singleton]; omega,by simp only [WorldM.dup]; omega⟩
theorem madeLight (h : Heap) : GSpec Tryz.prog 41 [h.av] true (bool (decide (h.words.length ≤ 5000 ∧ h.pages.length ≤ 100))) [] := by
 exact gF [] Tryz.func41 [false,false,false,false,true] (Fl 5 wdv h.words (FlG 10 (decide ((↑h.words.length : Int)≤5000)) Page.dv h.pages (Fa (by grind [] : (decide ((↑h.words.length : Int)≤5000)&&decide ((↑h.pages.length : Int)≤100)) =decide (h.words.length≤5000∧h.pages.length≤100)) Fz)))
theorem sp_worldStep (w : WorldM) (t : Tape) (n : Nat) (hm : MOk w n) (hn : n ≤ 1000000) (ht : TOk t) (ha : t.at' ≤ 900000) : LentSpec Tryz.prog 77 [w.av,.pt 0 0 0] [t.b] (w.step t).av [(w.stepT t).b] :=
 worldStep w t n hm hn ht ha
structure TUp (n : Int) (t u : Tape) : Prop where
 l : u.l = t.l
 lo : t.at' ≤ u.at'
 hi : u.at' ≤ t.at' + n
theorem TUp.step (t : Tape) (n : Int) : TUp 1 t (t.step n) := by
 have := step_at (t := t) n
 exact ⟨this.2.2,this.1,this.2.1⟩
theorem TUp.trans {m n : Int} {t u v : Tape} (h1 : TUp m t u) (h2 : TUp n u v) : TUp (m + n) t v :=
 ⟨h2.l.trans h1.l,by have := h1.lo; have := h2.lo; omega,by have := h1.hi; have := h2.hi; omega⟩
theorem TUp.mono {m n : Int} {t u : Tape} (h : TUp m t u) (hmn : m ≤ n) : TUp n t u := ⟨h.l,h.lo,by have := h.hi; omega⟩
theorem headerT_up (t : Tape) (c : Conf) : TUp 10 t (t.headerT c) := by
 have h1 : TUp 4 t (hdr1T t c) := by
  unfold hdr1T
  split
  ·exact (((TUp.step t _).trans (TUp.step _ 12)).trans (TUp.step _ _)).mono (by decide)
  ·exact ((TUp.step t _).trans (TUp.step _ 12)).mono (by decide)
 unfold Tape.headerT
 repeat' split
 ·exact (h1.trans (TUp.step _ 4)).mono (by decide)
 ·exact (h1.trans (TUp.step _ 4)).mono (by decide)
 ·exact ((h1.trans (TUp.step _ 4)).trans (TUp.step _ _)).mono (by decide)
theorem linkT_up (w : WorldM) (t : Tape) : TUp 10 t (w.linkT t) := by
 have h1 : TUp 1 t (w.pickT t) := TUp.step _ _
 have h2 : TUp 1 (w.pickT t) (w.pickT (w.pickT t)) := TUp.step _ _
 unfold WorldM.linkT
 split
 ·exact ((((h1.trans h2).trans (TUp.step _ 8))).trans (TUp.step _ _)).mono (by decide)
 ·exact ((h1.trans h2).trans (TUp.step _ 8)).mono (by decide)
theorem stepT_up (w : WorldM) (t : Tape) : (w.stepT t).l = t.l ∧ t.at' + 1 ≤ (w.stepT t).at' ∧ (w.stepT t).at' ≤ t.at' + 20 := by
 have h0 : (t.step 12).at' = t.at' + 1 ∧ (t.step 12).l = t.l := by simp [Tape.step]
 have key : TUp 10 (t.step 12) (w.stepT t) := by
  unfold WorldM.stepT
  repeat' split
  ·exact headerT_up _ _
  ·exact linkT_up _ _
  ·unfold WorldM.pinT
   split
   ·exact ((TUp.step _ _).trans (TUp.step _ 2)).mono (by decide)
   ·exact (TUp.step _ _).mono (by decide)
  ·unfold WorldM.dropT
   split
   ·exact ((TUp.step _ _).trans (TUp.step _ 3)).mono (by decide)
   ·exact ⟨rfl,by omega,by omega⟩
  ·exact ⟨rfl,by omega,by omega⟩
  ·exact (TUp.step _ _).mono (by decide)
 have a := key.l
 have b := key.lo
 have c := key.hi
 exact ⟨a.trans h0.2,by omega,by omega⟩
def mkS (w : WorldM) (t : Tape) : Nat → WorldM × Tape
 | 0 => (w,t)
 | k + 1 => ((mkS w t k).1.step (mkS w t k).2,(mkS w t k).1.stepT (mkS w t k).2)
def mkB (w : WorldM) (t : Tape) (k : Nat) : Bool := decide (((mkS w t k).2.l.length : Int) ≤ (mkS w t k).2.at')
def mkN (w : WorldM) (t : Tape) : Nat := ((List.range (2 + t.l.length)).find? (mkB w t)).getD 0
def makeW (w : WorldM) (t : Tape) : WorldM := (mkS w t (mkN w t)).1
theorem mkS_up (w : WorldM) (t : Tape) : ∀ k : Nat,(mkS w t k).2.l = t.l ∧ t.at' + k ≤ (mkS w t k).2.at' ∧ (mkS w t k).2.at' ≤ t.at' + 20 * k
 | 0 => by simp [mkS]
 | k + 1 => by
  have ih := mkS_up w t k
  have := stepT_up (mkS w t k).1 (mkS w t k).2
  refine ⟨this.1.trans ih.1, ?_, ?_⟩
  ·simp only [mkS]; omega
  ·simp only [mkS]; omega
theorem mkS_ok {w : WorldM} {n : Nat} (h : MOk w n) (t : Tape) : ∀ k,n + k ≤ 1000000 → MOk (mkS w t k).1 (n + k)
 | 0,_ => h
 | k + 1,hk => (mkS_ok h t k (by omega)).step (by omega) _
theorem mkN_is (w : WorldM) (t : Tape) (ht : 0 ≤ t.at') : mkB w t (mkN w t) = true ∧ (∀ j,j < mkN w t → mkB w t j = false) ∧ mkN w t ≤ t.l.length + 1 := by
 cases hb : (List.range (2 + t.l.length)).find? (mkB w t) with
 | none =>
  exfalso
  have := List.find?_eq_none.1 hb t.l.length (List.mem_range.2 (by omega))
  have u := mkS_up w t t.l.length
  simp only [mkB,decide_eq_true_eq,u.1] at this
  omega
 | some k =>
  obtain ⟨h1,h2,h3⟩ := List.find?_range_eq_some.1 hb
  have h2 := List.mem_range.1 h2
  have e : mkN w t = k := by rw [mkN,hb]; rfl
  rw [e]
  exact ⟨h1,fun j hj => by simpa using h3 j hj,by omega⟩
def mkLA (w : WorldM) (t : Tape) : Tg := ⟨tm 22 [(2,.pt 8002 0 0),(3,.pt 32012 0 0),(4,.pt 40004 0 0)],[(40004,.box 30 w.cells),(32012,t.b),(8002,.box 30 [int 0,int 0,.d (.sl 0 []),.d (.sl 0 []),int 0,int 0,.d (.sl 0 []),.d (.sl 0 [])])],60⟩
theorem mkRoundA (w : WorldM) (t : Tape) (n : Nat) (hm : MOk w n) (hn : n ≤ 1000000) (ht : TOk t) (ha : t.at' ≤ 900000) (hd : t.at' < t.l.length) : CSpec Tryz.prog (rndF Tryz.f15 0) (mkLA w t).st .nrm (mkLA (w.step t) (w.stepT t)).st := by
 exact sF [] [] (Fp 16 (@tapeDone t ‹_›) (Ftb 17 (!decide ((↑t.l.length : Int)≤t.at')) (Fp 20 (@sp_worldStep w t n ‹_› ‹_› ‹_› ‹_›) Fz)))
theorem mkEndA (w : WorldM) (t : Tape) (ht : TOk t) (hd : ¬ t.at' < t.l.length) : CSpec Tryz.prog (rndF Tryz.f15 0) (mkLA w t).st (.ext 0) (Tg.st ⟨tm 22 [(2,.pt 8002 0 0),(4,.pt 40004 0 0)],[(40004,.box 30 w.cells),(8002,.box 30 [int 0,int 0,.d (.sl 0 []),.d (.sl 0 []),int 0,int 0,.d (.sl 0 []),.d (.sl 0 [])])],60⟩) := by
 exact sF [] [] (Fp 16 (@tapeDone t ‹_›) (Ffb 17 (!decide ((↑t.l.length : Int)≤t.at')) Fz))
theorem mkLoopA (w : WorldM) (t : Tape) (hm : MOk w 0) (hl : t.l.length ≤ 300) (h0 : 0 ≤ t.at') (h1 : t.at' ≤ 1000) : CSpec Tryz.prog (blkF Tryz.f15 0) (Tg.st ⟨tm 22 [(2,.pt 8002 0 0),(3,.pt 32012 0 0),(4,.pt 40004 0 0)],[(40004,.box 30 w.cells),(32012,t.b),(8002,.box 30 [int 0,int 0,.d (.sl 0 []),.d (.sl 0 []),int 0,int 0,.d (.sl 0 []),.d (.sl 0 [])])],60⟩) .nrm (Tg.st ⟨tm 22 [(2,.pt 8002 0 0),(4,.pt 40004 0 0)],[(40004,.box 30 (makeW w t).cells),(8002,.box 30 [int 0,int 0,.d (.sl 0 []),.d (.sl 0 []),int 0,int 0,.d (.sl 0 []),.d (.sl 0 [])])],60⟩) := by
 have hk := mkN_is w t h0
 have tok : ∀ k,k ≤ mkN w t → TOk (mkS w t k).2 ∧ (mkS w t k).2.at' ≤ 900000 := fun k hk' => by
  have u := mkS_up w t k
  refine ⟨?_,by omega⟩
  unfold TOk
  rw [u.1]
  omega
 refine loop_ext_of (S := fun k => (mkLA (mkS w t k).1 (mkS w t k).2).st) (mkN w t) (by kernel_rfl) (fun k hk' => ?_) ?_
 ·have hs := hk.2.1 k hk'
  simp only [mkB,decide_eq_false_iff_not] at hs
  have m := mkS_ok hm t k (by omega)
  exact mkRoundA _ _ (0 + k) m (by omega) (tok k (by omega)).1 (tok k (by omega)).2 (by omega)
 ·have hs := hk.1
  simp only [mkB,decide_eq_true_eq] at hs
  exact mkEndA _ _ (tok _ (Nat.le_refl _)).1 (by omega)
def mkLB (w : WorldM) (t : Tape) : Tg := ⟨tm 22 [(2,.pt 8002 0 0),(3,.pt 24012 0 0),(4,.pt 32004 0 0)],[(32004,.box 30 w.cells),(24012,t.b),(8002,.box 30 [int 0,int 0,.d (.sl 0 []),.d (.sl 0 []),int 0,int 0,.d (.sl 0 []),.d (.sl 0 [])])],60⟩
theorem mkRoundB (w : WorldM) (t : Tape) (n : Nat) (hm : MOk w n) (hn : n ≤ 1000000) (ht : TOk t) (ha : t.at' ≤ 900000) (hd : t.at' < t.l.length) : CSpec Tryz.prog (rndF Tryz.f15 0) (mkLB w t).st .nrm (mkLB (w.step t) (w.stepT t)).st := by
 exact sF [] [] (Fp 16 (@tapeDone t ‹_›) (Ftb 17 (!decide ((↑t.l.length : Int)≤t.at')) (Fp 20 (@sp_worldStep w t n ‹_› ‹_› ‹_› ‹_›) Fz)))
theorem mkEndB (w : WorldM) (t : Tape) (ht : TOk t) (hd : ¬ t.at' < t.l.length) : CSpec Tryz.prog (rndF Tryz.f15 0) (mkLB w t).st (.ext 0) (Tg.st ⟨tm 22 [(2,.pt 8002 0 0),(4,.pt 32004 0 0)],[(32004,.box 30 w.cells),(8002,.box 30 [int 0,int 0,.d (.sl 0 []),.d (.sl 0 []),int 0,int 0,.d (.sl 0 []),.d (.sl 0 [])])],60⟩) := by
 exact sF [] [] (Fp 16 (@tapeDone t ‹_›) (Ffb 17 (!decide ((↑t.l.length : Int)≤t.at')) Fz))
theorem mkLoopB (w : WorldM) (t : Tape) (hm : MOk w 0) (hl : t.l.length ≤ 300) (h0 : 0 ≤ t.at') (h1 : t.at' ≤ 1000) : CSpec Tryz.prog (blkF Tryz.f15 0) (Tg.st ⟨tm 22 [(2,.pt 8002 0 0),(3,.pt 24012 0 0),(4,.pt 32004 0 0)],[(32004,.box 30 w.cells),(24012,t.b),(8002,.box 30 [int 0,int 0,.d (.sl 0 []),.d (.sl 0 []),int 0,int 0,.d (.sl 0 []),.d (.sl 0 [])])],60⟩) .nrm (Tg.st ⟨tm 22 [(2,.pt 8002 0 0),(4,.pt 32004 0 0)],[(32004,.box 30 (makeW w t).cells),(8002,.box 30 [int 0,int 0,.d (.sl 0 []),.d (.sl 0 []),int 0,int 0,.d (.sl 0 []),.d (.sl 0 [])])],60⟩) := by
 have hk := mkN_is w t h0
 have tok : ∀ k,k ≤ mkN w t → TOk (mkS w t k).2 ∧ (mkS w t k).2.at' ≤ 900000 := fun k hk' => by
  have u := mkS_up w t k
  refine ⟨?_,by omega⟩
  unfold TOk
  rw [u.1]
  omega
 refine loop_ext_of (S := fun k => (mkLB (mkS w t k).1 (mkS w t k).2).st) (mkN w t) (by kernel_rfl) (fun k hk' => ?_) ?_
 ·have hs := hk.2.1 k hk'
  simp only [mkB,decide_eq_false_iff_not] at hs
  have m := mkS_ok hm t k (by omega)
  exact mkRoundB _ _ (0 + k) m (by omega) (tok k (by omega)).1 (tok k (by omega)).2 (by omega)
 ·have hs := hk.1
  simp only [mkB,decide_eq_true_eq] at hs
  exact mkEndB _ _ (tok _ (Nat.le_refl _)).1 (by omega)
def makeT (l : List Int) : Tape := ⟨l.take 300,0⟩
def makeF (l : List Int) : WorldM := makeW (makeT l).empty (((makeT l).step 4).step 5)
theorem empty_ok (t : Tape) : MOk t.empty 0 := by
 have hv := tape_conf_valid t
 have hb := validB_iff.1 hv
 refine ⟨?_,hv, ?_, ?_, ?_, ?_, ?_, ?_,by simp [Tape.empty],by simp [Tape.empty]⟩
 ·intro x hx
  simp only [Tape.empty,newHeap,List.mem_replicate] at hx
  omega
 ·simp only [Tape.empty,newHeap,List.length_replicate]; omega
 ·have := area hv
  simp only [Tape.empty,newHeap,List.length_replicate]; omega
 ·intro j hj
  simp only [Tape.empty,newHeap,List.length_replicate] at hj ⊢
  have : (List.replicate t.conf.pg.toNat (⟨0,0,0,0⟩ : Page)).getD j default = ⟨0,0,0,0⟩ := by simp [List.getD_eq_getElem?_getD,hj]
  rw [this]; simp
 ·intro j hj
  simp only [Tape.empty,newHeap,List.length_replicate] at hj ⊢
  have : (List.replicate t.conf.pg.toNat (⟨0,0,0,0⟩ : Page)).getD j default = ⟨0,0,0,0⟩ := by simp [List.getD_eq_getElem?_getD,hj]
  rw [this]; simp
 ·intro x hx; simp [Tape.empty] at hx
 ·intro x hx; simp [Tape.empty] at hx
theorem make_steps (l : List Int) : (((makeT l).step 4).step 5).l = l.take 300 ∧ (((makeT l).step 4).step 5).at' = 2 := by simp [makeT,Tape.step]
theorem makeF_ok (l : List Int) : MOk (makeF l) 1000 := by
 have e := make_steps l
 have hl : (((makeT l).step 4).step 5).l.length ≤ 300 := by rw [e.1]; simp; omega
 have hk := mkN_is (makeT l).empty (((makeT l).step 4).step 5) (by omega)
 have m := mkS_ok (empty_ok (makeT l)) (((makeT l).step 4).step 5) (mkN (makeT l).empty (((makeT l).step 4).step 5)) (by omega)
 have h2 : ∀ (w : WorldM) (a b : Nat),MOk w a → a ≤ b → MOk w b := fun w a b h hab =>
  ⟨h.words,h.hv,h.pl,h.L,fun j hj => by have := h.pins j hj; omega,h.us,h.strong,h.weak,by have := h.sl; omega,by have := h.wl; omega⟩
 exact h2 _ _ _ m (by omega)
theorem madeMake (l : List Int) (hl : l.length ≤ 140737488355328) : GSpec Tryz.prog 15 [intsV l] false (makeF l).av [] := by
 have e := make_steps l
 have he := empty_ok (makeT l)
 have h1 : (((makeT l).step 4).step 5).l.length ≤ 300 := by rw [e.1]; simp; omega
 have h2 := e.2
 by_cases h : 300 < l.length
 ·have ht : TOk ⟨List.take (Int.toNat 300) l,0⟩ := by simp [TOk]; omega
  have e9 : makeT l = ⟨List.take (Int.toNat 300) l,0⟩ := rfl
  unfold makeF
  rw [e9] at he h1 h2 ⊢
  exact gF [] Tryz.func15 [] (Fh 9 [.els (List.map idv (List.take (Int.toNat 300) l))] (Fl 6 idv l (Ftb 7 (decide (300 < (↑l.length : Int))) (Fa (by (simp only [List.length_map]; omega) : (0 :Int)≤(300 :Int)∧300≤(↑(List.map idv l).length : Int)) (Fa (by simp [List.map_take,List.map_drop,List.map_set,List.map_append,wdv,idv] : List.take (Int.toNat 300) (List.map idv l) =List.map idv (List.take (Int.toNat 300) l)) (Fp 14 (@tapeEmpty (Tape.mk (List.take (Int.toNat 300) l) 0) ‹_› (by (simp only [bs]; omega))) (Fu (@mkLoopA ((Tape.mk (List.take (Int.toNat 300) l) 0).empty) (((Tape.mk (List.take (Int.toNat 300) l) 0).step 4).step 5) ‹_› ‹_› (by omega) (by omega)) Fz)))))))
 ·have ht : TOk ⟨l,0⟩ := by simp [TOk]; omega
  have e9 : makeT l = ⟨l,0⟩ := by rw [makeT,List.take_of_length_le (by omega)]
  unfold makeF
  rw [e9] at he h1 h2 ⊢
  exact gF [] Tryz.func15 [] (Fl 6 idv l (Ffb 7 (decide (300 < (↑l.length : Int))) (Fp 14 (@tapeEmpty (Tape.mk l 0) ‹_› (by (simp only [bs]; omega))) (Fu (@mkLoopB ((Tape.mk l 0).empty) (((Tape.mk l 0).step 4).step 5) ‹_› ‹_› (by omega) (by omega)) Fz))))
end Go.Proofs.YtolnblaadleknaaGreat
