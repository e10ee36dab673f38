/-
 The statement WalkCovers: part 13.
 Conditions: none.
-/
import Derived.Test.YtjflpmnenhdeeaaGreatC12
set_option maxRecDepth 100000
set_option maxHeartbeats 2000000
set_option linter.all false
namespace Go.Proofs.YtjflpmnenhdeeaaGreat
open Go.Sx
structure NewOk (h h' : Heap) (T : Nat → List Int) (hd : Header) (i : Nat) (a : Int) : Prop where
 g : Gd h' (fun j => if j = i then T i ++ [a] else T j)
 k : kdA h'.words a ≠ 0
 e : hdA h'.words a = hd
 z : ∀ k,a < k → k < a + sizeH hd → (loadA h'.words k).1 = 0
 o : ∀ k,k < a ∨ a + sizeH hd ≤ k → loadA h'.words k = loadA h.words k
 d : ∀ j x,x ∈ T j → x + hlA h.words x < a ∨ a + sizeH hd ≤ x
 c : h'.conf = h.conf
theorem Zeq {c : Conf} {n : Int} (hn : ¬ 0 < need c n) (h0 : 0 ≤ need c n) : n ≤ Z00 c := by
 unfold need at hn h0
 split at h0
 ·rename_i hc
  rw [if_pos hc] at hn
  have hb := validB_iff.1 hc.1
  rw [Z00,if_pos hc.1,Int.tdiv_eq_ediv_of_nonneg (by omega)]
  split at h0
  ·rename_i hd; exact hd
  ·rename_i hd
   rw [if_neg hd] at hn
   have e := Int.mul_ediv_add_emod (n + c.pw - 1) c.pw
   have := Int.emod_lt_of_pos (n + c.pw - 1) (b := c.pw) (by omega)
   have hz : (n + c.pw - 1) / c.pw = 0 := by omega
   rw [hz] at e
   omega
 ·omega
theorem Gd.newOk {h : Heap} {T : Nat → List Int} (g : Gd h T) {hd : Header} (hw : WOk h.words) (hm : 0 ≤ hd.map ∧ hd.map ≤ 4294967295) (e : (new7 h hd).2.2 = 0) : ∃ i,NewOk h (new7 h hd).1 T hd i (new7 h hd).2.1 := by
 obtain ⟨k1,k2,k3,k4,k5,k6,k7,k8⟩ := ZcX hw hm e
 obtain ⟨a1,a2,a3,a4,a5⟩ := Z54 k2
 have po := Z06 g.p
 have hpt := g.p
 rw [Z1a] at hpt
 obtain ⟨p1,p2,p3,p4,p5,p6⟩ := hpt
 have hin : 4096 ≤ (put7 h hd).2.1 ∧ (put7 h hd).2.1 + sizeH hd ≤ 4096 + h.words.length := ⟨k3.lo,k3.hi⟩
 have e1 : (new7 h hd).1.conf = h.conf := by rw [k6]; exact k3.c
 have e2 : (new7 h hd).1.space = h.space := by rw [k6]; exact k3.sp
 have e3 : (new7 h hd).1.pages.length = h.pages.length := by rw [k6]; exact k3.l
 have e4 : (new7 h hd).1.words = (Z0q h.words (put7 h hd).2.1 (objW hd)).1 := by rw [k6]
 have e5 : (new7 h hd).1.pages = (put7 h hd).1.pages := by rw [k6]
 rw [k5]
 have fin : ∀ i : Nat,i < h.pages.length → (∀ j,j < h.pages.length → j ≠ i → (new7 h hd).1.pages.getD j default = h.pages.getD j default ∨ ((h.pages.getD j default).kind = 0 ∧ ((new7 h hd).1.pages.getD j default).kind = 3 ∧ ((new7 h hd).1.pages.getD j default).space = h.space)) →
   ((h.pages.getD i default).kind = 0 ∨ (h.pages.getD i default).kind = 1) ∧ ((new7 h hd).1.pages.getD i default).kind = 1 ∧ (put7 h hd).2.1 = bsP h i + occP (h.pages.getD i default) ∧ ((new7 h hd).1.pages.getD i default).used = occP (h.pages.getD i default) + sizeH hd ∧ sizeH hd ≤ Z00 h.conf ∨ (h.pages.getD i default).kind = 0 ∧ ((new7 h hd).1.pages.getD i default).kind = 2 ∧ (put7 h hd).2.1 = bsP h i ∧ ((new7 h hd).1.pages.getD i default).used = sizeH hd →
   ((new7 h hd).1.pages.getD i default).space = h.space → crowd (new7 h hd).1.pages ≤ crowd h.pages → (∀ j x,x ∈ T j → x + hlA h.words x < (put7 h hd).2.1 ∨ (put7 h hd).2.1 + sizeH hd ≤ x) → ∃ i,NewOk h (new7 h hd).1 T hd i (put7 h hd).2.1 := by
  intro i hi hj hI hsp hcr hdis
  obtain ⟨q1,q2,q3,q4,q5⟩ := g.add a1 hm a5 k7 e1 e2 e3 e4 hin hi hj hI hsp hcr hdis
  exact ⟨i,q1,q2,q3,q4,q5,hdis,e1⟩
 rw [e5] at fin
 by_cases hn : 0 < need h.conf (sizeH hd)
 ·have e7 : put7 h hd = Z0l h (sizeH hd) (need h.conf (sizeH hd)) := by rw [put7,if_pos hn]
  rw [e7] at k4 fin ⊢
  by_cases hg : 0 ≤ first h.pages (need h.conf (sizeH hd)) ∧ Z1c h.pages + need h.conf (sizeH hd) ≤ Z1W h.conf
  ·obtain ⟨g1,g2,g3⟩ := Z1v hg.1
   have el : (Z26 h.conf h.pages (first h.pages (need h.conf (sizeH hd))) h.space (sizeH hd)).1 = tookP h.pages (first h.pages (need h.conf (sizeH hd))).toNat (need h.conf (sizeH hd)).toNat ⟨2,h.space,sizeH hd,0⟩ ⟨3,h.space,0,0⟩ := by
    rw [Z26,if_pos ⟨g1,by omega⟩,Z2l,if_pos (by omega),if_pos g3]
   have e8 : Z0l h (sizeH hd) (need h.conf (sizeH hd)) = (⟨h.conf,h.words,tookP h.pages (first h.pages (need h.conf (sizeH hd))).toNat (need h.conf (sizeH hd)).toNat ⟨2,h.space,sizeH hd,0⟩ ⟨3,h.space,0,0⟩,h.space,h.bump⟩,4096 + first h.pages (need h.conf (sizeH hd)) * h.conf.pw,true) := by rw [Z0l,if_pos hg,el]
   have hf : ∀ j,j < (need h.conf (sizeH hd)).toNat → (h.pages.getD ((first h.pages (need h.conf (sizeH hd))).toNat + j) default).kind = 0 := freeK_iff.1 g3
   have hu := Z4A g1
   rw [e8] at fin ⊢
   simp only at fin ⊢
   generalize hk : need h.conf (sizeH hd) = k at *
   generalize hfi : first h.pages k = f at *
   have hge : ∀ j,(tookP h.pages f.toNat k.toNat ⟨2,h.space,sizeH hd,0⟩ ⟨3,h.space,0,0⟩).getD j default = if j = f.toNat then ⟨2,h.space,sizeH hd,0⟩ else if f.toNat < j ∧ j < f.toNat + k.toNat then ⟨3,h.space,0,0⟩ else h.pages.getD j default := Z5P (by omega) (by omega)
   have h0 := hf 0 (by omega)
   rw [Nat.add_zero] at h0
   refine fin f.toNat (by omega) ?_ ?_ ?_ ?_ ?_
   ·intro j hj1 hj2
    rw [hge,if_neg hj2]
    split
    ·rename_i q
     have := hf (j - f.toNat) (by omega)
     rw [show f.toNat + (j - f.toNat) = j by omega] at this
     exact Or.inr ⟨this,rfl,rfl⟩
    ·exact Or.inl rfl
   ·rw [hge,if_pos rfl]
    refine Or.inr ⟨h0,rfl, ?_,rfl⟩
    rw [bsP,Int.toNat_of_nonneg (by omega)]
   ·rw [hge,if_pos rfl]
   ·refine Z6a (Z5O (by omega)) fun j hj1 q1 q2 => ?_
    rw [hge] at q1 q2
    split at q1
    ·simp at q1
    ·rename_i c1
     rw [if_neg c1] at q2
     split at q1
     ·simp at q1
     ·rename_i c2
      rw [if_neg c2] at q2
      exact ⟨q1,q2⟩
   ·intro j x hx
    have o := g.on hx
    have hr := Z0f h.words x
    unfold bsP at o
    have hfe : ((f.toNat : Nat) : Int) = f := by omega
    by_cases q : j < f.toNat
    ·have := Z3Z g.p q (by omega) o.2.1 (by omega)
     rw [hfe] at this
     omega
    ·have hjk : f.toNat + k.toNat ≤ j := by
      by_cases q2 : f.toNat + k.toNat ≤ j
      ·exact q2
      ·have := hf (j - f.toNat) (by omega)
       rw [show f.toNat + (j - f.toNat) = j by omega] at this
       omega
     have := Int.mul_le_mul_of_nonneg_right (show f + k ≤ (j : Int) by omega) (show 0 ≤ h.conf.pw by omega)
     rw [Int.add_mul] at this
     omega
  ·rw [Z0l,if_neg hg] at k4
   simp at k4
 ·have e7 : put7 h hd = Z09 h (sizeH hd) := by rw [put7,if_neg hn]
  have hsm := Zeq hn a4
  have hsw : Z00 h.conf ≤ h.conf.pw := by
   rw [Z00,if_pos p1,Int.tdiv_eq_ediv_of_nonneg (by omega)]
   omega
  rw [e7] at k4 fin ⊢
  by_cases hf : Z5T h (sizeH hd)
  ·have e8 : Z09 h (sizeH hd) = (⟨h.conf,h.words,Z1Y h.pages h.bump.toNat (sizeH hd),h.space,h.bump⟩,4096 + h.bump * h.conf.pw + (h.pages.getD h.bump.toNat default).used,true) := by rw [Z09,if_pos hf]
   unfold Z5T at hf
   have hbi : h.bump.toNat < h.pages.length := by omega
   have hk : (h.pages.getD h.bump.toNat default).kind = 1 := by omega
   have hbe : ((h.bump.toNat : Nat) : Int) = h.bump := by omega
   have hoc : occP (h.pages.getD h.bump.toNat default) = (h.pages.getD h.bump.toNat default).used := by rw [occP,if_neg (by omega)]
   rw [e8,Z3r] at fin
   rw [e8]
   simp only at fin ⊢
   refine fin h.bump.toNat hbi ?_ ?_ ?_ ?_ ?_
   ·intro j hj1 hj2
    rw [Z0o hbi,if_neg (fun q => hj2 q.symm)]
    exact Or.inl rfl
   ·rw [Z0o hbi,if_pos rfl,hoc]
    refine Or.inl ⟨Or.inr hk,hk, ?_,rfl,hsm⟩
    rw [bsP,hbe]
   ·rw [Z0o hbi,if_pos rfl]
    exact hf.2.1
   ·refine Z6a (by rw [List.length_set]) fun j hj1 q1 q2 => ?_
    rw [Z0o hbi] at q1 q2
    split at q1
    ·rename_i c
     rw [if_pos c] at q2
     subst c
     exact ⟨q1,q2⟩
    ·rename_i c
     rw [if_neg c] at q2
     exact ⟨q1,q2⟩
   ·intro j x hx
    have := g.free hbi (Or.inr hk) hx
    rw [hoc,bsP,hbe] at this
    omega
  ·by_cases hg : 0 ≤ first h.pages 1 ∧ (Z1c h.pages : Int) < Z1W h.conf
   ·have e8 : Z09 h (sizeH hd) = (⟨h.conf,h.words,Z1Y (Z2A h) (first h.pages 1).toNat (sizeH hd),h.space,first h.pages 1⟩,4096 + first h.pages 1 * h.conf.pw + ((Z2A h).getD (first h.pages 1).toNat default).used,true) := by rw [Z09,if_neg hf,if_pos hg]
    obtain ⟨g1,g2,g3⟩ := Z36 p4 hg.1 (sizeH hd)
    have g4 := congrArg Page.used (Z2r p4 hg.1).2.2.2
    simp only at g4
    have hbe : (((first h.pages 1).toNat : Nat) : Int) = first h.pages 1 := by omega
    have hoc : occP (h.pages.getD (first h.pages 1).toNat default) = 0 := by rw [occP,if_pos g2]
    rw [e8,g1,g4] at fin
    rw [e8,g4]
    simp only at fin ⊢
    refine fin (first h.pages 1).toNat g3 ?_ ?_ ?_ ?_ ?_
    ·intro j hj1 hj2
     rw [Z0o g3,if_neg (fun q => hj2 q.symm)]
     exact Or.inl rfl
    ·rw [Z0o g3,if_pos rfl,hoc]
     refine Or.inl ⟨Or.inl g2,rfl, ?_,by simp,hsm⟩
     rw [bsP,hbe]
    ·rw [Z0o g3,if_pos rfl]
    ·refine Z6a (by rw [List.length_set]) fun j hj1 q1 q2 => ?_
     rw [Z0o g3] at q1 q2
     split at q1
     ·rename_i c
      rw [if_pos c] at q2
      simp at q2
     ·rename_i c
      rw [if_neg c] at q2
      exact ⟨q1,q2⟩
    ·intro j x hx
     have := g.free g3 (Or.inl g2) hx
     rw [hoc,bsP,hbe] at this
     omega
   ·rw [Z09,if_neg hf,if_neg hg] at k4
    simp at k4
def RtOb (h : Heap) (T : Nat → List Int) (l : List Int) : Prop := ∀ r ∈ l,r = 0 ∨ Ob h T r
def WG (w : WorldM) : Prop := ∃ T,Gd w.heap T ∧ RtOb w.heap T w.strong ∧ RtOb w.heap T w.weak
theorem NewOk.ob {h h' : Heap} {T : Nat → List Int} {hd : Header} {i : Nat} {a : Int} (n : NewOk h h' T hd i a) {x : Int} (hx : Ob h T x) : Ob h' (fun j => if j = i then T i ++ [a] else T j) x := by
 obtain ⟨j,hj,hk⟩ := hx
 have r := Z0f h.words x
 have o := Z20 (ws := h.words) (ws' := h'.words) (a := x) (by rw [n.o x (by have := n.d j x hj; omega)])
 refine ⟨j, ?_,by rw [o.2.2.1]; exact hk⟩
 show x ∈ (if j = i then T i ++ [a] else T j)
 split
 ·rename_i q; subst q; exact List.mem_append_left _ hj
 ·exact hj
theorem NewOk.ob0 {h h' : Heap} {T : Nat → List Int} {hd : Header} {i : Nat} {a : Int} (n : NewOk h h' T hd i a) : Ob h' (fun j => if j = i then T i ++ [a] else T j) a :=
 ⟨i,by simp,n.k⟩
theorem WG.put {w : WorldM} (h : WG w) (hw : WOk w.heap.words) {hd : Header} (hm : 0 ≤ hd.map ∧ hd.map ≤ 4294967295) : WG (w.put hd) := by
 unfold WorldM.put
 split
 ·rename_i e
  obtain ⟨T,g,g1,g2⟩ := h
  obtain ⟨i,n⟩ := g.newOk hw hm e
  refine ⟨_,n.g,fun r hr => ?_,fun r hr => ?_⟩
  ·rcases List.mem_append.1 hr with hr | hr
   ·rcases g1 r hr with q | q
    ·exact Or.inl q
    ·exact Or.inr (n.ob q)
   ·have := List.mem_singleton.1 hr
    subst this
    exact Or.inr n.ob0
  ·rcases g2 r hr with q | q
   ·exact Or.inl q
   ·exact Or.inr (n.ob q)
 ·exact h
theorem WG.pick {w : WorldM} {T : Nat → List Int} (g1 : RtOb w.heap T w.strong) (g2 : RtOb w.heap T w.weak) (t : Tape) : w.pick t = 0 ∨ Ob w.heap T (w.pick t) := by
 rcases Zdv w t with e | e | e
 ·exact Or.inl e
 ·exact g1 _ e
 ·exact g2 _ e
theorem Gd.setf {h : Heap} {T : Nat → List Int} (g : Gd h T) (hw : WOk h.words) {a i v : Int} (hv : 0 ≤ v ∧ v ≤ 18446744073709551615) (ha : Ob h T a) (hi : 0 ≤ i ∧ i < (getH h a).1.length) (hp : Z0k (getH h a).1 i = true → v = 0 ∨ Ob h T v) : Gd (Z0c h a i v).1 T ∧ ∀ x,Ob h T x → Ob (Z0c h a i v).1 T x := by
 obtain ⟨j,hj,hk⟩ := ha
 have f := g.fields hj hk
 obtain ⟨s1,s2,s3⟩ := Z5x hw hv (a := a) (i := i) (by rw [f.1]) hi
 rw [f.1] at hi hp
 have q := g.store (v := v) ⟨j,hj,hk⟩ hi hp
 rw [s1]
 refine ⟨q.1, ?_⟩
 rintro x ⟨m,m1,m2⟩
 refine ⟨m,m1, ?_⟩
 have := (Z20 (q.2 m x m1)).2.2.1
 simp only
 rw [this]
 exact m2
theorem WG.link {w : WorldM} {n : Nat} (h : WG w) (hm : MOk w n) (hn : n ≤ 1000000) (t : Tape) : WG (w.link t) := by
 unfold WorldM.link
 split
 ·rename_i hc
  obtain ⟨T,g,g1,g2⟩ := h
  have hw := hm.wm hn
  have gg := Z3W hc.1
  have n1 := Z0C (w.pickT (w.pickT t)) (n := 8) (by decide)
  have hi : 0 ≤ Z1E w t ∧ Z1E w t < (getH w.heap (w.pick t)).1.length := by
   unfold Z1E
   rw [Int.tmod_eq_emod_of_nonneg n1.1]
   exact ⟨Int.emod_nonneg _ (by omega),Int.emod_lt_of_pos _ (by omega)⟩
  have hv : 0 ≤ Z1H w t ∧ Z1H w t ≤ 18446744073709551615 := by
   unfold Z1H
   split
   ·exact Z2G hw _
   ·have := Z0C ((w.pickT (w.pickT t)).step 8) (n := 1048576) (by decide)
    omega
  have ho : Ob w.heap T (w.pick t) := by
   rcases WG.pick g1 g2 t with q | q
   ·omega
   ·exact q
  have s := g.setf hm.words hv ho hi (fun q => by
   unfold Z1H
   rw [if_pos q]
   exact WG.pick g1 g2 _)
  exact ⟨T,s.1,fun r hr => (g1 r hr).imp id (s.2 r),fun r hr => (g2 r hr).imp id (s.2 r)⟩
 ·exact h
theorem WG.pinned {w : WorldM} (h : WG w) {i : Nat} {d : Int} (hp : Z01 (pinB w i d).heap = true) (hi : i < w.heap.pages.length) (hd : d = -1 ∨ 0 < (w.heap.pages.getD i default).pins ∨ (w.heap.pages.getD i default).kind = 2 ∨ (crowd w.heap.pages : Int) < w.heap.conf.pg / 4) : WG (pinB w i d) := by
 obtain ⟨T,g,g1,g2⟩ := h
 have pp := Z0M g.p hi
 have ks : ∀ j,j < w.heap.pages.length → ((pinB w i d).heap.pages.getD j default).kind = (w.heap.pages.getD j default).kind ∧ ((pinB w i d).heap.pages.getD j default).space = (w.heap.pages.getD j default).space ∧ ((pinB w i d).heap.pages.getD j default).used = (w.heap.pages.getD j default).used := by
  intro j hj
  simp only [pinB]
  rw [Z0o hi]
  split
  ·rename_i q; subst q; exact ⟨rfl,rfl,rfl⟩
  ·exact ⟨rfl,rfl,rfl⟩
 have hcr : (crowd (pinB w i d).heap.pages : Int) ≤ w.heap.conf.pg / 4 := by
  have c0 := g.cr
  have mono : (0 < (w.heap.pages.getD i default).pins + d → (w.heap.pages.getD i default).kind = 1 → 0 < (w.heap.pages.getD i default).pins) → (crowd (pinB w i d).heap.pages : Int) ≤ w.heap.conf.pg / 4 := by
   intro hh
   have : crowd (pinB w i d).heap.pages ≤ crowd w.heap.pages := by
    refine Z6a (by simp [pinB]) fun j hj q1 q2 => ?_
    simp only [pinB] at q1 q2
    rw [Z0o hi] at q1 q2
    split at q1
    ·rename_i c
     rw [if_pos c] at q2
     subst c
     exact ⟨q1,hh q2 q1⟩
    ·rename_i c
     rw [if_neg c] at q2
     exact ⟨q1,q2⟩
   omega
  rcases hd with q | q | q | q
  ·exact mono (by omega)
  ·exact mono (by omega)
  ·exact mono (by omega)
  ·have := (Z9l (p := ⟨(w.heap.pages.getD i default).kind,(w.heap.pages.getD i default).space,(w.heap.pages.getD i default).used,(w.heap.pages.getD i default).pins + d⟩) hi w.heap.pages.length).1
   have e : crowd (pinB w i d).heap.pages = Z0F (w.heap.pages.set i ⟨(w.heap.pages.getD i default).kind,(w.heap.pages.getD i default).space,(w.heap.pages.getD i default).used,(w.heap.pages.getD i default).pins + d⟩) w.heap.pages.length := by
    simp only [crowd,pinB,List.length_set]
   have e2 : crowd w.heap.pages = Z0F w.heap.pages w.heap.pages.length := rfl
   omega
 exact ⟨T,g.pages hp rfl rfl rfl (by simp [pinB]) ks hcr,g1,g2⟩
theorem WG.pin {w : WorldM} {n : Nat} (h : WG w) (hp : POk w) (hm : MOk w n) (hn : n ≤ 1000000) (t : Tape) : WG (w.pin t) := by
 have p1 := (hp.pin hm hn t).p
 unfold WorldM.pin at p1 ⊢
 split
 ·rename_i e
  rw [if_pos e] at p1
  have o := Z3k hm.hv e
  have hpl := hm.pl
  have hi : pinI w t < w.heap.pages.length := by unfold pinI; omega
  split
  ·rename_i c
   rw [if_pos c] at p1
   exact h.pinned p1 hi (Or.inl rfl)
  ·rename_i c
   rw [if_neg c] at p1
   split
   ·rename_i c2
    rw [if_pos c2] at p1
    exact h.pinned p1 hi (Or.inr c2)
   ·exact h
 ·exact h
theorem WG.drop {w : WorldM} (h : WG w) (t : Tape) : WG (w.drop t) := by
 unfold WorldM.drop
 split
 ·rename_i hl
  obtain ⟨T,g,g1,g2⟩ := h
  have n1 := Z0C t (n := (w.strong.length : Int)) (by omega)
  refine ⟨T,g,fun r hr => ?_,fun r hr => ?_⟩
  ·rcases List.mem_append.1 hr with hr | hr
   ·exact g1 r (List.mem_of_mem_take hr)
   ·exact g1 r (List.mem_of_mem_drop hr)
  ·simp only at hr
   split at hr
   ·rcases List.mem_append.1 hr with hr | hr
    ·exact g2 r hr
    ·simp only [List.mem_singleton] at hr
     subst hr
     refine g1 _ (getD_mem_iff.2 ⟨_, ?_,rfl⟩)
     unfold ZgG
     omega
   ·exact g2 r hr
 ·exact h
theorem WG.dup {w : WorldM} (h : WG w) (t : Tape) : WG (w.dup t) := by
 obtain ⟨T,g,g1,g2⟩ := h
 refine ⟨T,g,fun r hr => ?_,g2⟩
 rcases List.mem_append.1 hr with hr | hr
 ·exact g1 r hr
 ·simp only [List.mem_singleton] at hr
  subst hr
  exact WG.pick g1 g2 _
theorem ZiT (t : Tape) : WG t.empty := by
 have hpr := (ZaY t).p
 have hv := Z2s t
 have hb := validB_iff.1 hv
 have hz : ∀ j,(t.empty.heap.pages.getD j default).kind = 0 ∧ (t.empty.heap.pages.getD j default).pins = 0 := by
  intro j
  simp only [Tape.empty,Z2M,List.getD_eq_getElem?_getD,List.getElem?_replicate]
  split
  ·exact ⟨rfl,rfl⟩
  ·exact ⟨rfl,rfl⟩
 refine ⟨fun _ => [],⟨hpr, ?_, ?_, ?_,by simp, ?_,by simp, ?_⟩,by simp [RtOb,Tape.empty],by simp [RtOb,Tape.empty]⟩
 ·intro i _ hk
  exact absurd (hz i).1 hk
 ·intro i _ hk
  rw [(hz i).1] at hk
  omega
 ·intro i _ hk
  rw [(hz i).1] at hk
  omega
 ·intro a ha
  exfalso
  apply ha
  show (loadA (List.replicate (t.conf.pw * t.conf.pg).toNat 0) a).1 = 0
  unfold loadA
  by_cases c : 4096 ≤ a ∧ a < 4096 + ((List.replicate (t.conf.pw * t.conf.pg).toNat (0 : Int)).length : Int)
  ·rw [if_pos c]
   simp only [List.getD_eq_getElem?_getD,List.getElem?_replicate]
   split <;> rfl
  ·rw [if_neg c]
 ·have : crowd t.empty.heap.pages = 0 := by
   have h0 : ∀ n,Z0F t.empty.heap.pages n = 0 := by
    intro n
    induction n with
    | zero => rfl
    | succ n ih =>
     unfold Z0F
     rw [ih,if_neg (by rw [(hz n).1]; omega)]
   exact h0 _
  rw [this]
  show (0 : Int) ≤ t.conf.pg / 4
  omega
theorem Z9g {w : Work} {n : Int} (hw : WkOk w) (hn : 1 ≤ n ∧ n ≤ w.heap.conf.pw) (h : (w.place n).2.2 = true) :
  ∃ (i : Nat) (p : Page) (t : List Int),i < w.heap.pages.length ∧ ((w.heap.pages.getD i default).kind = 0 ∧ t = w.taken ++ [(i : Int)] ∧ p.pins = 0 ∨ (i : Int) ∈ w.taken ∧ (w.heap.pages.getD i default).kind = 1 ∧ t = w.taken ∧ p.pins = (w.heap.pages.getD i default).pins) ∧ p.kind = 1 ∧ p.used = occP (w.heap.pages.getD i default) + n ∧ occP (w.heap.pages.getD i default) + n ≤ w.heap.conf.pw ∧ 0 ≤ occP (w.heap.pages.getD i default) ∧ (w.place n).2.1 = 4096 + i * w.heap.conf.pw + occP (w.heap.pages.getD i default) ∧
  (w.place n).1 = ⟨⟨w.heap.conf,w.heap.words,w.heap.pages.set i p,w.heap.space,w.heap.bump⟩,w.old,t,w.queue,w.scanned,w.rep⟩ := by
 by_cases hf : Z4B w n
 ·have e : w.place n = (⟨⟨w.heap.conf,w.heap.words,Z1Y w.heap.pages (Z0O w).toNat n,w.heap.space,w.heap.bump⟩,w.old,w.taken,w.queue,w.scanned,w.rep⟩,4096 + Z0O w * w.heap.conf.pw + (w.heap.pages.getD (Z0O w).toNat default).used,true) := by rw [Work.place,if_pos hf]
  unfold Z4B at hf
  have hm := hw.tk _ (Z1q hf.1)
  have hu := hw.us (Z0O w).toNat (by omega)
  have hoc : occP (w.heap.pages.getD (Z0O w).toNat default) = (w.heap.pages.getD (Z0O w).toNat default).used := by rw [occP,if_neg (by omega)]
  have hle : (((Z0O w).toNat : Nat) : Int) = Z0O w := by omega
  refine ⟨(Z0O w).toNat,⟨(w.heap.pages.getD (Z0O w).toNat default).kind,(w.heap.pages.getD (Z0O w).toNat default).space,(w.heap.pages.getD (Z0O w).toNat default).used + n,(w.heap.pages.getD (Z0O w).toNat default).pins⟩,w.taken,by omega,Or.inr ⟨by rw [hle]; exact Z1q hf.1,hm.2.2,rfl,rfl⟩,hm.2.2, ?_,by rw [hoc]; omega,by rw [hoc]; omega, ?_, ?_⟩
  ·rw [hoc]
  ·rw [e,hoc,hle]
  ·rw [e,Z3r]
 ·by_cases hg : 0 ≤ Z0r w
  ·have e : w.place n = (⟨⟨w.heap.conf,w.heap.words,Z1Y (Z2z w) (Z0r w).toNat n,w.heap.space,w.heap.bump⟩,w.old,w.taken ++ [Z0r w],w.queue,w.scanned,w.rep⟩,4096 + Z0r w * w.heap.conf.pw,true) := by rw [Work.place,if_neg hf,if_pos hg]
   obtain ⟨g1,g2,g3⟩ := Z36 (h := ⟨w.heap.conf,w.heap.words,w.heap.pages,1 - w.heap.space,w.heap.bump⟩) (by have := hw.sp; simp only; omega) hg n
   have g1' : Z1Y (Z2z w) (Z0r w).toNat n = w.heap.pages.set (Z0r w).toNat ⟨1,1 - w.heap.space,n,0⟩ := g1
   have g2' : (w.heap.pages.getD (Z0r w).toNat default).kind = 0 := g2
   have g3' : (Z0r w).toNat < w.heap.pages.length := g3
   have hoc : occP (w.heap.pages.getD (Z0r w).toNat default) = 0 := by rw [occP,if_pos g2']
   have hle : (((Z0r w).toNat : Nat) : Int) = Z0r w := by omega
   refine ⟨(Z0r w).toNat,⟨1,1 - w.heap.space,n,0⟩,w.taken ++ [Z0r w],g3',Or.inl ⟨g2',by rw [hle],rfl⟩,rfl,by rw [hoc]; simp,by rw [hoc]; omega,by rw [hoc]; omega, ?_, ?_⟩
   ·rw [e,hoc,hle]; simp
   ·rw [e,g1']
  ·rw [Work.place,if_neg hf,if_neg hg] at h
   simp at h
structure KI (h : Heap) (T tq : Nat → List Int) (w : Work) : Prop where
 c : w.heap.conf = h.conf
 sp : w.heap.space = h.space
 old : ∀ x,x ∈ w.old ↔ Ob h T x
 pl : w.heap.pages.length = h.pages.length
 wl : w.heap.words.length = h.words.length
 pg : ∀ i : Nat,(i : Int) ∉ w.taken → (w.heap.pages.getD i default).kind = (h.pages.getD i default).kind ∧ (w.heap.pages.getD i default).used = (h.pages.getD i default).used ∧ (w.heap.pages.getD i default).pins = (h.pages.getD i default).pins
 tk : ∀ i : Nat,(i : Int) ∈ w.taken → i < h.pages.length ∧ (h.pages.getD i default).kind = 0 ∧ (w.heap.pages.getD i default).kind = 1 ∧ (w.heap.pages.getD i default).pins = 0 ∧ (w.heap.pages.getD i default).used ≤ h.conf.pw ∧ tile w.heap.words (bsP h i) (bsP h i + (w.heap.pages.getD i default).used) (tq i) ∧ ∀ x ∈ tq i,x ∈ w.queue ∧ kdA w.heap.words x ≠ 0 ∧ hlA w.heap.words x + 1 ≤ Z00 h.conf
 tk0 : ∀ i : Nat,(i : Int) ∉ w.taken → tq i = []
 q : ∀ x ∈ w.queue,(∃ i : Nat,(i : Int) ∉ w.taken ∧ x ∈ T i ∧ kdA h.words x ≠ 0 ∧ (w.heap.pages.getD i default).space ≠ w.heap.space) ∨ (∃ i : Nat,(i : Int) ∈ w.taken ∧ x ∈ tq i)
 hd : ∀ i x,x ∈ T i → (loadA w.heap.words x).1 = (loadA h.words x).1 ∨ ((Z0n (loadA w.heap.words x).1).2 = true ∧ (w.heap.pages.getD i default).kind = 1 ∧ (w.heap.pages.getD i default).space = w.heap.space)
 dt : ∀ a,(loadA w.heap.words a).1 ≠ 0 → (∃ i x,x ∈ T i ∧ x ≤ a ∧ a < x + kpA h.words x) ∨ (∃ i : Nat,(i : Int) ∈ w.taken ∧ bsP h i ≤ a ∧ a < bsP h i + (w.heap.pages.getD i default).used)
 lg : ∀ i : Nat,(h.pages.getD i default).kind = 2 → (w.heap.pages.getD i default).space ≠ w.heap.space → bsP h i ∈ w.queue
section
variable {h : Heap} {T : Nat → List Int} (g : Gd h T)
include g
theorem KI.nt {tq : Nat → List Int} {w : Work} (k : KI h T tq w) {i : Nat} {x : Int} (hx : x ∈ T i) : (i : Int) ∉ w.taken := by
 intro q
 have := (k.tk i q).2.1
 have := (g.t0 i x hx).2
 omega
theorem KI.sepT {tq : Nat → List Int} {w : Work} (k : KI h T tq w) {i j : Nat} {x y : Int} (hi : (i : Int) ∈ w.taken) (hx : x ∈ tq i) (hy : y ∈ T j) : bsP h i ≤ x ∧ x + hlA w.heap.words x < bsP h i + h.conf.pw ∧ (y + hlA h.words y < bsP h i ∨ bsP h i + h.conf.pw ≤ y) := by
 have t := k.tk i hi
 have m := Z1x t.2.2.2.2.2.1 hx
 have f := g.free t.1 (Or.inl t.2.1) hy
 rw [occP,if_pos t.2.1] at f
 exact ⟨m.2.1,by omega,by omega⟩
omit g in
theorem KI.sepQ (g : Gd h T) {tq : Nat → List Int} {w : Work} (k : KI h T tq w) {i j : Nat} {x y : Int} (hi : (i : Int) ∈ w.taken) (hx : x ∈ tq i) (hj : (j : Int) ∈ w.taken) (hy : y ∈ tq j) (hxy : x < y) : x + hlA w.heap.words x < y := by
 have t := k.tk i hi
 have u := k.tk j hj
 have m := Z1x t.2.2.2.2.2.1 hx
 have n := Z1x u.2.2.2.2.2.1 hy
 have po := Z06 g.p
 have r := Z0f w.heap.words y
 unfold bsP at m n
 rcases Nat.lt_trichotomy i j with q | q | q
 ·have := Z0Y (i := i) (j := j) (pw := h.conf.pw) (by omega) (by omega)
  omega
 ·subst q
  exact Z9S t.2.2.2.2.2.1 hx hy hxy
 ·have := Z0Y (i := j) (j := i) (pw := h.conf.pw) (by omega) (by omega)
  omega
theorem KI.withWords {tq : Nat → List Int} {w : Work} (k : KI h T tq w) {l : List Int} (hl : l.length = w.heap.words.length) (h1 : ∀ i x,x ∈ T i → (loadA l x).1 = (loadA w.heap.words x).1) (h2 : ∀ (i : Nat) x,(i : Int) ∈ w.taken → x ∈ tq i → (loadA l x).1 = (loadA w.heap.words x).1)
  (h3 : ∀ a,(loadA l a).1 ≠ 0 → (loadA w.heap.words a).1 ≠ 0 ∨ (∃ i x,x ∈ T i ∧ x ≤ a ∧ a < x + kpA h.words x) ∨ (∃ i : Nat,(i : Int) ∈ w.taken ∧ bsP h i ≤ a ∧ a < bsP h i + (w.heap.pages.getD i default).used)) :
  KI h T tq ⟨⟨w.heap.conf,l,w.heap.pages,w.heap.space,w.heap.bump⟩,w.old,w.taken,w.queue,w.scanned,w.rep⟩ := by
 refine ⟨k.c,k.sp,k.old,k.pl,hl.trans k.wl,k.pg, ?_,k.tk0,k.q, ?_, ?_,k.lg⟩
 ·intro i hi
  obtain ⟨t1,t2,t3,t4,t5,t6,t7⟩ := k.tk i hi
  have ky := fun x hx => Z20 (h2 i x hi hx)
  refine ⟨t1,t2,t3,t4,t5,Z2e t6 fun x hx => ⟨(ky x hx).1 (Z1x t6 hx).1,(ky x hx).2.1⟩,fun x hx => ?_⟩
  have := t7 x hx
  simp only
  rw [(ky x hx).2.2.1,(ky x hx).2.1]
  exact this
 ·intro i x hx
  simp only
  rw [h1 i x hx]
  exact k.hd i x hx
 ·intro a ha
  rcases h3 a ha with q | q
  ·exact k.dt a q
  ·exact q
theorem KI.keep {tq : Nat → List Int} {w : Work} (k : KI h T tq w) {r : Int} {i : Nat} (hi : r ∈ T i) (hk : kdA h.words r ≠ 0) (hs : (w.heap.pages.getD i default).space ≠ w.heap.space) : KI h T tq (w.keep r) := by
 refine ⟨k.c,k.sp,k.old,k.pl,k.wl,k.pg, ?_,k.tk0, ?_,k.hd,k.dt, ?_⟩
 ·intro j hj
  obtain ⟨t1,t2,t3,t4,t5,t6,t7⟩ := k.tk j hj
  exact ⟨t1,t2,t3,t4,t5,t6,fun x hx => ⟨List.mem_append_left _ (t7 x hx).1,(t7 x hx).2⟩⟩
 ·intro x hx
  simp only [Work.keep,List.mem_append,List.mem_singleton] at hx
  rcases hx with hx | rfl
  ·exact k.q x hx
  ·exact Or.inl ⟨i,k.nt g hi,hi,hk,hs⟩
 ·intro j h1 h2
  exact List.mem_append_left _ (k.lg j h1 h2)
theorem KI.flip {tq : Nat → List Int} {w : Work} (k : KI h T tq w) (hw : WkOk w) {r : Int} {i : Nat} (hi : r ∈ T i) (hk : kdA h.words r ≠ 0) (h2 : (w.heap.pages.getD i default).kind = 2) : KI h T tq ((w.flip i).keep r) := by
 have hil := (g.t0 i r hi).1
 have hpl := k.pl
 have hsp := hw.sp
 have hu : ∀ j,((Z0D w.heap.pages i (Z0t w.heap.pages i) (1 - w.heap.space)).getD j default).kind = (w.heap.pages.getD j default).kind ∧ ((Z0D w.heap.pages i (Z0t w.heap.pages i) (1 - w.heap.space)).getD j default).used = (w.heap.pages.getD j default).used ∧ ((Z0D w.heap.pages i (Z0t w.heap.pages i) (1 - w.heap.space)).getD j default).pins = (w.heap.pages.getD j default).pins := by
  intro j
  by_cases hj : j < w.heap.pages.length
  ·rw [Z1s hj]
   split
   ·exact ⟨rfl,rfl,rfl⟩
   ·exact ⟨rfl,rfl,rfl⟩
  ·rw [List.getD_eq_getElem?_getD,List.getD_eq_getElem?_getD,List.getElem?_eq_none (by rw [Z1t]; omega),List.getElem?_eq_none (by omega)]
   exact ⟨rfl,rfl,rfl⟩
 have hs1 : ∀ j,(w.heap.pages.getD j default).kind = 1 → ((Z0D w.heap.pages i (Z0t w.heap.pages i) (1 - w.heap.space)).getD j default).space = (w.heap.pages.getD j default).space := by
  intro j hj
  by_cases hjl : j < w.heap.pages.length
  ·rw [Z1s hjl]
   split
   ·rename_i c
    exfalso
    by_cases q : j = i
    ·subst q; omega
    ·have := (Z8e (l := w.heap.pages) (i := i) (m := j - i - 1) (by omega)).2
     rw [show i + 1 + (j - i - 1) = j by omega] at this
     omega
   ·rfl
  ·rw [List.getD_eq_getElem?_getD,List.getD_eq_getElem?_getD,List.getElem?_eq_none (by rw [Z1t]; omega),List.getElem?_eq_none (by omega)]
 have hs2 : ∀ j,(w.heap.pages.getD j default).space ≠ w.heap.space → ((Z0D w.heap.pages i (Z0t w.heap.pages i) (1 - w.heap.space)).getD j default).space ≠ w.heap.space := by
  intro j hj
  by_cases hjl : j < w.heap.pages.length
  ·rw [Z1s hjl]
   split
   ·simp only [Zb0]; omega
   ·exact hj
  ·rw [List.getD_eq_getElem?_getD,List.getElem?_eq_none (by rw [Z1t]; omega)]
   rw [List.getD_eq_getElem?_getD,List.getElem?_eq_none (by omega)] at hj
   exact hj
 have hs3 : ∀ j,(w.heap.pages.getD j default).kind = 2 → j ≠ i → ((Z0D w.heap.pages i (Z0t w.heap.pages i) (1 - w.heap.space)).getD j default).space = (w.heap.pages.getD j default).space := by
  intro j hj hne
  by_cases hjl : j < w.heap.pages.length
  ·rw [Z1s hjl]
   split
   ·rename_i c
    exfalso
    have := (Z8e (l := w.heap.pages) (i := i) (m := j - i - 1) (by omega)).2
    rw [show i + 1 + (j - i - 1) = j by omega] at this
    omega
   ·rfl
  ·rw [List.getD_eq_getElem?_getD,List.getElem?_eq_none (by omega)] at hj
   have d : (default : Page).kind = 0 := rfl
   simp only [Option.getD_none] at hj
   omega
 have hsi : ((Z0D w.heap.pages i (Z0t w.heap.pages i) (1 - w.heap.space)).getD i default).space ≠ w.heap.space := by
  rw [Z1s (by omega),if_pos ⟨Nat.le_refl _,Nat.le_add_right _ _⟩]
  simp only [Zb0]
  omega
 have kf : KI h T tq ⟨⟨w.heap.conf,w.heap.words,Z0D w.heap.pages i (Z0t w.heap.pages i) (1 - w.heap.space),w.heap.space,w.heap.bump⟩,w.old,w.taken,w.queue ++ [r],w.scanned,w.rep⟩ := by
  refine ⟨k.c,k.sp,k.old,by simp only [Z1t]; exact k.pl,k.wl, ?_, ?_,k.tk0, ?_, ?_, ?_, ?_⟩
  ·intro j hj
   simp only [hu]
   exact k.pg j hj
  ·intro j hj
   simp only [hu]
   obtain ⟨t1,t2,t3,t4,t5,t6,t7⟩ := k.tk j hj
   exact ⟨t1,t2,t3,t4,t5,t6,fun x hx => ⟨List.mem_append_left _ (t7 x hx).1,(t7 x hx).2⟩⟩
  ·intro x hx
   simp only [List.mem_append,List.mem_singleton] at hx
   rcases hx with hx | rfl
   ·rcases k.q x hx with ⟨j,j1,j2,j3,j4⟩ | q
    ·exact Or.inl ⟨j,j1,j2,j3,hs2 j j4⟩
    ·exact Or.inr q
   ·exact Or.inl ⟨i,k.nt g hi,hi,hk,hsi⟩
  ·intro j x hx
   rcases k.hd j x hx with q | q
   ·exact Or.inl q
   ·refine Or.inr ⟨q.1, ?_, ?_⟩
    ·simp only [hu]; exact q.2.1
    ·simp only; rw [hs1 j q.2.1]; exact q.2.2
  ·intro a ha
   simp only [hu]
   exact k.dt a ha
  ·intro j h1 h2'
   simp only at h2' ⊢
   by_cases q : j = i
   ·subst q
    have := (g.on hi).2.2.2.2.2.2 h1
    rw [← this.1]
    simp
   ·have hjt : (j : Int) ∉ w.taken := fun q => by have := (k.tk j q).2.1; omega
    rw [hs3 j (by rw [(k.pg j hjt).1]; exact h1) q] at h2'
    exact List.mem_append_left _ (k.lg j h1 h2')
 exact ⟨kf.c,kf.sp,kf.old,kf.pl,kf.wl,kf.pg,kf.tk,kf.tk0,kf.q,kf.hd,kf.dt,kf.lg⟩
end
section
variable {h : Heap} {T : Nat → List Int} (g : Gd h T)
include g
theorem KI.copy {tq : Nat → List Int} {w : Work} (k : KI h T tq w) (hw : WkOk w) {r n : Int} {i0 : Nat} (hr : r ∈ T i0) (hkd : kdA h.words r ≠ 0) (h1 : (h.pages.getD i0 default).kind = 1) (hs : (w.heap.pages.getD i0 default).space = w.heap.space) (he : (loadA w.heap.words r).1 = (loadA h.words r).1)
  (hn : n = hlA w.heap.words r + 1) (hp : n ≤ w.heap.conf.pw) (hc : (w.place n).2.2 = true) : ∃ tq',KI h T tq' ((w.place n).1.copy r (w.place n).2.1 n) := by
 have hlr := Z0f w.heap.words r
 have ey := Z20 he
 obtain ⟨i,p,t,p1,p2,p3,p4,p5,p6,p7,e⟩ := Z9g hw ⟨by omega,hp⟩ hc
 have hcc := k.c
 have hpl := k.pl
 have hwl := k.wl
 have po := Z06 g.p
 have hin := g.inw hr
 have hki : (h.pages.getD i default).kind = 0 := by
  rcases p2 with q | q
  ·by_cases c : (i : Int) ∈ w.taken
   ·exact (k.tk i c).2.1
   ·rw [← (k.pg i c).1]; exact q.1
  ·exact (k.tk i q.1).2.1
 have hio := Z0Y (i := i) (j := h.conf.pg) (pw := h.conf.pw) (by omega) (by omega)
 rw [Int.mul_comm h.conf.pg] at hio
 have hi0 : 0 ≤ (i : Int) * h.conf.pw := Int.mul_nonneg (by omega) (by omega)
 rw [hcc] at p5 p7 hp
 have hbp : 4096 + (i : Int) * h.conf.pw = bsP h i := rfl
 rw [e,p7,hbp]
 generalize hu : occP (w.heap.pages.getD i default) = u at *
 generalize ha : bsP h i + u = a
 have hbl : 4096 ≤ a ∧ a + n ≤ 4096 + w.heap.words.length := by omega
 have far : ∀ j x,x ∈ T j → x + hlA h.words x < bsP h i ∨ bsP h i + h.conf.pw ≤ x := by
  intro j x hx
  have := g.free (show i < h.pages.length by omega) (Or.inl hki) hx
  rw [occP,if_pos hki] at this
  omega
 have farr := far i0 r hr
 obtain ⟨m1,m2,m3⟩ := Z7R (ws := w.heap.words) (a := a) (b := r) (n := n) (by omega) (by omega) (by omega)
 have hsr : 4096 ≤ r ∧ r < 4096 + (moveA w.heap.words a r n).1.length := by omega
 have w1 : ∀ x,x ≠ r → (x < a ∨ a + n ≤ x) → loadA (Z0A (moveA w.heap.words a r n).1 r (4 * a + 2)).1 x = loadA w.heap.words x := fun x q1 q2 => by rw [Z0x hsr q1,m3 x q2]
 have w2 : (loadA (Z0A (moveA w.heap.words a r n).1 r (4 * a + 2)).1 r).1 = 4 * a + 2 := by rw [Z2t hsr]
 have w3 : (loadA (Z0A (moveA w.heap.words a r n).1 r (4 * a + 2)).1 a).1 = (loadA w.heap.words r).1 := by rw [Z0x hsr (by omega),m2]
 have hlen : (Z0A (moveA w.heap.words a r n).1 r (4 * a + 2)).1.length = w.heap.words.length := by rw [Z2q hsr,m1]
 have hit : (i : Int) ∈ t := by rcases p2 with q | q; (rw [q.2.1]; simp); (rw [q.2.2.1]; exact q.1)
 have htt : ∀ x,x ∈ t ↔ x ∈ w.taken ∨ x = (i : Int) := by
  intro x
  rcases p2 with q | q
  ·rw [q.2.1]; simp
  ·rw [q.2.2.1]
   exact ⟨Or.inl,fun c => c.elim id fun c => c ▸ q.1⟩
 have w4 : ∀ (j : Nat) x,(j : Int) ∈ w.taken → x ∈ tq j → x ≠ r ∧ (x < a ∨ a + n ≤ x) ∧ (j = i → x + hlA w.heap.words x < a) := by
  intro j x hj hx
  have s := k.sepT g hj hx hr
  have rx := Z0f w.heap.words x
  have t := k.tk j hj
  have m := Z1x t.2.2.2.2.2.1 hx
  refine ⟨by omega, ?_⟩
  rcases Nat.lt_trichotomy j i with q | q | q
  ·have := Z0Y (i := j) (j := i) (pw := h.conf.pw) (by omega) (by omega)
   unfold bsP at s
   rw [← hbp] at ha
   exact ⟨Or.inl (by omega),fun q2 => by omega⟩
  ·subst q
   have : u = (w.heap.pages.getD j default).used := by rw [← hu,occP,if_neg (by omega)]
   exact ⟨Or.inl (by omega),fun _ => by omega⟩
  ·have := Z0Y (i := i) (j := j) (pw := h.conf.pw) (by omega) (by omega)
   unfold bsP at s
   rw [← hbp] at ha
   exact ⟨Or.inr (by omega),fun q2 => by omega⟩
 have kq : ∀ (j : Nat) x,(j : Int) ∈ w.taken → x ∈ tq j → (loadA (Z0A (moveA w.heap.words a r n).1 r (4 * a + 2)).1 x).1 = (loadA w.heap.words x).1 := fun j x hj hx => by
  have := w4 j x hj hx
  rw [w1 x this.1 this.2.1]
 refine ⟨fun j => if j = i then tq i ++ [a] else tq j,k.c,k.sp,k.old, ?_, ?_, ?_, ?_, ?_, ?_, ?_, ?_, ?_⟩
 ·simp only [Work.copy,List.length_set]; exact k.pl
 ·simp only [Work.copy,hlen]; exact k.wl
 ·intro j hj
  simp only [Work.copy] at hj ⊢
  have hj' := fun q => hj ((htt _).2 (Or.inl q))
  have hne : ¬ i = j := fun q => hj (q ▸ hit)
  rw [Z0o p1,if_neg hne]
  exact k.pg j hj'
 ·intro j hj
  simp only [Work.copy] at hj ⊢
  rw [Z0o p1]
  by_cases q : i = j
  ·subst q
   rw [if_pos rfl]
   simp only [if_true]
   have ka := Z20 (ws := w.heap.words) (ws' := (Z0A (moveA w.heap.words a r n).1 r (4 * a + 2)).1) (a := a)
   have ke : hdA (Z0A (moveA w.heap.words a r n).1 r (4 * a + 2)).1 a = hdA h.words r := by rw [hdA,hdA,w3,he]
   have kl : hlA (Z0A (moveA w.heap.words a r n).1 r (4 * a + 2)).1 a = n - 1 := by
    have : hlA (Z0A (moveA w.heap.words a r n).1 r (4 * a + 2)).1 a = hlA w.heap.words r := by rw [hlA,hlA,w3]
    omega
   have kk : okA (Z0A (moveA w.heap.words a r n).1 r (4 * a + 2)).1 a := by
    have := (g.on hr).2.2.2.2.2.1
    rw [okA] at this ⊢
    rw [w3,he]
    exact this
   refine ⟨by omega,hki,p3, ?_,by omega, ?_, ?_⟩
   ·rcases p2 with q | q
    ·exact q.2.2
    ·rw [q.2.2.2]; exact (k.tk i q.1).2.2.2.1
   ·refine ZaE (b := a) ?_ ⟨rfl,kk,by rw [kl]; simp only [tile]; omega⟩
    by_cases c : (i : Int) ∈ w.taken
    ·have t := k.tk i c
     have hue : u = (w.heap.pages.getD i default).used := by rw [← hu,occP,if_neg (by omega)]
     have t6 := t.2.2.2.2.2.1
     rw [← hue,ha] at t6
     exact Z2e t6 fun x hx => ⟨(Z20 (kq i x c hx)).1 (Z1x t6 hx).1,(Z20 (kq i x c hx)).2.1⟩
    ·rw [k.tk0 i c]
     have hue : u = 0 := by
      rcases p2 with q | q
      ·rw [← hu,occP,if_pos q.1]
      ·exact absurd q.1 c
     simp only [tile]; omega
   ·intro x hx
    rcases List.mem_append.1 hx with hx | hx
    ·by_cases c : (i : Int) ∈ w.taken
     ·have t := (k.tk i c).2.2.2.2.2.2 x hx
      have o := Z20 (kq i x c hx)
      rw [o.2.2.1,o.2.1]
      exact ⟨List.mem_append_left _ t.1,t.2⟩
     ·rw [k.tk0 i c] at hx; simp at hx
    ·have := List.mem_singleton.1 hx
     subst this
     refine ⟨by simp,by rw [kdA,ke]; exact hkd, ?_⟩
     have := (g.t1 i0 (g.t0 i0 r hr).1 h1).2 r hr
     rw [kl]
     have := ey.2.1
     omega
  ·rw [if_neg q]
   have hj' : (j : Int) ∈ w.taken := by
    rcases (htt _).1 hj with c | c
    ·exact c
    ·omega
   obtain ⟨t1,t2,t3,t4,t5,t6,t7⟩ := k.tk j hj'
   simp only [show ¬ j = i from fun c => q c.symm,if_false]
   refine ⟨t1,t2,t3,t4,t5,Z2e t6 fun x hx => ⟨(Z20 (kq j x hj' hx)).1 (Z1x t6 hx).1,(Z20 (kq j x hj' hx)).2.1⟩,fun x hx => ?_⟩
   have o := Z20 (kq j x hj' hx)
   rw [o.2.2.1,o.2.1]
   exact ⟨List.mem_append_left _ (t7 x hx).1,(t7 x hx).2⟩
 ·intro j hj
  simp only [Work.copy] at hj
  have hne : ¬ j = i := fun q => hj (q ▸ hit)
  simp only [hne,if_false]
  exact k.tk0 j fun q => hj ((htt _).2 (Or.inl q))
 ·intro x hx
  simp only [Work.copy,List.mem_append,List.mem_singleton] at hx ⊢
  rcases hx with hx | rfl
  ·rcases k.q x hx with ⟨j,j1,j2,j3,j4⟩ | ⟨j,j1,j2⟩
   ·have hne : ¬ i = j := by
     rintro rfl
     have := (g.t0 i x j2).2
     omega
    refine Or.inl ⟨j,fun c => ?_,j2,j3,by rw [Z0o p1,if_neg hne]; exact j4⟩
    rcases (htt _).1 c with c | c
    ·exact j1 c
    ·omega
   ·refine Or.inr ⟨j,(htt _).2 (Or.inl j1), ?_⟩
    split
    ·rename_i q; subst q; exact List.mem_append_left _ j2
    ·exact j2
  ·exact Or.inr ⟨i,hit,by simp⟩
 ·intro j x hx
  simp only [Work.copy]
  have hne : ¬ i = j := by
   rintro rfl
   have := (g.t0 i x hx).2
   omega
  rw [Z0o p1,if_neg hne]
  by_cases q : x = r
  ·subst q
   refine Or.inr ⟨by rw [w2,Z99 (by omega) (by omega)], ?_, ?_⟩
   ·have e1 := g.ofx hx
    have e2 := g.ofx hr
    rw [e1] at e2
    have : j = i0 := by simp only [Prod.mk.injEq] at e2; omega
    subst this
    rw [(k.pg j (k.nt g hx)).1]
    exact h1
   ·have e1 := g.ofx hx
    have e2 := g.ofx hr
    rw [e1] at e2
    have : j = i0 := by simp only [Prod.mk.injEq] at e2; omega
    subst this
    exact hs
  ·have f := far j x hx
   have rx := Z0f h.words x
   rw [w1 x q (by omega)]
   exact k.hd j x hx
 ·intro b hb
  simp only [Work.copy] at hb ⊢
  by_cases q : a ≤ b ∧ b < a + n
  ·exact Or.inr ⟨i,hit,by omega,by rw [Z0o p1,if_pos rfl]; omega⟩
  ·by_cases q2 : b = r
   ·refine Or.inl ⟨i0,r,hr,by omega, ?_⟩
    rw [kpA,if_neg hkd]
    have := Z0f h.words r
    omega
   ·rw [w1 b q2 (by omega)] at hb
    rcases k.dt b hb with c | ⟨j,j1,j2,j3⟩
    ·exact Or.inl c
    ·refine Or.inr ⟨j,(htt _).2 (Or.inl j1),j2, ?_⟩
     rw [Z0o p1]
     split
     ·rename_i c
      subst c
      have := (k.tk i j1).2.2.1
      have : u = (w.heap.pages.getD i default).used := by rw [← hu,occP,if_neg (by omega)]
      omega
     ·exact j3
 ·intro j h2 hsj
  simp only [Work.copy] at hsj ⊢
  have hne : ¬ i = j := by rintro rfl; omega
  rw [Z0o p1,if_neg hne] at hsj
  exact List.mem_append_left _ (k.lg j h2 hsj)
theorem KI.fwd {tq : Nat → List Int} {w : Work} (k : KI h T tq w) (hw : WkOk w) (hi : Inv w) (r : Int) (e : (w.fwd r).2.2 = 0) : ∃ tq',KI h T tq' (w.fwd r).1 := by
 unfold Work.fwd at e ⊢
 split at e
 ·rename_i c1
  rw [if_pos c1]
  exact ⟨tq,k⟩
 ·rename_i c1
  rw [if_neg c1]
  split at e
  ·simp at e
  ·rename_i c2
   rw [if_neg c2]
   have c2' : r ∈ w.old := Decidable.not_not.1 c2
   obtain ⟨i0,hr,hkd⟩ := (k.old r).1 c2'
   have ofr : ofA w.heap.conf r = ((i0 : Int),r - bsP h i0,0) := by rw [k.c]; exact g.ofx hr
   have nt := k.nt g hr
   have pgi := k.pg i0 nt
   have hil := (g.t0 i0 r hr).1
   have hki := (g.t0 i0 r hr).2
   have hpl := k.pl
   split at e
   ·rename_i c3
    rw [if_pos c3]
    exact ⟨tq,k⟩
   ·rename_i c3
    rw [if_neg c3]
    split at e
    ·simp at e
    ·rename_i c4
     rw [if_neg c4]
     split at e
     ·rename_i c5
      rw [if_pos c5]
      simp only [Z1f,decide_eq_true_eq] at c5
      rw [ofr] at c5
      simp only [Int.toNat_natCast] at c5
      exact ⟨tq,k.keep g hr hkd c5.2.2.2.1⟩
     ·rename_i c5
      rw [if_neg c5]
      have epw : Z19 w r = i0 := by rw [Z19,ofr]; simp
      split at e
      ·rename_i c6
       rw [if_pos c6]
       rw [epw] at c6 ⊢
       exact ⟨tq,k.flip g hw hr hkd c6⟩
      ·rename_i c6
       rw [if_neg c6]
       split at e
       ·simp at e
       ·rename_i c7
        rw [if_neg c7]
        have c7' : (w.place (sizeH (hdW w r))).2.2 = true := by simpa using c7
        rw [epw] at c6
        have k1 : (h.pages.getD i0 default).kind = 1 := by omega
        have hs : (w.heap.pages.getD i0 default).space = w.heap.space := by
         by_cases q : (w.heap.pages.getD i0 default).space = w.heap.space
         ·exact q
         ·exfalso
          apply c5
          simp only [Z1f,decide_eq_true_eq]
          rw [ofr]
          simp only [Int.toNat_natCast]
          exact ⟨by omega,by omega,by omega,q,nt⟩
        have he : (loadA w.heap.words r).1 = (loadA h.words r).1 := by
         rcases k.hd i0 r hr with q | q
         ·exact q
         ·exact absurd q.1 c3
        have hz := hi.z r c2'
        have hp : sizeH (hdW w r) ≤ w.heap.conf.pw := by
         rw [Z3b]
         rw [ofr] at hz
         simp only [Int.toNat_natCast] at hz
         rcases hz with hz | hz
         ·exact absurd hz c6
         ·exact hz
        exact k.copy g hw hr hkd k1 hs he (Z3b w r) hp c7'
theorem KI.field {tq : Nat → List Int} {w : Work} (k : KI h T tq w) {q j : Int} (hq : q ∈ w.queue) (hj : 0 ≤ j ∧ j < hlA w.heap.words q) :
  (∀ i x,x ∈ T i → x ≠ q + 1 + j) ∧ (∀ (i : Nat) x,(i : Int) ∈ w.taken → x ∈ tq i → x ≠ q + 1 + j) ∧ ((∃ i x,x ∈ T i ∧ x ≤ q + 1 + j ∧ q + 1 + j < x + kpA h.words x) ∨ (∃ i : Nat,(i : Int) ∈ w.taken ∧ bsP h i ≤ q + 1 + j ∧ q + 1 + j < bsP h i + (w.heap.pages.getD i default).used)) := by
 rcases k.q q hq with ⟨i,i1,i2,i3,i4⟩ | ⟨i,i1,i2⟩
 ·have he : (loadA w.heap.words q).1 = (loadA h.words q).1 := by
   rcases k.hd i q i2 with c | c
   ·exact c
   ·exact absurd c.2.2 i4
  have o := Z20 he
  rw [o.2.1] at hj
  refine ⟨fun m x hx c => ?_,fun m x hm hx c => ?_,Or.inl ⟨i,q,i2,by omega,by rw [kpA,if_neg i3]; omega⟩⟩
  ·have := g.sep i2 hx (by omega)
   omega
  ·have := k.sepT g hm hx i2
   have := Z0f w.heap.words x
   omega
 ·have t := k.tk i i1
  have m := Z1x t.2.2.2.2.2.1 i2
  refine ⟨fun m x hx c => ?_,fun m x hm hx c => ?_,Or.inr ⟨i,i1,by omega,by omega⟩⟩
  ·have := k.sepT g i1 i2 hx
   have := Z0f h.words x
   omega
  ·have := k.sepQ g i1 i2 hm hx (by omega)
   omega
theorem KI.in1 {tq : Nat → List Int} {w : Work} (k : KI h T tq w) (hw : WkOk w) (hi : Inv w) {q j : Int} (hq : q ∈ w.queue) (hj : 0 ≤ j ∧ j < hlA w.heap.words q) (e : (w.fwd (loadA w.heap.words (q + 1 + j)).1).2.2 = 0) : ∃ tq',KI h T tq' (w.in1 (q + 1 + j)) := by
 obtain ⟨tq',k'⟩ := k.fwd g hw hi _ e
 obtain ⟨i1,x1⟩ := Z6y hw hi _ e
 have hq1 := x1.q q hq
 have hl1 := x1.l q hq
 have hr := i1.r q (List.mem_append_right _ hq1)
 have hin : 4096 ≤ q + 1 + j ∧ q + 1 + j < 4096 + (w.fwd (loadA w.heap.words (q + 1 + j)).1).1.heap.words.length := by omega
 obtain ⟨f1,f2,f3⟩ := k'.field g hq1 (j := j) (by omega)
 refine ⟨tq',k'.withWords g (Z2q hin) (fun i x hx => ?_) (fun i x hm hx => ?_) (fun a ha => ?_)⟩
 ·rw [Z0x hin (f1 i x hx)]
 ·rw [Z0x hin (f2 i x hm hx)]
 ·by_cases c : a = q + 1 + j
  ·subst c
   exact Or.inr f3
  ·rw [Z0x hin c] at ha
   exact Or.inl ha
theorem KI.begin : KI h T (fun _ => []) (beginW h) := by
 have hq : ∀ j,((h.pages.map (begQ (1 - h.space))).getD j default).kind = (h.pages.getD j default).kind ∧ ((h.pages.map (begQ (1 - h.space))).getD j default).used = (h.pages.getD j default).used ∧ ((h.pages.map (begQ (1 - h.space))).getD j default).pins = (h.pages.getD j default).pins ∧ ((h.pages.getD j default).kind = 2 → ((h.pages.map (begQ (1 - h.space))).getD j default).space = (h.pages.getD j default).space) := by
  intro j
  by_cases hj : j < h.pages.length
  ·have : (h.pages.map (begQ (1 - h.space))).getD j default = begQ (1 - h.space) (h.pages.getD j default) := by simp [List.getD_eq_getElem?_getD,hj]
   rw [this,begQ]
   split
   ·rename_i c
    exact ⟨rfl,rfl,rfl,fun q => by omega⟩
   ·exact ⟨rfl,rfl,rfl,fun _ => rfl⟩
  ·rw [List.getD_eq_getElem?_getD,List.getD_eq_getElem?_getD,List.getElem?_eq_none (by simp; omega),List.getElem?_eq_none (by omega)]
   exact ⟨rfl,rfl,rfl,fun _ => rfl⟩
 refine ⟨rfl,rfl,g.objs.2,by simp [beginW],rfl,fun i _ => ⟨(hq i).1,(hq i).2.1,(hq i).2.2.1⟩,by simp [beginW],fun _ _ => rfl,by simp [beginW],fun _ _ _ => Or.inl rfl,fun a ha => Or.inl (g.d a ha), ?_⟩
 intro i h2 hs
 exfalso
 simp only [beginW] at hs
 rw [(hq i).2.2.2 h2] at hs
 by_cases hi : i < h.pages.length
 ·exact hs (g.sp i hi (by omega))
 ·rw [List.getD_eq_getElem?_getD,List.getElem?_eq_none (by omega)] at h2
  have d : (default : Page).kind = 0 := rfl
  simp only [Option.getD_none] at h2
  omega
theorem Zlj {s : List Int} (hw : WOk h.words) (e : (rootsF (beginW h) s).2.2 = 0) (e2 : (allF (rootsF (beginW h) s).1).2 = 0) : ∃ tq,KI h T tq (cW2 h s) :=
 ZjZ (fun w => ∃ tq,KI h T tq w) (fun w r hw hi ⟨_,k⟩ e => k.fwd g hw hi r e) (fun w q j hw hi ⟨_,k⟩ hq h0 h1 e => k.in1 g hw hi hq ⟨h0,h1⟩ e) (fun w n ⟨tq,k⟩ => ⟨tq,k.c,k.sp,k.old,k.pl,k.wl,k.pg,k.tk,k.tk0,k.q,k.hd,k.dt,k.lg⟩) hw g.p ⟨_,KI.begin g⟩ e e2
end
theorem ZfZ {w : Work} (hw : WkOk w) (h : Inv w) {r n : Int} (hr : r ∈ w.old) (hq : r ∉ w.queue) (hn : n = hlA w.heap.words r + 1) (hp : n ≤ w.heap.conf.pw) (hc : (w.place n).2.2 = true) : ∀ x ∈ w.queue,∀ m,0 ≤ m → m ≤ hlA w.heap.words x → loadA ((w.place n).1.copy r (w.place n).2.1 n).heap.words (x + m) = loadA w.heap.words (x + m) := by
 have hlr := Z0f w.heap.words r
 obtain ⟨i,p,t,h1,h2,h3,h4,h5,h6,h7,h8,e⟩ := Z4G hw ⟨by omega,hp⟩ hc
 have hb := validB_iff.1 hw.conf
 have hpl := hw.pl
 have hL := h.L
 have hio : (i : Int) * w.heap.conf.pw + w.heap.conf.pw ≤ w.heap.conf.pw * w.heap.conf.pg := by
  have := Z0Y (i := i) (j := w.heap.conf.pg) (pw := w.heap.conf.pw) (by omega) (by omega)
  rw [Int.mul_comm w.heap.conf.pw]; exact this
 have hi0 : 0 ≤ (i : Int) * w.heap.conf.pw := Int.mul_nonneg (by omega) (by omega)
 rw [e,h8]
 generalize hu : occP (w.heap.pages.getD i default) = u at *
 generalize ha : 4096 + (i : Int) * w.heap.conf.pw + u = at'
 have hrr := h.r r (List.mem_append_left _ hr)
 have hf := h.f i h1 (by rcases h2 with h2 | h2; exact Or.inl h2; exact Or.inr h2.1)
 rw [hu] at hf
 obtain ⟨m1,m2,m3⟩ := Z7R (ws := w.heap.words) (a := at') (b := r) (n := n) (by omega) (by omega) (by omega)
 have hsr : 4096 ≤ r ∧ r < 4096 + (moveA w.heap.words at' r n).1.length := by omega
 intro x hx m hm0 hm1
 have hfx := hf x (List.mem_append_right _ hx)
 simp only [Work.copy]
 rw [Z0x hsr ?_,m3 _ (by omega)]
 intro c
 by_cases q : x = r
 ·exact hq (q ▸ hx)
 ·have := h.s x (List.mem_append_right _ hx) r (List.mem_append_left _ hr) (by omega)
  omega
theorem Z75 {w : Work} (hw : WkOk w) (h : Inv w) (r : Int) (e : (w.fwd r).2.2 = 0) : (∃ m,(w.fwd r).1.queue = w.queue ++ m) ∧ (w.fwd r).1.scanned = w.scanned ∧ ∀ x ∈ w.queue,∀ m,0 ≤ m → m ≤ hlA w.heap.words x → loadA (w.fwd r).1.heap.words (x + m) = loadA w.heap.words (x + m) := by
 unfold Work.fwd at e ⊢
 split at e
 ·rename_i c1
  rw [if_pos c1]
  exact ⟨⟨[],by simp⟩,rfl,fun _ _ _ _ _ => rfl⟩
 ·rename_i c1
  rw [if_neg c1]
  have c1' : r ∉ w.queue := fun h => c1 (Or.inr h)
  split at e
  ·simp at e
  ·rename_i c2
   rw [if_neg c2]
   have c2' : r ∈ w.old := Decidable.not_not.1 c2
   split at e
   ·rename_i c3
    rw [if_pos c3]
    exact ⟨⟨[],by simp⟩,rfl,fun _ _ _ _ _ => rfl⟩
   ·rename_i c3
    rw [if_neg c3]
    split at e
    ·simp at e
    ·rename_i c4
     rw [if_neg c4]
     split at e
     ·rename_i c5
      rw [if_pos c5]
      exact ⟨⟨[r],rfl⟩,rfl,fun _ _ _ _ _ => rfl⟩
     ·rename_i c5
      rw [if_neg c5]
      split at e
      ·rename_i c6
       rw [if_pos c6]
       exact ⟨⟨[r],rfl⟩,rfl,fun _ _ _ _ _ => rfl⟩
      ·rename_i c6
       rw [if_neg c6]
       split at e
       ·simp at e
       ·rename_i c7
        rw [if_neg c7]
        have c7' : (w.place (sizeH (hdW w r))).2.2 = true := by simpa using c7
        have hz := h.z r c2'
        have hp : sizeH (hdW w r) ≤ w.heap.conf.pw := by
         rw [Z3b]
         rcases hz with hz | hz
         ·exact absurd hz c6
         ·exact hz
        have hlr := Z0f w.heap.words r
        obtain ⟨i,p,t,p1,p2,p3,p4,p5,p6,p7,e8⟩ := Z9g hw ⟨by rw [Z3b]; omega,hp⟩ c7'
        refine ⟨⟨[(w.place (sizeH (hdW w r))).2.1], ?_⟩, ?_,ZfZ hw h c2' c1' (Z3b w r) hp c7'⟩
        ·rw [e8]; rfl
        ·rw [e8]; rfl
def FD (w : Work) (F : Int → Prop) : Prop := ∀ z,F z → (∃ q j,q ∈ w.queue ∧ 0 ≤ j ∧ j < hlA w.heap.words q ∧ z = q + 1 + j) ∧ ToOk w (loadA w.heap.words z).1
structure Sm (w v : Work) : Prop where
 q : ∃ m,v.queue = w.queue ++ m
 h : ∀ x ∈ w.queue,hdA v.heap.words x = hdA w.heap.words x
theorem Sm.trans {u v w : Work} (a : Sm u v) (b : Sm v w) : Sm u w := by
 obtain ⟨m,em⟩ := a.q
 obtain ⟨n,en⟩ := b.q
 exact ⟨⟨m ++ n,by rw [en,em,List.append_assoc]⟩,fun x hx => (b.h x (by rw [em]; exact List.mem_append_left _ hx)).trans (a.h x hx)⟩
theorem Sm.mem {w v : Work} (a : Sm w v) {x : Int} (hx : x ∈ w.queue) : x ∈ v.queue := by
 obtain ⟨m,em⟩ := a.q
 rw [em]
 exact List.mem_append_left _ hx
theorem Sm.len {w v : Work} (a : Sm w v) {x : Int} (hx : x ∈ w.queue) : hlA v.heap.words x = hlA w.heap.words x := congrArg Header.length (a.h x hx)
theorem Sm.to {w v : Work} (a : Sm w v) {x : Int} (hx : ToOk w x) : ToOk v x := hx.imp id a.mem
theorem Zjv {w : Work} (hw : WkOk w) (h : Inv w) (r : Int) (e : (w.fwd r).2.2 = 0) : Sm w (w.fwd r).1 := by
 have s := Z75 hw h r e
 refine ⟨s.1,fun x hx => ?_⟩
 have := s.2.2 x hx 0 (by omega) (Z0f _ _).1
 rw [Int.add_zero] at this
 rw [hdA,hdA,this]
theorem FD.fwd {w : Work} {F : Int → Prop} (f : FD w F) (hw : WkOk w) (h : Inv w) (r : Int) (e : (w.fwd r).2.2 = 0) : FD (w.fwd r).1 F := by
 have s := Z75 hw h r e
 have m := Zjv hw h r e
 intro z hz
 obtain ⟨⟨q,j,hq,h0,h1,rfl⟩,t⟩ := f z hz
 refine ⟨⟨q,j,m.mem hq,h0,by rw [m.len hq]; exact h1,rfl⟩, ?_⟩
 have := s.2.2 q hq (1 + j) (by omega) (by omega)
 rw [← Int.add_assoc] at this
 rw [this]
 exact m.to t
theorem ZlO {B : Int} {w : Work} (hw : WkOk w) (h : Inv w) (hp : PR B w) {F : Int → Prop} (f : FD w F) {q j : Int} (hq : q ∈ w.queue) (hj : 0 ≤ j ∧ j < hlA w.heap.words q) (e : (w.fwd (loadA w.heap.words (q + 1 + j)).1).2.2 = 0) : Sm w (w.in1 (q + 1 + j)) ∧ (w.in1 (q + 1 + j)).scanned = w.scanned ∧ FD (w.in1 (q + 1 + j)) (fun z => F z ∨ z = q + 1 + j) := by
 have s := Z75 hw h _ e
 have m := Zjv hw h _ e
 have ff := f.fwd hw h _ e
 have to := ZjJ w _ hp e
 obtain ⟨i1,x1⟩ := Z6y hw h _ e
 have hq1 := x1.q q hq
 have hl1 := x1.l q hq
 have hr := i1.r q (List.mem_append_right _ hq1)
 have hin : 4096 ≤ q + 1 + j ∧ q + 1 + j < 4096 + (w.fwd (loadA w.heap.words (q + 1 + j)).1).1.heap.words.length := by omega
 have hne : ∀ x ∈ (w.fwd (loadA w.heap.words (q + 1 + j)).1).1.queue,x ≠ q + 1 + j := by
  intro x hx c
  have := i1.s q (List.mem_append_right _ hq1) x (List.mem_append_right _ hx) (by omega)
  omega
 have hh : ∀ x ∈ (w.fwd (loadA w.heap.words (q + 1 + j)).1).1.queue,hdA (w.in1 (q + 1 + j)).heap.words x = hdA (w.fwd (loadA w.heap.words (q + 1 + j)).1).1.heap.words x := by
  intro x hx
  simp only [Work.in1]
  rw [hdA,hdA,Z0x hin (hne x hx)]
 have m2 : Sm (w.fwd (loadA w.heap.words (q + 1 + j)).1).1 (w.in1 (q + 1 + j)) := ⟨⟨[],by simp [Work.in1]⟩,hh⟩
 refine ⟨m.trans m2,s.2.1, ?_⟩
 intro z hz
 have key : (∃ q' j',q' ∈ w.queue ∧ 0 ≤ j' ∧ j' < hlA w.heap.words q' ∧ z = q' + 1 + j') := by
  rcases hz with hz | rfl
  ·exact (f z hz).1
  ·exact ⟨q,j,hq,hj.1,hj.2,rfl⟩
 obtain ⟨q',j',k1,k2,k3,k4⟩ := key
 refine ⟨⟨q',j',(m.trans m2).mem k1,k2,by rw [(m.trans m2).len k1]; exact k3,k4⟩, ?_⟩
 by_cases c : z = q + 1 + j
 ·subst c
  have : (loadA (w.in1 (q + 1 + j)).heap.words (q + 1 + j)).1 = (w.fwd (loadA w.heap.words (q + 1 + j)).1).2.1 := by
   simp only [Work.in1]
   rw [Z2t hin]
  rw [this]
  exact m2.to to
 ·have : loadA (w.in1 (q + 1 + j)).heap.words z = loadA (w.fwd (loadA w.heap.words (q + 1 + j)).1).1.heap.words z := by
   simp only [Work.in1]
   rw [Z0x hin c]
  rw [this]
  rcases hz with hz | hz
  ·exact m2.to (ff z hz).2
  ·exact absurd hz c
section
variable {B : Int} (hB : 0 ≤ B)
include hB
theorem Zg3 {w : Work} (hw : WkOk w) (h : Inv w) (hp : PR B w) {F : Int → Prop} (f : FD w F) {q : Int} (hq : q ∈ w.queue) {l : List Int} (hl : ∀ x ∈ l,0 ≤ x ∧ x < hlA w.heap.words q) : ∀ k,k ≤ l.length → (∀ j,j < k → innE w q l j = 0) → Sm w (innN w q l k) ∧ (innN w q l k).scanned = w.scanned ∧ FD (innN w q l k) (fun z => F z ∨ ∃ i,i < k ∧ z = q + 1 + l.getD i default)
 | 0,_,_ => ⟨⟨⟨[],by simp [innN]⟩,fun _ _ => rfl⟩,rfl,fun z hz => f z (hz.resolve_right (by rintro ⟨i,hi,_⟩; omega))⟩
 | k + 1,hk,he => by
  obtain ⟨a,b,c⟩ := Zg3 hw h hp f hq hl k (by omega) (fun j hj => he j (by omega))
  have ok := (Z3S hw q l k (fun j hj => he j (by omega))).1
  have iv := Z6Z hw h hq hl k (by omega) (fun j hj => he j (by omega))
  have pr := Zh6 (PR B) (fun w q j hw hi h hq h0 h1 e => PR.in1 hB w q j hw hi h hq h0 h1 e) hw h hp hq hl k (by omega) (fun j hj => he j (by omega))
  have hx := hl _ (getD_mem_iff.2 ⟨k,by omega,rfl⟩)
  obtain ⟨d1,d2,d3⟩ := ZlO ok iv.1 pr c (a.mem hq) (j := l.getD k default) ⟨hx.1,by rw [a.len hq]; exact hx.2⟩ (he k (by omega))
  refine ⟨a.trans d1,d2.trans b,fun z hz => d3 z ?_⟩
  rcases hz with hz | ⟨i,hi,hz⟩
  ·exact Or.inl (Or.inl hz)
  ·by_cases q2 : i = k
   ·subst q2; exact Or.inr hz
   ·exact Or.inl (Or.inr ⟨i,by omega,hz⟩)
def SD (w : Work) : Prop := FD w (fun z => ∃ i j,i < w.scanned.toNat ∧ j ∈ Z0d (hdA w.heap.words (w.queue.getD i default)) ∧ z = w.queue.getD i default + 1 + j)
omit hB in
theorem Sm.get {w v : Work} (a : Sm w v) {i : Nat} (hi : i < w.queue.length) : v.queue.getD i default = w.queue.getD i default := by
 obtain ⟨m,em⟩ := a.q
 rw [em,List.getD_eq_getElem?_getD,List.getD_eq_getElem?_getD,List.getElem?_append_left hi]
theorem Zdq {w : Work} (hw : WkOk w) (h : Inv w) (hp : PR B w) (f : SD w) (e : (Z0E w).2.2 = 0) : SD (Z0E w).1 := by
 by_cases hs : w.scanned < w.queue.length
 ·have hsc := hw.sc
  have hq : Z2W w ∈ w.queue := getD_mem_iff.2 ⟨w.scanned.toNat,by omega,rfl⟩
  unfold Z0E at e ⊢
  rw [if_pos hs] at e ⊢
  cases hb : (List.range (Z1G w).length).find? (fun k => decide (innE w (Z2W w) (Z1G w) k ≠ 0)) with
  | none =>
   have h0 : ∀ j,j < (Z1G w).length → innE w (Z2W w) (Z1G w) j = 0 := fun j hj => by
    have := List.find?_eq_none.1 hb j (List.mem_range.2 hj)
    simpa using this
   obtain ⟨a,b,c⟩ := Zg3 hB hw h hp f hq (l := Z1G w) (Z4o (hdW w (Z2W w))) (Z1G w).length (Nat.le_refl _) h0
   intro z hz
   obtain ⟨i,j,hi,hj,rfl⟩ := hz
   simp only [ZcZ] at hi hj ⊢
   rw [b] at hi
   have hg := a.get (show i < w.queue.length by omega)
   have hm : w.queue.getD i default ∈ w.queue := getD_mem_iff.2 ⟨i,by omega,rfl⟩
   rw [hg,a.h _ hm] at hj
   rw [hg]
   refine c _ ?_
   by_cases q : i = w.scanned.toNat
   ·subst q
    obtain ⟨n,n1,n2⟩ := getD_mem_iff.1 hj
    exact Or.inr ⟨n,n1,by rw [← n2]; rfl⟩
   ·exact Or.inl ⟨i,j,by omega,hj,rfl⟩
  | some k =>
   simp only [hb] at e
   have := (List.find?_range_eq_some.1 hb).1
   simp [e] at this
 ·have e : Z0E w = (w,false,0) := by rw [Z0E,if_neg hs]
  rw [e]
  exact f
theorem ZjF {w : Work} (hw : WkOk w) (h : Inv w) (hp : PR B w) (f : SD w) : ∀ k,(∀ j,j < k → Z31 w j = false) → SD (itW w k)
 | 0,_ => f
 | k + 1,hh => by
  have ih := ZjF hw h hp f k (fun j hj => hh j (by omega))
  have ok := (Z3F hw k (fun j hj => hh j (by omega))).1
  have iv := (Z6r hw h k (fun j hj => hh j (by omega))).1
  have pr := Zip (PR B) (fun w q j hw hi h hq h0 h1 e => PR.in1 hB w q j hw hi h hq h0 h1 e) (fun w n h => ⟨⟨h.tab.pt,h.tab.tk,h.tab.pin⟩,h.rt.q,h.rt.t⟩) hw h hp k (fun j hj => hh j (by omega))
  have hk := hh k (by omega)
  simp only [Z31,decide_eq_false_iff_not,not_or,Decidable.not_not] at hk
  exact Zdq hB ok iv pr ih hk.1
theorem Zkw {w : Work} (hw : WkOk w) (h : Inv w) (hp : PR B w) (f : SD w) (e : (allF w).2 = 0) : SD (allF w).1 ∧ (allF w).1.scanned = (allF w).1.queue.length := by
 obtain ⟨k,hb⟩ := Z4z hw
 obtain ⟨h1,h2,h3⟩ := List.find?_range_eq_some.1 hb
 have h0 : ∀ j,j < k → Z31 w j = false := fun j hj => by simpa using h3 j hj
 unfold allF at e ⊢
 rw [hb] at e ⊢
 simp only at e ⊢
 split at e
 ·rename_i c
  rw [if_pos c]
  have ok := (Z3F hw k h0).1
  have iv := (Z6r hw h k h0).1
  have pr := Zip (PR B) (fun w q j hw hi h hq h0 h1 e => PR.in1 hB w q j hw hi h hq h0 h1 e) (fun w n h => ⟨⟨h.tab.pt,h.tab.tk,h.tab.pin⟩,h.rt.q,h.rt.t⟩) hw h hp k h0
  refine ⟨Zdq hB ok iv pr (ZjF hB hw h hp f k h0) c, ?_⟩
  simp only [Z31,decide_eq_true_eq] at h1
  have hf : (Z0E (itW w k)).2.1 = false := h1.resolve_left (fun q => q c)
  have hsc := ok.sc
  by_cases hs : (itW w k).scanned < (itW w k).queue.length
  ·exfalso
   unfold Z0E at hf c
   rw [if_pos hs] at hf c
   cases hb2 : (List.range (Z1G (itW w k)).length).find? (fun m => decide (innE (itW w k) (Z2W (itW w k)) (Z1G (itW w k)) m ≠ 0)) with
   | none =>
    rw [hb2] at hf
    simp at hf
   | some m =>
    simp only [hb2] at c
    have := (List.find?_range_eq_some.1 hb2).1
    simp [c] at this
  ·have e3 : Z0E (itW w k) = (itW w k,false,0) := by rw [Z0E,if_neg hs]
   rw [e3]
   simp only
   omega
 ·rename_i c
  exact absurd e c
theorem Zlp {h : Heap} {s : List Int} (hw : WOk h.words) (hp : Z01 h = true) (hb : ∀ p ∈ h.pages,p.pins ≤ B) (e : (rootsF (beginW h) s).2.2 = 0) (e2 : (allF (rootsF (beginW h) s).1).2 = 0) : SD (cW2 h s) ∧ (cW2 h s).scanned = (cW2 h s).queue.length := by
 have wb := Z33 hw hp
 have hi := Z2S hp
 have ho := Z2X (roots := s) wb hi e
 have pr := ZaF (PR B) (fun w r hw hi h e => PR.fwd hB w r hw hi h e) (roots := s) wb hi ⟨Z4s hp hb,Z73 hp⟩ e
 have s0 := ZaF (fun w => w.scanned = 0) (fun w r hw hi h e => (Z75 hw hi r e).2.1.trans h) (roots := s) wb hi rfl e
 exact Zkw hB ho.1 ho.2.1 pr (fun z hz => by obtain ⟨i,j,q,_⟩ := hz; rw [s0] at q; simp at q) e2
end
def Z5f (w : Work) (x : Int) : Prop := Z1f w (ofA w.heap.conf x).1 = true ∧ x ∉ w.queue
def Z8B (n : Int) (a x : Int) : Int := if a = x then 1 + 16 * n else 0
theorem ZgB {n : Int} (h : 0 ≤ n ∧ n ≤ 255) : decodeH (1 + 16 * n) = (⟨0,n,0⟩,true) := by
 have hv : Z0h ⟨0,n,0⟩ = true := validH_iff.2 ⟨by simp,by simp,h.1,h.2,by simp⟩
 have := decode_encode hv (by simp)
 rw [Z4O h] at this
 exact this
theorem Zfz {n : Int} (h : 0 ≤ n ∧ n ≤ 255) {ws : List Int} {a x : Int} (hx : 4096 ≤ x ∧ x + n < 4096 + ws.length) (ha : x ≤ a ∧ a ≤ x + n) : (loadA (Z0q ws x (objW ⟨0,n,0⟩)).1 a).1 = Z8B n a x := by
 have hl : (objW ⟨0,n,0⟩).length = n.toNat + 1 := by simp [objW]
 rw [Z1O (by omega) (by omega)]
 unfold Z8B
 by_cases c : a = x
 ·subst c
  simp [objW,Z4O h]
 ·rw [if_neg c,objW,show (a - x).toNat = (a - x - 1).toNat + 1 by omega]
  simp [List.getD_eq_getElem?_getD,List.getElem?_replicate]
  split <;> rfl
structure FL (v : Work) (ws : List Int) (k : Nat) : Prop where
 l : ws.length = v.heap.words.length
 h : ∀ x ∈ v.old,hlA ws x = hlA v.heap.words x
 s : ∀ a,loadA ws a = loadA v.heap.words a ∨ ∃ x ∈ v.old,Z5f v x ∧ x ≤ a ∧ a ≤ x + hlA v.heap.words x ∧ (loadA ws a).1 = Z8B (hlA v.heap.words x) a x
 f : ∀ j,j < k → Z5f v (v.old.getD j default) → ∀ a,v.old.getD j default ≤ a → a ≤ v.old.getD j default + hlA v.heap.words (v.old.getD j default) → (loadA ws a).1 = Z8B (hlA v.heap.words (v.old.getD j default)) a (v.old.getD j default)
theorem Zel {v : Work} (hw : FOk v) (hi : Inv v) : ∀ k,k ≤ v.old.length → FL v (fillN v k).heap.words k
 | 0,_ => ⟨rfl,fun _ _ => rfl,fun _ => Or.inl rfl,fun j hj => by omega⟩
 | k + 1,hk => by
  have ih := Zel hw hi k (by omega)
  obtain ⟨i0,i1,i2,i3,i4,i5,i6,i7,i8,i9,i10,i11⟩ := Z4R v hw k
  have hm : v.old.getD k default ∈ v.old := getD_mem_iff.2 ⟨k,by omega,rfl⟩
  have hr := hi.r _ (List.mem_append_left _ hm)
  have hn := Z0f v.heap.words (v.old.getD k default)
  have hprom : Z1f (fillN v k) (ofA (fillN v k).heap.conf (v.old.getD k default)).1 = Z1f v (ofA v.heap.conf (v.old.getD k default)).1 := by
   unfold Z1f
   rw [i1,i2,i3,i6]
  by_cases c : Z5f v (v.old.getD k default)
  ·have e : (fillN v (k + 1)).heap.words = (Z0q (fillN v k).heap.words (v.old.getD k default) (objW ⟨0,hlA v.heap.words (v.old.getD k default),0⟩)).1 := by
    show (Z58 (fillN v k) (v.old.getD k default)).heap.words = _
    rw [Z58,hprom,i7,if_pos (show Z1f v (ofA v.heap.conf (v.old.getD k default)).1 = true ∧ v.old.getD k default ∉ v.queue from c)]
    simp only
    rw [← ih.h _ hm]
    rfl
   rw [e]
   have hl := ih.l
   generalize hx : v.old.getD k default = x at *
   have hin : 4096 ≤ x ∧ x + hlA v.heap.words x < 4096 + (fillN v k).heap.words.length := by omega
   have ho : (objW ⟨0,hlA v.heap.words x,0⟩).length = (hlA v.heap.words x).toNat + 1 := by simp [objW]
   have win := fun a ha => Zfz hn (ws := (fillN v k).heap.words) (a := a) hin ha
   have wout : ∀ a,a < x ∨ x + hlA v.heap.words x < a → loadA (Z0q (fillN v k).heap.words x (objW ⟨0,hlA v.heap.words x,0⟩)).1 a = loadA (fillN v k).heap.words a := fun a ha => Z1T (by omega) (by omega)
   have sep := fun y hy => hi.s x (List.mem_append_left _ hm) y (List.mem_append_left _ hy)
   have sep2 := fun y hy => hi.s y (List.mem_append_left _ hy) x (List.mem_append_left _ hm)
   refine ⟨?_, ?_, ?_, ?_⟩
   ·unfold Z0q
    rw [if_pos (by omega)]
    exact (Z3u (by omega)).trans hl
   ·intro y hy
    by_cases q : y = x
    ·subst q
     have := win y (by omega)
     rw [hlA,this,Z8B,if_pos rfl,ZgB hn]
    ·have s1 := sep y hy
     have s2 := sep2 y hy
     have := Z0f v.heap.words y
     rw [hlA,wout y (by omega)]
     exact ih.h y hy
   ·intro a
    by_cases q : x ≤ a ∧ a ≤ x + hlA v.heap.words x
    ·exact Or.inr ⟨x,hm,c,q.1,q.2,win a q⟩
    ·rw [wout a (by omega)]
     exact ih.s a
   ·intro j hj hf a h1 h2
    by_cases q : v.old.getD j default = x
    ·rw [q] at h1 h2 ⊢
     exact win a ⟨h1,h2⟩
    ·have hjk : j < k := by
      by_cases q2 : j = k
      ·subst q2; exact absurd hx q
      ·omega
     have hmj : v.old.getD j default ∈ v.old := getD_mem_iff.2 ⟨j,by omega,rfl⟩
     have s1 := sep _ hmj
     have s2 := sep2 _ hmj
     have := Z0f v.heap.words (v.old.getD j default)
     rw [wout a (by omega)]
     exact ih.f j hjk hf a h1 h2
  ·have e : fillN v (k + 1) = fillN v k := by
    show Z58 (fillN v k) (v.old.getD k default) = _
    rw [Z58,hprom,i7,if_neg (show ¬ (Z1f v (ofA v.heap.conf (v.old.getD k default)).1 = true ∧ v.old.getD k default ∉ v.queue) from c)]
   rw [e]
   refine ⟨ih.l,ih.h,ih.s,fun j hj hf => ?_⟩
   by_cases q : j = k
   ·subst q; exact absurd hf c
   ·exact ih.f j (by omega) hf
theorem ZaS {c : Conf} {s : Int} {l : List Page} {ws : List Int} (hp : 0 ≤ c.pw) (hl : (ws.length : Int) = c.pw * l.length) : ∀ k,k ≤ l.length → (Z1Z c.pw s l ws k).length = ws.length ∧ ∀ (i : Nat) (o : Int),i < l.length → 0 ≤ o → o < c.pw → loadA (Z1Z c.pw s l ws k) (4096 + i * c.pw + o) = if i < k ∧ Z2Y s (l.getD i default) then (0,0) else loadA ws (4096 + i * c.pw + o)
 | 0,_ => ⟨rfl,fun i o _ _ _ => by rw [if_neg (by omega)]; rfl⟩
 | k + 1,hk => by
  obtain ⟨h1,h2⟩ := ZaS (s := s) hp hl k (by omega)
  unfold Z1Z
  by_cases c' : Z2Y s (l.getD k default)
  ·rw [if_pos c']
   have hk2 := Z0Y (i := k) (j := l.length) (pw := c.pw) (by omega) hp
   have hk0 : 0 ≤ (k : Int) * c.pw := Int.mul_nonneg (by omega) hp
   rw [Int.mul_comm (l.length : Int)] at hk2
   have hlen : (List.replicate c.pw.toNat (0 : Int)).length = c.pw.toNat := List.length_replicate
   have en : ((k * c.pw.toNat : Nat) : Int) = k * c.pw := by rw [Int.natCast_mul,Int.toNat_of_nonneg hp]
   have e : spl (Z1Z c.pw s l ws k) (k * c.pw.toNat) (List.replicate c.pw.toNat 0) = (Z0q (Z1Z c.pw s l ws k) (4096 + k * c.pw) (List.replicate c.pw.toNat 0)).1 := by
    unfold Z0q
    rw [if_pos (by omega)]
    simp only
    congr 1
    omega
   refine ⟨?_, ?_⟩
   ·rw [Z3u (by omega)]
    exact h1
   ·intro i o hi h0 ho
    rw [e]
    by_cases q : i = k
    ·subst q
     rw [Z1O (by omega) (by omega),if_pos ⟨by omega,c'⟩]
     simp [List.getD_eq_getElem?_getD,List.getElem?_replicate]
     split <;> rfl
    ·have hne : 4096 + (i : Int) * c.pw + o < 4096 + k * c.pw ∨ 4096 + k * c.pw + c.pw ≤ 4096 + (i : Int) * c.pw + o := by
      rcases Nat.lt_or_gt_of_ne q with q | q
      ·have := Z0Y (i := i) (j := k) (pw := c.pw) (by omega) hp
       omega
      ·have := Z0Y (i := k) (j := i) (pw := c.pw) (by omega) hp
       omega
     rw [Z1T (by omega) (by omega),h2 i o hi h0 ho]
     by_cases q2 : i < k ∧ Z2Y s (l.getD i default)
     ·rw [if_pos q2,if_pos ⟨by omega,q2.2⟩]
     ·rw [if_neg q2,if_neg (fun q3 => q2 ⟨by omega,q3.2⟩)]
  ·rw [if_neg c']
   refine ⟨h1,fun i o hi h0 ho => ?_⟩
   rw [h2 i o hi h0 ho]
   by_cases q2 : i < k ∧ Z2Y s (l.getD i default)
   ·rw [if_pos q2,if_pos ⟨by omega,q2.2⟩]
   ·rw [if_neg q2,if_neg]
    rintro ⟨q3,q4⟩
    by_cases q5 : i = k
    ·subst q5; exact c' q4
    ·exact q2 ⟨by omega,q4⟩
theorem Z96 (hd : Header) {k : Int} (h0 : 0 ≤ k) (hp : Z0k hd k = true) : ∀ n : Nat,k < n → k ∈ Z1J hd n
 | 0,h => by omega
 | n + 1,h => by
  unfold Z1J
  by_cases q : k = n
  ·subst q
   rw [if_pos hp]
   simp
  ·have ih := Z96 hd h0 hp n (by omega)
   split
   ·exact List.mem_append_left _ ih
   ·exact ih
theorem Z9K {hd : Header} {k : Int} (h0 : 0 ≤ k) (h1 : k < hd.length) (hp : Z0k hd k = true) : k ∈ Z0d hd := by
 have hv : Z0h hd = true := by
  unfold Z0k at hp
  simp only [Bool.and_eq_true] at hp
  exact hp.1.1.1
 unfold Z0d
 rw [if_pos hv]
 exact Z96 hd h0 hp _ (by omega)
structure CE (h : Heap) (T tq : Nat → List Int) (w : Work) (l4 l5 : List Int) : Prop where
 g : Gd h T
 k : KI h T tq w
 i : Inv w
 s : w.heap.space = 0 ∨ w.heap.space = 1
 pt : PT w.heap.conf w.heap.pages
 ts : ∀ x ∈ w.taken,(w.heap.pages.getD x.toNat default).space = 1 - w.heap.space
 sd : SD w
 sc : w.scanned = w.queue.length
 f3 : ∀ a,loadA l4 a = loadA w.heap.words a ∨ ∃ x ∈ w.old,Z5f w x ∧ x ≤ a ∧ a ≤ x + hlA w.heap.words x ∧ (loadA l4 a).1 = Z8B (hlA w.heap.words x) a x
 f4 : ∀ x ∈ w.old,Z5f w x → ∀ a,x ≤ a → a ≤ x + hlA w.heap.words x → (loadA l4 a).1 = Z8B (hlA w.heap.words x) a x
 n4 : l4.length = w.heap.words.length
 n5 : l5.length = w.heap.words.length
 fr : ∀ (i : Nat) (o : Int),i < h.pages.length → 0 ≤ o → o < h.conf.pw → loadA l5 (bsP h i + o) = if Z2Y w.heap.space (w.heap.pages.getD i default) then (0,0) else loadA l4 (bsP h i + o)
def tE (T tq : Nat → List Int) (w : Work) (i : Nat) : List Int := if (i : Int) ∈ w.taken then tq i else if (w.heap.pages.getD i default).space ≠ w.heap.space then T i else []
section
variable {h : Heap} {T tq : Nat → List Int} {w : Work} {l4 l5 : List Int} (c : CE h T tq w l4 l5)
include c
theorem CE.mem {i : Nat} {x : Int} (hx : x ∈ tE T tq w i) : (i : Int) ∈ w.taken ∧ x ∈ tq i ∨ (i : Int) ∉ w.taken ∧ (w.heap.pages.getD i default).space ≠ w.heap.space ∧ x ∈ T i := by
 unfold tE at hx
 split at hx
 ·rename_i q; exact Or.inl ⟨q,hx⟩
 ·rename_i q
  split at hx
  ·rename_i q2; exact Or.inr ⟨q,q2,hx⟩
  ·simp at hx
theorem CE.gone0 {i : Nat} (hi : (i : Int) ∈ w.taken) : ¬ Z2Y w.heap.space (w.heap.pages.getD i default) := by
 have := c.ts _ hi
 rw [Int.toNat_natCast] at this
 have := c.s
 unfold Z2Y
 omega
theorem CE.pgof {i : Nat} {x a : Int} (hx : x ∈ T i) (h1 : x ≤ a) (h2 : a ≤ x + hlA h.words x) : ∃ (j : Nat) (o : Int),j < h.pages.length ∧ 0 ≤ o ∧ o < h.conf.pw ∧ a = bsP h j + o ∧ (w.heap.pages.getD j default).kind ≠ 0 ∧ (w.heap.pages.getD j default).space = (w.heap.pages.getD i default).space := by
 have g := c.g
 have o := g.on hx
 have po := Z06 g.p
 have pg := c.k.pg i (c.k.nt g hx)
 have hcc := c.k.c
 have hpl := c.k.pl
 rcases o.2.1 with k | k
 ·have pp := Z0M g.p o.1
  exact ⟨i,a - bsP h i,o.1,by omega,by omega,by omega,by omega,rfl⟩
 ·have hx2 := o.2.2.2.2.2.2 k
  have lg := c.pt.lg i (by omega) (by omega)
  rw [pg.2.1,hcc] at lg
  have nu := Z4A lg.1
  have h0 : 0 ≤ (a - bsP h i) / h.conf.pw := Int.ediv_nonneg (by omega) (by omega)
  have h3 := Int.mul_ediv_add_emod (a - bsP h i) h.conf.pw
  have h4 := Int.emod_nonneg (a - bsP h i) (b := h.conf.pw) (by omega)
  have h5 := Int.emod_lt_of_pos (a - bsP h i) (b := h.conf.pw) (by omega)
  have h6 : (a - bsP h i) / h.conf.pw < need h.conf (h.pages.getD i default).used := Int.ediv_lt_of_lt_mul (by omega) (by omega)
  rw [Int.mul_comm] at h3
  generalize hm : (a - bsP h i) / h.conf.pw = m at *
  have hmn : ((m.toNat : Nat) : Int) = m := by omega
  refine ⟨i + m.toNat,(a - bsP h i) % h.conf.pw, ?_,h4,h5, ?_, ?_⟩
  ·by_cases q : m.toNat = 0
   ·omega
   ·have := (lg.2 m.toNat (by omega) (by omega)).1
    omega
  ·unfold bsP at h3 ⊢
   rw [Int.natCast_add,hmn,Int.add_mul]
   omega
  ·by_cases q : m.toNat = 0
   ·rw [q,Nat.add_zero]
    exact ⟨by omega,rfl⟩
   ·have := (lg.2 m.toNat (by omega) (by omega)).2
    exact ⟨by omega,this.2⟩
theorem CE.keptw {i : Nat} {x a : Int} (hx : x ∈ T i) (hs : (w.heap.pages.getD i default).space ≠ w.heap.space) (h1 : x ≤ a) (h2 : a ≤ x + hlA h.words x) : loadA l5 a = loadA l4 a := by
 obtain ⟨j,o,j1,o1,o2,e,k0,k1⟩ := c.pgof hx h1 h2
 rw [e,c.fr j o j1 o1 o2,if_neg]
 unfold Z2Y
 rw [k1]
 exact fun q => hs q.2
theorem CE.gonew {i : Nat} {x a : Int} (hx : x ∈ T i) (hs : (w.heap.pages.getD i default).space = w.heap.space) (h1 : x ≤ a) (h2 : a ≤ x + hlA h.words x) : (loadA l5 a).1 = 0 := by
 obtain ⟨j,o,j1,o1,o2,e,k0,k1⟩ := c.pgof hx h1 h2
 rw [e,c.fr j o j1 o1 o2,if_pos ⟨k0,k1.trans hs⟩]
theorem CE.seen4 {x a : Int} (hx : x ∈ w.queue) (h1 : x ≤ a) (h2 : a ≤ x + hlA w.heap.words x) : loadA l4 a = loadA w.heap.words a := by
 rcases c.f3 a with q | ⟨y,hy,q1,q2,q3,q4⟩
 ·exact q
 ·exfalso
  have hne : x ≠ y := fun e => q1.2 (e ▸ hx)
  have s1 := c.i.s x (List.mem_append_right _ hx) y (List.mem_append_left _ hy)
  have s2 := c.i.s y (List.mem_append_left _ hy) x (List.mem_append_right _ hx)
  have r1 := Z0f w.heap.words x
  have r2 := Z0f w.heap.words y
  rcases Int.lt_or_gt_of_ne hne with q | q
  ·have := s1 q; omega
  ·have := s2 q; omega
theorem CE.takenw {i : Nat} {a : Int} (hi : (i : Int) ∈ w.taken) (h1 : bsP h i ≤ a) (h2 : a < bsP h i + h.conf.pw) : loadA l5 a = loadA l4 a := by
 have t := c.k.tk i hi
 have := c.fr i (a - bsP h i) t.1 (by omega) (by omega)
 rw [show bsP h i + (a - bsP h i) = a by omega,if_neg (c.gone0 hi)] at this
 exact this
theorem CE.seen {x a : Int} (hx : x ∈ w.queue) (h1 : x ≤ a) (h2 : a ≤ x + hlA w.heap.words x) : loadA l5 a = loadA w.heap.words a := by
 rw [← c.seen4 hx h1 h2]
 rcases c.k.q x hx with ⟨i,i1,i2,i3,i4⟩ | ⟨i,i1,i2⟩
 ·have he : (loadA w.heap.words x).1 = (loadA h.words x).1 := by
   rcases c.k.hd i x i2 with q | q
   ·exact q
   ·exact absurd q.2.2 i4
  rw [(Z20 he).2.1] at h2
  exact c.keptw i2 i4 h1 h2
 ·have t := c.k.tk i i1
  have m := Z1x t.2.2.2.2.2.1 i2
  exact c.takenw i1 (by omega) (by omega)
theorem CE.where' {x : Int} (hx : x ∈ w.queue) : ∃ i,x ∈ tE T tq w i := by
 rcases c.k.q x hx with ⟨i,i1,i2,i3,i4⟩ | ⟨i,i1,i2⟩
 ·exact ⟨i,by rw [tE,if_neg i1,if_pos i4]; exact i2⟩
 ·exact ⟨i,by rw [tE,if_pos i1]; exact i2⟩
theorem CE.seenK {x : Int} (hx : x ∈ w.queue) : kdA w.heap.words x ≠ 0 ∧ okA w.heap.words x := by
 rcases c.k.q x hx with ⟨i,i1,i2,i3,i4⟩ | ⟨i,i1,i2⟩
 ·have he : (loadA w.heap.words x).1 = (loadA h.words x).1 := by
   rcases c.k.hd i x i2 with q | q
   ·exact q
   ·exact absurd q.2.2 i4
  have o := Z20 he
  exact ⟨by rw [o.2.2.1]; exact i3,o.1 (c.g.on i2).2.2.2.2.2.1⟩
 ·have t := c.k.tk i i1
  exact ⟨(t.2.2.2.2.2.2 x i2).2.1,(Z1x t.2.2.2.2.2.1 i2).1⟩
theorem CE.kept {i : Nat} {x : Int} (hx : x ∈ T i) (hn : (i : Int) ∉ w.taken) (hs : (w.heap.pages.getD i default).space ≠ w.heap.space) : (loadA w.heap.words x).1 = (loadA h.words x).1 ∧ okA l5 x ∧ hlA l5 x = hlA h.words x ∧ (x ∉ w.queue → kdA l5 x = 0 ∧ (h.pages.getD i default).kind = 1 ∧ (kdA h.words x ≠ 0 → x ∈ w.old ∧ Z5f w x)) := by
 have he : (loadA w.heap.words x).1 = (loadA h.words x).1 := by
  rcases c.k.hd i x hx with q | q
  ·exact q
  ·exact absurd q.2.2 hs
 have on := c.g.on hx
 have oh := Z20 he
 have rx := Z0f h.words x
 refine ⟨he, ?_⟩
 by_cases hq : x ∈ w.queue
 ·have e := Z20 (congrArg Prod.fst (c.seen hq (Int.le_refl _) (by have := Z0f w.heap.words x; omega)))
  exact ⟨e.1 (oh.1 on.2.2.2.2.2.1),by rw [e.2.1,oh.2.1],fun q => absurd hq q⟩
 ·have k1 : (h.pages.getD i default).kind = 1 := by
   rcases on.2.1 with q | q
   ·exact q
   ·have := c.k.lg i q hs
    rw [← (on.2.2.2.2.2.2 q).1] at this
    exact absurd this hq
  have e5 : loadA l5 x = loadA l4 x := c.keptw hx hs (Int.le_refl _) (by omega)
  by_cases hk : kdA h.words x = 0
  ·have e4 : loadA l4 x = loadA w.heap.words x := by
    rcases c.f3 x with q | ⟨y,hy,q1,q2,q3,q4⟩
    ·exact q
    ·exfalso
     obtain ⟨j,hj,hjk⟩ := (c.k.old y).1 hy
     by_cases e : y = x
     ·subst e; exact hjk hk
     ·have sj : (loadA w.heap.words y).1 = (loadA h.words y).1 := by
       rcases c.k.hd j y hj with q | q
       ·exact q
       ·exfalso
        have o2 := q1.1
        unfold Z1f at o2
        rw [c.k.c,c.g.ofx hj] at o2
        simp only [decide_eq_true_eq,Int.toNat_natCast] at o2
        exact o2.2.2.2.1 q.2.2
      rw [(Z20 sj).2.1] at q3
      have := c.g.sep hj hx (by omega)
      omega
   have e := Z20 (ws := h.words) (ws' := l5) (a := x) (by rw [e5,e4,he])
   exact ⟨e.1 on.2.2.2.2.2.1,e.2.1,fun _ => ⟨by rw [e.2.2.1]; exact hk,k1,fun q => absurd hk q⟩⟩
  ·have ho : x ∈ w.old := (c.k.old x).2 ⟨i,hx,hk⟩
   have hf : Z5f w x := by
    refine ⟨?_,hq⟩
    have pg := c.k.pg i hn
    have pl := c.k.pl
    unfold Z1f
    rw [c.k.c,c.g.ofx hx]
    simp only [decide_eq_true_eq,Int.toNat_natCast]
    exact ⟨by omega,by omega,by omega,hs,hn⟩
   have v := c.f4 x ho hf x (Int.le_refl _) (by have := Z0f w.heap.words x; omega)
   rw [Z8B,if_pos rfl,oh.2.1] at v
   rw [← e5] at v
   have d := ZgB rx
   exact ⟨by rw [okA,v,d],by rw [hlA,v,d],fun _ => ⟨by rw [kdA,hdA,v,d],k1,fun _ => ⟨ho,hf⟩⟩⟩
theorem CE.start {i : Nat} {x : Int} (hx : x ∈ tE T tq w i) : okA l5 x ∧ (kdA l5 x ≠ 0 ↔ x ∈ w.queue) := by
 have sq : x ∈ w.queue → okA l5 x ∧ kdA l5 x ≠ 0 := fun hq => by
  have e := Z20 (congrArg Prod.fst (c.seen hq (Int.le_refl _) (by have := Z0f w.heap.words x; omega)))
  have s := c.seenK hq
  exact ⟨e.1 s.2,by rw [e.2.2.1]; exact s.1⟩
 rcases c.mem hx with ⟨q1,q2⟩ | ⟨q1,q2,q3⟩
 ·have hq := ((c.k.tk i q1).2.2.2.2.2.2 x q2).1
  exact ⟨(sq hq).1,fun _ => hq,fun _ => (sq hq).2⟩
 ·have kk := c.kept q3 q1 q2
  refine ⟨kk.2.1,fun hk => ?_,fun hq => (sq hq).2⟩
  by_cases hq : x ∈ w.queue
  ·exact hq
  ·exact absurd (kk.2.2.2 hq).1 hk
theorem CE.good {b : Int} (hp : Z01 ⟨w.heap.conf,l5,w.heap.pages.map (Z1i w.heap.space),1 - w.heap.space,b⟩ = true) : Gd ⟨w.heap.conf,l5,w.heap.pages.map (Z1i w.heap.space),1 - w.heap.space,b⟩ (tE T tq w) := by
 have g := c.g
 have hcc := c.k.c
 have hpl := c.k.pl
 have hs := c.s
 have po := Z06 g.p
 have hgt : ∀ i,i < h.pages.length → (w.heap.pages.map (Z1i w.heap.space)).getD i default = Z1i w.heap.space (w.heap.pages.getD i default) := fun i hi => by
  have : i < w.heap.pages.length := by omega
  simp [List.getD_eq_getElem?_getD,this]
 have hng : ∀ i,i < h.pages.length → ((w.heap.pages.map (Z1i w.heap.space)).getD i default).kind ≠ 0 → ¬ Z2Y w.heap.space (w.heap.pages.getD i default) ∧ (w.heap.pages.map (Z1i w.heap.space)).getD i default = w.heap.pages.getD i default := by
  intro i hi hk
  rw [hgt i hi] at hk ⊢
  unfold Z1i at hk ⊢
  split at hk
  ·simp at hk
  ·rename_i q
   rw [if_neg q]
   exact ⟨q,rfl⟩
 have hb : ∀ i,bsP ⟨w.heap.conf,l5,w.heap.pages.map (Z1i w.heap.space),1 - w.heap.space,b⟩ i = bsP h i := fun i => by simp only [bsP,hcc]
 have hk5 : ∀ x,x ∈ w.queue → okA w.heap.words x → okA l5 x ∧ hlA l5 x = hlA w.heap.words x ∧ kdA l5 x = kdA w.heap.words x ∧ hdA l5 x = hdA w.heap.words x := fun x hq ho => by
  have e := Z20 (congrArg Prod.fst (c.seen hq (Int.le_refl _) (by have := Z0f w.heap.words x; omega)))
  exact ⟨e.1 ho,e.2.1,e.2.2.1,e.2.2.2.1⟩
 have hkept : ∀ i,i < h.pages.length → (i : Int) ∉ w.taken → ((w.heap.pages.map (Z1i w.heap.space)).getD i default).kind ≠ 0 → (w.heap.pages.getD i default).space ≠ w.heap.space ∧ (h.pages.getD i default).kind = ((w.heap.pages.map (Z1i w.heap.space)).getD i default).kind ∧ (h.pages.getD i default).used = ((w.heap.pages.map (Z1i w.heap.space)).getD i default).used ∧ (h.pages.getD i default).pins = ((w.heap.pages.map (Z1i w.heap.space)).getD i default).pins := by
  intro i hi hn hk
  have n := hng i hi hk
  have pg := c.k.pg i hn
  rw [n.2] at hk ⊢
  refine ⟨fun q => n.1 ⟨hk,q⟩,pg.1.symm,pg.2.1.symm,pg.2.2.symm⟩
 refine ⟨hp, ?_, ?_, ?_, ?_, ?_, ?_, ?_⟩
 ·intro i hi hk
  simp only [List.length_map] at hi hk ⊢
  have n := hng i (by omega) hk
  rw [n.2] at hk ⊢
  have := (c.pt.b i hi).s
  have n1 := n.1
  unfold Z2Y at n1
  omega
 ·intro i hi hk
  simp only [List.length_map] at hi hk ⊢
  rw [hb]
  have n := hng i (by omega) (by omega)
  by_cases q : (i : Int) ∈ w.taken
  ·have t := c.k.tk i q
   rw [tE,if_pos q,n.2,hcc]
   refine ⟨Z2e t.2.2.2.2.2.1 fun x hx => ?_,fun x hx => ?_⟩
   ·have e := hk5 x (t.2.2.2.2.2.2 x hx).1 (Z1x t.2.2.2.2.2.1 hx).1
    exact ⟨e.1,e.2.1⟩
   ·have e := hk5 x (t.2.2.2.2.2.2 x hx).1 (Z1x t.2.2.2.2.2.1 hx).1
    rw [e.2.1]
    exact (t.2.2.2.2.2.2 x hx).2.2
  ·have kp := hkept i (by omega) q (by omega)
   rw [tE,if_neg q,if_pos kp.1,← kp.2.2.1,hcc]
   have t := g.t1 i (by omega) (by omega)
   refine ⟨Z2e t.1 fun x hx => ?_,fun x hx => ?_⟩
   ·have e := c.kept hx q kp.1
    exact ⟨e.2.1,e.2.2.1⟩
   ·rw [(c.kept hx q kp.1).2.2.1]
    exact t.2 x hx
 ·intro i hi hk
  simp only [List.length_map] at hi hk ⊢
  rw [hb]
  have n := hng i (by omega) (by omega)
  by_cases q : (i : Int) ∈ w.taken
  ·have t := c.k.tk i q
   rw [n.2] at hk
   omega
  ·have kp := hkept i (by omega) q (by omega)
   have t := g.t2 i (by omega) (by omega)
   have hx : bsP h i ∈ T i := by rw [t.1]; simp
   have e := c.kept hx q kp.1
   have hq := c.k.lg i (by omega) kp.1
   have st := c.start (i := i) (x := bsP h i) (by rw [tE,if_neg q,if_pos kp.1]; exact hx)
   rw [tE,if_neg q,if_pos kp.1,← kp.2.2.1]
   exact ⟨t.1,e.2.1,by rw [e.2.2.1]; exact t.2.2.1,st.2.2 hq⟩
 ·intro i x hx
  simp only [List.length_map]
  rcases c.mem hx with ⟨q1,q2⟩ | ⟨q1,q2,q3⟩
  ·have t := c.k.tk i q1
   have : Z1i w.heap.space (w.heap.pages.getD i default) = w.heap.pages.getD i default := by rw [Z1i,if_neg (c.gone0 q1)]
   rw [hgt i t.1,this]
   exact ⟨by omega,Or.inl t.2.2.1⟩
  ·have t := g.t0 i x q3
   have pg := c.k.pg i q1
   have : Z1i w.heap.space (w.heap.pages.getD i default) = w.heap.pages.getD i default := by rw [Z1i,if_neg (fun q => q2 q.2)]
   rw [hgt i t.1,this]
   exact ⟨by omega,by rw [pg.1]; exact t.2⟩
 ·intro a ha
  simp only at ha ⊢
  have h4 : (loadA l4 a).1 ≠ 0 := by
   have hr : 4096 ≤ a ∧ a < 4096 + l5.length := by
    unfold loadA at ha
    by_cases q : 4096 ≤ a ∧ a < 4096 + l5.length
    ·exact q
    ·rw [if_neg q] at ha
     simp at ha
   have hl5 := c.n5
   have hL := c.i.L
   rw [hcc] at hL
   have h0 : 0 ≤ (a - 4096) / h.conf.pw := Int.ediv_nonneg (by omega) (by omega)
   have h3 := Int.mul_ediv_add_emod (a - 4096) h.conf.pw
   have h5 := Int.emod_nonneg (a - 4096) (b := h.conf.pw) (by omega)
   have h6 := Int.emod_lt_of_pos (a - 4096) (b := h.conf.pw) (by omega)
   have h7 : (a - 4096) / h.conf.pw < h.conf.pg := Int.ediv_lt_of_lt_mul (by omega) (by rw [Int.mul_comm]; omega)
   rw [Int.mul_comm] at h3
   have f := c.fr ((a - 4096) / h.conf.pw).toNat ((a - 4096) % h.conf.pw) (by omega) h5 h6
   have ea : bsP h ((a - 4096) / h.conf.pw).toNat + (a - 4096) % h.conf.pw = a := by
    unfold bsP
    rw [Int.toNat_of_nonneg h0]
    omega
   rw [ea] at f
   rw [f] at ha
   split at ha
   ·simp at ha
   ·exact ha
  have hks : ∀ i x,x ∈ T i → x ≤ a → a ≤ x + hlA h.words x → (i : Int) ∉ w.taken ∧ (w.heap.pages.getD i default).space ≠ w.heap.space := fun i x hx h1 h2 =>
   ⟨c.k.nt g hx,fun q => ha (c.gonew hx q h1 h2)⟩
  have cov : ∀ i x,x ∈ T i → x ≤ a → a ≤ x + hlA h.words x → (x ∉ w.queue → a = x) → ∃ i x,x ∈ tE T tq w i ∧ x ≤ a ∧ a < x + kpA l5 x := by
   intro i x hx h1 h2 h3
   obtain ⟨n1,n2⟩ := hks i x hx h1 h2
   have hm : x ∈ tE T tq w i := by rw [tE,if_neg n1,if_pos n2]; exact hx
   have kk := c.kept hx n1 n2
   have r := Z0f l5 x
   refine ⟨i,x,hm,h1, ?_⟩
   by_cases q : x ∈ w.queue
   ·rw [kpA,if_neg ((c.start hm).2.2 q),kk.2.2.1]
    omega
   ·have := h3 q
    unfold kpA
    split <;> omega
  rcases c.f3 a with q | ⟨x,hx,q1,q2,q3,q4⟩
  ·rw [q] at h4
   rcases c.k.dt a h4 with ⟨i,x,hx,h1,h2⟩ | ⟨i,i1,i2,i3⟩
   ·have hkp : kpA h.words x ≤ hlA h.words x + 1 := by
     have := Z0f h.words x
     unfold kpA; split <;> omega
    have hh := hks i x hx h1 (by omega)
    refine cov i x hx h1 (by omega) fun hq => ?_
    have kk := (c.kept hx hh.1 hh.2).2.2.2 hq
    by_cases hk : kdA h.words x = 0
    ·rw [kpA,if_pos hk] at h2
     omega
    ·have fl := kk.2.2 hk
     have oh := Z20 (c.kept hx hh.1 hh.2).1
     have v := c.f4 x fl.1 fl.2 a h1 (by rw [oh.2.1]; omega)
     rw [← q] at h4
     rw [v,Z8B] at h4
     split at h4
     ·rename_i e; exact e
     ·exact absurd rfl h4
   ·have t := c.k.tk i i1
    obtain ⟨x,hx,x1,x2⟩ := Z9h t.2.2.2.2.2.1 i2 i3
    have hm : x ∈ tE T tq w i := by rw [tE,if_pos i1]; exact hx
    have hq := (t.2.2.2.2.2.2 x hx).1
    have e := hk5 x hq (Z1x t.2.2.2.2.2.1 hx).1
    refine ⟨i,x,hm,x1, ?_⟩
    rw [kpA,if_neg ((c.start hm).2.2 hq),e.2.1]
    omega
  ·obtain ⟨i,hi,hk⟩ := (c.k.old x).1 hx
   have sj : (loadA w.heap.words x).1 = (loadA h.words x).1 := by
    rcases c.k.hd i x hi with q | q
    ·exact q
    ·exfalso
     have o2 := q1.1
     unfold Z1f at o2
     rw [hcc,g.ofx hi] at o2
     simp only [decide_eq_true_eq,Int.toNat_natCast] at o2
     exact o2.2.2.2.1 q.2.2
   rw [(Z20 sj).2.1] at q3
   refine cov i x hi q2 q3 fun _ => ?_
   rw [q4,Z8B] at h4
   split at h4
   ·rename_i e; exact e
   ·exact absurd rfl h4
 ·intro i x m hx hk h0 h1 hpt
  simp only at hk h1 hpt ⊢
  have hq := (c.start hx).2.1 hk
  have sk := c.seenK hq
  have e := hk5 x hq sk.2
  rw [e.2.1] at h1
  rw [e.2.2.2] at hpt
  rw [c.seen hq (a := x + 1 + m) (by omega) (by omega)]
  obtain ⟨n,n1,n2⟩ := getD_mem_iff.1 hq
  have sd := (c.sd (x + 1 + m) ⟨n,m,by rw [c.sc]; simpa using n1,by rw [n2]; exact Z9K h0 h1 hpt,by rw [n2]⟩).2
  rcases sd with q | q
  ·exact Or.inl q
  ·obtain ⟨j,hj⟩ := c.where' q
   exact Or.inr ⟨j,hj,(c.start hj).2.2 q⟩
 ·have : crowd (w.heap.pages.map (Z1i w.heap.space)) ≤ crowd h.pages := by
   refine Z6a (by simp; omega) fun i hi k1 k2 => ?_
   by_cases q : (i : Int) ∈ w.taken
   ·have t := c.k.tk i q
    have n := hng i hi (by omega)
    rw [n.2] at k2
    omega
   ·have kp := hkept i hi q (by omega)
    omega
  have g2 := g.cr
  simp only [hcc]
  omega
end
theorem Zer {B : Int} (hB : 0 ≤ B) {h : Heap} {T : Nat → List Int} (g : Gd h T) {s k : List Int} (hw : WOk h.words) (hb : ∀ p ∈ h.pages,p.pins ≤ B) (hs : RtOb h T s) (hk : RtOb h T k) (e : (Z0e h s k).2.2.2.2 = 0) :
  ∃ T',Gd (Z0e h s k).1 T' ∧ RtOb (Z0e h s k).1 T' (Z0e h s k).2.1 ∧ RtOb (Z0e h s k).1 T' (Z0e h s k).2.2.1 := by
 have hp := g.p
 have hr := g.refers hs
 have hr' := g.refers hk
 have pr1 := (Z6x hB hw hb e).p1
 by_cases e1 : (rootsF (beginW h) s).2.2 = 0
 ·by_cases e2 : (allF (rootsF (beginW h) s).1).2 = 0
  ·have e7 : Z0e h s k = (endH (cW5 h s k),(rootsF (beginW h) s).2.1,Z2B (cW2 h s) k k.length,(cW5 h s k).rep,0) := by rw [Z0e,if_pos hp,if_pos ⟨hr,hr'⟩,if_pos e1,if_pos e2]
   rw [e7] at pr1 ⊢
   have ck := cOk h s k hw hp e1 e2
   have c5 := cOk5 h s k hw hp e1 e2
   have pr := Zjt hB hw hp hb e1 e2
   have sd := Zlp hB hw hp hb e1 e2
   obtain ⟨tq,ki⟩ := Zlj g hw e1 e2
   obtain ⟨g1,g2,g3,g4,g5⟩ := ck.h4
   have po := Z06 hp
   obtain ⟨a1,a2,a3,a4,a5,a6,a7,a8⟩ := Z3V (cW2 h s) k k.length
   have a1 : (cW3 h s k).heap = (cW2 h s).heap := a1
   have a2 : (cW3 h s k).old = (cW2 h s).old := a2
   have a3 : (cW3 h s k).taken = (cW2 h s).taken := a3
   have a4 : (cW3 h s k).queue = (cW2 h s).queue := a4
   have fl : FL (cW3 h s k) (cW4 h s k).heap.words (cW3 h s k).old.length := Zel ck.f3 ck.i3 (cW3 h s k).old.length (Nat.le_refl _)
   have tf : ∀ x,Z5f (cW3 h s k) x ↔ Z5f (cW2 h s) x := fun x => by
    unfold Z5f Z1f
    rw [a1,a3,a4]
   have hcc := ki.c
   have hpl := ki.pl
   have hwl := ki.wl
   have w4 : (cW4 h s k).heap.words.length = h.words.length := by
    have := fl.l
    rw [a1] at this
    exact this.trans hwl
   have fw := ZaS (c := h.conf) (s := (cW2 h s).heap.space) (l := (cW2 h s).heap.pages) (ws := (cW4 h s k).heap.words) (by omega) (by rw [w4,hpl,po.2.2.2.2.2.2.2.1]; exact po.2.2.2.2.2.1) (cW2 h s).heap.pages.length (Nat.le_refl _)
   have e5 : (Z0W (cW4 h s k)).heap.words = Z1Z h.conf.pw (cW2 h s).heap.space (cW2 h s).heap.pages (cW4 h s k).heap.words (cW2 h s).heap.pages.length := by
    simp only [Z0W,g1,g2,g3]
   have ce : CE h T tq (cW2 h s) (cW4 h s k).heap.words (Z0W (cW4 h s k)).heap.words := by
    refine ⟨g,ki,ck.i2,ck.w2.sp,pr.tab.pt,pr.tab.tk,sd.1,sd.2, ?_, ?_, ?_, ?_, ?_⟩
    ·intro a
     rcases fl.s a with q | ⟨x,hx,q1,q2,q3,q4⟩
     ·refine Or.inl ?_
      rw [a1] at q
      exact q
     ·refine Or.inr ⟨x,a2 ▸ hx,(tf x).1 q1,q2, ?_, ?_⟩
      ·rw [a1] at q3; exact q3
      ·rw [a1] at q4; exact q4
    ·intro x hx hf a h1 h2
     obtain ⟨j,j1,j2⟩ := getD_mem_iff.1 hx
     have := fl.f j (by rw [a2]; exact j1)
     rw [a2,a1,j2] at this
     exact this ((tf x).2 hf) a h1 h2
    ·rw [w4,hwl]
    ·rw [e5,fw.1,w4,hwl]
    ·intro i o hi h0 ho
     have := fw.2 i o (by omega) h0 ho
     rw [e5]
     show loadA _ (4096 + (i : Int) * h.conf.pw + o) = _
     rw [this]
     by_cases q : Z2Y (cW2 h s).heap.space ((cW2 h s).heap.pages.getD i default)
     ·rw [if_pos ⟨by omega,q⟩,if_pos q]
     ·rw [if_neg (fun c => q c.2),if_neg q]
      rfl
   have eh : endH (cW5 h s k) = ⟨(cW2 h s).heap.conf,(Z0W (cW4 h s k)).heap.words,(cW2 h s).heap.pages.map (Z1i (cW2 h s).heap.space),1 - (cW2 h s).heap.space,(endH (cW5 h s k)).bump⟩ := by
    unfold endH cW5
    simp only [Z0W,g1,g2,g3,hcc]
   rw [eh] at pr1 ⊢
   have gd := ce.good pr1
   have seen : ∀ x,ToOk (cW2 h s) x → x = 0 ∨ Ob ⟨(cW2 h s).heap.conf,(Z0W (cW4 h s k)).heap.words,(cW2 h s).heap.pages.map (Z1i (cW2 h s).heap.space),1 - (cW2 h s).heap.space,(endH (cW5 h s k)).bump⟩ (tE T tq (cW2 h s)) x := by
    intro x hx
    rcases hx with q | q
    ·exact Or.inl q
    ·obtain ⟨i,hi⟩ := ce.where' q
     exact Or.inr ⟨i,hi,(ce.start hi).2.2 q⟩
   refine ⟨tE T tq (cW2 h s),gd,fun x hx => seen x ?_,fun x hx => seen x ?_⟩
   ·have hbg := Z33 hw hp
    have hib := Z2S hp
    have pr0 : PR B (beginW h) := ⟨Z4s hp hb,Z73 hp⟩
    have hall := Z2X (roots := s) hbg hib e1
    have ax := Z9D hall.1 hall.2.1 e2
    have : ToOk (rootsF (beginW h) s).1 x := by
     unfold rootsF at e1 hx ⊢
     cases hbb : (List.range s.length).find? (fun k => decide (Z29 (beginW h) s k ≠ 0)) with
     | none =>
      rw [hbb] at hx
      have h0 : ∀ j,j < s.length → Z29 (beginW h) s j = 0 := fun j hj => by
       have := List.find?_eq_none.1 hbb j (List.mem_range.2 hj)
       simpa using this
      exact Z7S hB hbg hib pr0 s.length h0 x hx
     | some k =>
      rw [hbb] at e1
      simp only at e1
      have := (List.find?_range_eq_some.1 hbb).1
      simp [e1] at this
    rcases this with q | q
    ·exact Or.inl q
    ·exact Or.inr (ax.2.q x q)
   ·have : ∀ i,i ≤ k.length → ∀ x ∈ Z2B (cW2 h s) k i,ToOk (cW2 h s) x := by
     intro i
     induction i with
     | zero => intro _ x hx; simp [Z2B] at hx
     | succ i ih =>
      intro hi' x hx
      simp only [Z2B,List.mem_append,List.mem_singleton] at hx
      rcases hx with hx | rfl
      ·exact ih (by omega) x hx
      ·have hsi := Z3V (cW2 h s) k i
       unfold Z5K
       split
       ·exact Or.inl rfl
       ·rename_i hne
        unfold Z1o
        rw [hsi.2.2.2.1,hsi.1]
        split
        ·rename_i hq; exact Or.inr hq
        ·cases ht : (Z0n (loadA (cW2 h s).heap.words (k.getD i default)).1).2 with
         | true =>
          refine Or.inr (pr.rt.t _ ?_ ht)
          rw [ki.old]
          rcases hk _ (getD_mem_iff.2 ⟨i,by omega,rfl⟩) with q | q
          ·exact absurd q hne
          ·exact q
         | false =>
          refine Or.inl ?_
          unfold Z0n at ht ⊢
          split at ht
          ·simp at ht
          ·rename_i hcc2; rw [if_neg hcc2]
    exact this k.length (Nat.le_refl _) x hx
  ·rw [Z0e,if_pos hp,if_pos ⟨hr,hr'⟩,if_pos e1,if_neg e2] at e
   exact absurd e e2
 ·rw [Z0e,if_pos hp,if_pos ⟨hr,hr'⟩,if_neg e1] at e
  exact absurd e e1
theorem WG.collect {w : WorldM} {n : Nat} (h : WG w) (hm : MOk w n) : WG w.collect := by
 unfold WorldM.collect
 split
 ·rename_i e
  obtain ⟨T,g,g1,g2⟩ := h
  exact Zer (B := n) (by omega) g hm.words (fun p hp => (hm.pin_mem p hp).2) g1 g2 e
 ·exact h
theorem WG.step {w : WorldM} {n : Nat} (h : WG w) (hp : POk w) (hm : MOk w n) (hn : n ≤ 1000000) (t : Tape) : WG (w.step t) := by
 unfold WorldM.step
 repeat' split
 ·exact h.put hm.words (Z4L _ _)
 ·exact h.link hm hn _
 ·exact h.pin hp hm hn _
 ·exact h.drop _
 ·exact h.collect hm
 ·exact h.dup _
theorem ZjC {w : WorldM} {n : Nat} (h : WG w) (hp : POk w) (hm : MOk w n) (t : Tape) : ∀ k,n + k ≤ 1000000 → WG (mkS w t k).1
 | 0,_ => h
 | k + 1,hk => (ZjC h hp hm t k (by omega)).step (ZfI hp hm t k (by omega)) (Z8O hm t k (by omega)) (by omega) _
theorem Zj9 (l : List Int) : WG (Z8C l) := by
 have e := Z6n l
 have hl : (((Z3e l).step 4).step 5).l.length ≤ 300 := by rw [e.1]; simp; omega
 have hk := ZdF (Z3e l).empty (((Z3e l).step 4).step 5) (by omega)
 exact ZjC (ZiT (Z3e l)) (ZaY (Z3e l)) (Z9A (Z3e l)) _ _ (by omega)
def endN (h : Heap) (a : Int) (l : List Int) : Nat → Int
 | 0 => a
 | k + 1 => endN h a l k + sizeH (atH h (l.getD k default)).1
theorem Z8c (h : Heap) (a x : Int) (l : List Int) : ∀ k,endN h a (x :: l) (k + 1) = endN h (a + sizeH (atH h x).1) l k
 | 0 => rfl
 | k + 1 => by
  rw [endN,Z8c h a x l k,endN,List.getD_cons_succ]
theorem Zdl {h : Heap} : ∀ {l : List Int} {a b : Int},tile h.words a b l → (∀ x ∈ l,atH h x = (hdA h.words x,0)) → (∀ k,k < l.length → l.getD k default = endN h a l k) ∧ endN h a l l.length = b
 | [],a,b,t,_ => ⟨fun k hk => by simp at hk,t⟩
 | x :: l,a,b,t,hh => by
  have t1 := t.1
  subst t1
  have hx := hh x (by simp)
  have ih := Zdl t.2.2 fun y hy => hh y (List.mem_cons_of_mem _ hy)
  have es : sizeH (atH h x).1 = hlA h.words x + 1 := by rw [hx]; exact Z3c _ _
  refine ⟨fun k hk => ?_, ?_⟩
  ·cases k with
   | zero => rfl
   | succ k =>
    rw [Z8c,es,List.getD_cons_succ,← Int.add_assoc]
    exact ih.1 k (by simpa using hk)
  ·rw [List.length_cons,Z8c,es,← Int.add_assoc]
   exact ih.2
theorem Gd.cover {h : Heap} {T : Nat → List Int} (g : Gd h T) {i : Nat} (hi : i < h.pages.length) : (Z08 h i).2 = 0 ∧ (∀ k,k < (Z08 h i).1.length → (Z08 h i).1.getD k default = endN h (bsP h i) (Z08 h i).1 k) ∧ ((h.pages.getD i default).kind ≠ 3 → endN h (bsP h i) (Z08 h i).1 (Z08 h i).1.length - bsP h i = (h.pages.getD i default).used) := by
 rw [g.page hi]
 have hpt := g.p
 rw [Z1a] at hpt
 have ok := hpt.2.2.2.2.2.b i hi
 refine ⟨rfl, ?_⟩
 simp only
 by_cases h1 : (h.pages.getD i default).kind = 1
 ·have t := Zdl (g.t1 i hi h1).1 fun x hx => g.at' hx
  exact ⟨t.1,fun _ => by rw [t.2]; omega⟩
 ·by_cases h2 : (h.pages.getD i default).kind = 2
  ·have t := g.t2 i hi h2
   have hx : bsP h i ∈ T i := by rw [t.1]; simp
   have ea := g.at' hx
   have es : sizeH (atH h (bsP h i)).1 = hlA h.words (bsP h i) + 1 := by rw [ea]; exact Z3c _ _
   rw [t.1]
   refine ⟨fun k hk => ?_,fun _ => ?_⟩
   ·have : k = 0 := by simpa using hk
    subst this
    rfl
   ·simp only [List.length_singleton,endN,List.getD_cons_zero,es]
    omega
  ·have hn : T i = [] := List.eq_nil_iff_forall_not_mem.2 fun x hx => by have := (g.t0 i x hx).2; omega
   rw [hn]
   refine ⟨fun k hk => by simp at hk,fun h3 => ?_⟩
   have := ok.k
   have := (ok.k0 (by omega)).2.1
   simp only [List.length_nil,endN]
   omega
theorem Zgg {h : Heap} {T : Nat → List Int} (g : Gd h T) {i : Nat} (hi : i < h.pages.length) (c1 : ∀ k,k < (Z08 h i).1.length → (Z08 h i).1.getD k default = endN h (bsP h i) (Z08 h i).1 k) : (Z08 h i).1.length ≤ 100000 ∧ (∀ k,k ≤ (Z08 h i).1.length → bsP h i ≤ endN h (bsP h i) (Z08 h i).1 k ∧ endN h (bsP h i) (Z08 h i).1 k ≤ 100000) ∧ ∀ k,k < (Z08 h i).1.length → 0 ≤ sizeH (atH h ((Z08 h i).1.getD k default)).1 := by
 have po := Z06 g.p
 have ar := area po.1
 have hm : ∀ k,k < (Z08 h i).1.length → (Z08 h i).1.getD k default ∈ T i := fun k hk => by
  have := getD_mem_iff.2 ⟨k,hk,rfl⟩
  rwa [g.page hi] at this ⊢
 have hs : ∀ k,k < (Z08 h i).1.length → sizeH (atH h ((Z08 h i).1.getD k default)).1 = hlA h.words ((Z08 h i).1.getD k default) + 1 := fun k hk => by
  rw [g.at' (hm k hk)]; exact Z3c _ _
 have m := Z0Y (i := i) (j := h.conf.pg) (pw := h.conf.pw) (by omega) (by omega)
 rw [Int.mul_comm h.conf.pg] at m
 have m0 : 0 ≤ (i : Int) * h.conf.pw := Int.mul_nonneg (by omega) (by omega)
 have hb : bsP h i = 4096 + (i : Int) * h.conf.pw := rfl
 refine ⟨?_, ?_,fun k hk => ?_⟩
 ·have := Z3G h i
  omega
 ·intro k
  induction k with
  | zero => intro _; rw [endN]; omega
  | succ k ih =>
   intro hk
   have ih := ih (by omega)
   have s := hs k (by omega)
   have w := g.inw (hm k (by omega))
   have r := Z0f h.words ((Z08 h i).1.getD k default)
   have c := c1 k (by omega)
   rw [endN,s]
   omega
 ·have r := Z0f h.words ((Z08 h i).1.getD k default)
  rw [hs k hk]; omega
def cvL (h : Heap) (i : Nat) : Tg := ⟨tm 85 [(2,bool false),(3,.pt 16003 0 0),(4,int i)],[(16003,.box 28 h.cells)],4⟩
def cvI (h : Heap) (i : Nat) (l : List Int) (k : Nat) : Tg := ⟨tm 85 [(2,bool false),(3,.pt 16003 0 0),(4,int i),(5,.d (.sl 1 (l.map wdv))),(7,u64 (bsP h i)),(8,u64 (endN h (bsP h i) l k)),(9,int k)],[(16003,.box 28 h.cells)],10⟩
theorem Zil (h : Heap) (i : Nat) (l : List Int) (k : Nat) (hw : WOk h.words) (hp : Z01 h = true) (hl : l.length ≤ 100000) (c1 : ∀ k,k < l.length → l.getD k default = endN h (bsP h i) l k) (c3 : ∀ k,k ≤ l.length → 4096 ≤ endN h (bsP h i) l k ∧ endN h (bsP h i) l k ≤ 100000) (hk : k < l.length) (hs : 0 ≤ sizeH (atH h (l.getD k default)).1) : CSpec Tryz.prog (rndF Tryz.f4 2) (cvI h i l k).st .nrm (cvI h i l (k + 1)).st := by
 have po := Z06 hp
 have e1 := c1 k hk
 have am := Z3N hw (l.getD k default)
 have b1 := c3 k (by omega)
 have b2 := c3 (k + 1) (by omega)
 rw [endN] at b2
 have ei4 : IntKind.u64.wrap (sizeH (atH h (l.getD k default)).1) = sizeH (atH h (l.getD k default)).1 := wrapU' (by omega) (by omega)
 have ei5 : IntKind.u64.wrap (endN h (bsP h i) l k + sizeH (atH h (l.getD k default)).1) = endN h (bsP h i) l (k + 1) := by rw [endN]; exact wrapU' (by omega) (by omega)
 exact sF [] [] (Fl 40 wdv l (Ftb 41 (decide ((↑k : Int) < (↑l.length : Int))) (Fek 46 wdv l (↑k) k (Ffb 49 (l.getD k default != endN h (bsP h i) l k) (Fek 54 wdv l (↑k) k (Fc 56 (@Z44 h (l.getD k default) ‹_› (by omega)) (Fc 61 (@Z1P ((atH h (l.getD k default)).fst) ‹_›) (Fv 62 (sizeH (atH h (l.getD k default)).fst) (Fv 63 (endN h (bsP h i) l k + sizeH (atH h (l.getD k default)).fst) (Fx 43 k Fz))))))))))
theorem Zlu (h : Heap) (i : Nat) (l : List Int) : CSpec Tryz.prog (rndF Tryz.f4 2) (cvI h i l l.length).st (.ext 2) (Tg.st ⟨tm 85 [(2,bool false),(3,.pt 16003 0 0),(4,int i),(7,u64 (bsP h i)),(8,u64 (endN h (bsP h i) l l.length))],[(16003,.box 28 h.cells)],10⟩) := by
 exact sF [] [] (Fl 40 wdv l (Ffb 41 (decide ((↑l.length : Int) < (↑l.length : Int))) Fz))
theorem ZkX (h : Heap) (i : Nat) (l : List Int) (hw : WOk h.words) (hp : Z01 h = true) (hl : l.length ≤ 100000) (c1 : ∀ k,k < l.length → l.getD k default = endN h (bsP h i) l k) (c3 : ∀ k,k ≤ l.length → 4096 ≤ endN h (bsP h i) l k ∧ endN h (bsP h i) l k ≤ 100000) (hs : ∀ k,k < l.length → 0 ≤ sizeH (atH h (l.getD k default)).1) : CSpec Tryz.prog (blkF Tryz.f4 2) (Tg.st ⟨tm 85 [(2,bool false),(3,.pt 16003 0 0),(4,int i),(5,.d (.sl 1 (l.map wdv))),(7,u64 (bsP h i)),(8,u64 (bsP h i)),(9,int 0)],[(16003,.box 28 h.cells)],10⟩) .nrm (Tg.st ⟨tm 85 [(2,bool false),(3,.pt 16003 0 0),(4,int i),(7,u64 (bsP h i)),(8,u64 (endN h (bsP h i) l l.length))],[(16003,.box 28 h.cells)],10⟩) :=
 Z0a (S := fun k => (cvI h i l k).st) l.length (by kernel_rfl) (fun k hk => Zil h i l k hw hp hl c1 c3 hk (hs k hk)) (Zlu h i l)
theorem Zkt (h : Heap) (i : Nat) (hw : WOk h.words) (hp : Z01 h = true) (hi : i < h.pages.length) (hl : (Z08 h i).1.length ≤ 100000) (c0 : (Z08 h i).2 = 0) (c1 : ∀ k,k < (Z08 h i).1.length → (Z08 h i).1.getD k default = endN h (bsP h i) (Z08 h i).1 k) (c2 : (h.pages.getD i default).kind ≠ 3 → endN h (bsP h i) (Z08 h i).1 (Z08 h i).1.length - bsP h i = (h.pages.getD i default).used) (c3 : ∀ k,k ≤ (Z08 h i).1.length → 4096 ≤ endN h (bsP h i) (Z08 h i).1 k ∧ endN h (bsP h i) (Z08 h i).1 k ≤ 100000) (c4 : bsP h i ≤ endN h (bsP h i) (Z08 h i).1 (Z08 h i).1.length) (hs : ∀ k,k < (Z08 h i).1.length → 0 ≤ sizeH (atH h ((Z08 h i).1.getD k default)).1) : CSpec Tryz.prog (rndF Tryz.f4 0) (cvL h i).st .nrm (cvL h (i + 1)).st := by
 have po := Z06 hp
 have m := Z0Y (i := i) (j := h.conf.pg) (pw := h.conf.pw) (by omega) (by omega)
 rw [Int.mul_comm h.conf.pg] at m
 have m0 : 0 ≤ (i : Int) * h.conf.pw := Int.mul_nonneg (by omega) (by omega)
 have ar := area po.1
 have ei1 : IntKind.i64.wrap ((i : Int) * h.conf.pw) = (i : Int) * h.conf.pw := wrapI' (by omega) (by omega)
 have ei2 : IntKind.i64.wrap (4096 + (i : Int) * h.conf.pw) = 4096 + (i : Int) * h.conf.pw := wrapI' (by omega) (by omega)
 have ei3 : IntKind.u64.wrap (4096 + (i : Int) * h.conf.pw) = bsP h i := wrapU' (by omega) (by omega)
 have b := c3 _ (Nat.le_refl _)
 have hb : bsP h i = 4096 + (i : Int) * h.conf.pw := rfl
 have ei6 : IntKind.u64.wrap (endN h (bsP h i) (Z08 h i).1 (Z08 h i).1.length - bsP h i) = endN h (bsP h i) (Z08 h i).1 (Z08 h i).1.length - bsP h i := wrapU' (by omega) (by omega)
 have ei7 : IntKind.i64.wrap (endN h (bsP h i) (Z08 h i).1 (Z08 h i).1.length - bsP h i) = endN h (bsP h i) (Z08 h i).1 (Z08 h i).1.length - bsP h i := wrapI' (by omega) (by omega)
 exact sF [] [] (Fl 18 Page.dv h.pages (Ftb 19 (decide ((↑i : Int) < (↑h.pages.length : Int))) (Fc 25 (@ZiC h ((↑i : Int)) ‹_› (by omega)) (Ffb 29 ((Z08 h (↑i : Int)).snd != 0) (Fi 34 ((↑i : Int) * h.conf.pw) (Fi 35 (4096 + (↑i : Int) * h.conf.pw) (Fv 36 (4096 + (↑i : Int) * h.conf.pw) (Fu (@ZkX h i ((Z08 h (↑i : Int)).fst) ‹_› ‹_› ‹_› ‹_› ‹_› ‹_›) (Fek 67 Page.dv h.pages (↑i) i (FvG 74 ((h.pages.getD i default).kind != 3) (endN h (bsP h i) (Z08 h (↑i : Int)).fst (Z08 h (↑i : Int)).fst.length - bsP h i) (FiG 75 ((h.pages.getD i default).kind != 3) (endN h (bsP h i) (Z08 h (↑i : Int)).fst (Z08 h (↑i : Int)).fst.length - bsP h i) (FeG 79 ((h.pages.getD i default).kind != 3) Page.dv h.pages (↑i) i (Ffb 83 ((h.pages.getD i default).kind != 3&&endN h (bsP h i) (Z08 h (↑i : Int)).fst (Z08 h (↑i : Int)).fst.length - bsP h i != (h.pages.getD i default).used) (Fx 21 i Fz))))))))))))))
theorem ZlQ (h : Heap) (hp : Z01 h = true) : CSpec Tryz.prog (rndF Tryz.f4 0) (cvL h h.pages.length).st (.ext 0) (Tg.st ⟨tm 85 [(2,bool false)],[],4⟩) := by
 have po := Z06 hp
 exact sF [] [] (Fl 18 Page.dv h.pages (Ffb 19 (decide ((↑h.pages.length : Int) < (↑h.pages.length : Int))) Fz))
theorem ZlA {h : Heap} {T : Nat → List Int} (g : Gd h T) (hw : WOk h.words) : CSpec Tryz.prog (blkF Tryz.f4 0) (Tg.st ⟨tm 85 [(2,bool false),(3,.pt 16003 0 0),(4,int 0)],[(16003,.box 28 h.cells)],4⟩) .nrm (Tg.st ⟨tm 85 [(2,bool false)],[],4⟩) :=
 Z0a (S := fun i => (cvL h i).st) h.pages.length (by kernel_rfl) (fun i hi => by
  obtain ⟨c0,c1,c2⟩ := g.cover hi
  obtain ⟨f1,f2,f3⟩ := Zgg g hi c1
  have m0 : 0 ≤ (i : Int) * h.conf.pw := Int.mul_nonneg (by omega) (by have := (Z06 g.p).1; have := validB_iff.1 this; omega)
  have hb : bsP h i = 4096 + (i : Int) * h.conf.pw := rfl
  exact Zkt h i hw g.p hi f1 c0 c1 c2 (fun k hk => by have := f2 k hk; omega) (f2 _ (Nat.le_refl _)).1 f3) (ZlQ h g.p)
theorem ZfE (tape : List Int) (h1 : tape.length ≤ 140737488355328) : GSpec Tryz.prog 4 [Z0T tape] true (bool true) [] := by
 have hm := Zik tape
 have hw := hm.words
 obtain ⟨T,g,_,_⟩ := Zj9 tape
 have po := Z06 g.p
 exact gF [] Tryz.func4 [] (Fc 13 (@ZhI tape ‹_›) (Fu (@ZlA ((Z8C tape).heap) T g ‹_›) (Fc 84 (@ZfW) Fz)))
end Go.Proofs.YtjflpmnenhdeeaaGreat
namespace Go.Proofs.YtjflpmnenhdeeaaGreat
open Go.Sx Go.RowKit
theorem Z6o (os : Os) (started : os.Started) (H : Type) (enc : TypeId × Value → H) :
  ReturnsInHanded {} Tryz.checked os 4 .any (Rows.walkCoversSpec.pre6 enc Tryz.prog Tryz.f4 Rows.walkCoversRow.domain false) (Rows.walkCoversSpec.post enc Tryz.prog Tryz.f4 false true false false) := by
 refine ZaL (C := Tryz.checked) (tb := 4) 5 own0 started (by kernel_rfl) Tryz.func4
  (ChangeSpec.witness6 (enc := enc) (C := Tryz.checked) false ⟨#[],#[.slice none 0 0],[]⟩ 8 (by kernel_rfl) (by kernel_rfl) (by kernel_rfl) (by kernel_rfl))
  ZiB (by kernel_rfl) (by kernel_rfl) (by kernel_rfl) (by kernel_rfl) rfl (fun ds hd => ?_) (fun ls hl h => ?_)
 ·match ds,hd with
  | [a0],_ => rfl
 ·match ls,hl with
  | [l0],_ =>
   obtain ⟨tape,rfl,htape⟩ := Zjl (n := 3) (h 0 22 l0 (by kernel_rfl) rfl)
   have e : Z9H Tryz.prog Tryz.f4.params.toList [[.sl 1 (tape.map idv)]] = [Z0T tape] := by kernel_rfl
   exact ⟨true,e ▸ ZfE tape htape⟩
theorem Zaf : (Rows.walkCoversRow.inPlace == Tryz.prog.inPlace 4) = true := by kernel_rfl
theorem Z9X : (Rows.walkCoversRow.unfollowed == Tryz.prog.unfollowed 4) = true := by kernel_rfl
theorem Zag : (Rows.walkCoversRow.recurses == Tryz.prog.recurses 4) = true := by kernel_rfl
theorem Z9y : (Rows.walkCoversRow.named == Tryz.prog.varsNamed 4) = true := by kernel_rfl
theorem Z6t : joinedFacts Tryz.prog 4 Tryz.f4 Rows.walkCoversSpec Rows.walkCoversRow = true := by
 unfold joinedFacts
 rw [Zaf,Z9X,Zag,Z9y]
 kernel_rfl
theorem walkCovers_holds : Rows.WalkCoversSaid :=
 OpenClaim.holds_of_wide 4 Tryz.f4 rfl rfl rfl rfl rfl rfl rfl ⟨rfl,rfl,rfl,rfl,rfl⟩ rfl rfl rfl rfl rfl (by kernel_rfl) Tryz.func4 Z6t
  (of_decide_eq_true (by kernel_rfl)) (by unfold Func.isWrapper; first | (rw [if_pos (by decide +kernel)]; kernel_rfl) | (rw [if_neg (by decide +kernel)]; exact ⟨rfl,rfl⟩))
  (fun os started H enc _ => Z6o os started H enc)
end Go.Proofs.YtjflpmnenhdeeaaGreat
