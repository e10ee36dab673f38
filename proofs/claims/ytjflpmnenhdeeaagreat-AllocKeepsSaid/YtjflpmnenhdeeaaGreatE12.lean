/-
 The statement AllocKeeps: part 12.
 Conditions: none.
-/
import Derived.Test.YtjflpmnenhdeeaaGreatE11
set_option maxRecDepth 100000
set_option maxHeartbeats 2000000
set_option linter.all false
namespace Go.Proofs.YtjflpmnenhdeeaaGreat
open Go.Sx
section
variable {h : Heap} {T : Nat → List Int} (g : Gd h T)
include g
theorem KI.copy {tq : Nat → List Int} {w : Work} (k : KI h T tq w) (hw : WkOk w) {r n : Int} {i0 : Nat} (hr : r ∈ T i0) (hkd : kdA h.words r ≠ 0) (h1 : (h.pages.getD i0 default).kind = 1) (hs : (w.heap.pages.getD i0 default).space = w.heap.space) (he : (loadA w.heap.words r).1 = (loadA h.words r).1)
  (hn : n = hlA w.heap.words r + 1) (hp : n ≤ w.heap.conf.pw) (hc : (w.place n).2.2 = true) : ∃ tq',KI h T tq' ((w.place n).1.copy r (w.place n).2.1 n) := by
 have hlr := Z0g w.heap.words r
 have ey := Z1O he
 obtain ⟨i,p,t,p1,p2,p3,p4,p5,p6,p7,e⟩ := Z8d hw ⟨by omega,hp⟩ hc
 have hcc := k.c
 have hpl := k.pl
 have hwl := k.wl
 have po := Z08 g.p
 have hin := g.inw hr
 have hki : (h.pages.getD i default).kind = 0 := by
  rcases p2 with q | q
  ·by_cases c : (i : Int) ∈ w.taken
   ·exact (k.tk i c).2.1
   ·rw [← (k.pg i c).1]; exact q.1
  ·exact (k.tk i q.1).2.1
 have hio := Z10 (i := i) (j := h.conf.pg) (pw := h.conf.pw) (by omega) (by omega)
 rw [Int.mul_comm h.conf.pg] at hio
 have hi0 : 0 ≤ (i : Int) * h.conf.pw := Int.mul_nonneg (by omega) (by omega)
 rw [hcc] at p5 p7 hp
 have hbp : 4096 + (i : Int) * h.conf.pw = bsP h i := rfl
 rw [e,p7,hbp]
 generalize hu : occP (w.heap.pages.getD i default) = u at *
 generalize ha : bsP h i + u = a
 have hbl : 4096 ≤ a ∧ a + n ≤ 4096 + w.heap.words.length := by omega
 have far : ∀ j x,x ∈ T j → x + hlA h.words x < bsP h i ∨ bsP h i + h.conf.pw ≤ x := by
  intro j x hx
  have := g.free (show i < h.pages.length by omega) (Or.inl hki) hx
  rw [occP,if_pos hki] at this
  omega
 have farr := far i0 r hr
 obtain ⟨m1,m2,m3⟩ := Z7O (ws := w.heap.words) (a := a) (b := r) (n := n) (by omega) (by omega) (by omega)
 have hsr : 4096 ≤ r ∧ r < 4096 + (moveA w.heap.words a r n).1.length := by omega
 have w1 : ∀ x,x ≠ r → (x < a ∨ a + n ≤ x) → loadA (Z0F (moveA w.heap.words a r n).1 r (4 * a + 2)).1 x = loadA w.heap.words x := fun x q1 q2 => by rw [Z0B hsr q1,m3 x q2]
 have w2 : (loadA (Z0F (moveA w.heap.words a r n).1 r (4 * a + 2)).1 r).1 = 4 * a + 2 := by rw [Z2w hsr]
 have w3 : (loadA (Z0F (moveA w.heap.words a r n).1 r (4 * a + 2)).1 a).1 = (loadA w.heap.words r).1 := by rw [Z0B hsr (by omega),m2]
 have hlen : (Z0F (moveA w.heap.words a r n).1 r (4 * a + 2)).1.length = w.heap.words.length := by rw [Z2m hsr,m1]
 have hit : (i : Int) ∈ t := by rcases p2 with q | q; (rw [q.2.1]; simp); (rw [q.2.2.1]; exact q.1)
 have htt : ∀ x,x ∈ t ↔ x ∈ w.taken ∨ x = (i : Int) := by
  intro x
  rcases p2 with q | q
  ·rw [q.2.1]; simp
  ·rw [q.2.2.1]
   exact ⟨Or.inl,fun c => c.elim id fun c => c ▸ q.1⟩
 have w4 : ∀ (j : Nat) x,(j : Int) ∈ w.taken → x ∈ tq j → x ≠ r ∧ (x < a ∨ a + n ≤ x) ∧ (j = i → x + hlA w.heap.words x < a) := by
  intro j x hj hx
  have s := k.sepT g hj hx hr
  have rx := Z0g w.heap.words x
  have t := k.tk j hj
  have m := Z1A t.2.2.2.2.2.1 hx
  refine ⟨by omega, ?_⟩
  rcases Nat.lt_trichotomy j i with q | q | q
  ·have := Z10 (i := j) (j := i) (pw := h.conf.pw) (by omega) (by omega)
   unfold bsP at s
   rw [← hbp] at ha
   exact ⟨Or.inl (by omega),fun q2 => by omega⟩
  ·subst q
   have : u = (w.heap.pages.getD j default).used := by rw [← hu,occP,if_neg (by omega)]
   exact ⟨Or.inl (by omega),fun _ => by omega⟩
  ·have := Z10 (i := i) (j := j) (pw := h.conf.pw) (by omega) (by omega)
   unfold bsP at s
   rw [← hbp] at ha
   exact ⟨Or.inr (by omega),fun q2 => by omega⟩
 have kq : ∀ (j : Nat) x,(j : Int) ∈ w.taken → x ∈ tq j → (loadA (Z0F (moveA w.heap.words a r n).1 r (4 * a + 2)).1 x).1 = (loadA w.heap.words x).1 := fun j x hj hx => by
  have := w4 j x hj hx
  rw [w1 x this.1 this.2.1]
 refine ⟨fun j => if j = i then tq i ++ [a] else tq j,k.c,k.sp,k.old, ?_, ?_, ?_, ?_, ?_, ?_, ?_, ?_, ?_⟩
 ·simp only [Work.copy,List.length_set]; exact k.pl
 ·simp only [Work.copy,hlen]; exact k.wl
 ·intro j hj
  simp only [Work.copy] at hj ⊢
  have hj' := fun q => hj ((htt _).2 (Or.inl q))
  have hne : ¬ i = j := fun q => hj (q ▸ hit)
  rw [Z0r p1,if_neg hne]
  exact k.pg j hj'
 ·intro j hj
  simp only [Work.copy] at hj ⊢
  rw [Z0r p1]
  by_cases q : i = j
  ·subst q
   rw [if_pos rfl]
   simp only [if_true]
   have ka := Z1O (ws := w.heap.words) (ws' := (Z0F (moveA w.heap.words a r n).1 r (4 * a + 2)).1) (a := a)
   have ke : hdA (Z0F (moveA w.heap.words a r n).1 r (4 * a + 2)).1 a = hdA h.words r := by rw [hdA,hdA,w3,he]
   have kl : hlA (Z0F (moveA w.heap.words a r n).1 r (4 * a + 2)).1 a = n - 1 := by
    have : hlA (Z0F (moveA w.heap.words a r n).1 r (4 * a + 2)).1 a = hlA w.heap.words r := by rw [hlA,hlA,w3]
    omega
   have kk : okA (Z0F (moveA w.heap.words a r n).1 r (4 * a + 2)).1 a := by
    have := (g.on hr).2.2.2.2.2.1
    rw [okA] at this ⊢
    rw [w3,he]
    exact this
   refine ⟨by omega,hki,p3, ?_,by omega, ?_, ?_⟩
   ·rcases p2 with q | q
    ·exact q.2.2
    ·rw [q.2.2.2]; exact (k.tk i q.1).2.2.2.1
   ·refine Za3 (b := a) ?_ ⟨rfl,kk,by rw [kl]; simp only [tile]; omega⟩
    by_cases c : (i : Int) ∈ w.taken
    ·have t := k.tk i c
     have hue : u = (w.heap.pages.getD i default).used := by rw [← hu,occP,if_neg (by omega)]
     have t6 := t.2.2.2.2.2.1
     rw [← hue,ha] at t6
     exact Z2a t6 fun x hx => ⟨(Z1O (kq i x c hx)).1 (Z1A t6 hx).1,(Z1O (kq i x c hx)).2.1⟩
    ·rw [k.tk0 i c]
     have hue : u = 0 := by
      rcases p2 with q | q
      ·rw [← hu,occP,if_pos q.1]
      ·exact absurd q.1 c
     simp only [tile]; omega
   ·intro x hx
    rcases List.mem_append.1 hx with hx | hx
    ·by_cases c : (i : Int) ∈ w.taken
     ·have t := (k.tk i c).2.2.2.2.2.2 x hx
      have o := Z1O (kq i x c hx)
      rw [o.2.2.1,o.2.1]
      exact ⟨List.mem_append_left _ t.1,t.2⟩
     ·rw [k.tk0 i c] at hx; simp at hx
    ·have := List.mem_singleton.1 hx
     subst this
     refine ⟨by simp,by rw [kdA,ke]; exact hkd, ?_⟩
     have := (g.t1 i0 (g.t0 i0 r hr).1 h1).2 r hr
     rw [kl]
     have := ey.2.1
     omega
  ·rw [if_neg q]
   have hj' : (j : Int) ∈ w.taken := by
    rcases (htt _).1 hj with c | c
    ·exact c
    ·omega
   obtain ⟨t1,t2,t3,t4,t5,t6,t7⟩ := k.tk j hj'
   simp only [show ¬ j = i from fun c => q c.symm,if_false]
   refine ⟨t1,t2,t3,t4,t5,Z2a t6 fun x hx => ⟨(Z1O (kq j x hj' hx)).1 (Z1A t6 hx).1,(Z1O (kq j x hj' hx)).2.1⟩,fun x hx => ?_⟩
   have o := Z1O (kq j x hj' hx)
   rw [o.2.2.1,o.2.1]
   exact ⟨List.mem_append_left _ (t7 x hx).1,(t7 x hx).2⟩
 ·intro j hj
  simp only [Work.copy] at hj
  have hne : ¬ j = i := fun q => hj (q ▸ hit)
  simp only [hne,if_false]
  exact k.tk0 j fun q => hj ((htt _).2 (Or.inl q))
 ·intro x hx
  simp only [Work.copy,List.mem_append,List.mem_singleton] at hx ⊢
  rcases hx with hx | rfl
  ·rcases k.q x hx with ⟨j,j1,j2,j3,j4⟩ | ⟨j,j1,j2⟩
   ·have hne : ¬ i = j := by
     rintro rfl
     have := (g.t0 i x j2).2
     omega
    refine Or.inl ⟨j,fun c => ?_,j2,j3,by rw [Z0r p1,if_neg hne]; exact j4⟩
    rcases (htt _).1 c with c | c
    ·exact j1 c
    ·omega
   ·refine Or.inr ⟨j,(htt _).2 (Or.inl j1), ?_⟩
    split
    ·rename_i q; subst q; exact List.mem_append_left _ j2
    ·exact j2
  ·exact Or.inr ⟨i,hit,by simp⟩
 ·intro j x hx
  simp only [Work.copy]
  have hne : ¬ i = j := by
   rintro rfl
   have := (g.t0 i x hx).2
   omega
  rw [Z0r p1,if_neg hne]
  by_cases q : x = r
  ·subst q
   refine Or.inr ⟨by rw [w2,Z8T (by omega) (by omega)], ?_, ?_⟩
   ·have e1 := g.ofx hx
    have e2 := g.ofx hr
    rw [e1] at e2
    have : j = i0 := by simp only [Prod.mk.injEq] at e2; omega
    subst this
    rw [(k.pg j (k.nt g hx)).1]
    exact h1
   ·have e1 := g.ofx hx
    have e2 := g.ofx hr
    rw [e1] at e2
    have : j = i0 := by simp only [Prod.mk.injEq] at e2; omega
    subst this
    exact hs
  ·have f := far j x hx
   have rx := Z0g h.words x
   rw [w1 x q (by omega)]
   exact k.hd j x hx
 ·intro b hb
  simp only [Work.copy] at hb ⊢
  by_cases q : a ≤ b ∧ b < a + n
  ·exact Or.inr ⟨i,hit,by omega,by rw [Z0r p1,if_pos rfl]; omega⟩
  ·by_cases q2 : b = r
   ·refine Or.inl ⟨i0,r,hr,by omega, ?_⟩
    rw [kpA,if_neg hkd]
    have := Z0g h.words r
    omega
   ·rw [w1 b q2 (by omega)] at hb
    rcases k.dt b hb with c | ⟨j,j1,j2,j3⟩
    ·exact Or.inl c
    ·refine Or.inr ⟨j,(htt _).2 (Or.inl j1),j2, ?_⟩
     rw [Z0r p1]
     split
     ·rename_i c
      subst c
      have := (k.tk i j1).2.2.1
      have : u = (w.heap.pages.getD i default).used := by rw [← hu,occP,if_neg (by omega)]
      omega
     ·exact j3
 ·intro j h2 hsj
  simp only [Work.copy] at hsj ⊢
  have hne : ¬ i = j := by rintro rfl; omega
  rw [Z0r p1,if_neg hne] at hsj
  exact List.mem_append_left _ (k.lg j h2 hsj)
theorem KI.fwd {tq : Nat → List Int} {w : Work} (k : KI h T tq w) (hw : WkOk w) (hi : Inv w) (r : Int) (e : (w.fwd r).2.2 = 0) : ∃ tq',KI h T tq' (w.fwd r).1 := by
 unfold Work.fwd at e ⊢
 split at e
 ·rename_i c1
  rw [if_pos c1]
  exact ⟨tq,k⟩
 ·rename_i c1
  rw [if_neg c1]
  split at e
  ·simp at e
  ·rename_i c2
   rw [if_neg c2]
   have c2' : r ∈ w.old := Decidable.not_not.1 c2
   obtain ⟨i0,hr,hkd⟩ := (k.old r).1 c2'
   have ofr : ofA w.heap.conf r = ((i0 : Int),r - bsP h i0,0) := by rw [k.c]; exact g.ofx hr
   have nt := k.nt g hr
   have pgi := k.pg i0 nt
   have hil := (g.t0 i0 r hr).1
   have hki := (g.t0 i0 r hr).2
   have hpl := k.pl
   split at e
   ·rename_i c3
    rw [if_pos c3]
    exact ⟨tq,k⟩
   ·rename_i c3
    rw [if_neg c3]
    split at e
    ·simp at e
    ·rename_i c4
     rw [if_neg c4]
     split at e
     ·rename_i c5
      rw [if_pos c5]
      simp only [Z1c,decide_eq_true_eq] at c5
      rw [ofr] at c5
      simp only [Int.toNat_natCast] at c5
      exact ⟨tq,k.keep g hr hkd c5.2.2.2.1⟩
     ·rename_i c5
      rw [if_neg c5]
      have epw : Z16 w r = i0 := by rw [Z16,ofr]; simp
      split at e
      ·rename_i c6
       rw [if_pos c6]
       rw [epw] at c6 ⊢
       exact ⟨tq,k.flip g hw hr hkd c6⟩
      ·rename_i c6
       rw [if_neg c6]
       split at e
       ·simp at e
       ·rename_i c7
        rw [if_neg c7]
        have c7' : (w.place (sizeH (hdW w r))).2.2 = true := by simpa using c7
        rw [epw] at c6
        have k1 : (h.pages.getD i0 default).kind = 1 := by omega
        have hs : (w.heap.pages.getD i0 default).space = w.heap.space := by
         by_cases q : (w.heap.pages.getD i0 default).space = w.heap.space
         ·exact q
         ·exfalso
          apply c5
          simp only [Z1c,decide_eq_true_eq]
          rw [ofr]
          simp only [Int.toNat_natCast]
          exact ⟨by omega,by omega,by omega,q,nt⟩
        have he : (loadA w.heap.words r).1 = (loadA h.words r).1 := by
         rcases k.hd i0 r hr with q | q
         ·exact q
         ·exact absurd q.1 c3
        have hz := hi.z r c2'
        have hp : sizeH (hdW w r) ≤ w.heap.conf.pw := by
         rw [Z3a]
         rw [ofr] at hz
         simp only [Int.toNat_natCast] at hz
         rcases hz with hz | hz
         ·exact absurd hz c6
         ·exact hz
        exact k.copy g hw hr hkd k1 hs he (Z3a w r) hp c7'
theorem KI.field {tq : Nat → List Int} {w : Work} (k : KI h T tq w) {q j : Int} (hq : q ∈ w.queue) (hj : 0 ≤ j ∧ j < hlA w.heap.words q) :
  (∀ i x,x ∈ T i → x ≠ q + 1 + j) ∧ (∀ (i : Nat) x,(i : Int) ∈ w.taken → x ∈ tq i → x ≠ q + 1 + j) ∧ ((∃ i x,x ∈ T i ∧ x ≤ q + 1 + j ∧ q + 1 + j < x + kpA h.words x) ∨ (∃ i : Nat,(i : Int) ∈ w.taken ∧ bsP h i ≤ q + 1 + j ∧ q + 1 + j < bsP h i + (w.heap.pages.getD i default).used)) := by
 rcases k.q q hq with ⟨i,i1,i2,i3,i4⟩ | ⟨i,i1,i2⟩
 ·have he : (loadA w.heap.words q).1 = (loadA h.words q).1 := by
   rcases k.hd i q i2 with c | c
   ·exact c
   ·exact absurd c.2.2 i4
  have o := Z1O he
  rw [o.2.1] at hj
  refine ⟨fun m x hx c => ?_,fun m x hm hx c => ?_,Or.inl ⟨i,q,i2,by omega,by rw [kpA,if_neg i3]; omega⟩⟩
  ·have := g.sep i2 hx (by omega)
   omega
  ·have := k.sepT g hm hx i2
   have := Z0g w.heap.words x
   omega
 ·have t := k.tk i i1
  have m := Z1A t.2.2.2.2.2.1 i2
  refine ⟨fun m x hx c => ?_,fun m x hm hx c => ?_,Or.inr ⟨i,i1,by omega,by omega⟩⟩
  ·have := k.sepT g i1 i2 hx
   have := Z0g h.words x
   omega
  ·have := k.sepQ g i1 i2 hm hx (by omega)
   omega
theorem KI.in1 {tq : Nat → List Int} {w : Work} (k : KI h T tq w) (hw : WkOk w) (hi : Inv w) {q j : Int} (hq : q ∈ w.queue) (hj : 0 ≤ j ∧ j < hlA w.heap.words q) (e : (w.fwd (loadA w.heap.words (q + 1 + j)).1).2.2 = 0) : ∃ tq',KI h T tq' (w.in1 (q + 1 + j)) := by
 obtain ⟨tq',k'⟩ := k.fwd g hw hi _ e
 obtain ⟨i1,x1⟩ := Z5X hw hi _ e
 have hq1 := x1.q q hq
 have hl1 := x1.l q hq
 have hr := i1.r q (List.mem_append_right _ hq1)
 have hin : 4096 ≤ q + 1 + j ∧ q + 1 + j < 4096 + (w.fwd (loadA w.heap.words (q + 1 + j)).1).1.heap.words.length := by omega
 obtain ⟨f1,f2,f3⟩ := k'.field g hq1 (j := j) (by omega)
 refine ⟨tq',k'.withWords g (Z2m hin) (fun i x hx => ?_) (fun i x hm hx => ?_) (fun a ha => ?_)⟩
 ·rw [Z0B hin (f1 i x hx)]
 ·rw [Z0B hin (f2 i x hm hx)]
 ·by_cases c : a = q + 1 + j
  ·subst c
   exact Or.inr f3
  ·rw [Z0B hin c] at ha
   exact Or.inl ha
theorem KI.begin : KI h T (fun _ => []) (beginW h) := by
 have hq : ∀ j,((h.pages.map (begQ (1 - h.space))).getD j default).kind = (h.pages.getD j default).kind ∧ ((h.pages.map (begQ (1 - h.space))).getD j default).used = (h.pages.getD j default).used ∧ ((h.pages.map (begQ (1 - h.space))).getD j default).pins = (h.pages.getD j default).pins ∧ ((h.pages.getD j default).kind = 2 → ((h.pages.map (begQ (1 - h.space))).getD j default).space = (h.pages.getD j default).space) := by
  intro j
  by_cases hj : j < h.pages.length
  ·have : (h.pages.map (begQ (1 - h.space))).getD j default = begQ (1 - h.space) (h.pages.getD j default) := by simp [List.getD_eq_getElem?_getD,hj]
   rw [this,begQ]
   split
   ·rename_i c
    exact ⟨rfl,rfl,rfl,fun q => by omega⟩
   ·exact ⟨rfl,rfl,rfl,fun _ => rfl⟩
  ·rw [List.getD_eq_getElem?_getD,List.getD_eq_getElem?_getD,List.getElem?_eq_none (by simp; omega),List.getElem?_eq_none (by omega)]
   exact ⟨rfl,rfl,rfl,fun _ => rfl⟩
 refine ⟨rfl,rfl,g.objs.2,by simp [beginW],rfl,fun i _ => ⟨(hq i).1,(hq i).2.1,(hq i).2.2.1⟩,by simp [beginW],fun _ _ => rfl,by simp [beginW],fun _ _ _ => Or.inl rfl,fun a ha => Or.inl (g.d a ha), ?_⟩
 intro i h2 hs
 exfalso
 simp only [beginW] at hs
 rw [(hq i).2.2.2 h2] at hs
 by_cases hi : i < h.pages.length
 ·exact hs (g.sp i hi (by omega))
 ·rw [List.getD_eq_getElem?_getD,List.getElem?_eq_none (by omega)] at h2
  have d : (default : Page).kind = 0 := rfl
  simp only [Option.getD_none] at h2
  omega
theorem ZjE {s : List Int} (hw : WOk h.words) (e : (rootsF (beginW h) s).2.2 = 0) (e2 : (allF (rootsF (beginW h) s).1).2 = 0) : ∃ tq,KI h T tq (cW2 h s) :=
 ZiI (fun w => ∃ tq,KI h T tq w) (fun w r hw hi ⟨_,k⟩ e => k.fwd g hw hi r e) (fun w q j hw hi ⟨_,k⟩ hq h0 h1 e => k.in1 g hw hi hq ⟨h0,h1⟩ e) (fun w n ⟨tq,k⟩ => ⟨tq,k.c,k.sp,k.old,k.pl,k.wl,k.pg,k.tk,k.tk0,k.q,k.hd,k.dt,k.lg⟩) hw g.p ⟨_,KI.begin g⟩ e e2
end
theorem ZfJ {w : Work} (hw : WkOk w) (h : Inv w) {r n : Int} (hr : r ∈ w.old) (hq : r ∉ w.queue) (hn : n = hlA w.heap.words r + 1) (hp : n ≤ w.heap.conf.pw) (hc : (w.place n).2.2 = true) : ∀ x ∈ w.queue,∀ m,0 ≤ m → m ≤ hlA w.heap.words x → loadA ((w.place n).1.copy r (w.place n).2.1 n).heap.words (x + m) = loadA w.heap.words (x + m) := by
 have hlr := Z0g w.heap.words r
 obtain ⟨i,p,t,h1,h2,h3,h4,h5,h6,h7,h8,e⟩ := Z4V hw ⟨by omega,hp⟩ hc
 have hb := validB_iff.1 hw.conf
 have hpl := hw.pl
 have hL := h.L
 have hio : (i : Int) * w.heap.conf.pw + w.heap.conf.pw ≤ w.heap.conf.pw * w.heap.conf.pg := by
  have := Z10 (i := i) (j := w.heap.conf.pg) (pw := w.heap.conf.pw) (by omega) (by omega)
  rw [Int.mul_comm w.heap.conf.pw]; exact this
 have hi0 : 0 ≤ (i : Int) * w.heap.conf.pw := Int.mul_nonneg (by omega) (by omega)
 rw [e,h8]
 generalize hu : occP (w.heap.pages.getD i default) = u at *
 generalize ha : 4096 + (i : Int) * w.heap.conf.pw + u = at'
 have hrr := h.r r (List.mem_append_left _ hr)
 have hf := h.f i h1 (by rcases h2 with h2 | h2; exact Or.inl h2; exact Or.inr h2.1)
 rw [hu] at hf
 obtain ⟨m1,m2,m3⟩ := Z7O (ws := w.heap.words) (a := at') (b := r) (n := n) (by omega) (by omega) (by omega)
 have hsr : 4096 ≤ r ∧ r < 4096 + (moveA w.heap.words at' r n).1.length := by omega
 intro x hx m hm0 hm1
 have hfx := hf x (List.mem_append_right _ hx)
 simp only [Work.copy]
 rw [Z0B hsr ?_,m3 _ (by omega)]
 intro c
 by_cases q : x = r
 ·exact hq (q ▸ hx)
 ·have := h.s x (List.mem_append_right _ hx) r (List.mem_append_left _ hr) (by omega)
  omega
theorem Z6D {w : Work} (hw : WkOk w) (h : Inv w) (r : Int) (e : (w.fwd r).2.2 = 0) : (∃ m,(w.fwd r).1.queue = w.queue ++ m) ∧ (w.fwd r).1.scanned = w.scanned ∧ ∀ x ∈ w.queue,∀ m,0 ≤ m → m ≤ hlA w.heap.words x → loadA (w.fwd r).1.heap.words (x + m) = loadA w.heap.words (x + m) := by
 unfold Work.fwd at e ⊢
 split at e
 ·rename_i c1
  rw [if_pos c1]
  exact ⟨⟨[],by simp⟩,rfl,fun _ _ _ _ _ => rfl⟩
 ·rename_i c1
  rw [if_neg c1]
  have c1' : r ∉ w.queue := fun h => c1 (Or.inr h)
  split at e
  ·simp at e
  ·rename_i c2
   rw [if_neg c2]
   have c2' : r ∈ w.old := Decidable.not_not.1 c2
   split at e
   ·rename_i c3
    rw [if_pos c3]
    exact ⟨⟨[],by simp⟩,rfl,fun _ _ _ _ _ => rfl⟩
   ·rename_i c3
    rw [if_neg c3]
    split at e
    ·simp at e
    ·rename_i c4
     rw [if_neg c4]
     split at e
     ·rename_i c5
      rw [if_pos c5]
      exact ⟨⟨[r],rfl⟩,rfl,fun _ _ _ _ _ => rfl⟩
     ·rename_i c5
      rw [if_neg c5]
      split at e
      ·rename_i c6
       rw [if_pos c6]
       exact ⟨⟨[r],rfl⟩,rfl,fun _ _ _ _ _ => rfl⟩
      ·rename_i c6
       rw [if_neg c6]
       split at e
       ·simp at e
       ·rename_i c7
        rw [if_neg c7]
        have c7' : (w.place (sizeH (hdW w r))).2.2 = true := by simpa using c7
        have hz := h.z r c2'
        have hp : sizeH (hdW w r) ≤ w.heap.conf.pw := by
         rw [Z3a]
         rcases hz with hz | hz
         ·exact absurd hz c6
         ·exact hz
        have hlr := Z0g w.heap.words r
        obtain ⟨i,p,t,p1,p2,p3,p4,p5,p6,p7,e8⟩ := Z8d hw ⟨by rw [Z3a]; omega,hp⟩ c7'
        refine ⟨⟨[(w.place (sizeH (hdW w r))).2.1], ?_⟩, ?_,ZfJ hw h c2' c1' (Z3a w r) hp c7'⟩
        ·rw [e8]; rfl
        ·rw [e8]; rfl
def FD (w : Work) (F : Int → Prop) : Prop := ∀ z,F z → (∃ q j,q ∈ w.queue ∧ 0 ≤ j ∧ j < hlA w.heap.words q ∧ z = q + 1 + j) ∧ ToOk w (loadA w.heap.words z).1
structure Sm (w v : Work) : Prop where
 q : ∃ m,v.queue = w.queue ++ m
 h : ∀ x ∈ w.queue,hdA v.heap.words x = hdA w.heap.words x
theorem Sm.trans {u v w : Work} (a : Sm u v) (b : Sm v w) : Sm u w := by
 obtain ⟨m,em⟩ := a.q
 obtain ⟨n,en⟩ := b.q
 exact ⟨⟨m ++ n,by rw [en,em,List.append_assoc]⟩,fun x hx => (b.h x (by rw [em]; exact List.mem_append_left _ hx)).trans (a.h x hx)⟩
theorem Sm.mem {w v : Work} (a : Sm w v) {x : Int} (hx : x ∈ w.queue) : x ∈ v.queue := by
 obtain ⟨m,em⟩ := a.q
 rw [em]
 exact List.mem_append_left _ hx
theorem Sm.len {w v : Work} (a : Sm w v) {x : Int} (hx : x ∈ w.queue) : hlA v.heap.words x = hlA w.heap.words x := congrArg Header.length (a.h x hx)
theorem Sm.to {w v : Work} (a : Sm w v) {x : Int} (hx : ToOk w x) : ToOk v x := hx.imp id a.mem
theorem Ziu {w : Work} (hw : WkOk w) (h : Inv w) (r : Int) (e : (w.fwd r).2.2 = 0) : Sm w (w.fwd r).1 := by
 have s := Z6D hw h r e
 refine ⟨s.1,fun x hx => ?_⟩
 have := s.2.2 x hx 0 (by omega) (Z0g _ _).1
 rw [Int.add_zero] at this
 rw [hdA,hdA,this]
theorem FD.fwd {w : Work} {F : Int → Prop} (f : FD w F) (hw : WkOk w) (h : Inv w) (r : Int) (e : (w.fwd r).2.2 = 0) : FD (w.fwd r).1 F := by
 have s := Z6D hw h r e
 have m := Ziu hw h r e
 intro z hz
 obtain ⟨⟨q,j,hq,h0,h1,rfl⟩,t⟩ := f z hz
 refine ⟨⟨q,j,m.mem hq,h0,by rw [m.len hq]; exact h1,rfl⟩, ?_⟩
 have := s.2.2 q hq (1 + j) (by omega) (by omega)
 rw [← Int.add_assoc] at this
 rw [this]
 exact m.to t
theorem Zk9 {B : Int} {w : Work} (hw : WkOk w) (h : Inv w) (hp : PR B w) {F : Int → Prop} (f : FD w F) {q j : Int} (hq : q ∈ w.queue) (hj : 0 ≤ j ∧ j < hlA w.heap.words q) (e : (w.fwd (loadA w.heap.words (q + 1 + j)).1).2.2 = 0) : Sm w (w.in1 (q + 1 + j)) ∧ (w.in1 (q + 1 + j)).scanned = w.scanned ∧ FD (w.in1 (q + 1 + j)) (fun z => F z ∨ z = q + 1 + j) := by
 have s := Z6D hw h _ e
 have m := Ziu hw h _ e
 have ff := f.fwd hw h _ e
 have to := Zin w _ hp e
 obtain ⟨i1,x1⟩ := Z5X hw h _ e
 have hq1 := x1.q q hq
 have hl1 := x1.l q hq
 have hr := i1.r q (List.mem_append_right _ hq1)
 have hin : 4096 ≤ q + 1 + j ∧ q + 1 + j < 4096 + (w.fwd (loadA w.heap.words (q + 1 + j)).1).1.heap.words.length := by omega
 have hne : ∀ x ∈ (w.fwd (loadA w.heap.words (q + 1 + j)).1).1.queue,x ≠ q + 1 + j := by
  intro x hx c
  have := i1.s q (List.mem_append_right _ hq1) x (List.mem_append_right _ hx) (by omega)
  omega
 have hh : ∀ x ∈ (w.fwd (loadA w.heap.words (q + 1 + j)).1).1.queue,hdA (w.in1 (q + 1 + j)).heap.words x = hdA (w.fwd (loadA w.heap.words (q + 1 + j)).1).1.heap.words x := by
  intro x hx
  simp only [Work.in1]
  rw [hdA,hdA,Z0B hin (hne x hx)]
 have m2 : Sm (w.fwd (loadA w.heap.words (q + 1 + j)).1).1 (w.in1 (q + 1 + j)) := ⟨⟨[],by simp [Work.in1]⟩,hh⟩
 refine ⟨m.trans m2,s.2.1, ?_⟩
 intro z hz
 have key : (∃ q' j',q' ∈ w.queue ∧ 0 ≤ j' ∧ j' < hlA w.heap.words q' ∧ z = q' + 1 + j') := by
  rcases hz with hz | rfl
  ·exact (f z hz).1
  ·exact ⟨q,j,hq,hj.1,hj.2,rfl⟩
 obtain ⟨q',j',k1,k2,k3,k4⟩ := key
 refine ⟨⟨q',j',(m.trans m2).mem k1,k2,by rw [(m.trans m2).len k1]; exact k3,k4⟩, ?_⟩
 by_cases c : z = q + 1 + j
 ·subst c
  have : (loadA (w.in1 (q + 1 + j)).heap.words (q + 1 + j)).1 = (w.fwd (loadA w.heap.words (q + 1 + j)).1).2.1 := by
   simp only [Work.in1]
   rw [Z2w hin]
  rw [this]
  exact m2.to to
 ·have : loadA (w.in1 (q + 1 + j)).heap.words z = loadA (w.fwd (loadA w.heap.words (q + 1 + j)).1).1.heap.words z := by
   simp only [Work.in1]
   rw [Z0B hin c]
  rw [this]
  rcases hz with hz | hz
  ·exact m2.to (ff z hz).2
  ·exact absurd hz c
section
variable {B : Int} (hB : 0 ≤ B)
include hB
theorem Zfi {w : Work} (hw : WkOk w) (h : Inv w) (hp : PR B w) {F : Int → Prop} (f : FD w F) {q : Int} (hq : q ∈ w.queue) {l : List Int} (hl : ∀ x ∈ l,0 ≤ x ∧ x < hlA w.heap.words q) : ∀ k,k ≤ l.length → (∀ j,j < k → innE w q l j = 0) → Sm w (innN w q l k) ∧ (innN w q l k).scanned = w.scanned ∧ FD (innN w q l k) (fun z => F z ∨ ∃ i,i < k ∧ z = q + 1 + l.getD i default)
 | 0,_,_ => ⟨⟨⟨[],by simp [innN]⟩,fun _ _ => rfl⟩,rfl,fun z hz => f z (hz.resolve_right (by rintro ⟨i,hi,_⟩; omega))⟩
 | k + 1,hk,he => by
  obtain ⟨a,b,c⟩ := Zfi hw h hp f hq hl k (by omega) (fun j hj => he j (by omega))
  have ok := (Z3P hw q l k (fun j hj => he j (by omega))).1
  have iv := Z6y hw h hq hl k (by omega) (fun j hj => he j (by omega))
  have pr := ZeW (PR B) (fun w q j hw hi h hq h0 h1 e => PR.in1 hB w q j hw hi h hq h0 h1 e) hw h hp hq hl k (by omega) (fun j hj => he j (by omega))
  have hx := hl _ (getD_mem_iff.2 ⟨k,by omega,rfl⟩)
  obtain ⟨d1,d2,d3⟩ := Zk9 ok iv.1 pr c (a.mem hq) (j := l.getD k default) ⟨hx.1,by rw [a.len hq]; exact hx.2⟩ (he k (by omega))
  refine ⟨a.trans d1,d2.trans b,fun z hz => d3 z ?_⟩
  rcases hz with hz | ⟨i,hi,hz⟩
  ·exact Or.inl (Or.inl hz)
  ·by_cases q2 : i = k
   ·subst q2; exact Or.inr hz
   ·exact Or.inl (Or.inr ⟨i,by omega,hz⟩)
def SD (w : Work) : Prop := FD w (fun z => ∃ i j,i < w.scanned.toNat ∧ j ∈ Z0f (hdA w.heap.words (w.queue.getD i default)) ∧ z = w.queue.getD i default + 1 + j)
omit hB in
theorem Sm.get {w v : Work} (a : Sm w v) {i : Nat} (hi : i < w.queue.length) : v.queue.getD i default = w.queue.getD i default := by
 obtain ⟨m,em⟩ := a.q
 rw [em,List.getD_eq_getElem?_getD,List.getD_eq_getElem?_getD,List.getElem?_append_left hi]
theorem ZcW {w : Work} (hw : WkOk w) (h : Inv w) (hp : PR B w) (f : SD w) (e : (Z0I w).2.2 = 0) : SD (Z0I w).1 := by
 by_cases hs : w.scanned < w.queue.length
 ·have hsc := hw.sc
  have hq : Z2T w ∈ w.queue := getD_mem_iff.2 ⟨w.scanned.toNat,by omega,rfl⟩
  unfold Z0I at e ⊢
  rw [if_pos hs] at e ⊢
  cases hb : (List.range (Z1L w).length).find? (fun k => decide (innE w (Z2T w) (Z1L w) k ≠ 0)) with
  | none =>
   have h0 : ∀ j,j < (Z1L w).length → innE w (Z2T w) (Z1L w) j = 0 := fun j hj => by
    have := List.find?_eq_none.1 hb j (List.mem_range.2 hj)
    simpa using this
   obtain ⟨a,b,c⟩ := Zfi hB hw h hp f hq (l := Z1L w) (Z4o (hdW w (Z2T w))) (Z1L w).length (Nat.le_refl _) h0
   intro z hz
   obtain ⟨i,j,hi,hj,rfl⟩ := hz
   simp only [Zc5] at hi hj ⊢
   rw [b] at hi
   have hg := a.get (show i < w.queue.length by omega)
   have hm : w.queue.getD i default ∈ w.queue := getD_mem_iff.2 ⟨i,by omega,rfl⟩
   rw [hg,a.h _ hm] at hj
   rw [hg]
   refine c _ ?_
   by_cases q : i = w.scanned.toNat
   ·subst q
    obtain ⟨n,n1,n2⟩ := getD_mem_iff.1 hj
    exact Or.inr ⟨n,n1,by rw [← n2]; rfl⟩
   ·exact Or.inl ⟨i,j,by omega,hj,rfl⟩
  | some k =>
   simp only [hb] at e
   have := (List.find?_range_eq_some.1 hb).1
   simp [e] at this
 ·have e : Z0I w = (w,false,0) := by rw [Z0I,if_neg hs]
  rw [e]
  exact f
theorem Zim {w : Work} (hw : WkOk w) (h : Inv w) (hp : PR B w) (f : SD w) : ∀ k,(∀ j,j < k → Z2Y w j = false) → SD (itW w k)
 | 0,_ => f
 | k + 1,hh => by
  have ih := Zim hw h hp f k (fun j hj => hh j (by omega))
  have ok := (Z3v hw k (fun j hj => hh j (by omega))).1
  have iv := (Z62 hw h k (fun j hj => hh j (by omega))).1
  have pr := ZhH (PR B) (fun w q j hw hi h hq h0 h1 e => PR.in1 hB w q j hw hi h hq h0 h1 e) (fun w n h => ⟨⟨h.tab.pt,h.tab.tk,h.tab.pin⟩,h.rt.q,h.rt.t⟩) hw h hp k (fun j hj => hh j (by omega))
  have hk := hh k (by omega)
  simp only [Z2Y,decide_eq_false_iff_not,not_or,Decidable.not_not] at hk
  exact ZcW hB ok iv pr ih hk.1
theorem ZiY {w : Work} (hw : WkOk w) (h : Inv w) (hp : PR B w) (f : SD w) (e : (allF w).2 = 0) : SD (allF w).1 ∧ (allF w).1.scanned = (allF w).1.queue.length := by
 obtain ⟨k,hb⟩ := Z4e hw
 obtain ⟨h1,h2,h3⟩ := List.find?_range_eq_some.1 hb
 have h0 : ∀ j,j < k → Z2Y w j = false := fun j hj => by simpa using h3 j hj
 unfold allF at e ⊢
 rw [hb] at e ⊢
 simp only at e ⊢
 split at e
 ·rename_i c
  rw [if_pos c]
  have ok := (Z3v hw k h0).1
  have iv := (Z62 hw h k h0).1
  have pr := ZhH (PR B) (fun w q j hw hi h hq h0 h1 e => PR.in1 hB w q j hw hi h hq h0 h1 e) (fun w n h => ⟨⟨h.tab.pt,h.tab.tk,h.tab.pin⟩,h.rt.q,h.rt.t⟩) hw h hp k h0
  refine ⟨ZcW hB ok iv pr (Zim hB hw h hp f k h0) c, ?_⟩
  simp only [Z2Y,decide_eq_true_eq] at h1
  have hf : (Z0I (itW w k)).2.1 = false := h1.resolve_left (fun q => q c)
  have hsc := ok.sc
  by_cases hs : (itW w k).scanned < (itW w k).queue.length
  ·exfalso
   unfold Z0I at hf c
   rw [if_pos hs] at hf c
   cases hb2 : (List.range (Z1L (itW w k)).length).find? (fun m => decide (innE (itW w k) (Z2T (itW w k)) (Z1L (itW w k)) m ≠ 0)) with
   | none =>
    rw [hb2] at hf
    simp at hf
   | some m =>
    simp only [hb2] at c
    have := (List.find?_range_eq_some.1 hb2).1
    simp [c] at this
  ·have e3 : Z0I (itW w k) = (itW w k,false,0) := by rw [Z0I,if_neg hs]
   rw [e3]
   simp only
   omega
 ·rename_i c
  exact absurd e c
theorem Zkf {h : Heap} {s : List Int} (hw : WOk h.words) (hp : Z02 h = true) (hb : ∀ p ∈ h.pages,p.pins ≤ B) (e : (rootsF (beginW h) s).2.2 = 0) (e2 : (allF (rootsF (beginW h) s).1).2 = 0) : SD (cW2 h s) ∧ (cW2 h s).scanned = (cW2 h s).queue.length := by
 have wb := Z2Z hw hp
 have hi := Z2O hp
 have ho := Z2P (roots := s) wb hi e
 have pr := Z98 (PR B) (fun w r hw hi h e => PR.fwd hB w r hw hi h e) (roots := s) wb hi ⟨Z4C hp hb,Z6x hp⟩ e
 have s0 := Z98 (fun w => w.scanned = 0) (fun w r hw hi h e => (Z6D hw hi r e).2.1.trans h) (roots := s) wb hi rfl e
 exact ZiY hB ho.1 ho.2.1 pr (fun z hz => by obtain ⟨i,j,q,_⟩ := hz; rw [s0] at q; simp at q) e2
end
def Z53 (w : Work) (x : Int) : Prop := Z1c w (ofA w.heap.conf x).1 = true ∧ x ∉ w.queue
def Z81 (n : Int) (a x : Int) : Int := if a = x then 1 + 16 * n else 0
theorem Zgh {n : Int} (h : 0 ≤ n ∧ n ≤ 255) : decodeH (1 + 16 * n) = (⟨0,n,0⟩,true) := by
 have hv : Z0i ⟨0,n,0⟩ = true := validH_iff.2 ⟨by simp,by simp,h.1,h.2,by simp⟩
 have := decode_encode hv (by simp)
 rw [Z4P h] at this
 exact this
theorem ZfI {n : Int} (h : 0 ≤ n ∧ n ≤ 255) {ws : List Int} {a x : Int} (hx : 4096 ≤ x ∧ x + n < 4096 + ws.length) (ha : x ≤ a ∧ a ≤ x + n) : (loadA (Z0b ws x (objW ⟨0,n,0⟩)).1 a).1 = Z81 n a x := by
 have hl : (objW ⟨0,n,0⟩).length = n.toNat + 1 := by simp [objW]
 rw [Z1R (by omega) (by omega)]
 unfold Z81
 by_cases c : a = x
 ·subst c
  simp [objW,Z4P h]
 ·rw [if_neg c,objW,show (a - x).toNat = (a - x - 1).toNat + 1 by omega]
  simp [List.getD_eq_getElem?_getD,List.getElem?_replicate]
  split <;> rfl
structure FL (v : Work) (ws : List Int) (k : Nat) : Prop where
 l : ws.length = v.heap.words.length
 h : ∀ x ∈ v.old,hlA ws x = hlA v.heap.words x
 s : ∀ a,loadA ws a = loadA v.heap.words a ∨ ∃ x ∈ v.old,Z53 v x ∧ x ≤ a ∧ a ≤ x + hlA v.heap.words x ∧ (loadA ws a).1 = Z81 (hlA v.heap.words x) a x
 f : ∀ j,j < k → Z53 v (v.old.getD j default) → ∀ a,v.old.getD j default ≤ a → a ≤ v.old.getD j default + hlA v.heap.words (v.old.getD j default) → (loadA ws a).1 = Z81 (hlA v.heap.words (v.old.getD j default)) a (v.old.getD j default)
theorem ZcL {v : Work} (hw : FOk v) (hi : Inv v) : ∀ k,k ≤ v.old.length → FL v (fillN v k).heap.words k
 | 0,_ => ⟨rfl,fun _ _ => rfl,fun _ => Or.inl rfl,fun j hj => by omega⟩
 | k + 1,hk => by
  have ih := ZcL hw hi k (by omega)
  obtain ⟨i0,i1,i2,i3,i4,i5,i6,i7,i8,i9,i10,i11⟩ := Z4T v hw k
  have hm : v.old.getD k default ∈ v.old := getD_mem_iff.2 ⟨k,by omega,rfl⟩
  have hr := hi.r _ (List.mem_append_left _ hm)
  have hn := Z0g v.heap.words (v.old.getD k default)
  have hprom : Z1c (fillN v k) (ofA (fillN v k).heap.conf (v.old.getD k default)).1 = Z1c v (ofA v.heap.conf (v.old.getD k default)).1 := by
   unfold Z1c
   rw [i1,i2,i3,i6]
  by_cases c : Z53 v (v.old.getD k default)
  ·have e : (fillN v (k + 1)).heap.words = (Z0b (fillN v k).heap.words (v.old.getD k default) (objW ⟨0,hlA v.heap.words (v.old.getD k default),0⟩)).1 := by
    show (Z4X (fillN v k) (v.old.getD k default)).heap.words = _
    rw [Z4X,hprom,i7,if_pos (show Z1c v (ofA v.heap.conf (v.old.getD k default)).1 = true ∧ v.old.getD k default ∉ v.queue from c)]
    simp only
    rw [← ih.h _ hm]
    rfl
   rw [e]
   have hl := ih.l
   generalize hx : v.old.getD k default = x at *
   have hin : 4096 ≤ x ∧ x + hlA v.heap.words x < 4096 + (fillN v k).heap.words.length := by omega
   have ho : (objW ⟨0,hlA v.heap.words x,0⟩).length = (hlA v.heap.words x).toNat + 1 := by simp [objW]
   have win := fun a ha => ZfI hn (ws := (fillN v k).heap.words) (a := a) hin ha
   have wout : ∀ a,a < x ∨ x + hlA v.heap.words x < a → loadA (Z0b (fillN v k).heap.words x (objW ⟨0,hlA v.heap.words x,0⟩)).1 a = loadA (fillN v k).heap.words a := fun a ha => Z1W (by omega) (by omega)
   have sep := fun y hy => hi.s x (List.mem_append_left _ hm) y (List.mem_append_left _ hy)
   have sep2 := fun y hy => hi.s y (List.mem_append_left _ hy) x (List.mem_append_left _ hm)
   refine ⟨?_, ?_, ?_, ?_⟩
   ·unfold Z0b
    rw [if_pos (by omega)]
    exact (Z3n (by omega)).trans hl
   ·intro y hy
    by_cases q : y = x
    ·subst q
     have := win y (by omega)
     rw [hlA,this,Z81,if_pos rfl,Zgh hn]
    ·have s1 := sep y hy
     have s2 := sep2 y hy
     have := Z0g v.heap.words y
     rw [hlA,wout y (by omega)]
     exact ih.h y hy
   ·intro a
    by_cases q : x ≤ a ∧ a ≤ x + hlA v.heap.words x
    ·exact Or.inr ⟨x,hm,c,q.1,q.2,win a q⟩
    ·rw [wout a (by omega)]
     exact ih.s a
   ·intro j hj hf a h1 h2
    by_cases q : v.old.getD j default = x
    ·rw [q] at h1 h2 ⊢
     exact win a ⟨h1,h2⟩
    ·have hjk : j < k := by
      by_cases q2 : j = k
      ·subst q2; exact absurd hx q
      ·omega
     have hmj : v.old.getD j default ∈ v.old := getD_mem_iff.2 ⟨j,by omega,rfl⟩
     have s1 := sep _ hmj
     have s2 := sep2 _ hmj
     have := Z0g v.heap.words (v.old.getD j default)
     rw [wout a (by omega)]
     exact ih.f j hjk hf a h1 h2
  ·have e : fillN v (k + 1) = fillN v k := by
    show Z4X (fillN v k) (v.old.getD k default) = _
    rw [Z4X,hprom,i7,if_neg (show ¬ (Z1c v (ofA v.heap.conf (v.old.getD k default)).1 = true ∧ v.old.getD k default ∉ v.queue) from c)]
   rw [e]
   refine ⟨ih.l,ih.h,ih.s,fun j hj hf => ?_⟩
   by_cases q : j = k
   ·subst q; exact absurd hf c
   ·exact ih.f j (by omega) hf
theorem Zb2 {c : Conf} {s : Int} {l : List Page} {ws : List Int} (hp : 0 ≤ c.pw) (hl : (ws.length : Int) = c.pw * l.length) : ∀ k,k ≤ l.length → (Z22 c.pw s l ws k).length = ws.length ∧ ∀ (i : Nat) (o : Int),i < l.length → 0 ≤ o → o < c.pw → loadA (Z22 c.pw s l ws k) (4096 + i * c.pw + o) = if i < k ∧ Z2W s (l.getD i default) then (0,0) else loadA ws (4096 + i * c.pw + o)
 | 0,_ => ⟨rfl,fun i o _ _ _ => by rw [if_neg (by omega)]; rfl⟩
 | k + 1,hk => by
  obtain ⟨h1,h2⟩ := Zb2 (s := s) hp hl k (by omega)
  unfold Z22
  by_cases c' : Z2W s (l.getD k default)
  ·rw [if_pos c']
   have hk2 := Z10 (i := k) (j := l.length) (pw := c.pw) (by omega) hp
   have hk0 : 0 ≤ (k : Int) * c.pw := Int.mul_nonneg (by omega) hp
   rw [Int.mul_comm (l.length : Int)] at hk2
   have hlen : (List.replicate c.pw.toNat (0 : Int)).length = c.pw.toNat := List.length_replicate
   have en : ((k * c.pw.toNat : Nat) : Int) = k * c.pw := by rw [Int.natCast_mul,Int.toNat_of_nonneg hp]
   have e : spl (Z22 c.pw s l ws k) (k * c.pw.toNat) (List.replicate c.pw.toNat 0) = (Z0b (Z22 c.pw s l ws k) (4096 + k * c.pw) (List.replicate c.pw.toNat 0)).1 := by
    unfold Z0b
    rw [if_pos (by omega)]
    simp only
    congr 1
    omega
   refine ⟨?_, ?_⟩
   ·rw [Z3n (by omega)]
    exact h1
   ·intro i o hi h0 ho
    rw [e]
    by_cases q : i = k
    ·subst q
     rw [Z1R (by omega) (by omega),if_pos ⟨by omega,c'⟩]
     simp [List.getD_eq_getElem?_getD,List.getElem?_replicate]
     split <;> rfl
    ·have hne : 4096 + (i : Int) * c.pw + o < 4096 + k * c.pw ∨ 4096 + k * c.pw + c.pw ≤ 4096 + (i : Int) * c.pw + o := by
      rcases Nat.lt_or_gt_of_ne q with q | q
      ·have := Z10 (i := i) (j := k) (pw := c.pw) (by omega) hp
       omega
      ·have := Z10 (i := k) (j := i) (pw := c.pw) (by omega) hp
       omega
     rw [Z1W (by omega) (by omega),h2 i o hi h0 ho]
     by_cases q2 : i < k ∧ Z2W s (l.getD i default)
     ·rw [if_pos q2,if_pos ⟨by omega,q2.2⟩]
     ·rw [if_neg q2,if_neg (fun q3 => q2 ⟨by omega,q3.2⟩)]
  ·rw [if_neg c']
   refine ⟨h1,fun i o hi h0 ho => ?_⟩
   rw [h2 i o hi h0 ho]
   by_cases q2 : i < k ∧ Z2W s (l.getD i default)
   ·rw [if_pos q2,if_pos ⟨by omega,q2.2⟩]
   ·rw [if_neg q2,if_neg]
    rintro ⟨q3,q4⟩
    by_cases q5 : i = k
    ·subst q5; exact c' q4
    ·exact q2 ⟨by omega,q4⟩
theorem Z8J (hd : Header) {k : Int} (h0 : 0 ≤ k) (hp : Z0n hd k = true) : ∀ n : Nat,k < n → k ∈ Z1N hd n
 | 0,h => by omega
 | n + 1,h => by
  unfold Z1N
  by_cases q : k = n
  ·subst q
   rw [if_pos hp]
   simp
  ·have ih := Z8J hd h0 hp n (by omega)
   split
   ·exact List.mem_append_left _ ih
   ·exact ih
theorem Z9S {hd : Header} {k : Int} (h0 : 0 ≤ k) (h1 : k < hd.length) (hp : Z0n hd k = true) : k ∈ Z0f hd := by
 have hv : Z0i hd = true := by
  unfold Z0n at hp
  simp only [Bool.and_eq_true] at hp
  exact hp.1.1.1
 unfold Z0f
 rw [if_pos hv]
 exact Z8J hd h0 hp _ (by omega)
structure CE (h : Heap) (T tq : Nat → List Int) (w : Work) (l4 l5 : List Int) : Prop where
 g : Gd h T
 k : KI h T tq w
 i : Inv w
 s : w.heap.space = 0 ∨ w.heap.space = 1
 pt : PT w.heap.conf w.heap.pages
 ts : ∀ x ∈ w.taken,(w.heap.pages.getD x.toNat default).space = 1 - w.heap.space
 sd : SD w
 sc : w.scanned = w.queue.length
 f3 : ∀ a,loadA l4 a = loadA w.heap.words a ∨ ∃ x ∈ w.old,Z53 w x ∧ x ≤ a ∧ a ≤ x + hlA w.heap.words x ∧ (loadA l4 a).1 = Z81 (hlA w.heap.words x) a x
 f4 : ∀ x ∈ w.old,Z53 w x → ∀ a,x ≤ a → a ≤ x + hlA w.heap.words x → (loadA l4 a).1 = Z81 (hlA w.heap.words x) a x
 n4 : l4.length = w.heap.words.length
 n5 : l5.length = w.heap.words.length
 fr : ∀ (i : Nat) (o : Int),i < h.pages.length → 0 ≤ o → o < h.conf.pw → loadA l5 (bsP h i + o) = if Z2W w.heap.space (w.heap.pages.getD i default) then (0,0) else loadA l4 (bsP h i + o)
def tE (T tq : Nat → List Int) (w : Work) (i : Nat) : List Int := if (i : Int) ∈ w.taken then tq i else if (w.heap.pages.getD i default).space ≠ w.heap.space then T i else []
section
variable {h : Heap} {T tq : Nat → List Int} {w : Work} {l4 l5 : List Int} (c : CE h T tq w l4 l5)
include c
theorem CE.mem {i : Nat} {x : Int} (hx : x ∈ tE T tq w i) : (i : Int) ∈ w.taken ∧ x ∈ tq i ∨ (i : Int) ∉ w.taken ∧ (w.heap.pages.getD i default).space ≠ w.heap.space ∧ x ∈ T i := by
 unfold tE at hx
 split at hx
 ·rename_i q; exact Or.inl ⟨q,hx⟩
 ·rename_i q
  split at hx
  ·rename_i q2; exact Or.inr ⟨q,q2,hx⟩
  ·simp at hx
theorem CE.gone0 {i : Nat} (hi : (i : Int) ∈ w.taken) : ¬ Z2W w.heap.space (w.heap.pages.getD i default) := by
 have := c.ts _ hi
 rw [Int.toNat_natCast] at this
 have := c.s
 unfold Z2W
 omega
theorem CE.pgof {i : Nat} {x a : Int} (hx : x ∈ T i) (h1 : x ≤ a) (h2 : a ≤ x + hlA h.words x) : ∃ (j : Nat) (o : Int),j < h.pages.length ∧ 0 ≤ o ∧ o < h.conf.pw ∧ a = bsP h j + o ∧ (w.heap.pages.getD j default).kind ≠ 0 ∧ (w.heap.pages.getD j default).space = (w.heap.pages.getD i default).space := by
 have g := c.g
 have o := g.on hx
 have po := Z08 g.p
 have pg := c.k.pg i (c.k.nt g hx)
 have hcc := c.k.c
 have hpl := c.k.pl
 rcases o.2.1 with k | k
 ·have pp := Z0D g.p o.1
  exact ⟨i,a - bsP h i,o.1,by omega,by omega,by omega,by omega,rfl⟩
 ·have hx2 := o.2.2.2.2.2.2 k
  have lg := c.pt.lg i (by omega) (by omega)
  rw [pg.2.1,hcc] at lg
  have nu := Z4b lg.1
  have h0 : 0 ≤ (a - bsP h i) / h.conf.pw := Int.ediv_nonneg (by omega) (by omega)
  have h3 := Int.mul_ediv_add_emod (a - bsP h i) h.conf.pw
  have h4 := Int.emod_nonneg (a - bsP h i) (b := h.conf.pw) (by omega)
  have h5 := Int.emod_lt_of_pos (a - bsP h i) (b := h.conf.pw) (by omega)
  have h6 : (a - bsP h i) / h.conf.pw < need h.conf (h.pages.getD i default).used := Int.ediv_lt_of_lt_mul (by omega) (by omega)
  rw [Int.mul_comm] at h3
  generalize hm : (a - bsP h i) / h.conf.pw = m at *
  have hmn : ((m.toNat : Nat) : Int) = m := by omega
  refine ⟨i + m.toNat,(a - bsP h i) % h.conf.pw, ?_,h4,h5, ?_, ?_⟩
  ·by_cases q : m.toNat = 0
   ·omega
   ·have := (lg.2 m.toNat (by omega) (by omega)).1
    omega
  ·unfold bsP at h3 ⊢
   rw [Int.natCast_add,hmn,Int.add_mul]
   omega
  ·by_cases q : m.toNat = 0
   ·rw [q,Nat.add_zero]
    exact ⟨by omega,rfl⟩
   ·have := (lg.2 m.toNat (by omega) (by omega)).2
    exact ⟨by omega,this.2⟩
theorem CE.keptw {i : Nat} {x a : Int} (hx : x ∈ T i) (hs : (w.heap.pages.getD i default).space ≠ w.heap.space) (h1 : x ≤ a) (h2 : a ≤ x + hlA h.words x) : loadA l5 a = loadA l4 a := by
 obtain ⟨j,o,j1,o1,o2,e,k0,k1⟩ := c.pgof hx h1 h2
 rw [e,c.fr j o j1 o1 o2,if_neg]
 unfold Z2W
 rw [k1]
 exact fun q => hs q.2
theorem CE.gonew {i : Nat} {x a : Int} (hx : x ∈ T i) (hs : (w.heap.pages.getD i default).space = w.heap.space) (h1 : x ≤ a) (h2 : a ≤ x + hlA h.words x) : (loadA l5 a).1 = 0 := by
 obtain ⟨j,o,j1,o1,o2,e,k0,k1⟩ := c.pgof hx h1 h2
 rw [e,c.fr j o j1 o1 o2,if_pos ⟨k0,k1.trans hs⟩]
theorem CE.seen4 {x a : Int} (hx : x ∈ w.queue) (h1 : x ≤ a) (h2 : a ≤ x + hlA w.heap.words x) : loadA l4 a = loadA w.heap.words a := by
 rcases c.f3 a with q | ⟨y,hy,q1,q2,q3,q4⟩
 ·exact q
 ·exfalso
  have hne : x ≠ y := fun e => q1.2 (e ▸ hx)
  have s1 := c.i.s x (List.mem_append_right _ hx) y (List.mem_append_left _ hy)
  have s2 := c.i.s y (List.mem_append_left _ hy) x (List.mem_append_right _ hx)
  have r1 := Z0g w.heap.words x
  have r2 := Z0g w.heap.words y
  rcases Int.lt_or_gt_of_ne hne with q | q
  ·have := s1 q; omega
  ·have := s2 q; omega
theorem CE.takenw {i : Nat} {a : Int} (hi : (i : Int) ∈ w.taken) (h1 : bsP h i ≤ a) (h2 : a < bsP h i + h.conf.pw) : loadA l5 a = loadA l4 a := by
 have t := c.k.tk i hi
 have := c.fr i (a - bsP h i) t.1 (by omega) (by omega)
 rw [show bsP h i + (a - bsP h i) = a by omega,if_neg (c.gone0 hi)] at this
 exact this
theorem CE.seen {x a : Int} (hx : x ∈ w.queue) (h1 : x ≤ a) (h2 : a ≤ x + hlA w.heap.words x) : loadA l5 a = loadA w.heap.words a := by
 rw [← c.seen4 hx h1 h2]
 rcases c.k.q x hx with ⟨i,i1,i2,i3,i4⟩ | ⟨i,i1,i2⟩
 ·have he : (loadA w.heap.words x).1 = (loadA h.words x).1 := by
   rcases c.k.hd i x i2 with q | q
   ·exact q
   ·exact absurd q.2.2 i4
  rw [(Z1O he).2.1] at h2
  exact c.keptw i2 i4 h1 h2
 ·have t := c.k.tk i i1
  have m := Z1A t.2.2.2.2.2.1 i2
  exact c.takenw i1 (by omega) (by omega)
theorem CE.where' {x : Int} (hx : x ∈ w.queue) : ∃ i,x ∈ tE T tq w i := by
 rcases c.k.q x hx with ⟨i,i1,i2,i3,i4⟩ | ⟨i,i1,i2⟩
 ·exact ⟨i,by rw [tE,if_neg i1,if_pos i4]; exact i2⟩
 ·exact ⟨i,by rw [tE,if_pos i1]; exact i2⟩
theorem CE.seenK {x : Int} (hx : x ∈ w.queue) : kdA w.heap.words x ≠ 0 ∧ okA w.heap.words x := by
 rcases c.k.q x hx with ⟨i,i1,i2,i3,i4⟩ | ⟨i,i1,i2⟩
 ·have he : (loadA w.heap.words x).1 = (loadA h.words x).1 := by
   rcases c.k.hd i x i2 with q | q
   ·exact q
   ·exact absurd q.2.2 i4
  have o := Z1O he
  exact ⟨by rw [o.2.2.1]; exact i3,o.1 (c.g.on i2).2.2.2.2.2.1⟩
 ·have t := c.k.tk i i1
  exact ⟨(t.2.2.2.2.2.2 x i2).2.1,(Z1A t.2.2.2.2.2.1 i2).1⟩
theorem CE.kept {i : Nat} {x : Int} (hx : x ∈ T i) (hn : (i : Int) ∉ w.taken) (hs : (w.heap.pages.getD i default).space ≠ w.heap.space) : (loadA w.heap.words x).1 = (loadA h.words x).1 ∧ okA l5 x ∧ hlA l5 x = hlA h.words x ∧ (x ∉ w.queue → kdA l5 x = 0 ∧ (h.pages.getD i default).kind = 1 ∧ (kdA h.words x ≠ 0 → x ∈ w.old ∧ Z53 w x)) := by
 have he : (loadA w.heap.words x).1 = (loadA h.words x).1 := by
  rcases c.k.hd i x hx with q | q
  ·exact q
  ·exact absurd q.2.2 hs
 have on := c.g.on hx
 have oh := Z1O he
 have rx := Z0g h.words x
 refine ⟨he, ?_⟩
 by_cases hq : x ∈ w.queue
 ·have e := Z1O (congrArg Prod.fst (c.seen hq (Int.le_refl _) (by have := Z0g w.heap.words x; omega)))
  exact ⟨e.1 (oh.1 on.2.2.2.2.2.1),by rw [e.2.1,oh.2.1],fun q => absurd hq q⟩
 ·have k1 : (h.pages.getD i default).kind = 1 := by
   rcases on.2.1 with q | q
   ·exact q
   ·have := c.k.lg i q hs
    rw [← (on.2.2.2.2.2.2 q).1] at this
    exact absurd this hq
  have e5 : loadA l5 x = loadA l4 x := c.keptw hx hs (Int.le_refl _) (by omega)
  by_cases hk : kdA h.words x = 0
  ·have e4 : loadA l4 x = loadA w.heap.words x := by
    rcases c.f3 x with q | ⟨y,hy,q1,q2,q3,q4⟩
    ·exact q
    ·exfalso
     obtain ⟨j,hj,hjk⟩ := (c.k.old y).1 hy
     by_cases e : y = x
     ·subst e; exact hjk hk
     ·have sj : (loadA w.heap.words y).1 = (loadA h.words y).1 := by
       rcases c.k.hd j y hj with q | q
       ·exact q
       ·exfalso
        have o2 := q1.1
        unfold Z1c at o2
        rw [c.k.c,c.g.ofx hj] at o2
        simp only [decide_eq_true_eq,Int.toNat_natCast] at o2
        exact o2.2.2.2.1 q.2.2
      rw [(Z1O sj).2.1] at q3
      have := c.g.sep hj hx (by omega)
      omega
   have e := Z1O (ws := h.words) (ws' := l5) (a := x) (by rw [e5,e4,he])
   exact ⟨e.1 on.2.2.2.2.2.1,e.2.1,fun _ => ⟨by rw [e.2.2.1]; exact hk,k1,fun q => absurd hk q⟩⟩
  ·have ho : x ∈ w.old := (c.k.old x).2 ⟨i,hx,hk⟩
   have hf : Z53 w x := by
    refine ⟨?_,hq⟩
    have pg := c.k.pg i hn
    have pl := c.k.pl
    unfold Z1c
    rw [c.k.c,c.g.ofx hx]
    simp only [decide_eq_true_eq,Int.toNat_natCast]
    exact ⟨by omega,by omega,by omega,hs,hn⟩
   have v := c.f4 x ho hf x (Int.le_refl _) (by have := Z0g w.heap.words x; omega)
   rw [Z81,if_pos rfl,oh.2.1] at v
   rw [← e5] at v
   have d := Zgh rx
   exact ⟨by rw [okA,v,d],by rw [hlA,v,d],fun _ => ⟨by rw [kdA,hdA,v,d],k1,fun _ => ⟨ho,hf⟩⟩⟩
theorem CE.start {i : Nat} {x : Int} (hx : x ∈ tE T tq w i) : okA l5 x ∧ (kdA l5 x ≠ 0 ↔ x ∈ w.queue) := by
 have sq : x ∈ w.queue → okA l5 x ∧ kdA l5 x ≠ 0 := fun hq => by
  have e := Z1O (congrArg Prod.fst (c.seen hq (Int.le_refl _) (by have := Z0g w.heap.words x; omega)))
  have s := c.seenK hq
  exact ⟨e.1 s.2,by rw [e.2.2.1]; exact s.1⟩
 rcases c.mem hx with ⟨q1,q2⟩ | ⟨q1,q2,q3⟩
 ·have hq := ((c.k.tk i q1).2.2.2.2.2.2 x q2).1
  exact ⟨(sq hq).1,fun _ => hq,fun _ => (sq hq).2⟩
 ·have kk := c.kept q3 q1 q2
  refine ⟨kk.2.1,fun hk => ?_,fun hq => (sq hq).2⟩
  by_cases hq : x ∈ w.queue
  ·exact hq
  ·exact absurd (kk.2.2.2 hq).1 hk
theorem CE.good {b : Int} (hp : Z02 ⟨w.heap.conf,l5,w.heap.pages.map (Z1f w.heap.space),1 - w.heap.space,b⟩ = true) : Gd ⟨w.heap.conf,l5,w.heap.pages.map (Z1f w.heap.space),1 - w.heap.space,b⟩ (tE T tq w) := by
 have g := c.g
 have hcc := c.k.c
 have hpl := c.k.pl
 have hs := c.s
 have po := Z08 g.p
 have hgt : ∀ i,i < h.pages.length → (w.heap.pages.map (Z1f w.heap.space)).getD i default = Z1f w.heap.space (w.heap.pages.getD i default) := fun i hi => by
  have : i < w.heap.pages.length := by omega
  simp [List.getD_eq_getElem?_getD,this]
 have hng : ∀ i,i < h.pages.length → ((w.heap.pages.map (Z1f w.heap.space)).getD i default).kind ≠ 0 → ¬ Z2W w.heap.space (w.heap.pages.getD i default) ∧ (w.heap.pages.map (Z1f w.heap.space)).getD i default = w.heap.pages.getD i default := by
  intro i hi hk
  rw [hgt i hi] at hk ⊢
  unfold Z1f at hk ⊢
  split at hk
  ·simp at hk
  ·rename_i q
   rw [if_neg q]
   exact ⟨q,rfl⟩
 have hb : ∀ i,bsP ⟨w.heap.conf,l5,w.heap.pages.map (Z1f w.heap.space),1 - w.heap.space,b⟩ i = bsP h i := fun i => by simp only [bsP,hcc]
 have hk5 : ∀ x,x ∈ w.queue → okA w.heap.words x → okA l5 x ∧ hlA l5 x = hlA w.heap.words x ∧ kdA l5 x = kdA w.heap.words x ∧ hdA l5 x = hdA w.heap.words x := fun x hq ho => by
  have e := Z1O (congrArg Prod.fst (c.seen hq (Int.le_refl _) (by have := Z0g w.heap.words x; omega)))
  exact ⟨e.1 ho,e.2.1,e.2.2.1,e.2.2.2.1⟩
 have hkept : ∀ i,i < h.pages.length → (i : Int) ∉ w.taken → ((w.heap.pages.map (Z1f w.heap.space)).getD i default).kind ≠ 0 → (w.heap.pages.getD i default).space ≠ w.heap.space ∧ (h.pages.getD i default).kind = ((w.heap.pages.map (Z1f w.heap.space)).getD i default).kind ∧ (h.pages.getD i default).used = ((w.heap.pages.map (Z1f w.heap.space)).getD i default).used ∧ (h.pages.getD i default).pins = ((w.heap.pages.map (Z1f w.heap.space)).getD i default).pins := by
  intro i hi hn hk
  have n := hng i hi hk
  have pg := c.k.pg i hn
  rw [n.2] at hk ⊢
  refine ⟨fun q => n.1 ⟨hk,q⟩,pg.1.symm,pg.2.1.symm,pg.2.2.symm⟩
 refine ⟨hp, ?_, ?_, ?_, ?_, ?_, ?_, ?_⟩
 ·intro i hi hk
  simp only [List.length_map] at hi hk ⊢
  have n := hng i (by omega) hk
  rw [n.2] at hk ⊢
  have := (c.pt.b i hi).s
  have n1 := n.1
  unfold Z2W at n1
  omega
 ·intro i hi hk
  simp only [List.length_map] at hi hk ⊢
  rw [hb]
  have n := hng i (by omega) (by omega)
  by_cases q : (i : Int) ∈ w.taken
  ·have t := c.k.tk i q
   rw [tE,if_pos q,n.2,hcc]
   refine ⟨Z2a t.2.2.2.2.2.1 fun x hx => ?_,fun x hx => ?_⟩
   ·have e := hk5 x (t.2.2.2.2.2.2 x hx).1 (Z1A t.2.2.2.2.2.1 hx).1
    exact ⟨e.1,e.2.1⟩
   ·have e := hk5 x (t.2.2.2.2.2.2 x hx).1 (Z1A t.2.2.2.2.2.1 hx).1
    rw [e.2.1]
    exact (t.2.2.2.2.2.2 x hx).2.2
  ·have kp := hkept i (by omega) q (by omega)
   rw [tE,if_neg q,if_pos kp.1,← kp.2.2.1,hcc]
   have t := g.t1 i (by omega) (by omega)
   refine ⟨Z2a t.1 fun x hx => ?_,fun x hx => ?_⟩
   ·have e := c.kept hx q kp.1
    exact ⟨e.2.1,e.2.2.1⟩
   ·rw [(c.kept hx q kp.1).2.2.1]
    exact t.2 x hx
 ·intro i hi hk
  simp only [List.length_map] at hi hk ⊢
  rw [hb]
  have n := hng i (by omega) (by omega)
  by_cases q : (i : Int) ∈ w.taken
  ·have t := c.k.tk i q
   rw [n.2] at hk
   omega
  ·have kp := hkept i (by omega) q (by omega)
   have t := g.t2 i (by omega) (by omega)
   have hx : bsP h i ∈ T i := by rw [t.1]; simp
   have e := c.kept hx q kp.1
   have hq := c.k.lg i (by omega) kp.1
   have st := c.start (i := i) (x := bsP h i) (by rw [tE,if_neg q,if_pos kp.1]; exact hx)
   rw [tE,if_neg q,if_pos kp.1,← kp.2.2.1]
   exact ⟨t.1,e.2.1,by rw [e.2.2.1]; exact t.2.2.1,st.2.2 hq⟩
 ·intro i x hx
  simp only [List.length_map]
  rcases c.mem hx with ⟨q1,q2⟩ | ⟨q1,q2,q3⟩
  ·have t := c.k.tk i q1
   have : Z1f w.heap.space (w.heap.pages.getD i default) = w.heap.pages.getD i default := by rw [Z1f,if_neg (c.gone0 q1)]
   rw [hgt i t.1,this]
   exact ⟨by omega,Or.inl t.2.2.1⟩
  ·have t := g.t0 i x q3
   have pg := c.k.pg i q1
   have : Z1f w.heap.space (w.heap.pages.getD i default) = w.heap.pages.getD i default := by rw [Z1f,if_neg (fun q => q2 q.2)]
   rw [hgt i t.1,this]
   exact ⟨by omega,by rw [pg.1]; exact t.2⟩
 ·intro a ha
  simp only at ha ⊢
  have h4 : (loadA l4 a).1 ≠ 0 := by
   have hr : 4096 ≤ a ∧ a < 4096 + l5.length := by
    unfold loadA at ha
    by_cases q : 4096 ≤ a ∧ a < 4096 + l5.length
    ·exact q
    ·rw [if_neg q] at ha
     simp at ha
   have hl5 := c.n5
   have hL := c.i.L
   rw [hcc] at hL
   have h0 : 0 ≤ (a - 4096) / h.conf.pw := Int.ediv_nonneg (by omega) (by omega)
   have h3 := Int.mul_ediv_add_emod (a - 4096) h.conf.pw
   have h5 := Int.emod_nonneg (a - 4096) (b := h.conf.pw) (by omega)
   have h6 := Int.emod_lt_of_pos (a - 4096) (b := h.conf.pw) (by omega)
   have h7 : (a - 4096) / h.conf.pw < h.conf.pg := Int.ediv_lt_of_lt_mul (by omega) (by rw [Int.mul_comm]; omega)
   rw [Int.mul_comm] at h3
   have f := c.fr ((a - 4096) / h.conf.pw).toNat ((a - 4096) % h.conf.pw) (by omega) h5 h6
   have ea : bsP h ((a - 4096) / h.conf.pw).toNat + (a - 4096) % h.conf.pw = a := by
    unfold bsP
    rw [Int.toNat_of_nonneg h0]
    omega
   rw [ea] at f
   rw [f] at ha
   split at ha
   ·simp at ha
   ·exact ha
  have hks : ∀ i x,x ∈ T i → x ≤ a → a ≤ x + hlA h.words x → (i : Int) ∉ w.taken ∧ (w.heap.pages.getD i default).space ≠ w.heap.space := fun i x hx h1 h2 =>
   ⟨c.k.nt g hx,fun q => ha (c.gonew hx q h1 h2)⟩
  have cov : ∀ i x,x ∈ T i → x ≤ a → a ≤ x + hlA h.words x → (x ∉ w.queue → a = x) → ∃ i x,x ∈ tE T tq w i ∧ x ≤ a ∧ a < x + kpA l5 x := by
   intro i x hx h1 h2 h3
   obtain ⟨n1,n2⟩ := hks i x hx h1 h2
   have hm : x ∈ tE T tq w i := by rw [tE,if_neg n1,if_pos n2]; exact hx
   have kk := c.kept hx n1 n2
   have r := Z0g l5 x
   refine ⟨i,x,hm,h1, ?_⟩
   by_cases q : x ∈ w.queue
   ·rw [kpA,if_neg ((c.start hm).2.2 q),kk.2.2.1]
    omega
   ·have := h3 q
    unfold kpA
    split <;> omega
  rcases c.f3 a with q | ⟨x,hx,q1,q2,q3,q4⟩
  ·rw [q] at h4
   rcases c.k.dt a h4 with ⟨i,x,hx,h1,h2⟩ | ⟨i,i1,i2,i3⟩
   ·have hkp : kpA h.words x ≤ hlA h.words x + 1 := by
     have := Z0g h.words x
     unfold kpA; split <;> omega
    have hh := hks i x hx h1 (by omega)
    refine cov i x hx h1 (by omega) fun hq => ?_
    have kk := (c.kept hx hh.1 hh.2).2.2.2 hq
    by_cases hk : kdA h.words x = 0
    ·rw [kpA,if_pos hk] at h2
     omega
    ·have fl := kk.2.2 hk
     have oh := Z1O (c.kept hx hh.1 hh.2).1
     have v := c.f4 x fl.1 fl.2 a h1 (by rw [oh.2.1]; omega)
     rw [← q] at h4
     rw [v,Z81] at h4
     split at h4
     ·rename_i e; exact e
     ·exact absurd rfl h4
   ·have t := c.k.tk i i1
    obtain ⟨x,hx,x1,x2⟩ := Z8N t.2.2.2.2.2.1 i2 i3
    have hm : x ∈ tE T tq w i := by rw [tE,if_pos i1]; exact hx
    have hq := (t.2.2.2.2.2.2 x hx).1
    have e := hk5 x hq (Z1A t.2.2.2.2.2.1 hx).1
    refine ⟨i,x,hm,x1, ?_⟩
    rw [kpA,if_neg ((c.start hm).2.2 hq),e.2.1]
    omega
  ·obtain ⟨i,hi,hk⟩ := (c.k.old x).1 hx
   have sj : (loadA w.heap.words x).1 = (loadA h.words x).1 := by
    rcases c.k.hd i x hi with q | q
    ·exact q
    ·exfalso
     have o2 := q1.1
     unfold Z1c at o2
     rw [hcc,g.ofx hi] at o2
     simp only [decide_eq_true_eq,Int.toNat_natCast] at o2
     exact o2.2.2.2.1 q.2.2
   rw [(Z1O sj).2.1] at q3
   refine cov i x hi q2 q3 fun _ => ?_
   rw [q4,Z81] at h4
   split at h4
   ·rename_i e; exact e
   ·exact absurd rfl h4
 ·intro i x m hx hk h0 h1 hpt
  simp only at hk h1 hpt ⊢
  have hq := (c.start hx).2.1 hk
  have sk := c.seenK hq
  have e := hk5 x hq sk.2
  rw [e.2.1] at h1
  rw [e.2.2.2] at hpt
  rw [c.seen hq (a := x + 1 + m) (by omega) (by omega)]
  obtain ⟨n,n1,n2⟩ := getD_mem_iff.1 hq
  have sd := (c.sd (x + 1 + m) ⟨n,m,by rw [c.sc]; simpa using n1,by rw [n2]; exact Z9S h0 h1 hpt,by rw [n2]⟩).2
  rcases sd with q | q
  ·exact Or.inl q
  ·obtain ⟨j,hj⟩ := c.where' q
   exact Or.inr ⟨j,hj,(c.start hj).2.2 q⟩
 ·have : crowd (w.heap.pages.map (Z1f w.heap.space)) ≤ crowd h.pages := by
   refine Z5B (by simp; omega) fun i hi k1 k2 => ?_
   by_cases q : (i : Int) ∈ w.taken
   ·have t := c.k.tk i q
    have n := hng i hi (by omega)
    rw [n.2] at k2
    omega
   ·have kp := hkept i hi q (by omega)
    omega
  have g2 := g.cr
  simp only [hcc]
  omega
end
theorem Zen {B : Int} (hB : 0 ≤ B) {h : Heap} {T : Nat → List Int} (g : Gd h T) {s k : List Int} (hw : WOk h.words) (hb : ∀ p ∈ h.pages,p.pins ≤ B) (hs : RtOb h T s) (hk : RtOb h T k) (e : (Z0h h s k).2.2.2.2 = 0) :
  ∃ T',Gd (Z0h h s k).1 T' ∧ RtOb (Z0h h s k).1 T' (Z0h h s k).2.1 ∧ RtOb (Z0h h s k).1 T' (Z0h h s k).2.2.1 := by
 have hp := g.p
 have hr := g.refers hs
 have hr' := g.refers hk
 have pr1 := (Z6a hB hw hb e).p1
 by_cases e1 : (rootsF (beginW h) s).2.2 = 0
 ·by_cases e2 : (allF (rootsF (beginW h) s).1).2 = 0
  ·have e7 : Z0h h s k = (endH (cW5 h s k),(rootsF (beginW h) s).2.1,Z2A (cW2 h s) k k.length,(cW5 h s k).rep,0) := by rw [Z0h,if_pos hp,if_pos ⟨hr,hr'⟩,if_pos e1,if_pos e2]
   rw [e7] at pr1 ⊢
   have ck := cOk h s k hw hp e1 e2
   have c5 := cOk5 h s k hw hp e1 e2
   have pr := ZiA hB hw hp hb e1 e2
   have sd := Zkf hB hw hp hb e1 e2
   obtain ⟨tq,ki⟩ := ZjE g hw e1 e2
   obtain ⟨g1,g2,g3,g4,g5⟩ := ck.h4
   have po := Z08 hp
   obtain ⟨a1,a2,a3,a4,a5,a6,a7,a8⟩ := Z3K (cW2 h s) k k.length
   have a1 : (cW3 h s k).heap = (cW2 h s).heap := a1
   have a2 : (cW3 h s k).old = (cW2 h s).old := a2
   have a3 : (cW3 h s k).taken = (cW2 h s).taken := a3
   have a4 : (cW3 h s k).queue = (cW2 h s).queue := a4
   have fl : FL (cW3 h s k) (cW4 h s k).heap.words (cW3 h s k).old.length := ZcL ck.f3 ck.i3 (cW3 h s k).old.length (Nat.le_refl _)
   have tf : ∀ x,Z53 (cW3 h s k) x ↔ Z53 (cW2 h s) x := fun x => by
    unfold Z53 Z1c
    rw [a1,a3,a4]
   have hcc := ki.c
   have hpl := ki.pl
   have hwl := ki.wl
   have w4 : (cW4 h s k).heap.words.length = h.words.length := by
    have := fl.l
    rw [a1] at this
    exact this.trans hwl
   have fw := Zb2 (c := h.conf) (s := (cW2 h s).heap.space) (l := (cW2 h s).heap.pages) (ws := (cW4 h s k).heap.words) (by omega) (by rw [w4,hpl,po.2.2.2.2.2.2.2.1]; exact po.2.2.2.2.2.1) (cW2 h s).heap.pages.length (Nat.le_refl _)
   have e5 : (Z0V (cW4 h s k)).heap.words = Z22 h.conf.pw (cW2 h s).heap.space (cW2 h s).heap.pages (cW4 h s k).heap.words (cW2 h s).heap.pages.length := by
    simp only [Z0V,g1,g2,g3]
   have ce : CE h T tq (cW2 h s) (cW4 h s k).heap.words (Z0V (cW4 h s k)).heap.words := by
    refine ⟨g,ki,ck.i2,ck.w2.sp,pr.tab.pt,pr.tab.tk,sd.1,sd.2, ?_, ?_, ?_, ?_, ?_⟩
    ·intro a
     rcases fl.s a with q | ⟨x,hx,q1,q2,q3,q4⟩
     ·refine Or.inl ?_
      rw [a1] at q
      exact q
     ·refine Or.inr ⟨x,a2 ▸ hx,(tf x).1 q1,q2, ?_, ?_⟩
      ·rw [a1] at q3; exact q3
      ·rw [a1] at q4; exact q4
    ·intro x hx hf a h1 h2
     obtain ⟨j,j1,j2⟩ := getD_mem_iff.1 hx
     have := fl.f j (by rw [a2]; exact j1)
     rw [a2,a1,j2] at this
     exact this ((tf x).2 hf) a h1 h2
    ·rw [w4,hwl]
    ·rw [e5,fw.1,w4,hwl]
    ·intro i o hi h0 ho
     have := fw.2 i o (by omega) h0 ho
     rw [e5]
     show loadA _ (4096 + (i : Int) * h.conf.pw + o) = _
     rw [this]
     by_cases q : Z2W (cW2 h s).heap.space ((cW2 h s).heap.pages.getD i default)
     ·rw [if_pos ⟨by omega,q⟩,if_pos q]
     ·rw [if_neg (fun c => q c.2),if_neg q]
      rfl
   have eh : endH (cW5 h s k) = ⟨(cW2 h s).heap.conf,(Z0V (cW4 h s k)).heap.words,(cW2 h s).heap.pages.map (Z1f (cW2 h s).heap.space),1 - (cW2 h s).heap.space,(endH (cW5 h s k)).bump⟩ := by
    unfold endH cW5
    simp only [Z0V,g1,g2,g3,hcc]
   rw [eh] at pr1 ⊢
   have gd := ce.good pr1
   have seen : ∀ x,ToOk (cW2 h s) x → x = 0 ∨ Ob ⟨(cW2 h s).heap.conf,(Z0V (cW4 h s k)).heap.words,(cW2 h s).heap.pages.map (Z1f (cW2 h s).heap.space),1 - (cW2 h s).heap.space,(endH (cW5 h s k)).bump⟩ (tE T tq (cW2 h s)) x := by
    intro x hx
    rcases hx with q | q
    ·exact Or.inl q
    ·obtain ⟨i,hi⟩ := ce.where' q
     exact Or.inr ⟨i,hi,(ce.start hi).2.2 q⟩
   refine ⟨tE T tq (cW2 h s),gd,fun x hx => seen x ?_,fun x hx => seen x ?_⟩
   ·have hbg := Z2Z hw hp
    have hib := Z2O hp
    have pr0 : PR B (beginW h) := ⟨Z4C hp hb,Z6x hp⟩
    have hall := Z2P (roots := s) hbg hib e1
    have ax := Z9a hall.1 hall.2.1 e2
    have : ToOk (rootsF (beginW h) s).1 x := by
     unfold rootsF at e1 hx ⊢
     cases hbb : (List.range s.length).find? (fun k => decide (Z26 (beginW h) s k ≠ 0)) with
     | none =>
      rw [hbb] at hx
      have h0 : ∀ j,j < s.length → Z26 (beginW h) s j = 0 := fun j hj => by
       have := List.find?_eq_none.1 hbb j (List.mem_range.2 hj)
       simpa using this
      exact Z6P hB hbg hib pr0 s.length h0 x hx
     | some k =>
      rw [hbb] at e1
      simp only at e1
      have := (List.find?_range_eq_some.1 hbb).1
      simp [e1] at this
    rcases this with q | q
    ·exact Or.inl q
    ·exact Or.inr (ax.2.q x q)
   ·have : ∀ i,i ≤ k.length → ∀ x ∈ Z2A (cW2 h s) k i,ToOk (cW2 h s) x := by
     intro i
     induction i with
     | zero => intro _ x hx; simp [Z2A] at hx
     | succ i ih =>
      intro hi' x hx
      simp only [Z2A,List.mem_append,List.mem_singleton] at hx
      rcases hx with hx | rfl
      ·exact ih (by omega) x hx
      ·have hsi := Z3K (cW2 h s) k i
       unfold Z5E
       split
       ·exact Or.inl rfl
       ·rename_i hne
        unfold Z1o
        rw [hsi.2.2.2.1,hsi.1]
        split
        ·rename_i hq; exact Or.inr hq
        ·cases ht : (Z0q (loadA (cW2 h s).heap.words (k.getD i default)).1).2 with
         | true =>
          refine Or.inr (pr.rt.t _ ?_ ht)
          rw [ki.old]
          rcases hk _ (getD_mem_iff.2 ⟨i,by omega,rfl⟩) with q | q
          ·exact absurd q hne
          ·exact q
         | false =>
          refine Or.inl ?_
          unfold Z0q at ht ⊢
          split at ht
          ·simp at ht
          ·rename_i hcc2; rw [if_neg hcc2]
    exact this k.length (Nat.le_refl _) x hx
  ·rw [Z0h,if_pos hp,if_pos ⟨hr,hr'⟩,if_pos e1,if_neg e2] at e
   exact absurd e e2
 ·rw [Z0h,if_pos hp,if_pos ⟨hr,hr'⟩,if_neg e1] at e
  exact absurd e e1
theorem WG.collect {w : WorldM} {n : Nat} (h : WG w) (hm : MOk w n) : WG w.collect := by
 unfold WorldM.collect
 split
 ·rename_i e
  obtain ⟨T,g,g1,g2⟩ := h
  exact Zen (B := n) (by omega) g hm.words (fun p hp => (hm.pin_mem p hp).2) g1 g2 e
 ·exact h
theorem WG.step {w : WorldM} {n : Nat} (h : WG w) (hp : POk w) (hm : MOk w n) (hn : n ≤ 1000000) (t : Tape) : WG (w.step t) := by
 unfold WorldM.step
 repeat' split
 ·exact h.put hm.words (Z3C _ _)
 ·exact h.link hm hn _
 ·exact h.pin hp hm hn _
 ·exact h.drop _
 ·exact h.collect hm
 ·exact h.dup _
theorem Ziw {w : WorldM} {n : Nat} (h : WG w) (hp : POk w) (hm : MOk w n) (t : Tape) : ∀ k,n + k ≤ 1000000 → WG (mkS w t k).1
 | 0,_ => h
 | k + 1,hk => (Ziw h hp hm t k (by omega)).step (Zgg hp hm t k (by omega)) (Z8i hm t k (by omega)) (by omega) _
theorem Zhi (l : List Int) : WG (Z04 l) := by
 have e := Z61 l
 have hl : (((Z36 l).step 4).step 5).l.length ≤ 300 := by rw [e.1]; simp; omega
 have hk := Zda (Z36 l).empty (((Z36 l).step 4).step 5) (by omega)
 exact Ziw (Zi9 (Z36 l)) (ZaS (Z36 l)) (Za2 (Z36 l)) _ _ (by omega)
theorem Z97 {h : Heap} {T : Nat → List Int} (g : Gt h T) {j : Nat} {x : Int} (hx : x ∈ T j) : Z2n h x = decide (kdA h.words x ≠ 0) := by
 unfold Z2n
 rw [g.at' hx]
 rfl
theorem Zfo {h h' : Heap} {T : Nat → List Int} (g : Gt h T) {i0 : Nat} {a : Int} (g' : Gt h' (fun j => if j = i0 then T i0 ++ [a] else T j)) (hl : h'.pages.length = h.pages.length) (hk : kdA h'.words a ≠ 0) (ho : ∀ j x,x ∈ T j → kdA h'.words x = kdA h.words x) : ∀ (f i : Nat),i + f = h.pages.length →
  ((Z0x h' f i).1.filter (Z2n h')).length = ((Z0x h f i).1.filter (Z2n h)).length + if i ≤ i0 ∧ i0 < h.pages.length then 1 else 0
 | 0,i,hf => by
  rw [if_neg (by omega)]
  rfl
 | f + 1,i,hf => by
  have ih := Zfo g g' hl hk ho f (i + 1) (by omega)
  have s1 := g.starts f (i + 1) (by omega)
  have s2 := g'.starts f (i + 1) (by omega)
  have e1 : Z0x h (f + 1) i = (T i ++ (Z0x h f (i + 1)).1,0) := by
   rw [Z0x,g.page (by omega)]
   simp only [s1.1,if_true]
  have e2 : Z0x h' (f + 1) i = ((if i = i0 then T i0 ++ [a] else T i) ++ (Z0x h' f (i + 1)).1,0) := by
   rw [Z0x,g'.page (by omega)]
   simp only [s2.1,if_true]
  have same : ∀ j,(T j).filter (Z2n h') = (T j).filter (Z2n h) := by
   intro j
   refine List.filter_congr fun x hx => ?_
   rw [Z97 g hx,Z97 g' (j := j) (by split; (rename_i q; subst q; exact List.mem_append_left _ hx); exact hx),ho j x hx]
  rw [e1,e2]
  simp only [List.filter_append,List.length_append,ih]
  by_cases q : i = i0
  ·subst q
   have ea : Z2n h' a = true := by
    rw [Z97 g' (j := i) (by simp)]
    exact decide_eq_true hk
   have c1 : (if i + 1 ≤ i ∧ i < h.pages.length then 1 else 0) = 0 := if_neg (by omega)
   have c2 : (if i ≤ i ∧ i < h.pages.length then 1 else 0) = 1 := if_pos ⟨Nat.le_refl _,by omega⟩
   rw [c1,c2,if_pos rfl,List.filter_append,same,List.filter_cons,ea]
   simp
   omega
  ·rw [if_neg q,same]
   by_cases q2 : i + 1 ≤ i0 ∧ i0 < h.pages.length
   ·rw [if_pos q2,if_pos (by omega)]; omega
   ·rw [if_neg q2,if_neg (by omega)]; rfl
theorem NewOk.objects {h h' : Heap} {T : Nat → List Int} {hd : Header} {i : Nat} {a : Int} (n : NewOk h h' T hd i a) (g : Gd h T) (hl : h'.pages.length = h.pages.length) : (Z03 h').2 = 0 ∧ (Z03 h').1.length = (Z03 h).1.length + 1 ∧ a ∉ (Z03 h).1 ∧ a ∈ (Z03 h').1 := by
 have ho : ∀ j x,x ∈ T j → kdA h'.words x = kdA h.words x := fun j x hx => by
  have r := Z0g h.words x
  exact (Z1O (ws := h.words) (ws' := h'.words) (a := x) (by rw [n.o x (by have := n.d j x hx; omega)])).2.2.1
 have e1 : Z0J h = Z0x h h.pages.length 0 := by rw [Z0J,if_pos g.p]
 have e2 : Z0J h' = Z0x h' h.pages.length 0 := by rw [Z0J,if_pos n.g.p,hl]
 have il : i < h.pages.length := by
  have := (n.g.t0 i a (by simp)).1
  omega
 have c := Zfo g.gt n.g.gt hl n.k ho h.pages.length 0 (by omega)
 rw [if_pos ⟨by omega,il⟩] at c
 refine ⟨n.g.objs.1, ?_, ?_,(n.g.objs.2 a).2 n.ob0⟩
 ·unfold Z03
  rw [e1,e2]
  exact c
 ·intro q
  obtain ⟨j,hj,hk⟩ := (g.objs.2 a).1 q
  have d := n.d j a hj
  have := Z0g h.words a
  have hv : 1 ≤ sizeH hd := by
   have := Z3y h'.words a
   rw [n.e] at this
   have := Z0g h'.words a
   omega
  omega
theorem Z6M {h : Heap} {T : Nat → List Int} (g : Gd h T) {i : Nat} {x : Int} (hx : x ∈ T i) (hk : kdA h.words x ≠ 0) : (Z0e h x).2 = 0 ∧ (Z0e h x).1 = (List.range (hlA h.words x).toNat).map fun k : Nat => (loadA h.words (x + 1 + k)).1 := by
 have f := g.fields hx hk
 have n := g.inw hx
 have r := Z0g h.words x
 refine ⟨?_, ?_⟩
 ·unfold Z0e
  rw [f.1,if_pos rfl]
  unfold Z15
  have el : (hdA h.words x).length = hlA h.words x := rfl
  rw [if_neg (by simp only; omega),if_pos (by simp only; omega)]
 ·refine List.ext_getElem (by simp; omega) fun k h1 h2 => ?_
  have := f.2.2 k (by omega)
  rw [List.getD_eq_getElem?_getD,List.getElem?_eq_getElem h1] at this
  simp only [Option.getD_some] at this
  rw [this]
  simp
theorem NewOk.fieldsO {h h' : Heap} {T : Nat → List Int} {hd : Header} {i : Nat} {a : Int} (n : NewOk h h' T hd i a) (g : Gd h T) {x : Int} (hx : x ∈ (Z03 h).1) : (Z0e h' x).2 = 0 ∧ (Z0e h' x).1 = (Z0e h x).1 ∧ getH h' x = getH h x := by
 have ob := (g.objs.2 x).1 hx
 obtain ⟨j,hj,hk⟩ := ob
 obtain ⟨j',hj',hk'⟩ := n.ob ⟨j,hj,hk⟩
 have r := Z0g h.words x
 have d := n.d j x hj
 have o := Z1O (ws := h.words) (ws' := h'.words) (a := x) (by rw [n.o x (by omega)])
 have f1 := Z6M g hj hk
 have f2 := Z6M n.g hj' hk'
 refine ⟨f2.1, ?_,by rw [(g.fields hj hk).1,(n.g.fields hj' hk').1,o.2.2.2.1]⟩
 rw [f1.2,f2.2,o.2.1]
 refine List.map_congr_left fun k hk => ?_
 have := List.mem_range.1 hk
 rw [n.o _ (by omega)]
theorem NewOk.fieldsN {h h' : Heap} {T : Nat → List Int} {hd : Header} {i : Nat} {a : Int} (n : NewOk h h' T hd i a) : (Z0e h' a).2 = 0 ∧ ((Z0e h' a).1.length : Int) = hd.length ∧ ∀ v ∈ (Z0e h' a).1,v = 0 := by
 obtain ⟨j,hj,hk⟩ := n.ob0
 have f := Z6M n.g hj hk
 have s := Z3y h'.words a
 have r := Z0g h'.words a
 have el : hlA h'.words a = hd.length := by rw [← n.e]; rfl
 rw [n.e] at s
 refine ⟨f.1, ?_, ?_⟩
 ·rw [f.2]; simp; omega
 ·intro v hv
  rw [f.2] at hv
  obtain ⟨k,h1,rfl⟩ := List.mem_map.1 hv
  have := List.mem_range.1 h1
  exact n.z _ (by omega) (by omega)
theorem Ze3 (t : Tape) {c : Conf} (hv : Z07 c = true) : 0 ≤ hdr1 t c ∧ hdr1 t c + 1 ≤ 2 * c.pw ∧ hdr1 t c ≤ 80 := by
 have v := validB_iff.1 hv
 have s := Z1S hv
 have n1 := Z0A t (n := Z00 c) (by omega)
 have n2 := Z0A ((t.step (Z00 c)).step 12) (n := c.pw) (by omega)
 unfold hdr1
 split <;> omega
theorem ZiJ {a b : Nat} (h : a ≤ b) : (2 : Int) ^ a ≤ 2 ^ b := by
 have : (2 : Nat) ^ a ≤ 2 ^ b := Nat.pow_le_pow_right (by omega) h
 exact_mod_cast this
theorem Zf6 (t : Tape) {c : Conf} (hv : Z07 c = true) : Z1b c (t.header c) = true := by
 have v := validB_iff.1 hv
 have r := Ze3 t hv
 have key : Z0i (t.header c) = true ∧ (t.header c).kind ≠ 0 ∧ 0 ≤ (t.header c).length ∧ (t.header c).length ≤ hdr1 t c := by
  rw [validH_iff]
  unfold Tape.header
  split
  ·exact ⟨⟨by simp,by simp,by simp only; omega,by simp only; omega,by simp⟩,by simp,by simp only; omega,by simp⟩
  ·split
   ·exact ⟨⟨by simp,by simp,by simp only; omega,by simp only; omega,by simp⟩,by simp,by simp only; omega,by simp⟩
   ·have p := Zh9 (n := min (min (hdr1 t c) 32) 12) (by omega)
    have n := Z0A ((Z1y t c).step 4) (n := 2 ^ (min (min (hdr1 t c) 32) 12).toNat) p.1
    have q := ZiJ (a := (min (min (hdr1 t c) 32) 12).toNat) (b := (min (hdr1 t c) 32).toNat) (by omega)
    refine ⟨⟨by simp,by simp,by simp only; omega,by simp only; omega, ?_⟩,by simp,by simp only; omega,by simp only; omega⟩
    rw [if_pos rfl]
    exact ⟨by simp only; omega,by simp only; omega⟩
 have hs : sizeH (t.header c) = (t.header c).length + 1 := by rw [sizeH,if_pos key.1]
 unfold Z1b
 rw [key.1,decide_eq_true key.2.1,decide_eq_true,Bool.and_self,Bool.and_self]
 unfold need
 rw [if_pos ⟨hv,by omega,by omega⟩]
 split
 ·omega
 ·have := Int.ediv_nonneg (a := sizeH (t.header c) + c.pw - 1) (b := c.pw) (by omega) (by omega)
  omega
theorem ZgZ {h : Heap} {hd : Header} (hp : Z02 h = true) (ha : Z1b h.conf hd = true) (e : (new7 h hd).2.2 ≠ 0) : (new7 h hd).2.2 = 3 ∧ (new7 h hd).1.words = [] := by
 unfold new7 at e ⊢
 rw [if_pos ⟨hp,ha⟩] at e ⊢
 split
 ·rename_i q; rw [if_pos q] at e; exact absurd rfl e
 ·exact ⟨rfl,rfl⟩
theorem Zfx (l m : List Int) (h : m = l) (hl : l.length ≤ 1048576) : GSpec Tryz.prog 17 [Z01 l,Z01 m] true (bool true) [] := by
 subst h
 exact Zga m hl
theorem Z8x {h : Heap} {T : Nat → List Int} (g : Gd h T) {x : Int} (hx : x ∈ (Z03 h).1) : 0 ≤ x ∧ x ≤ 18446744073709551615 := by
 obtain ⟨j,hj,hk⟩ := (g.objs.2 x).1 hx
 have w := g.inw hj
 have r := Z0g h.words x
 have a := area (Z08 g.p).1
 have l := (Z08 g.p).2
 omega
def hdB (hd : Header) : Blk := .box 34 [int hd.kind,int hd.length,.d (.sc (.int .u32 hd.map))]
def akL (h x : Heap) (hd : Header) (ad : Int) (l : List Int) (i : Nat) : Tg := ⟨tm 175 [(4,bool false),(5,.pt 16005 0 0),(6,.pt 24006 0 0),(7,.pt 32007 0 0),(8,u64 ad),(10,Z01 l),(14,int i)],[(32007,.box 28 x.cells),(24006,hdB hd),(16005,.box 28 h.cells)],10⟩
theorem ZiX (h x : Heap) (hd : Header) (ad : Int) (l : List Int) (i : Nat) (hw : WOk h.words) (hx : WOk x.words) (hi : i < l.length) (hl : l.length ≤ 16384) (hr : 0 ≤ l.getD i default ∧ l.getD i default ≤ 18446744073709551615) (f1 : (Z0e x (l.getD i default)).2 = 0) (f2 : (Z0e x (l.getD i default)).1 = (Z0e h (l.getD i default)).1) (f3 : getH x (l.getD i default) = getH h (l.getD i default)) : CSpec Tryz.prog (rndF Tryz.f3 0) (akL h x hd ad l i).st .nrm (akL h x hd ad l (i + 1)).st := by
 have fl := Z41 h (l.getD i default)
 exact sF [] [] (Fl 93 wdv l (Ftb 94 (decide ((↑i : Int) < (↑l.length : Int))) (Fek 101 wdv l (↑i) i (Fc 103 (@Z3A h (l.getD i default) ‹_› ‹_›) (Fek 110 wdv l (↑i) i (Fc 112 (@Z3A x (l.getD i default) ‹_› ‹_›) (Fek 119 wdv l (↑i) i (Fc 121 (@Z2U h (l.getD i default) ‹_› ‹_›) (Fek 128 wdv l (↑i) i (Fc 130 (@Z2U x (l.getD i default) ‹_› ‹_›) (FcG 143 (!((Z0e x (l.getD i default)).snd != 0||!((getH h (l.getD i default)).fst.kind == (getH x (l.getD i default)).fst.kind&&((getH h (l.getD i default)).fst.length == (getH x (l.getD i default)).fst.length&&(getH h (l.getD i default)).fst.map == (getH x (l.getD i default)).fst.map)))) (fun hg => by (try simp only [bs] at hg); exact @Zfx ((Z0e h (l.getD i default)).fst) ((Z0e x (l.getD i default)).fst) (by (try simp only [bs] at hg); assumption) (by (try simp only [bs] at hg); omega)) (Ff 145 (by simp only [bs, *,true_or,or_true,true_and,and_true,not_true_eq_false,not_false_eq_true,Bool.true_eq_false,Bool.false_eq_true] : ((Z0e x (l.getD i default)).snd != 0||!((getH h (l.getD i default)).fst.kind == (getH x (l.getD i default)).fst.kind&&((getH h (l.getD i default)).fst.length == (getH x (l.getD i default)).fst.length&&(getH h (l.getD i default)).fst.map == (getH x (l.getD i default)).fst.map))||false)=false) (Fx 96 i Fz)))))))))))))
theorem Zkj (h x : Heap) (hd : Header) (ad : Int) (l : List Int) : CSpec Tryz.prog (rndF Tryz.f3 0) (akL h x hd ad l l.length).st (.ext 0) (Tg.st ⟨tm 175 [(4,bool false),(6,.pt 24006 0 0),(7,.pt 32007 0 0),(8,u64 ad)],[(32007,.box 28 x.cells),(24006,hdB hd)],10⟩) := by
 exact sF [] [] (Fl 93 wdv l (Ffb 94 (decide ((↑l.length : Int) < (↑l.length : Int))) Fz))
theorem ZjJ (h x : Heap) (hd : Header) (ad : Int) (l : List Int) (hw : WOk h.words) (hx : WOk x.words) (hl : l.length ≤ 16384) (hr : ∀ v ∈ l,(0 ≤ v ∧ v ≤ 18446744073709551615) ∧ (Z0e x v).2 = 0 ∧ (Z0e x v).1 = (Z0e h v).1 ∧ getH x v = getH h v) : CSpec Tryz.prog (blkF Tryz.f3 0) (Tg.st ⟨tm 175 [(4,bool false),(5,.pt 16005 0 0),(6,.pt 24006 0 0),(7,.pt 32007 0 0),(8,u64 ad),(10,Z01 l),(14,int 0)],[(32007,.box 28 x.cells),(24006,hdB hd),(16005,.box 28 h.cells)],10⟩) .nrm (Tg.st ⟨tm 175 [(4,bool false),(6,.pt 24006 0 0),(7,.pt 32007 0 0),(8,u64 ad)],[(32007,.box 28 x.cells),(24006,hdB hd)],10⟩) :=
 Z0d (S := fun i => (akL h x hd ad l i).st) l.length (by kernel_rfl) (fun i hi => by
  have q := hr _ (getD_mem_iff.2 ⟨i,hi,rfl⟩)
  exact ZiX h x hd ad l i hw hx hi hl q.1 q.2.1 q.2.2.1 q.2.2.2) (Zkj h x hd ad l)
def akZ (x : Heap) (hd : Header) (e : Int) (l : List Int) (i : Nat) : Tg := ⟨tm 175 [(4,bool false),(6,.pt 24006 0 0),(23,Z01 l),(24,int e),(25,int i)],[(32007,.box 28 x.cells),(24006,hdB hd)],12⟩
theorem Zi7 (x : Heap) (hd : Header) (e : Int) (l : List Int) (i : Nat) (hi : i < l.length) (hl : l.length ≤ 16384) (hz : l.getD i default = 0) : CSpec Tryz.prog (rndF Tryz.f3 2) (akZ x hd e l i).st .nrm (akZ x hd e l (i + 1)).st := by
 exact sF [] [] (Fl 154 wdv l (Ftb 155 (decide ((↑i : Int) < (↑l.length : Int))) (Fek 160 wdv l (↑i) i (Ffb 162 (l.getD i default != 0) (Fx 157 i Fz)))))
theorem ZjR (x : Heap) (hd : Header) (e : Int) (l : List Int) : CSpec Tryz.prog (rndF Tryz.f3 2) (akZ x hd e l l.length).st (.ext 2) (Tg.st ⟨tm 175 [(4,bool false),(6,.pt 24006 0 0),(23,Z01 l),(24,int e)],[(24006,hdB hd)],12⟩) := by
 exact sF [] [] (Fl 154 wdv l (Ffb 155 (decide ((↑l.length : Int) < (↑l.length : Int))) Fz))
theorem ZiW (x : Heap) (hd : Header) (e : Int) (l : List Int) (hl : l.length ≤ 16384) (hz : ∀ v ∈ l,v = 0) : CSpec Tryz.prog (blkF Tryz.f3 2) (Tg.st ⟨tm 175 [(4,bool false),(6,.pt 24006 0 0),(23,Z01 l),(24,int e),(25,int 0)],[(32007,.box 28 x.cells),(24006,hdB hd)],12⟩) .nrm (Tg.st ⟨tm 175 [(4,bool false),(6,.pt 24006 0 0),(23,Z01 l),(24,int e)],[(24006,hdB hd)],12⟩) :=
 Z0d (S := fun i => (akZ x hd e l i).st) l.length (by kernel_rfl) (fun i hi => Zi7 x hd e l i hi hl (hz _ (getD_mem_iff.2 ⟨i,hi,rfl⟩))) (ZjR x hd e l)
theorem ZfO (tape odd : List Int) (h1 : tape.length ≤ 140737488355328) (h2 : odd.length ≤ 140737488355328) : GSpec Tryz.prog 3 [Z1B tape,Z1B odd] true (bool true) [] := by
 have hm := ZgV tape
 have hw := hm.words
 have ht : TOk ⟨odd,0⟩ := by simp [TOk]; omega
 obtain ⟨T,g,_,_⟩ := Zhi tape
 have po := Z08 g.p
 have ha := Zf6 ⟨odd,0⟩ po.1
 have hmp := Z3C ⟨odd,0⟩ (Z04 tape).heap.conf
 by_cases he : (new7 (Z04 tape).heap ((⟨odd,0⟩ : Tape).header (Z04 tape).heap.conf)).2.2 = 0
 ·obtain ⟨i,n⟩ := g.newOk hw hmp he
  obtain ⟨_,_,_,_,_,_,hpx,hwx⟩ := Z77 hw hmp he
  have px := Z08 hpx
  have hc := n.c
  have hl : (new7 (Z04 tape).heap ((⟨odd,0⟩ : Tape).header (Z04 tape).heap.conf)).1.pages.length = (Z04 tape).heap.pages.length := by
   have := px.2.2.2.2.2.2.2.1
   have := po.2.2.2.2.2.2.2.1
   rw [hc] at *
   omega
  obtain ⟨j1,j2,j3,j4⟩ := n.objects g hl
  obtain ⟨_,hj,_⟩ := n.ob0
  have hin := n.g.inw hj
  have l1 := Z2l (Z04 tape).heap
  have l2 := Z2l (new7 (Z04 tape).heap ((⟨odd,0⟩ : Tape).header (Z04 tape).heap.conf)).1
  have gd := n.g.good
  have ho : ∀ v ∈ (Z03 (Z04 tape).heap).1,(0 ≤ v ∧ v ≤ 18446744073709551615) ∧ (Z0e (new7 (Z04 tape).heap ((⟨odd,0⟩ : Tape).header (Z04 tape).heap.conf)).1 v).2 = 0 ∧ (Z0e (new7 (Z04 tape).heap ((⟨odd,0⟩ : Tape).header (Z04 tape).heap.conf)).1 v).1 = (Z0e (Z04 tape).heap v).1 ∧ getH (new7 (Z04 tape).heap ((⟨odd,0⟩ : Tape).header (Z04 tape).heap.conf)).1 v = getH (Z04 tape).heap v := fun v hv => ⟨Z8x g hv,n.fieldsO g hv⟩
  obtain ⟨z1,z2,z3⟩ := n.fieldsN
  have hra := Z8x n.g j4
  have zl := Z41 (new7 (Z04 tape).heap ((⟨odd,0⟩ : Tape).header (Z04 tape).heap.conf)).1 (new7 (Z04 tape).heap ((⟨odd,0⟩ : Tape).header (Z04 tape).heap.conf)).2.1
  have Q0 {h_ c_ p_} (r_ : Fq h_ c_ p_) := Fc 27 (@Z9e tape ‹_›) (Fp 34 (@Z2E (Tape.mk odd 0) ((Z04 tape).heap.conf) ‹_› (by (simp only [bs]; omega)) (by simp only [bs, *,true_or,or_true,true_and,and_true,not_true_eq_false,not_false_eq_true,Bool.true_eq_false,Bool.false_eq_true])) (Fc 38 (@Z6G ((Z04 tape).heap) ((Tape.mk odd 0).header (Z04 tape).heap.conf) ‹_› ‹_›) (Ffb 43 ((new7 (Z04 tape).heap ((Tape.mk odd 0).header (Z04 tape).heap.conf)).snd.snd != 0) (Fc 57 (@Z1T ((Z04 tape).heap) ‹_›) (Fc 62 (@Z1T ((new7 (Z04 tape).heap ((Tape.mk odd 0).header (Z04 tape).heap.conf)).fst) ‹_›) (FlG 69 (!(Z03 (new7 (Z04 tape).heap ((Tape.mk odd 0).header (Z04 tape).heap.conf)).fst).snd != 0) wdv (Z03 (new7 (Z04 tape).heap ((Tape.mk odd (0 : Int)).header (Z04 tape).heap.conf)).fst).fst (FlG 71 (!(Z03 (new7 (Z04 tape).heap ((Tape.mk odd 0).header (Z04 tape).heap.conf)).fst).snd != 0) wdv (Z03 (Z04 tape).heap).fst (Fa (by intro hg; (try simp only [bs] at hg); exact wrapI2 rfl (by omega) (by omega) : (!(Z03 (new7 (Z04 tape).heap ((Tape.mk odd 0).header (Z04 tape).heap.conf)).fst).snd != 0) =true→IntKind.i64.wrap ((↑(Z03 (Z04 tape).heap).fst.length : Int) + 1) =(↑((Z03 (Z04 tape).heap).fst.length + 1) : Int)) (FcG 78 (!((Z03 (new7 (Z04 tape).heap ((Tape.mk odd 0).header (Z04 tape).heap.conf)).fst).snd != 0||(↑(Z03 (new7 (Z04 tape).heap ((Tape.mk odd 0).header (Z04 tape).heap.conf)).fst).fst.length : Int) != (↑((Z03 (Z04 tape).heap).fst.length + 1) : Int))) (fun hg => by (try simp only [bs] at hg); exact @Z0N ((Z03 (Z04 tape).heap).fst) ((new7 (Z04 tape).heap ((Tape.mk odd 0).header (Z04 tape).heap.conf)).snd.fst) (by (try simp only [bs] at hg); omega)) (FcG 83 (!((Z03 (new7 (Z04 tape).heap ((Tape.mk odd 0).header (Z04 tape).heap.conf)).fst).snd != 0||(↑(Z03 (new7 (Z04 tape).heap ((Tape.mk odd 0).header (Z04 tape).heap.conf)).fst).fst.length : Int) != (↑((Z03 (Z04 tape).heap).fst.length + 1) : Int)||decide ((new7 (Z04 tape).heap ((Tape.mk odd 0).header (Z04 tape).heap.conf)).snd.fst ∈ (Z03 (Z04 tape).heap).fst))) (fun hg => by (try simp only [bs] at hg); exact @Z0N ((Z03 (new7 (Z04 tape).heap ((Tape.mk odd 0).header (Z04 tape).heap.conf)).fst).fst) ((new7 (Z04 tape).heap ((Tape.mk odd 0).header (Z04 tape).heap.conf)).snd.fst) (by (try simp only [bs] at hg); omega)) (FcG 88 (!((Z03 (new7 (Z04 tape).heap ((Tape.mk odd 0).header (Z04 tape).heap.conf)).fst).snd != 0||(↑(Z03 (new7 (Z04 tape).heap ((Tape.mk odd 0).header (Z04 tape).heap.conf)).fst).fst.length : Int) != (↑((Z03 (Z04 tape).heap).fst.length + 1) : Int)||decide ((new7 (Z04 tape).heap ((Tape.mk odd 0).header (Z04 tape).heap.conf)).snd.fst ∈ (Z03 (Z04 tape).heap).fst)||!decide ((new7 (Z04 tape).heap ((Tape.mk odd 0).header (Z04 tape).heap.conf)).snd.fst ∈ (Z03 (new7 (Z04 tape).heap ((Tape.mk odd 0).header (Z04 tape).heap.conf)).fst).fst))) (fun hg => by (try simp only [bs] at hg); exact @Z4R ((new7 (Z04 tape).heap ((Tape.mk odd 0).header (Z04 tape).heap.conf)).fst) (by (try simp only [bs] at hg); assumption)) r_)))))))))))
  rcases bb ((Z03 (new7 (Z04 tape).heap ((Tape.mk odd 0).header (Z04 tape).heap.conf)).fst).snd != 0 || (↑(Z03 (new7 (Z04 tape).heap ((Tape.mk odd 0).header (Z04 tape).heap.conf)).fst).fst.length : Int) != (↑((Z03 (Z04 tape).heap).fst.length + 1) : Int) || decide ((new7 (Z04 tape).heap ((Tape.mk odd 0).header (Z04 tape).heap.conf)).snd.fst ∈ (Z03 (Z04 tape).heap).fst) || !decide ((new7 (Z04 tape).heap ((Tape.mk odd 0).header (Z04 tape).heap.conf)).snd.fst ∈ (Z03 (new7 (Z04 tape).heap ((Tape.mk odd 0).header (Z04 tape).heap.conf)).fst).fst) || !decide (Z0E (new7 (Z04 tape).heap ((Tape.mk odd 0).header (Z04 tape).heap.conf)).fst = Finding.mk 0 0 0)) with hc0 | hc0<;>have hc0p:=hc0<;>simp only [bs] at hc0p
  ·exact gF [] Tryz.func3 [false,false,false,false,false,false,false,false,false,false,false,false,false,false,false,false,true] (Fh 72 [.int (↑((Z03 (Z04 tape).heap).fst.length + 1) : Int)] (Q0 (Ft 90 hc0 (Fa (by (rw [Bool.eq_iff_iff]; simp [gd,j1,j2,j3,j4,z1, *]; grind) : false=true) Fz))))
  ·obtain ⟨⟨⟨⟨hc0paaaa,hc0paaab⟩,hc0paab⟩,hc0pab⟩,hc0pb⟩ := hc0p
   exact gF [] Tryz.func3 [false,false,false,false,false,false,false,false,false,false,false,false,false,false,false,false,false,false,false,false,false,false,false,false,false,false,false,false,false,false,false,false,false,false,false,false,false,false,false,false,true] (Fh 72 [.int (↑((Z03 (Z04 tape).heap).fst.length + 1) : Int)] (Q0 (Ff 90 hc0 (Fu (@ZjJ ((Z04 tape).heap) ((new7 (Z04 tape).heap ((Tape.mk odd 0).header (Z04 tape).heap.conf)).fst) ((Tape.mk odd 0).header (Z04 tape).heap.conf) ((new7 (Z04 tape).heap ((Tape.mk odd 0).header (Z04 tape).heap.conf)).snd.fst) ((Z03 (Z04 tape).heap).fst) ‹_› ‹_› ‹_› ‹_›) (Fc 149 (@Z3A ((new7 (Z04 tape).heap ((Tape.mk odd 0).header (Z04 tape).heap.conf)).fst) ((new7 (Z04 tape).heap ((Tape.mk odd 0).header (Z04 tape).heap.conf)).snd.fst) ‹_› ‹_›) (Fu (@ZiW ((new7 (Z04 tape).heap ((Tape.mk odd 0).header (Z04 tape).heap.conf)).fst) ((Tape.mk odd 0).header (Z04 tape).heap.conf) ((Z0e (new7 (Z04 tape).heap ((Tape.mk odd 0).header (Z04 tape).heap.conf)).fst (new7 (Z04 tape).heap ((Tape.mk odd 0).header (Z04 tape).heap.conf)).snd.fst).snd) ((Z0e (new7 (Z04 tape).heap ((Tape.mk odd 0).header (Z04 tape).heap.conf)).fst (new7 (Z04 tape).heap ((Tape.mk odd 0).header (Z04 tape).heap.conf)).snd.fst).fst) (by omega) ‹_›) (Fc 163 (@Zbn) (FlG 170 (true&&(Z0e (new7 (Z04 tape).heap ((Tape.mk odd 0).header (Z04 tape).heap.conf)).fst (new7 (Z04 tape).heap ((Tape.mk odd 0).header (Z04 tape).heap.conf)).snd.fst).snd == 0) wdv (Z0e (new7 (Z04 tape).heap ((Tape.mk odd (0 : Int)).header (Z04 tape).heap.conf)).fst (new7 (Z04 tape).heap ((Tape.mk odd (0 : Int)).header (Z04 tape).heap.conf)).snd.fst).fst (Fb (((Z0e (new7 (Z04 tape).heap ((Tape.mk odd 0).header (Z04 tape).heap.conf)).fst (new7 (Z04 tape).heap ((Tape.mk odd 0).header (Z04 tape).heap.conf)).snd.fst).snd == 0&&(↑(Z0e (new7 (Z04 tape).heap ((Tape.mk odd 0).header (Z04 tape).heap.conf)).fst (new7 (Z04 tape).heap ((Tape.mk odd 0).header (Z04 tape).heap.conf)).snd.fst).fst.length : Int) == ((Tape.mk odd 0).header (Z04 tape).heap.conf).length)=true) Fz)))))))))
 ·obtain ⟨e1,e2⟩ := ZgZ g.p ha he
  exact gF [] Tryz.func3 [false,false,false,false,false,false,true] (Fc 27 (@Z9e tape ‹_›) (Fp 34 (@Z2E (Tape.mk odd 0) ((Z04 tape).heap.conf) ‹_› (by (simp only [bs]; omega)) (by simp only [bs, *,true_or,or_true,true_and,and_true,not_true_eq_false,not_false_eq_true,Bool.true_eq_false,Bool.false_eq_true])) (Fc 38 (@Z6G ((Z04 tape).heap) ((Tape.mk odd 0).header (Z04 tape).heap.conf) ‹_› ‹_›) (Ftb 43 ((new7 (Z04 tape).heap ((Tape.mk odd 0).header (Z04 tape).heap.conf)).snd.snd != 0) (Fc 44 (@Zbn) (FlG 52 (true&&(new7 (Z04 tape).heap ((Tape.mk odd 0).header (Z04 tape).heap.conf)).snd.snd == 3) wdv (new7 (Z04 tape).heap ((Tape.mk odd (0 : Int)).header (Z04 tape).heap.conf)).fst.words (Fa (by simp [e1,e2, *] : ((new7 (Z04 tape).heap ((Tape.mk odd 0).header (Z04 tape).heap.conf)).snd.snd == 3&&(↑(new7 (Z04 tape).heap ((Tape.mk odd 0).header (Z04 tape).heap.conf)).fst.words.length : Int) == 0)=true) Fz)))))))
end Go.Proofs.YtjflpmnenhdeeaaGreat
namespace Go.Proofs.YtjflpmnenhdeeaaGreat
open Go.Sx Go.RowKit
theorem Z65 (os : Os) (started : os.Started) (H : Type) (enc : TypeId × Value → H) :
  ReturnsInHanded {} Tryz.checked os 3 .any (Rows.allocKeepsSpec.pre6 enc Tryz.prog Tryz.f3 Rows.allocKeepsRow.domain false) (Rows.allocKeepsSpec.post enc Tryz.prog Tryz.f3 false true false false) := by
 refine ZaU (C := Tryz.checked) (tb := 4) 5 own0 started (by kernel_rfl) Tryz.func3
  (ChangeSpec.witness6 (enc := enc) (C := Tryz.checked) false ⟨#[],#[.slice none 0 0,.slice none 0 0],[]⟩ 8 (by kernel_rfl) (by kernel_rfl) (by kernel_rfl) (by kernel_rfl))
  ZhV (by kernel_rfl) (by kernel_rfl) (by kernel_rfl) (by kernel_rfl) rfl (fun ds hd => ?_) (fun ls hl h => ?_)
 ·match ds,hd with
  | [a0,a1],_ => rfl
 ·match ls,hl with
  | [l0,l1],_ =>
   obtain ⟨tape,rfl,htape⟩ := ZcJ (n := 3) (h 0 22 l0 (by kernel_rfl) rfl)
   obtain ⟨odd,rfl,hodd⟩ := ZcJ (n := 3) (h 1 22 l1 (by kernel_rfl) rfl)
   have e : Z9O Tryz.prog Tryz.f3.params.toList [[.sl 1 (tape.map idv)],[.sl 1 (odd.map idv)]] = [Z1B tape,Z1B odd] := by kernel_rfl
   exact ⟨true,e ▸ ZfO tape odd htape hodd⟩
theorem Z9Q : (Rows.allocKeepsRow.inPlace == Tryz.prog.inPlace 3) = true := by kernel_rfl
theorem Z9p : (Rows.allocKeepsRow.unfollowed == Tryz.prog.unfollowed 3) = true := by kernel_rfl
theorem Z9m : (Rows.allocKeepsRow.recurses == Tryz.prog.recurses 3) = true := by kernel_rfl
theorem Z9h : (Rows.allocKeepsRow.named == Tryz.prog.varsNamed 3) = true := by kernel_rfl
theorem Z60 : joinedFacts Tryz.prog 3 Tryz.f3 Rows.allocKeepsSpec Rows.allocKeepsRow = true := by
 unfold joinedFacts
 rw [Z9Q,Z9p,Z9m,Z9h]
 kernel_rfl
theorem allocKeeps_holds : Rows.AllocKeepsSaid :=
 OpenClaim.holds_of_wide 3 Tryz.f3 rfl rfl rfl rfl rfl rfl rfl ⟨rfl,rfl,rfl,rfl,rfl⟩ rfl rfl rfl rfl rfl (by kernel_rfl) Tryz.func3 Z60
  (of_decide_eq_true (by kernel_rfl)) (by unfold Func.isWrapper; first | (rw [if_pos (by decide +kernel)]; kernel_rfl) | (rw [if_neg (by decide +kernel)]; exact ⟨rfl,rfl⟩))
  (fun os started H enc _ => Z65 os started H enc)
end Go.Proofs.YtjflpmnenhdeeaaGreat
