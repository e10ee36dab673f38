/-
 The statement AllocLimit: part 7.
 Conditions: none.
-/
import Derived.Laws.Bits64b
import Derived.WalkSmall
import Derived.Test.YtpklpkmnhgedbaaM6
set_option maxRecDepth 100000
set_option linter.all false
namespace Go.Proofs.Ytpklpkmnhgedbaa
open Go.Sx
def ones (n : Int) : Int := 2 ^ (min n.toNat 64) - 1
structure Header where
 kind : Int
 length : Int
 map : Int
 deriving DecidableEq,Inhabited
def u32 (n : Int) : AV := .d (.sc (.int .u32 n))
def Header.av (h : Header) : AV := .ag [int h.kind,int h.length,u32 h.map]
theorem or_one (k : Nat) (h : k < 64) : bits .or .u64 (IntKind.u64.wrap ((2 ^ k - 1) * 2 ^ min (Int.toNat 1) 64)) 1 = 2 ^ (k + 1) - 1 := by
 have : k ∈ List.range 64 := List.mem_range.2 h
 revert k
 decide +kernel
def onesL (m : Nat) (i : Nat) : Tg := ⟨tm 14 [(2,u64 0),(3,u64 (2 ^ i - 1)),(6,int m),(7,int i)],[],20⟩
theorem onesRound (m i : Nat) (hm : m ≤ 64) (hi : i < m) : CSpec Try.prog (rndF Try.f37 0) (onesL m i).st .nrm (onesL m (i + 1)).st := by
 have ho := or_one i (by omega)
 exact sF [] [false,true] (Ftb 8 (decide ((↑i : Int) < (↑m : Int))) (Fo ((0 :Int)≤1) (Fg 12 (by exact wrapI' (by omega) (by omega) : IntKind.i64.wrap ((↑i : Int) + 1) =(↑(i + 1) : Int)) (Fa (by exact ho : bits BinOp.or IntKind.u64 (IntKind.u64.wrap ((2 ^ i - 1) * 2 ^ min (Int.toNat 1) 64)) (1 :Int) =2 ^ (i + 1) - 1) Fz))))
theorem onesEnd (m : Nat) : CSpec Try.prog (rndF Try.f37 0) (onesL m m).st (.ext 0) (Tg.st ⟨tm 14 [(3,u64 (2 ^ m - 1))],[],60⟩) := by
 exact sF [] [] (Ffb 8 (decide ((↑m : Int) < (↑m : Int))) Fz)
theorem onesLoop (m : Nat) (hm : m ≤ 64) : CSpec Try.prog (blkF Try.f37 0) (onesL m 0).st .nrm (Tg.st ⟨tm 14 [(3,u64 (2 ^ m - 1))],[],60⟩) :=
 loop_ext_of (S := fun i => (onesL m i).st) m (by kernel_rfl) (fun i hi => onesRound m i hm hi) (onesEnd m)
theorem bitsOnes (n : Int) : GSpec Try.prog 37 [int n] true (u64 (ones n)) [] := by
 have ei : min (max n 0) 64 = ((min n.toNat 64 : Nat) : Int) := by omega
 exact gF [] Try.func37 [] (Fgo 5 (if 0 > n then 0 else n) (max n 0) (Fgo 6 (if 64 < max n 0 then 64 else max n 0) (↑(min n.toNat 64) : Int) (Fu (@onesLoop (min n.toNat 64) (by omega)) Fz)))
def validH (h : Header) : Bool := decide (0 ≤ h.kind ∧ h.kind ≤ 3 ∧ 0 ≤ h.length ∧ h.length ≤ 255 ∧ (if h.kind = 1 then h.length ≤ 32 ∧ h.map < 2 ^ h.length.toNat else h.map = 0))
def sizeH (h : Header) : Int := if validH h = true then h.length + 1 else 0
def noHdr : Header := ⟨0,0,0⟩
def encodeH (h : Header) : Int × Int := if validH h = true then (1 + 4 * h.kind + 16 * h.length + 65536 * h.map,0) else (0,1)
def hdrOf (w : Int) : Header := ⟨w / 4 % 4,w / 16 % 4096,w / 65536 % 4294967296⟩
def decodeH (w : Int) : Header × Bool := if (encodeH (hdrOf w)).2 = 0 ∧ (encodeH (hdrOf w)).1 = w then (hdrOf w,true) else (noHdr,false)
theorem validH_iff {h : Header} : validH h = true ↔ 0 ≤ h.kind ∧ h.kind ≤ 3 ∧ 0 ≤ h.length ∧ h.length ≤ 255 ∧ (if h.kind = 1 then h.length ≤ 32 ∧ h.map < 2 ^ h.length.toNat else h.map = 0) := by simp [validH]
theorem pow32 {n : Int} (h1 : n ≤ 32) : (1 : Int) ≤ 2 ^ n.toNat ∧ (2 : Int) ^ n.toNat ≤ 4294967296 := by
 have : n.toNat ≤ 32 := by omega
 generalize n.toNat = k at this
 have hk : k ∈ List.range 33 := List.mem_range.2 (by omega)
 revert k
 decide +kernel
theorem validH_bounds {h : Header} (hv : validH h = true) (hm : 0 ≤ h.map) (hm2 : h.map ≤ 4294967295) : 0 ≤ h.kind ∧ h.kind ≤ 3 ∧ 0 ≤ h.length ∧ h.length ≤ 255 ∧ 0 ≤ h.map ∧ h.map ≤ 4294967295 := by
 have := validH_iff.1 hv
 omega
def spl {α : Type} (ws : List α) (i : Nat) (l : List α) : List α := ws.take i ++ l ++ ws.drop (i + l.length)
def placeA (ws : List Int) (a n : Int) : Int × Bool := if 4096 ≤ a ∧ a ≤ 4096 + ws.length then (a - 4096,decide (n ≤ ws.length - (a - 4096))) else (0,false)
def loadA (ws : List Int) (a : Int) : Int × Int := if 4096 ≤ a ∧ a < 4096 + ws.length then (ws.getD (a - 4096).toNat 0,0) else (0,2)
def readA (ws : List Int) (a n : Int) : List Int × Int := if n < 0 then ([],1) else if 4096 ≤ a ∧ a - 4096 + n ≤ ws.length then ((ws.drop (a - 4096).toNat).take n.toNat,0) else ([],2)
def writeA (ws : List Int) (a : Int) (l : List Int) : List Int × Int := if 4096 ≤ a ∧ a - 4096 + l.length ≤ ws.length then (spl ws (a - 4096).toNat l,0) else ([],2)
def storeA (ws : List Int) (a v : Int) : List Int × Int := writeA ws a [v]
def moveA (ws : List Int) (a b n : Int) : List Int × Int := if (readA ws b n).2 ≠ 0 then ([],(readA ws b n).2) else writeA ws a (readA ws b n).1
def wr {α : Type} (ws l : List α) (i k : Nat) : List α := ws.take i ++ l.take k ++ ws.drop (i + k)
theorem wr_zero {α : Type} (ws l : List α) (i : Nat) : wr ws l i 0 = ws := by simp [wr]
theorem wr_all {α : Type} (ws l : List α) (i : Nat) : wr ws l i l.length = spl ws i l := by simp [wr,spl]
theorem wr_len {α : Type} {ws l : List α} {i k : Nat} (h : i + l.length ≤ ws.length) (hk : k ≤ l.length) : (wr ws l i k).length = ws.length := by
 simp [wr]; omega
theorem spl_len {α : Type} {ws l : List α} {i : Nat} (h : i + l.length ≤ ws.length) : (spl ws i l).length = ws.length := by
 rw [← wr_all]; exact wr_len h (Nat.le_refl _)
theorem wr_get {α : Type} {ws l : List α} {i k : Nat} (h : i + l.length ≤ ws.length) (hk : k ≤ l.length) (j : Nat) : (wr ws l i k)[j]? = if j < i then ws[j]? else if j < i + k then l[j - i]? else ws[j]? := by
 have e : (l.take k).length = k := by simp; omega
 have := splice_get (l := ws) (xs := l.take k) (o := i) (by omega) j
 rw [e] at this
 rw [wr,this]
 split
 ·rfl
 ·split
  ·rw [List.getElem?_take_of_lt (by omega)]
  ·rfl
theorem wr_succ {α : Type} {ws l : List α} {i k : Nat} (h : i + l.length ≤ ws.length) (hk : k < l.length) (d : α) : (wr ws l i k).set (i + k) (l.getD k d) = wr ws l i (k + 1) := by
 apply List.ext_getElem?
 intro j
 have hl := wr_len h (Nat.le_of_lt hk)
 rw [List.getElem?_set,wr_get h (by omega),wr_get h (by omega),hl]
 by_cases hj : i + k = j
 ·subst hj
  rw [if_pos rfl,if_pos (by omega),if_neg (by omega),if_pos (by omega)]
  simp [List.getD,hk]
 ·rw [if_neg hj]
  by_cases h1 : j < i
  ·rw [if_pos h1,if_pos h1]
  ·rw [if_neg h1,if_neg h1]
   by_cases h2 : j < i + k
   ·rw [if_pos h2,if_pos (by omega)]
   ·rw [if_neg h2,if_neg (by omega)]
def tailRun (sp : Int) : List Page → Nat
 | [] => 0
 | p :: r => if p.kind = 3 ∧ p.space = sp then tailRun sp r + 1 else 0
theorem tailRun_le (sp : Int) : ∀ l,tailRun sp l ≤ l.length
 | [] => Nat.le_refl _
 | p :: r => by
  have := tailRun_le sp r
  simp only [tailRun,List.length_cons]
  split <;> omega
theorem drop_at {l : List Page} {k : Nat} (h : k < l.length) : l.drop k = l.getD k default :: l.drop (k + 1) := by
 rw [List.drop_eq_getElem_cons h]
 simp [List.getD,h]
def rchk (c : Conf) (l : List Page) (i : Nat) (due : Int) : Prop :=
 ((l.getD i default).kind = 3 ↔ 0 < due) ∧ 0 ≤ (l.getD i default).space ∧ (l.getD i default).space ≤ 1 ∧ 0 ≤ (l.getD i default).pins ∧ (l.getD i default).pins ≤ 2147483647 ∧
 0 ≤ (l.getD i default).kind ∧ (l.getD i default).kind ≤ 3 ∧
 ((l.getD i default).kind = 0 → (l.getD i default).space = 0 ∧ (l.getD i default).used = 0 ∧ (l.getD i default).pins = 0) ∧
 ((l.getD i default).kind = 1 → 0 ≤ (l.getD i default).used ∧ (l.getD i default).used ≤ c.pw) ∧
 ((l.getD i default).kind = 2 → 1 ≤ need c (l.getD i default).used ∧ need c (l.getD i default).used - 1 ≤ tailRun (l.getD i default).space (l.drop (i + 1))) ∧
 ((l.getD i default).kind = 3 → (l.getD i default).used = 0 ∧ (l.getD i default).pins = 0)
def rdue (c : Conf) (l : List Page) (i : Nat) (due : Int) : Int := if (l.getD i default).kind = 2 then need c (l.getD i default).used - 1 else max 0 (due - 1)
theorem need_range (c : Conf) (n : Int) : -1 ≤ need c n ∧ need c n ≤ 5 := by
 unfold need
 split
 ·rename_i h
  have := validB_iff.1 h.1
  split
  ·omega
  ·have h1 : 0 ≤ (n + c.pw - 1) / c.pw := Int.ediv_nonneg (by omega) (by omega)
   have h2 : (n + c.pw - 1) / c.pw < 6 := Int.ediv_lt_of_lt_mul (by omega) (by omega)
   omega
 ·omega
instance (c : Conf) (l : List Page) (i : Nat) (due : Int) : Decidable (rchk c l i due) := by unfold rchk; infer_instance
def rpB (c : Conf) (l : List Page) : Nat → Nat → Int → Bool
 | 0,_,_ => true
 | f + 1,i,due => if i < l.length then decide (rchk c l i due) && rpB c l f (i + 1) (rdue c l i due) else true
theorem rpB_past {c : Conf} {l : List Page} {f i : Nat} {due : Int} (h : l.length ≤ i) : rpB c l f i due = true := by
 cases f with
 | zero => rfl
 | succ f => rw [rpB,if_neg (by omega)]
theorem rpB_step {c : Conf} {l : List Page} {f i : Nat} {due : Int} (h : i < l.length) (hf : l.length ≤ i + f) : rpB c l f i due = (decide (rchk c l i due) && rpB c l (f - 1) (i + 1) (rdue c l i due)) := by
 cases f with
 | zero => omega
 | succ f => rw [rpB,if_pos h]; rfl
theorem spansB_step {c : Conf} {l : List Page} {f i : Nat} (h : i < l.length) (hf : l.length ≤ i + f) : spansB c l f i = (if spanN c l i = 0 then false else spansB c l (f - 1) (i + spanN c l i)) := by
 cases f with
 | zero => omega
 | succ f => rw [spansB,if_pos h]; rfl
theorem spansB_fuel {c : Conf} {l : List Page} : ∀ {m f g i : Nat},l.length - i ≤ m → l.length ≤ i + f → l.length ≤ i + g → spansB c l f i = spansB c l g i := by
 intro m
 induction m with
 | zero =>
  intro f g i hm hf hg
  have e : ∀ f,spansB c l f i = true := by
   intro f
   cases f with
   | zero => rw [spansB,decide_eq_true (by omega)]
   | succ f => rw [spansB,if_neg (by omega)]
  rw [e,e]
 | succ m ih =>
  intro f g i hm hf hg
  by_cases h : i < l.length
  ·rw [spansB_step h hf,spansB_step h hg]
   by_cases h0 : spanN c l i = 0
   ·rw [if_pos h0,if_pos h0]
   ·rw [if_neg h0,if_neg h0]
    exact ih (by omega) (by omega) (by omega)
  ·exact ih (by omega) hf hg
theorem getD_at {l : List Page} {i : Nat} (h : i < l.length) : l[i]? = some (l.getD i default) := by
 simp [List.getD,h]
theorem rpB_tails {c : Conf} {l : List Page} {sp : Int} (hsp : sp = 0 ∨ sp = 1) (q : Page) (hq : q.space = sp) : ∀ (d f i : Nat),d ≤ tailRun sp (l.drop i) → i + d ≤ l.length → l.length ≤ i + f →
  rpB c l f i d = (tailsB q ((l.drop i).take d) && rpB c l (f - d) (i + d) 0) := by
 intro d
 induction d with
 | zero => intro f i _ _ _; simp [tailsB]
 | succ d ih =>
  intro f i h1 h2 hf
  have hi : i < l.length := by omega
  rw [drop_at hi,tailRun] at h1
  by_cases hk : (l.getD i default).kind = 3 ∧ (l.getD i default).space = sp
  ·rw [if_pos hk] at h1
   have hd : rdue c l i ((d + 1 : Nat) : Int) = (d : Int) := by
    unfold rdue; rw [if_neg (by omega)]; omega
   rw [rpB_step hi hf,hd,ih (f - 1) (i + 1) (by omega) (by omega) (by omega),drop_at hi,List.take_succ_cons,show f - 1 - d = f - (d + 1) from by omega,show i + 1 + d = i + (d + 1) from by omega]
   have e : decide (rchk c l i ((d + 1 : Nat) : Int)) = tailB (l.getD i default) q := by
    rw [Bool.eq_iff_iff]
    simp only [decide_eq_true_eq,tailB]
    unfold rchk
    generalize l.getD i default = p at hk
    obtain ⟨a,b,u,v⟩ := p
    simp only [Page.mk.injEq] at hk ⊢
    omega
   rw [e]
   simp [tailsB,Bool.and_assoc]
  ·rw [if_neg hk] at h1; omega
theorem tailRun_of_tails {sp : Int} {q : Page} (hq : q.space = sp) : ∀ {l : List Page} {d : Nat},tailsB q (l.take d) = true → d ≤ l.length → d ≤ tailRun sp l
 | _,0,_,_ => Nat.zero_le _
 | [],d + 1,_,h => by simp at h
 | p :: l,d + 1,h,hl => by
  simp only [tailsB,List.take_succ_cons,List.all_cons,Bool.and_eq_true] at h
  have h1 := h.1
  simp only [tailB,decide_eq_true_eq] at h1
  have := tailRun_of_tails (sp := sp) hq (l := l) (d := d) h.2 (by simpa using hl)
  rw [tailRun,if_pos (by rw [h1]; exact ⟨rfl,hq⟩)]
  omega
theorem rpB_spans {c : Conf} {l : List Page} : ∀ {m f i : Nat},l.length - i ≤ m → l.length ≤ i + f → rpB c l f i 0 = spansB c l f i := by
 intro m
 induction m with
 | zero =>
  intro f i hm hf
  rw [rpB_past (by omega)]
  cases f with
  | zero => rw [spansB,decide_eq_true (by omega)]
  | succ f => rw [spansB,if_neg (by omega)]
 | succ m ih =>
  intro f i hm hf
  by_cases hi : i < l.length
  rotate_left
  ·exact ih (by omega) hf
  have hp := getD_at hi
  rw [rpB_step hi hf,spansB_step hi hf]
  generalize hpe : l.getD i default = p at hp
  have hone : ∀ (b : Bool),rdue c l i 0 = 0 → decide (rchk c l i 0) = b → spanN c l i = (if b = true then 1 else 0) → (decide (rchk c l i 0) && rpB c l (f - 1) (i + 1) (rdue c l i 0)) = (if spanN c l i = 0 then false else spansB c l (f - 1) (i + spanN c l i)) := by
   intro b h1 h2 h3
   rw [h1,h2,h3,ih (by omega) (by omega)]
   cases b <;> simp
  by_cases hk2 : p.kind = 2
  rotate_left
  ·have hd : rdue c l i 0 = 0 := by unfold rdue; rw [hpe,if_neg hk2]; omega
   by_cases hk0 : p.kind = 0
   ·refine hone (freeB p) hd ?_ (by rw [spanN,hp]; simp only [hk0,if_true])
    rw [Bool.eq_iff_iff]
    simp only [decide_eq_true_eq,freeB]
    unfold rchk
    rw [hpe]
    obtain ⟨a,b,u,v⟩ := p
    simp only [Page.mk.injEq] at hk0 hk2 ⊢
    omega
   ·by_cases hk1 : p.kind = 1
    ·refine hone (smallB p c) hd ?_ (by rw [spanN,hp]; simp [hk1])
     rw [Bool.eq_iff_iff]
     simp only [decide_eq_true_eq,smallB,spacedB,pinnedB,Bool.and_eq_true,Bool.or_eq_true,beq_iff_eq]
     unfold rchk
     rw [hpe]
     omega
    ·refine hone false hd ?_ (by rw [spanN,hp]; simp [hk0,hk1,hk2])
     simp only [decide_eq_false_iff_not]
     unfold rchk
     rw [hpe]
     omega
  ·have hd : rdue c l i 0 = need c p.used - 1 := by unfold rdue; rw [hpe,if_pos hk2]
   have hrc : rchk c l i 0 ↔ largeB p c = true ∧ need c p.used - 1 ≤ tailRun p.space (l.drop (i + 1)) := by
    simp only [largeB,spacedB,pinnedB,Bool.and_eq_true,Bool.or_eq_true,beq_iff_eq,decide_eq_true_eq]
    unfold rchk
    rw [hpe]
    omega
   have hsp : spanN c l i = (if largeB p c = true then (if (need c p.used).toNat ≤ l.length - i ∧ tailsB p ((l.drop (i + 1)).take ((need c p.used).toNat - 1)) = true then (need c p.used).toNat else 0) else 0) := by
    rw [spanN,hp]; simp [hk2]
   by_cases hl : largeB p c = true
   ·have hn : 1 ≤ need c p.used ∧ (p.space = 0 ∨ p.space = 1) := by
     simp only [largeB,spacedB,pinnedB,Bool.and_eq_true,Bool.or_eq_true,beq_iff_eq,decide_eq_true_eq] at hl
     omega
    have htl := tailRun_le p.space (l.drop (i + 1))
    rw [List.length_drop] at htl
    rw [hsp,if_pos hl,hd]
    by_cases ht : need c p.used - 1 ≤ tailRun p.space (l.drop (i + 1))
    ·rw [decide_eq_true (hrc.2 ⟨hl,ht⟩),Bool.true_and]
     have e : need c p.used - 1 = (((need c p.used).toNat - 1 : Nat) : Int) := by omega
     rw [e,rpB_tails hn.2 p rfl _ _ _ (by omega) (by omega) (by omega)]
     have hfit : (need c p.used).toNat ≤ l.length - i := by omega
     cases htb : tailsB p ((l.drop (i + 1)).take ((need c p.used).toNat - 1)) with
     | false => simp
     | true =>
      simp only [hfit,and_self,if_true]
      rw [if_neg (by omega),Bool.true_and,ih (by omega) (by omega),show i + 1 + ((need c p.used).toNat - 1) = i + (need c p.used).toNat from by omega]
      exact spansB_fuel (m := l.length) (by omega) (by omega) (by omega)
    ·rw [decide_eq_false (fun h => ht (hrc.1 h).2),Bool.false_and]
     have hno : ¬ ((need c p.used).toNat ≤ l.length - i ∧ tailsB p ((l.drop (i + 1)).take ((need c p.used).toNat - 1)) = true) := by
      intro h
      have := tailRun_of_tails (sp := p.space) (q := p) rfl h.2 (by rw [List.length_drop]; omega)
      omega
     rw [if_neg hno]
     simp
   ·rw [hsp,if_neg hl,decide_eq_false (fun h => hl (hrc.1 h).1)]
    simp
theorem pageAt_getD (l : List Page) (i : Int) : pageAt l i = l.getD i.toNat default := by
 rw [pageAt,List.getD_eq_getElem?_getD]; rfl
theorem properB_iff {h : Heap} : properB h = true ↔ validB h.conf = true ∧ (h.words.length : Int) = h.conf.pw * h.conf.pg ∧ (h.pages.length : Int) = h.conf.pg ∧ (h.space = 0 ∨ h.space = 1) ∧
  (h.bump = -1 ∨ (0 ≤ h.bump ∧ h.bump < h.pages.length ∧ (h.pages.getD h.bump.toNat default).kind = 1)) ∧ rpB h.conf h.pages h.pages.length 0 0 = true := by
 rw [rpB_spans (m := h.pages.length) (by omega) (by omega)]
 simp only [properB,Bool.and_eq_true,shapeB_iff,bumpB,Bool.or_eq_true,beq_iff_eq,decide_eq_true_eq,pageAt_getD]
 constructor
 ·rintro ⟨⟨h1,h2,h3,h4⟩,h5,h6⟩
  exact ⟨h1,h2,h3,h4,by omega,h6⟩
 ·rintro ⟨h1,h2,h3,h4,h5,h6⟩
  exact ⟨⟨h1,h2,h3,h4⟩,by omega,h6⟩
def WOk (ws : List Int) : Prop := ∀ w ∈ ws,0 ≤ w ∧ w ≤ 18446744073709551615
theorem proper_ok {h : Heap} (hp : properB h = true) : validB h.conf = true ∧ 16 ≤ h.conf.pw ∧ h.conf.pw ≤ 64 ∧ 8 ≤ h.conf.pg ∧ h.conf.pg ≤ 64 ∧ (h.words.length : Int) = h.conf.pw * h.conf.pg ∧ h.words.length ≤ 4096 ∧ (h.pages.length : Int) = h.conf.pg ∧ (h.space = 0 ∨ h.space = 1) := by
 simp only [properB,Bool.and_eq_true] at hp
 obtain ⟨h1,h2,h3,h4⟩ := shapeB_iff.1 hp.1
 have hv := validB_iff.1 h1
 have := area h1
 exact ⟨h1,hv.1,hv.2.1,hv.2.2.2.1,hv.2.2.2.2,h2,by omega,h3,h4⟩
theorem decodeH_ok {w : Int} (h : (decodeH w).2 = true) : validH (decodeH w).1 = true := by
 unfold decodeH at h ⊢
 split at h
 ·rename_i hc
  rw [if_pos hc]
  have := hc.1
  unfold encodeH at this
  split at this
  ·assumption
  ·simp at this
 ·cases h
def objW (hd : Header) : List Int := (encodeH hd).1 :: List.replicate hd.length.toNat 0
def initH (h : Heap) (a : Int) (hd : Header) : Heap × Int := if properB h = true ∧ validH hd = true then (if (writeA h.words a (objW hd)).2 = 0 then ({ h with words := (writeA h.words a (objW hd)).1 },0) else (noHeap,(writeA h.words a (objW hd)).2)) else (noHeap,1)
theorem encodeH_ok {hd : Header} (h : (encodeH hd).2 = 0) : validH hd = true ∧ 0 ≤ hd.length ∧ hd.length ≤ 255 := by
 unfold encodeH at h
 split at h
 ·rename_i hv
  have := validH_iff.1 hv
  exact ⟨hv,this.2.2.1,this.2.2.2.1⟩
 ·simp at h
theorem encodeH_val {hd : Header} (h : validH hd = true) : (encodeH hd).2 = 0 := by simp [encodeH,h]
theorem initH_bad {h : Heap} {a : Int} {hd : Header} (e : properB h = false ∨ ¬ (encodeH hd).2 = 0) : initH h a hd = (noHeap,1) := by
 unfold initH
 rw [if_neg]
 rintro ⟨h1,h2⟩
 rcases e with e | e
 ·rw [h1] at e; cases e
 ·exact e (encodeH_val h2)
def freeK (l : List Page) (i k : Nat) : Bool := (List.range k).all fun j => (l.getD (i + j) default).kind == 0
theorem freeK_iff {l : List Page} {i k : Nat} : freeK l i k = true ↔ ∀ j,j < k → (l.getD (i + j) default).kind = 0 := by
 simp [freeK]
def tookP (l : List Page) (i k : Nat) (p q : Page) : List Page := (wr l (List.replicate k q) i k).set i p
def takeP (l : List Page) (i : Int) (k : Int) (p q : Page) : List Page × Int := if 0 ≤ i ∧ i < l.length ∧ k ≤ l.length - i then (if freeK l i.toNat k.toNat = true then (tookP l i.toNat k.toNat p q,0) else ([],20)) else ([],2)
theorem flat_pages (l : List Page) : FlatEls (l.map Page.dv) := by
 intro e he x hx
 obtain ⟨y,_,rfl⟩ := List.mem_map.1 he
 simp [Page.dv] at hx
 rcases hx with rfl | rfl | rfl | rfl <;> exact ⟨_,rfl⟩
def smallP (l : List Page) (i sp : Int) : List Page × Int := if 0 ≤ sp ∧ sp ≤ 1 then takeP l i 1 ⟨1,sp,0,0⟩ ⟨0,0,0,0⟩ else ([],1)
def largeP (c : Conf) (l : List Page) (i sp n : Int) : List Page × Int := if 1 ≤ need c n ∧ 0 ≤ sp ∧ sp ≤ 1 then takeP l i (need c n) ⟨2,sp,n,0⟩ ⟨3,sp,0,0⟩ else ([],1)
structure Run where
 frm : Int
 len : Int
 deriving DecidableEq,Inhabited
def Run.dv (r : Run) : List DV := [dint r.frm,dint r.len]
def runsV (l : List Run) : AV := .d (.sl 2 (l.map Run.dv))
def lastRun (out : List Run) : Run := out.getLast?.getD ⟨0,0⟩
def runsStep (out : List Run) (i : Int) (p : Page) : List Run :=
 if p.kind = 0 then (if out ≠ [] ∧ (lastRun out).frm + (lastRun out).len = i then out.dropLast ++ [⟨(lastRun out).frm,(lastRun out).len + 1⟩] else out ++ [⟨i,1⟩]) else out
def runsUp (l : List Page) : Nat → List Run
 | 0 => []
 | i + 1 => runsStep (runsUp l i) i (pageAt l i)
theorem lastRun_at {out : List Run} (h : out ≠ []) : out[out.length - 1]? = some (lastRun out) := by
 rw [← List.getLast?_eq_getElem?,lastRun,List.getLast?_eq_some_getLast h]
 rfl
theorem runsUp_ok (l : List Page) : ∀ i,(runsUp l i).length ≤ i ∧ ∀ r ∈ runsUp l i,0 ≤ r.frm ∧ 1 ≤ r.len ∧ r.frm + r.len ≤ i
 | 0 => ⟨by simp [runsUp],by simp [runsUp]⟩
 | i + 1 => by
  obtain ⟨h1,h2⟩ := runsUp_ok l i
  simp only [runsUp,runsStep]
  split
  ·split
   ·rename_i hc
    have hl := h2 _ (List.mem_of_getElem? (lastRun_at hc.1))
    have hp : 0 < (runsUp l i).length := List.length_pos_iff.2 hc.1
    refine ⟨by simp; omega,fun r hr => ?_⟩
    rcases List.mem_append.1 hr with hr | hr
    ·have := h2 r (List.dropLast_subset _ hr)
     omega
    ·simp at hr; subst hr; simp only; omega
   ·refine ⟨by simp; omega,fun r hr => ?_⟩
    rcases List.mem_append.1 hr with hr | hr
    ·have := h2 r hr; omega
    ·simp at hr; subst hr; simp only; omega
  ·refine ⟨by omega,fun r hr => ?_⟩
   have := h2 r hr
   omega
theorem map_at {out : List Run} {i : Nat} {r : Run} (h : out[i]? = some r) : (out.map Run.dv)[i]? = some r.dv := by simp [h]
theorem set_last {out : List Run} (h : out ≠ []) (r : Run) : (out.map Run.dv).set (out.length - 1) r.dv = (out.dropLast ++ [r]).map Run.dv := by
 obtain ⟨a,b,rfl⟩ : ∃ a b,out = a ++ [b] := ⟨out.dropLast,out.getLast h,(List.dropLast_concat_getLast h).symm⟩
 simp
def runsL (l : List Page) (i : Nat) : Tg := ⟨tm 54 [(3,.ow 16003),(7,pagesV l),(8,int l.length),(9,int i)],[(16003,.arr 106 2 ((runsUp l i).map Run.dv))],20⟩
theorem runsRound_used (l : List Page) (hl : l.length ≤ 1048576) (i : Nat) (p : Page) (hp : l[i]? = some p) (hk : p.kind ≠ 0) : CSpec Try.prog (rndF Try.f62 0) (runsL l i).st .nrm (runsL l (i + 1)).st := by
 have hi : i < l.length := (List.getElem?_eq_some_iff.1 hp).1
 obtain ⟨o1,o2⟩ := runsUp_ok l i
 have e : runsL l (i + 1) = ⟨tm 54 [(3,.ow 16003),(7,pagesV l),(8,int l.length),(9,int ((i + 1 : Nat) : Int))],[(16003,.arr 106 2 ((runsUp l i).map Run.dv))],20⟩ := by
  have hpa : pageAt l i = p := by simp [pageAt,hp]
  rw [runsL,runsUp,runsStep,hpa,if_neg hk]
 rw [e]
 refine stretchR [(10,[.br true]),(12,[.el p.dv]),(15,[.int (runsUp l i).length]),(16,[.int ((runsUp l i).length - 1 : Int)]),(25,[.br true]),(52,[.int ((i + 1 : Nat) : Int)])] [] [] (φ := decide ((↑i : Int) < (↑l.length : Int)) = true ∧ true = true ∧ ((0 : Int) ≤ (↑i : Int) ∧ (List.map Page.dv l)[(↑i : Int).toNat]? = some p.dv) ∧ (↑(List.map Run.dv (runsUp l i)).length : Int) = (↑(runsUp l i).length : Int) ∧ IntKind.i64.wrap ((↑(runsUp l i).length : Int) - (1 : Int)) = (↑(runsUp l i).length : Int) - (1 : Int) ∧ (p.kind != (0 : Int)) = true ∧ IntKind.i64.wrap ((↑i : Int) + (1 : Int)) = (↑(i + (1 : Nat)) : Int)) ?_ (by kernel_rfl) (by kernel_rfl) (by kernel_rfl)
 exact ⟨decide_eq_true (by omega),rfl,⟨by omega,pages_at hp⟩,by rw [List.length_map],wrapI (by omega) (by omega),by simp [hk],wrapI (by omega) (by omega)⟩
theorem runsRound_more (l : List Page) (hl : l.length ≤ 1048576) (i : Nat) (p : Page) (hp : l[i]? = some p) (hk : p.kind = 0) (ho : runsUp l i ≠ []) (hm : (lastRun (runsUp l i)).frm + (lastRun (runsUp l i)).len = i) : CSpec Try.prog (rndF Try.f62 0) (runsL l i).st .nrm (runsL l (i + 1)).st := by
 have hi : i < l.length := (List.getElem?_eq_some_iff.1 hp).1
 obtain ⟨o1,o2⟩ := runsUp_ok l i
 have hlast := o2 _ (List.mem_of_getElem? (lastRun_at ho))
 have hpos : 0 < (runsUp l i).length := List.length_pos_iff.2 ho
 have e : runsUp l (i + 1) = (runsUp l i).dropLast ++ [⟨(lastRun (runsUp l i)).frm,(lastRun (runsUp l i)).len + 1⟩] := by
  have hpa : pageAt l i = p := by simp [pageAt,hp]
  rw [runsUp,runsStep,hpa,if_pos hk,if_pos ⟨ho,hm⟩]
 refine stretchR [(10,[.br true]),(12,[.el p.dv]),(15,[.int (runsUp l i).length]),(16,[.int ((runsUp l i).length - 1 : Int)]),(25,[.br false]),(34,[.el (lastRun (runsUp l i)).dv]),(39,[.el (lastRun (runsUp l i)).dv]),(40,[.int i]),(43,[.br true]),(48,[.el (lastRun (runsUp l i)).dv]),(49,[.int ((lastRun (runsUp l i)).len + 1)]),(10051,[.el (lastRun (runsUp l i)).dv,.els ((runsUp l (i + 1)).map Run.dv)]),(52,[.int ((i + 1 : Nat) : Int)])] [] [] (φ := decide ((↑i : Int) < (↑l.length : Int)) = true ∧ true = true ∧ ((0 : Int) ≤ (↑i : Int) ∧ (List.map Page.dv l)[(↑i : Int).toNat]? = some p.dv) ∧ (↑(List.map Run.dv (runsUp l i)).length : Int) = (↑(runsUp l i).length : Int) ∧ IntKind.i64.wrap ((↑(runsUp l i).length : Int) - (1 : Int)) = (↑(runsUp l i).length : Int) - (1 : Int) ∧ (p.kind != (0 : Int)) = false ∧ (decide ((0 : Int) ≤ (↑(runsUp l i).length : Int) - (1 : Int)) = true → (0 : Int) ≤ (↑(runsUp l i).length : Int) - (1 : Int) ∧ ((↑(runsUp l i).length : Int) - (1 : Int)).toNat < (List.map Run.dv (runsUp l i)).length) ∧ (decide ((0 : Int) ≤ (↑(runsUp l i).length : Int) - (1 : Int)) = true → (List.map Run.dv (runsUp l i))[((↑(runsUp l i).length : Int) - (1 : Int)).toNat]? = some (lastRun (runsUp l i)).dv) ∧ (decide ((0 : Int) ≤ (↑(runsUp l i).length : Int) - (1 : Int)) = true → (0 : Int) ≤ (↑(runsUp l i).length : Int) - (1 : Int) ∧ ((↑(runsUp l i).length : Int) - (1 : Int)).toNat < (List.map Run.dv (runsUp l i)).length) ∧ (decide ((0 : Int) ≤ (↑(runsUp l i).length : Int) - (1 : Int)) = true → (List.map Run.dv (runsUp l i))[((↑(runsUp l i).length : Int) - (1 : Int)).toNat]? = some (lastRun (runsUp l i)).dv) ∧ (decide ((0 : Int) ≤ (↑(runsUp l i).length : Int) - (1 : Int)) = true → IntKind.i64.wrap ((lastRun (runsUp l i)).frm + (lastRun (runsUp l i)).len) = (↑i : Int)) ∧ (decide ((0 : Int) ≤ (↑(runsUp l i).length : Int) - (1 : Int)) && (↑i : Int) == (↑i : Int)) = true ∧ ((0 : Int) ≤ (↑(runsUp l i).length : Int) - (1 : Int) ∧ ((↑(runsUp l i).length : Int) - (1 : Int)).toNat < (List.map Run.dv (runsUp l i)).length) ∧ (List.map Run.dv (runsUp l i))[((↑(runsUp l i).length : Int) - (1 : Int)).toNat]? = some (lastRun (runsUp l i)).dv ∧ IntKind.i64.wrap ((lastRun (runsUp l i)).len + (1 : Int)) = (lastRun (runsUp l i)).len + (1 : Int) ∧ ((0 : Int) ≤ (↑(runsUp l i).length : Int) - (1 : Int) ∧ ((↑(runsUp l i).length : Int) - (1 : Int)).toNat < (List.map Run.dv (runsUp l i)).length) ∧ (List.map Run.dv (runsUp l i))[((↑(runsUp l i).length : Int) - (1 : Int)).toNat]? = some (lastRun (runsUp l i)).dv ∧ (List.map Run.dv (runsUp l i)).set ((↑(runsUp l i).length : Int) - (1 : Int)).toNat (spliceD (lastRun (runsUp l i)).dv ((0 : Nat) + #[Field.mk "From" (3 : Nat) (0 : Nat) false "" "" (0 : Nat),Field.mk "Len" (3 : Nat) (1 : Nat) false "" "" (8 : Nat)][(1 : Nat)].3) [dint ((lastRun (runsUp l i)).len + (1 : Int))]) = List.map Run.dv (runsUp l (i + (1 : Nat))) ∧ IntKind.i64.wrap ((↑i : Int) + (1 : Int)) = (↑(i + (1 : Nat)) : Int)) ?_ (by kernel_rfl) (by kernel_rfl) (by kernel_rfl)
 have hidx : 0 ≤ ((runsUp l i).length : Int) - 1 ∧ (((runsUp l i).length : Int) - 1).toNat < (List.map Run.dv (runsUp l i)).length := by rw [List.length_map]; omega
 have hat : (List.map Run.dv (runsUp l i))[(((runsUp l i).length : Int) - 1).toNat]? = some (lastRun (runsUp l i)).dv := by
  rw [show (((runsUp l i).length : Int) - 1).toNat = (runsUp l i).length - 1 from by omega]
  exact map_at (lastRun_at ho)
 refine ⟨decide_eq_true (by omega),rfl,⟨by omega,pages_at hp⟩,by rw [List.length_map],wrapI (by omega) (by omega),by simp [hk],fun _ => hidx,fun _ => hat,fun _ => hidx,fun _ => hat,fun _ => by rw [hm]; exact wrapI (by omega) (by omega),by simp; omega,hidx,hat,wrapI (by omega) (by omega),hidx,hat, ?_,wrapI (by omega) (by omega)⟩
 rw [e,← set_last ho,show (((runsUp l i).length : Int) - 1).toNat = (runsUp l i).length - 1 from by omega]
 rfl
theorem runsRound_new (l : List Page) (hl : l.length ≤ 1048576) (i : Nat) (p : Page) (hp : l[i]? = some p) (hk : p.kind = 0) (ho : ¬ (runsUp l i ≠ [] ∧ (lastRun (runsUp l i)).frm + (lastRun (runsUp l i)).len = i)) : CSpec Try.prog (rndF Try.f62 0) (runsL l i).st .nrm (runsL l (i + 1)).st := by
 have hi : i < l.length := (List.getElem?_eq_some_iff.1 hp).1
 obtain ⟨o1,o2⟩ := runsUp_ok l i
 have e : runsUp l (i + 1) = runsUp l i ++ [⟨i,1⟩] := by
  have hpa : pageAt l i = p := by simp [pageAt,hp]
  rw [runsUp,runsStep,hpa,if_pos hk,if_neg ho]
 refine stretchR [(10,[.br true]),(12,[.el p.dv]),(15,[.int (runsUp l i).length]),(16,[.int ((runsUp l i).length - 1 : Int)]),(25,[.br false]),(34,[.el (lastRun (runsUp l i)).dv]),(39,[.el (lastRun (runsUp l i)).dv]),(43,[.br false]),(21,[.els ((runsUp l (i + 1)).map Run.dv)]),(52,[.int ((i + 1 : Nat) : Int)])] [] [(200021,16003)] (φ := decide ((↑i : Int) < (↑l.length : Int)) = true ∧ true = true ∧ ((0 : Int) ≤ (↑i : Int) ∧ (List.map Page.dv l)[(↑i : Int).toNat]? = some p.dv) ∧ (↑(List.map Run.dv (runsUp l i)).length : Int) = (↑(runsUp l i).length : Int) ∧ IntKind.i64.wrap ((↑(runsUp l i).length : Int) - (1 : Int)) = (↑(runsUp l i).length : Int) - (1 : Int) ∧ (p.kind != (0 : Int)) = false ∧ (decide ((0 : Int) ≤ (↑(runsUp l i).length : Int) - (1 : Int)) = true → (0 : Int) ≤ (↑(runsUp l i).length : Int) - (1 : Int) ∧ ((↑(runsUp l i).length : Int) - (1 : Int)).toNat < (List.map Run.dv (runsUp l i)).length) ∧ (decide ((0 : Int) ≤ (↑(runsUp l i).length : Int) - (1 : Int)) = true → (List.map Run.dv (runsUp l i))[((↑(runsUp l i).length : Int) - (1 : Int)).toNat]? = some (lastRun (runsUp l i)).dv) ∧ (decide ((0 : Int) ≤ (↑(runsUp l i).length : Int) - (1 : Int)) = true → (0 : Int) ≤ (↑(runsUp l i).length : Int) - (1 : Int) ∧ ((↑(runsUp l i).length : Int) - (1 : Int)).toNat < (List.map Run.dv (runsUp l i)).length) ∧ (decide ((0 : Int) ≤ (↑(runsUp l i).length : Int) - (1 : Int)) = true → (List.map Run.dv (runsUp l i))[((↑(runsUp l i).length : Int) - (1 : Int)).toNat]? = some (lastRun (runsUp l i)).dv) ∧ (decide ((0 : Int) ≤ (↑(runsUp l i).length : Int) - (1 : Int)) && IntKind.i64.wrap ((lastRun (runsUp l i)).frm + (lastRun (runsUp l i)).len) == (↑i : Int)) = false ∧ (List.map Run.dv (runsUp l i)).length + ((List.replicate (1 : Nat) [dint (0 : Int),dint (0 : Int)]).set (0 : Nat) [dint (↑i : Int),dint (1 : Int)]).length ≤ (2 : Nat) ^ (30 : Nat) ∧ List.map Run.dv (runsUp l i) ++ (List.replicate (1 : Nat) [dint (0 : Int),dint (0 : Int)]).set (0 : Nat) [dint (↑i : Int),dint (1 : Int)] = List.map Run.dv (runsUp l (i + (1 : Nat))) ∧ IntKind.i64.wrap ((↑i : Int) + (1 : Int)) = (↑(i + (1 : Nat)) : Int)) ?_ (by kernel_rfl) (by kernel_rfl) (by kernel_rfl)
 have hne : decide (0 ≤ ((runsUp l i).length : Int) - 1) = true → runsUp l i ≠ [] := by
  intro hd h0
  rw [h0] at hd
  simp at hd
 have hidx : decide (0 ≤ ((runsUp l i).length : Int) - 1) = true → 0 ≤ ((runsUp l i).length : Int) - 1 ∧ (((runsUp l i).length : Int) - 1).toNat < (List.map Run.dv (runsUp l i)).length := by
  intro hd
  have := of_decide_eq_true hd
  rw [List.length_map]; omega
 have hat : decide (0 ≤ ((runsUp l i).length : Int) - 1) = true → (List.map Run.dv (runsUp l i))[(((runsUp l i).length : Int) - 1).toNat]? = some (lastRun (runsUp l i)).dv := by
  intro hd
  rw [show (((runsUp l i).length : Int) - 1).toNat = (runsUp l i).length - 1 from by omega]
  exact map_at (lastRun_at (hne hd))
 refine ⟨decide_eq_true (by omega),rfl,⟨by omega,pages_at hp⟩,by rw [List.length_map],wrapI (by omega) (by omega),by simp [hk],hidx,hat,hidx,hat, ?_,by rw [List.length_map]; simp; omega,by rw [e]; simp [Run.dv],wrapI (by omega) (by omega)⟩
 cases hd : decide (0 ≤ ((runsUp l i).length : Int) - 1) with
 | false => simp
 | true =>
  have h1 := hne hd
  have hlast := o2 _ (List.mem_of_getElem? (lastRun_at h1))
  rw [wrapI (by omega) (by omega)]
  simp
  intro hh
  exact ho ⟨h1,hh⟩
theorem runsRound (l : List Page) (hl : l.length ≤ 1048576) (i : Nat) (hi : i < l.length) : CSpec Try.prog (rndF Try.f62 0) (runsL l i).st .nrm (runsL l (i + 1)).st := by
 have hp := List.getElem?_eq_getElem hi
 by_cases hk : l[i].kind = 0
 ·by_cases ho : runsUp l i ≠ [] ∧ (lastRun (runsUp l i)).frm + (lastRun (runsUp l i)).len = i
  ·exact runsRound_more l hl i _ hp hk ho.1 ho.2
  ·exact runsRound_new l hl i _ hp hk ho
 ·exact runsRound_used l hl i _ hp hk
theorem runsEnd (l : List Page) : CSpec Try.prog (rndF Try.f62 0) (runsL l l.length).st (.ext 0) (Tg.st ⟨tm 54 [(3,.ow 16003)],[(16003,.arr 106 2 ((runsUp l l.length).map Run.dv))],60⟩) := by
 refine stretch [(10,[.br false])] [] (φ := decide ((↑l.length : Int) < (↑l.length : Int)) = false ∧ false = false) ?_ (by kernel_rfl) (by kernel_rfl) (by kernel_rfl)
 exact ⟨decide_eq_false (by omega),rfl⟩
def runs (l : List Page) : List Run := runsUp l l.length
theorem pageRuns (l : List Page) (hl : l.length ≤ 1048576) : GSpec Try.prog 62 [pagesV l] false (runsV (runs l)) [] := by
 refine gspec_of [(3,[.own]),(8,[.int l.length])] [(0,runsL l 0,.nrm,⟨tm 54 [(3,.ow 16003)],[(16003,.arr 106 2 ((runsUp l l.length).map Run.dv))],60⟩)] [] (by decide) Try.func62 (φ := (↑(List.map Page.dv l).length : Int) = (↑l.length : Int) ∧ CSpec Try.prog (blkF Try.f62 (0 : Nat)) (runsL l (0 : Nat)).st Ex.nrm (Tg.mk (tm (54 : Nat) [((3 : Nat),AV.ow (16003 : Nat))]) [((16003 : Nat),Blk.arr 106 (2 : Nat) (List.map Run.dv (runsUp l l.length)))] (60 : Nat)).st) ?_ (by kernel_rfl) (by kernel_rfl)
 exact ⟨by rw [List.length_map],loop_ext_of (S := fun i => (runsL l i).st) l.length (by kernel_rfl) (fun i hi => runsRound l hl i hi) (runsEnd l)⟩
theorem runs_at {l : List Run} {i : Nat} {p : Run} (h : l[i]? = some p) : (l.map Run.dv)[((i : Nat) : Int).toNat]? = some p.dv := by simp [h]
def inUseN (l : List Page) : Nat → Nat
 | 0 => 0
 | i + 1 => inUseN l i + (if (pageAt l i).kind = 0 then 0 else 1)
theorem inUseN_le (l : List Page) : ∀ i,inUseN l i ≤ i
 | 0 => Nat.le_refl _
 | i + 1 => by
  have := inUseN_le l i
  simp only [inUseN]
  split <;> omega
def inUse (l : List Page) : Nat := inUseN l l.length
def inUseL (l : List Page) (i : Nat) : Tg := ⟨tm 19 [(3,int (inUseN l i)),(6,pagesV l),(7,int l.length),(8,int i)],[],20⟩
theorem inUseRound (l : List Page) (hl : l.length ≤ 1048576) (i : Nat) (hi : i < l.length) : CSpec Try.prog (rndF Try.f52 0) (inUseL l i).st .nrm (inUseL l (i + 1)).st := by
 have hp := List.getElem?_eq_getElem hi
 have hle := inUseN_le l i
 have hpa : pageAt l i = l[i] := by simp [pageAt,hp]
 by_cases hk : l[i].kind = 0
 ·have e : inUseN l (i + 1) = inUseN l i := by rw [inUseN,hpa,if_pos hk]; rfl
  rw [show inUseL l (i + 1) = ⟨tm 19 [(3,int (inUseN l i)),(6,pagesV l),(7,int l.length),(8,int ((i + 1 : Nat) : Int))],[],20⟩ from by rw [inUseL,e]]
  refine stretch [(9,[.br true]),(10,[.el l[i].dv]),(14,[.br false]),(17,[.int ((i + 1 : Nat) : Int)])] [] (φ := decide ((↑i : Int) < (↑l.length : Int)) = true ∧ true = true ∧ ((0 : Int) ≤ (↑i : Int) ∧ (List.map Page.dv l)[(↑i : Int).toNat]? = some (l.get (Fin.mk i hi)).dv) ∧ ((l.get (Fin.mk i hi)).kind != (0 : Int)) = false ∧ false = false ∧ IntKind.i64.wrap ((↑i : Int) + (1 : Int)) = (↑(i + (1 : Nat)) : Int)) ?_ (by kernel_rfl) (by kernel_rfl) (by kernel_rfl)
  exact ⟨decide_eq_true (by omega),rfl,⟨by omega,pages_at hp⟩,by simp [hk],rfl,wrapI (by omega) (by omega)⟩
 ·have e : inUseN l (i + 1) = inUseN l i + 1 := by rw [inUseN,hpa,if_neg hk]
  refine stretch [(9,[.br true]),(10,[.el l[i].dv]),(14,[.br true]),(16,[.int (inUseN l (i + 1))]),(17,[.int ((i + 1 : Nat) : Int)])] [] (φ := decide ((↑i : Int) < (↑l.length : Int)) = true ∧ true = true ∧ ((0 : Int) ≤ (↑i : Int) ∧ (List.map Page.dv l)[(↑i : Int).toNat]? = some (l.get (Fin.mk i hi)).dv) ∧ ((l.get (Fin.mk i hi)).kind != (0 : Int)) = true ∧ true = true ∧ IntKind.i64.wrap ((↑(inUseN l i) : Int) + (1 : Int)) = (↑(inUseN l (i + (1 : Nat))) : Int) ∧ IntKind.i64.wrap ((↑i : Int) + (1 : Int)) = (↑(i + (1 : Nat)) : Int)) ?_ (by kernel_rfl) (by kernel_rfl) (by kernel_rfl)
  exact ⟨decide_eq_true (by omega),rfl,⟨by omega,pages_at hp⟩,by simp [hk],rfl,by rw [e]; exact wrapI (by omega) (by omega),wrapI (by omega) (by omega)⟩
theorem inUseEnd (l : List Page) : CSpec Try.prog (rndF Try.f52 0) (inUseL l l.length).st (.ext 0) (Tg.st ⟨tm 19 [(3,int (inUse l))],[],60⟩) := by
 refine stretch [(9,[.br false])] [] (φ := decide ((↑l.length : Int) < (↑l.length : Int)) = false ∧ false = false) ?_ (by kernel_rfl) (by kernel_rfl) (by kernel_rfl)
 exact ⟨decide_eq_false (by omega),rfl⟩
theorem pageInUse (l : List Page) (hl : l.length ≤ 1048576) : GSpec Try.prog 52 [pagesV l] true (int (inUse l)) [] := by
 refine gspec_of [(7,[.int l.length])] [(0,inUseL l 0,.nrm,⟨tm 19 [(3,int (inUse l))],[],60⟩)] [] (by decide) Try.func52 (φ := (↑(List.map Page.dv l).length : Int) = (↑l.length : Int) ∧ CSpec Try.prog (blkF Try.f52 (0 : Nat)) (inUseL l (0 : Nat)).st Ex.nrm (Tg.mk (tm (19 : Nat) [((3 : Nat),int (↑(inUse l) : Int))]) [] (60 : Nat)).st) ?_ (by kernel_rfl) (by kernel_rfl)
 exact ⟨by rw [List.length_map],loop_ext_of (S := fun i => (inUseL l i).st) l.length (by kernel_rfl) (fun i hi => inUseRound l hl i hi) (inUseEnd l)⟩
def rinUseL (l : List Page) (i : Nat) : Tg := ⟨tm 20 [(0,pagesV l),(3,int (inUseN l i)),(4,int i)],[],20⟩
theorem rinUseRound (l : List Page) (hl : l.length ≤ 1048576) (i : Nat) (hi : i < l.length) : CSpec Try.prog (rndF Try.f13 0) (rinUseL l i).st .nrm (rinUseL l (i + 1)).st := by
 have hp := List.getElem?_eq_getElem hi
 have hle := inUseN_le l i
 have hpa : pageAt l i = l[i] := by simp [pageAt,hp]
 by_cases hk : l[i].kind = 0
 ·have e : inUseN l (i + 1) = inUseN l i := by rw [inUseN,hpa,if_pos hk]; rfl
  rw [show rinUseL l (i + 1) = ⟨tm 20 [(0,pagesV l),(3,int (inUseN l i)),(4,int ((i + 1 : Nat) : Int))],[],20⟩ from by rw [rinUseL,e]]
  refine stretch [(7,[.int l.length]),(8,[.br true]),(13,[.el l[i].dv]),(16,[.br false]),(10,[.int ((i + 1 : Nat) : Int)])] [] (φ := (↑(List.map Page.dv l).length : Int) = (↑l.length : Int) ∧ decide ((↑i : Int) < (↑l.length : Int)) = true ∧ true = true ∧ ((0 : Int) ≤ (↑i : Int) ∧ (List.map Page.dv l)[(↑i : Int).toNat]? = some (l.get (Fin.mk i hi)).dv) ∧ ((l.get (Fin.mk i hi)).kind != (0 : Int)) = false ∧ false = false ∧ IntKind.i64.wrap ((↑i : Int) + (1 : Int)) = (↑(i + (1 : Nat)) : Int)) ?_ (by kernel_rfl) (by kernel_rfl) (by kernel_rfl)
  exact ⟨by rw [List.length_map],decide_eq_true (by omega),rfl,⟨by omega,pages_at hp⟩,by simp [hk],rfl,wrapI (by omega) (by omega)⟩
 ·have e : inUseN l (i + 1) = inUseN l i + 1 := by rw [inUseN,hpa,if_neg hk]
  refine stretch [(7,[.int l.length]),(8,[.br true]),(13,[.el l[i].dv]),(16,[.br true]),(18,[.int (inUseN l (i + 1))]),(10,[.int ((i + 1 : Nat) : Int)])] [] (φ := (↑(List.map Page.dv l).length : Int) = (↑l.length : Int) ∧ decide ((↑i : Int) < (↑l.length : Int)) = true ∧ true = true ∧ ((0 : Int) ≤ (↑i : Int) ∧ (List.map Page.dv l)[(↑i : Int).toNat]? = some (l.get (Fin.mk i hi)).dv) ∧ ((l.get (Fin.mk i hi)).kind != (0 : Int)) = true ∧ true = true ∧ IntKind.i64.wrap ((↑(inUseN l i) : Int) + (1 : Int)) = (↑(inUseN l (i + (1 : Nat))) : Int) ∧ IntKind.i64.wrap ((↑i : Int) + (1 : Int)) = (↑(i + (1 : Nat)) : Int)) ?_ (by kernel_rfl) (by kernel_rfl) (by kernel_rfl)
  exact ⟨by rw [List.length_map],decide_eq_true (by omega),rfl,⟨by omega,pages_at hp⟩,by simp [hk],rfl,by rw [e]; exact wrapI (by omega) (by omega),wrapI (by omega) (by omega)⟩
theorem rinUseEnd (l : List Page) : CSpec Try.prog (rndF Try.f13 0) (rinUseL l l.length).st (.ext 0) (Tg.st ⟨tm 20 [(3,int (inUse l))],[],60⟩) := by
 refine stretch [(7,[.int l.length]),(8,[.br false])] [] (φ := (↑(List.map Page.dv l).length : Int) = (↑l.length : Int) ∧ decide ((↑l.length : Int) < (↑l.length : Int)) = false ∧ false = false) ?_ (by kernel_rfl) (by kernel_rfl) (by kernel_rfl)
 exact ⟨by rw [List.length_map],decide_eq_false (by omega),rfl⟩
theorem refInUse (l : List Page) (hl : l.length ≤ 1048576) : GSpec Try.prog 13 [pagesV l] true (int (inUse l)) [] := by
 refine gspec_of [] [(0,rinUseL l 0,.nrm,⟨tm 20 [(3,int (inUse l))],[],60⟩)] [] (by decide) Try.func13 (φ := CSpec Try.prog (blkF Try.f13 (0 : Nat)) (rinUseL l (0 : Nat)).st Ex.nrm (Tg.mk (tm (20 : Nat) [((3 : Nat),int (↑(inUse l) : Int))]) [] (60 : Nat)).st) ?_ (by kernel_rfl) (by kernel_rfl)
 exact loop_ext_of (S := fun i => (rinUseL l i).st) l.length (by kernel_rfl) (fun i hi => rinUseRound l hl i hi) (rinUseEnd l)
def firstOf : List Run → Int → Int
 | [],_ => -1
 | r :: l,k => if k ≤ r.len then r.frm else firstOf l k
def first (l : List Page) (k : Int) : Int := if k < 1 then -1 else firstOf (runs l) k
theorem firstOf_none : ∀ {l : List Run} {k : Int},(l.all fun r => decide (r.len < k)) = true → firstOf l k = -1
 | [],_,_ => rfl
 | r :: l,k,h => by
  simp only [List.all_cons,Bool.and_eq_true,decide_eq_true_eq] at h
  rw [firstOf,if_neg (by omega),firstOf_none h.2]
theorem firstOf_some : ∀ {l : List Run} {k : Int} {j : Nat} {r : Run},l[j]? = some r → k ≤ r.len → (∀ i : Nat,i < j → ∃ y,l[i]? = some y ∧ decide (y.len < k) = true) → firstOf l k = r.frm
 | [],_,_,_,h,_,_ => by simp at h
 | x :: l,k,0,r,h,hr,_ => by
  simp at h; subst h
  rw [firstOf,if_pos hr]
 | x :: l,k,j + 1,r,h,hr,hb => by
  obtain ⟨y,h1,h2⟩ := hb 0 (by omega)
  simp at h1 h2; subst h1
  rw [firstOf,if_neg (by omega)]
  exact firstOf_some (by simpa using h) hr fun i hi => by
   obtain ⟨z,h3,h4⟩ := hb (i + 1) (by omega)
   exact ⟨z,by simpa using h3,h4⟩
theorem runs_len {l : List Page} : (runs l).length ≤ l.length := (runsUp_ok l l.length).1
def firstL (rs : List Run) (k : Int) (i : Nat) : Tg := ⟨tm 23 [(1,int k),(4,int 0),(10,runsV rs),(11,int rs.length),(12,int i)],[],20⟩
theorem firstRound (rs : List Run) (k : Int) (i : Nat) (r : Run) (hl : rs.length ≤ 1048576) (hr : rs[i]? = some r) (hk : r.len < k) : CSpec Try.prog (rndF Try.f53 0) (firstL rs k i).st .nrm (firstL rs k (i + 1)).st := by
 have hi : i < rs.length := (List.getElem?_eq_some_iff.1 hr).1
 refine stretch [(13,[.br true]),(14,[.el r.dv]),(19,[.br false]),(22,[.int ((i + 1 : Nat) : Int)])] [] (φ := decide ((↑i : Int) < (↑rs.length : Int)) = true ∧ true = true ∧ ((0 : Int) ≤ (↑i : Int) ∧ (List.map Run.dv rs)[(↑i : Int).toNat]? = some r.dv) ∧ decide (k ≤ r.len) = false ∧ false = false ∧ IntKind.i64.wrap ((↑i : Int) + (1 : Int)) = (↑(i + (1 : Nat)) : Int)) ?_ (by kernel_rfl) (by kernel_rfl) (by kernel_rfl)
 exact ⟨decide_eq_true (by omega),rfl,⟨by omega,runs_at hr⟩,decide_eq_false (by omega),rfl,wrapI (by omega) (by omega)⟩
theorem firstFound (rs : List Run) (k : Int) (i : Nat) (r : Run) (hr : rs[i]? = some r) (hk : k ≤ r.len) : CSpec Try.prog (rndF Try.f53 0) (firstL rs k i).st .ret (Tg.st ⟨tm 23 [(4,int r.frm)],[],60⟩) := by
 have hi : i < rs.length := (List.getElem?_eq_some_iff.1 hr).1
 refine stretch [(13,[.br true]),(14,[.el r.dv]),(19,[.br true])] [] (φ := decide ((↑i : Int) < (↑rs.length : Int)) = true ∧ true = true ∧ ((0 : Int) ≤ (↑i : Int) ∧ (List.map Run.dv rs)[(↑i : Int).toNat]? = some r.dv) ∧ decide (k ≤ r.len) = true ∧ true = true) ?_ (by kernel_rfl) (by kernel_rfl) (by kernel_rfl)
 exact ⟨decide_eq_true (by omega),rfl,⟨by omega,runs_at hr⟩,decide_eq_true (by omega),rfl⟩
theorem firstEnd (rs : List Run) (k : Int) : CSpec Try.prog (rndF Try.f53 0) (firstL rs k rs.length).st (.ext 0) (Tg.st ⟨tm 23 [],[],60⟩) := by
 refine stretch [(13,[.br false])] [] (φ := decide ((↑rs.length : Int) < (↑rs.length : Int)) = false ∧ false = false) ?_ (by kernel_rfl) (by kernel_rfl) (by kernel_rfl)
 exact ⟨decide_eq_false (by omega),rfl⟩
theorem pageFirst (l : List Page) (k : Int) (hl : l.length ≤ 1048576) : GSpec Try.prog 53 [pagesV l,int k] true (int (first l k)) [] := by
 by_cases hk : k < 1
 ·rw [first,if_pos hk]
  refine gspec_of [(8,[.br true])] [] [] (by decide) Try.func53 (φ := decide (k < (1 : Int)) = true ∧ true = true) ?_ (by kernel_rfl) (by kernel_rfl)
  exact ⟨decide_eq_true hk,rfl⟩
 ·rw [first,if_neg hk]
  have hrl := runs_len (l := l)
  cases ha : (runs l).all fun r => decide (r.len < k) with
  | true =>
   rw [firstOf_none ha]
   refine gspec_of [(8,[.br false]),(10,[.call false (runsV (runs l)) []]),(11,[.int (runs l).length])] [(0,firstL (runs l) k 0,.nrm,⟨tm 23 [],[],60⟩)] [] (by decide) Try.func53 (φ := decide (k < (1 : Int)) = false ∧ false = false ∧ GSpec Try.prog 62 [AV.d (DV.sl (4 : Nat) (List.map Page.dv l))] false (runsV (runs l)) [] ∧ (↑(List.map Run.dv (runs l)).length : Int) = (↑(runs l).length : Int) ∧ CSpec Try.prog (blkF Try.f53 (0 : Nat)) (firstL (runs l) k (0 : Nat)).st Ex.nrm (Tg.mk (tm (23 : Nat) []) [] (60 : Nat)).st) ?_ (by kernel_rfl) (by kernel_rfl)
   refine ⟨decide_eq_false hk,rfl,pageRuns l hl,by rw [List.length_map],loop_ext_of (S := fun i => (firstL (runs l) k i).st) (runs l).length (by kernel_rfl) (fun i hi => ?_) (firstEnd _ _)⟩
   have := List.all_eq_true.1 ha _ (List.getElem_mem hi)
   exact firstRound _ k i _ (by omega) (List.getElem?_eq_getElem hi) (by simpa using this)
  | false =>
   obtain ⟨j,r,h1,h2,h3⟩ := first_bad ha
   have hr : k ≤ r.len := by simpa using h2
   rw [firstOf_some h1 hr h3]
   refine gspec_of [(8,[.br false]),(10,[.call false (runsV (runs l)) []]),(11,[.int (runs l).length])] [(0,firstL (runs l) k 0,.ret,⟨tm 23 [(4,int r.frm)],[],60⟩)] [] (by decide) Try.func53 (φ := decide (k < (1 : Int)) = false ∧ false = false ∧ GSpec Try.prog 62 [AV.d (DV.sl (4 : Nat) (List.map Page.dv l))] false (runsV (runs l)) [] ∧ (↑(List.map Run.dv (runs l)).length : Int) = (↑(runs l).length : Int) ∧ CSpec Try.prog (blkF Try.f53 (0 : Nat)) (firstL (runs l) k (0 : Nat)).st Ex.ret (Tg.mk (tm (23 : Nat) [((4 : Nat),int r.frm)]) [] (60 : Nat)).st) ?_ (by kernel_rfl) (by kernel_rfl)
   refine ⟨decide_eq_false hk,rfl,pageRuns l hl,by rw [List.length_map],loop_ret_of (S := fun i => (firstL (runs l) k i).st) j (by kernel_rfl) (fun i hi => ?_) (firstFound _ k j r h1 hr)⟩
   obtain ⟨y,h4,h5⟩ := h3 i hi
   exact firstRound _ k i y (by omega) h4 (by simpa using h5)
theorem runsUp_free (l : List Page) : ∀ i,∀ r ∈ runsUp l i,∀ j : Int,r.frm ≤ j → j < r.frm + r.len → (l.getD j.toNat default).kind = 0
 | 0 => by simp [runsUp]
 | i + 1 => by
  have ih := runsUp_free l i
  have ok := (runsUp_ok l i).2
  intro r hr j h1 h2
  simp only [runsUp,runsStep] at hr
  have hpa : pageAt l i = l.getD i default := by rw [pageAt_getD]; simp
  split at hr
  ·rename_i hk
   rw [hpa] at hk
   split at hr
   ·rename_i hc
    have hmem := List.mem_of_getElem? (lastRun_at hc.1)
    rcases List.mem_append.1 hr with hr | hr
    ·exact ih r (List.dropLast_subset _ hr) j h1 h2
    ·simp at hr; subst hr
     simp only at h1 h2
     by_cases hj : j = i
     ·subst hj; simpa using hk
     ·exact ih _ hmem j h1 (by omega)
   ·rcases List.mem_append.1 hr with hr | hr
    ·exact ih r hr j h1 h2
    ·simp at hr; subst hr
     simp only at h1 h2
     have : j = i := by omega
     subst this; simpa using hk
  ·exact ih r hr j h1 h2
theorem firstOf_mem : ∀ {l : List Run} {k : Int},0 ≤ firstOf l k → ∃ r ∈ l,firstOf l k = r.frm ∧ k ≤ r.len
 | [],_,h => by simp [firstOf] at h
 | r :: l,k,h => by
  rw [firstOf] at h ⊢
  split
  ·exact ⟨r,by simp,rfl,‹_›⟩
  ·rename_i hk
   rw [if_neg hk] at h
   obtain ⟨x,hx,h1,h2⟩ := firstOf_mem h
   exact ⟨x,by simp [hx],h1,h2⟩
theorem first_free {l : List Page} {k : Int} (h : 0 ≤ first l k) : 1 ≤ k ∧ first l k + k ≤ l.length ∧ freeK l (first l k).toNat k.toNat = true := by
 unfold first at h ⊢
 split at h
 ·omega
 ·rename_i hk
  rw [if_neg hk]
  obtain ⟨r,hr,h1,h2⟩ := firstOf_mem h
  have ok := (runsUp_ok l l.length).2 r hr
  rw [h1] at h ⊢
  refine ⟨by omega,by omega,freeK_iff.2 fun j hj => ?_⟩
  have := runsUp_free l l.length r hr (r.frm + j) (by omega) (by omega)
  rwa [show (r.frm + (j : Int)).toNat = r.frm.toNat + j from by omega] at this
theorem rpB_all {c : Conf} {l : List Page} : ∀ {f i : Nat} {due : Int},0 ≤ due → rpB c l f i due = true → l.length ≤ i + f → ∀ j,i ≤ j → j < l.length → ∃ d,0 ≤ d ∧ rchk c l j d := by
 intro f
 induction f with
 | zero => intro i due _ _ hl j h1 h2; omega
 | succ f ih =>
  intro i due hd hr hl j h1 h2
  rw [rpB,if_pos (by omega),Bool.and_eq_true] at hr
  have hc := of_decide_eq_true hr.1
  by_cases hj : j = i
  ·subst hj; exact ⟨due,hd,hc⟩
  ·refine ih ?_ hr.2 (by omega) j (by omega) h2
   unfold rdue
   split
   ·rename_i hk
    have := hc.2.2.2.2.2.2.2.2.2.1 hk
    omega
   ·omega
theorem proper_page {h : Heap} (hp : properB h = true) {j : Nat} (hj : j < h.pages.length) : 0 ≤ (h.pages.getD j default).space ∧ (h.pages.getD j default).space ≤ 1 ∧ 0 ≤ (h.pages.getD j default).pins ∧ (h.pages.getD j default).pins ≤ 2147483647 ∧
  0 ≤ (h.pages.getD j default).kind ∧ (h.pages.getD j default).kind ≤ 3 ∧ 0 ≤ (h.pages.getD j default).used ∧ (h.pages.getD j default).used ≤ 256 ∧ ((h.pages.getD j default).kind = 1 → (h.pages.getD j default).used ≤ h.conf.pw) := by
 have hi := properB_iff.1 hp
 have hv := validB_iff.1 hi.1
 obtain ⟨d,_,hc⟩ := rpB_all (by omega) hi.2.2.2.2.2 (by omega) j (by omega) hj
 unfold rchk at hc
 have hu : (h.pages.getD j default).kind = 2 → 1 ≤ (h.pages.getD j default).used ∧ (h.pages.getD j default).used ≤ 256 := by
  intro hk
  have hn := (hc.2.2.2.2.2.2.2.2.2.1 hk).1
  unfold need at hn
  split at hn
  ·omega
  ·omega
 omega
def asksH (c : Conf) (hd : Header) : Bool := validH hd && decide (hd.kind ≠ 0) && decide (need c (sizeH hd) ≠ -1)
def growP (l : List Page) (i : Nat) (n : Int) : List Page := l.set i ⟨(l.getD i default).kind,(l.getD i default).space,(l.getD i default).used + n,(l.getD i default).pins⟩
def fitsB (h : Heap) (n : Int) : Prop := 0 ≤ h.bump ∧ (h.pages.getD h.bump.toNat default).space = h.space ∧ (h.pages.getD h.bump.toNat default).used + n ≤ h.conf.pw ∧ (inUse h.pages : Int) ≤ limit h.conf
instance (h : Heap) (n : Int) : Decidable (fitsB h n) := by unfold fitsB; infer_instance
def freshP (h : Heap) : List Page := (smallP h.pages (first h.pages 1) h.space).1
def small7 (h : Heap) (n : Int) : Heap × Int × Bool :=
 if fitsB h n then (⟨h.conf,h.words,growP h.pages h.bump.toNat n,h.space,h.bump⟩,4096 + h.bump * h.conf.pw + (h.pages.getD h.bump.toNat default).used,true)
 else if 0 ≤ first h.pages 1 ∧ (inUse h.pages : Int) < limit h.conf then
  (⟨h.conf,h.words,growP (freshP h) (first h.pages 1).toNat n,h.space,first h.pages 1⟩,4096 + first h.pages 1 * h.conf.pw + ((freshP h).getD (first h.pages 1).toNat default).used,true)
 else (noHeap,0,false)
theorem tookP_len {l : List Page} {i k : Nat} {p q : Page} (h : i + k ≤ l.length) : (tookP l i k p q).length = l.length := by
 rw [tookP,List.length_set]
 exact wr_len (by simpa using h) (by simp)
theorem freshP_ok {h : Heap} (hs : h.space = 0 ∨ h.space = 1) (hf : 0 ≤ first h.pages 1) : freshP h = tookP h.pages (first h.pages 1).toNat 1 ⟨1,h.space,0,0⟩ ⟨0,0,0,0⟩ ∧ (freshP h).length = h.pages.length ∧ (first h.pages 1) < h.pages.length ∧
  ((freshP h).getD (first h.pages 1).toNat default) = ⟨1,h.space,0,0⟩ := by
 obtain ⟨_,h1,h2⟩ := first_free hf
 have e : freshP h = tookP h.pages (first h.pages 1).toNat 1 ⟨1,h.space,0,0⟩ ⟨0,0,0,0⟩ := by
  rw [freshP,smallP,if_pos (by omega),takeP,if_pos (by omega),if_pos h2]
  rfl
 have hl : (freshP h).length = h.pages.length := by rw [e]; exact tookP_len (by omega)
 refine ⟨e,hl,by omega, ?_⟩
 rw [e,tookP,List.getD_eq_getElem?_getD,List.getElem?_set,if_pos rfl,if_pos (by rw [wr_len (by simp; omega) (by simp)]; omega)]
 rfl
theorem limit_le {c : Conf} (hv : validB c = true) : 2 ≤ limit c ∧ limit c ≤ 16 := by
 have := validB_iff.1 hv
 rw [limit,if_pos hv,tdivI (by omega)]
 omega
theorem at_page {c : Conf} {i : Int} (hv : validB c = true) (h0 : 0 ≤ i) (h1 : i < c.pg) : 0 ≤ i * c.pw ∧ i * c.pw + c.pw ≤ 4096 := by
 have hb := validB_iff.1 hv
 have ha := area hv
 have h2 : 0 ≤ i * c.pw := Int.mul_nonneg h0 (by omega)
 have h3 : (i + 1) * c.pw ≤ c.pg * c.pw := Int.mul_le_mul_of_nonneg_right (by omega) (by omega)
 rw [Int.add_mul,Int.one_mul,Int.mul_comm c.pg] at h3
 omega
def large7 (h : Heap) (n k : Int) : Heap × Int × Bool :=
 if 0 ≤ first h.pages k ∧ inUse h.pages + k ≤ limit h.conf then (⟨h.conf,h.words,(largeP h.conf h.pages (first h.pages k) h.space n).1,h.space,h.bump⟩,4096 + first h.pages k * h.conf.pw,true) else (noHeap,0,false)
def put7 (h : Heap) (hd : Header) : Heap × Int × Bool := if 0 < need h.conf (sizeH hd) then large7 h (sizeH hd) (need h.conf (sizeH hd)) else small7 h (sizeH hd)
def new7 (h : Heap) (hd : Header) : Heap × Int × Int :=
 if properB h = true ∧ asksH h.conf hd = true then (if (put7 h hd).2.2 = true then ((initH (put7 h hd).1 (put7 h hd).2.1 hd).1,(put7 h hd).2.1,0) else (noHeap,0,3)) else (noHeap,0,1)
theorem wok_nil : WOk [] := fun w h => by simp at h
theorem asksH_ok {c : Conf} {hd : Header} (h : asksH c hd = true) : validH hd = true ∧ 1 ≤ sizeH hd ∧ sizeH hd ≤ 256 ∧ 0 ≤ need c (sizeH hd) ∧ hd.kind ≠ 0 := by
 simp only [asksH,Bool.and_eq_true,decide_eq_true_eq] at h
 have hv := validH_iff.1 h.1.1
 have hn := need_range c (sizeH hd)
 have hs : sizeH hd = hd.length + 1 := by rw [sizeH,if_pos h.1.1]
 exact ⟨h.1.1,by omega,by omega,by omega,h.1.2⟩
theorem headerValid (h : Header) (hm : 0 ≤ h.map ∧ h.map ≤ 4294967295) : GSpec Try.prog 21 [h.av] true (bool (validH h)) [] := by
 have hs := fun q => pow32 (n := h.length) q
 have ho : 0 ≤ h.length → h.length ≤ 32 → ones h.length = 2 ^ h.length.toNat - 1 := fun h0 h1 => by rw [ones,Nat.min_eq_left (by omega)]
 rcases bb (decide (h.kind < 0) || decide (3 < h.kind) || decide (h.length < 0) || decide (255 < h.length)) with hc0 | hc0<;>have hc0p:=hc0<;>simp only [bs] at hc0p
 ·exact gF [] Try.func21 [false,false,false,false,false,false,false,false,false,true] (Ft 20 hc0 (Fa (by (simp [validH, *]; omega) : false =validH h) Fz))
 ·obtain ⟨⟨⟨hc0paaa,hc0paab⟩,hc0pab⟩,hc0pb⟩ := hc0p
  rcases bb (h.kind == 1) with hc1 | hc1<;>have hc1p:=hc1<;>simp only [bs] at hc1p
  ·exact gF [] Try.func21 [false,false,false,false,false,false,false,false,false,false,false,false,false,false,false,false,true] (Fh 30 [.int h.map] (Fh 33 [.call true (u64 (ones h.length)) []] (Ff 20 hc0 (Ft 23 hc1 (Fa (by intro hg; (try simp only [bs] at hg); exact wrapU2 rfl (by omega) (by omega) : decide (h.length≤32) =true→IntKind.u64.wrap h.map =h.map) (Fa ((fun hg => by (try simp only [bs] at hg); exact @bitsOnes h.length) : decide (h.length≤32) =true→GSpec Try.prog 37 [int h.length] true (u64 (ones h.length)) []) (Fa (by grind [validH] : (decide (h.length≤32)&&decide (h.map≤ones h.length)) =validH h) Fz)))))))
  ·exact gF [] Try.func21 [false,false,false,false,false,false,false,false,false,true] (Ff 20 hc0 (Ff 23 hc1 (Fa (by grind [validH] : (h.kind == h.kind&&(h.length == h.length&&h.map == 0)) =validH h) Fz)))
theorem headerSize (h : Header) (hm : 0 ≤ h.map ∧ h.map ≤ 4294967295) : GSpec Try.prog 23 [h.av] true (int (sizeH h)) [] := by
 rcases bb (!validH h) with hc0 | hc0<;>have hc0p:=hc0<;>simp only [bs] at hc0p
 ·exact gF [] Try.func23 [true] (Fc 4 (@headerValid h ‹_›) (Ft 5 hc0 (Fa (by simp [sizeH, *] : 0 =sizeH h) Fz)))
 ·have hf3 := validH_iff.1 hc0p
  obtain ⟨hf3a,⟨hf3ba,⟨hf3bba,⟨hf3bbba,hf3bbbb⟩⟩⟩⟩ := hf3
  exact gF [] Try.func23 [true] (Fc 4 (@headerValid h ‹_›) (Ff 5 hc0 (Fi 8 (h.length + 1) (Fa (by simp [sizeH, *] : h.length + 1 =sizeH h) Fz))))
theorem arenaPlace (ws : List Int) (a n : Int) (hw : ws.length ≤ 1048576) (h0 : 0 ≤ a ∧ a ≤ 18446744073709551615) : GSpec Try.prog 57 [wordsV ws,u64 a,int n] true (.tu [int (placeA ws a n).1,bool (placeA ws a n).2]) [] := by
 have Q0 {h_ c_ p_} (r_ : Fq h_ c_ p_) := Fa (by intro hg; (try simp only [bs] at hg); exact wrapU2 rfl (by omega) (by omega) : (!decide (a < 4096)) =true→IntKind.u64.wrap (a - 4096) =a - 4096) (Fa (by intro hg; (try simp only [bs] at hg); simp only [List.length_map] : (!decide (a < 4096)) =true→(↑(List.map wdv ws).length : Int) =(↑ws.length : Int)) (Fa (by intro hg; (try simp only [bs] at hg); exact wrapU2 rfl (by omega) (by omega) : (!decide (a < 4096)) =true→IntKind.u64.wrap (↑ws.length : Int) =(↑ws.length : Int)) r_))
 rcases bb (decide (a < 4096) || decide ((↑ws.length : Int) < a - 4096)) with hc0 | hc0<;>have hc0p:=hc0<;>simp only [bs] at hc0p
 ·exact gF [] Try.func57 [false,false,false,false,false,false,true] (Fh 13 [.int (a - 4096)] (Fh 15 [.int ↑ws.length] (Fh 16 [.int ↑ws.length] (Q0 (Ft 18 hc0 (Fa (by (simp only [placeA]; (repeat' split) <;> first | rfl | omega | (exfalso; omega) | simp_all) : 0 =(placeA ws a n).fst) (Fa (by (simp only [placeA]; (repeat' split) <;> first | rfl | omega | (exfalso; omega) | simp_all) : false =(placeA ws a n).snd) Fz)))))))
 ·obtain ⟨hc0pa,hc0pb⟩ := hc0p
  exact gF [] Try.func57 [false,false,false,false,false,false,true] (Fh 16 [.int ↑ws.length] (Fh 21 [.int (a - 4096)] (Fh 25 [.int ↑ws.length] (Q0 (Ff 18 hc0 (Fv 13 (a - 4096) (Fi 20 (a - 4096) (Fl 15 wdv ws (Fi 27 ((↑ws.length : Int) - (a - 4096)) (Fa (by (simp only [placeA]; (repeat' split) <;> first | rfl | omega | (exfalso; omega) | simp_all) : a - 4096 =(placeA ws a n).fst) (Fa (by (simp only [placeA]; (repeat' split) <;> first | rfl | omega | (exfalso; omega) | simp_all) : decide (n≤(↑ws.length : Int) - (a - 4096)) =(placeA ws a n).snd) Fz)))))))))))
def Heap.dvs (h : Heap) : List DV := [.sc (.int .i64 h.conf.pw),.sc (.int .i64 h.conf.pg),.sl 1 (h.words.map wdv),.sl 4 (h.pages.map Page.dv),.sc (.int .i64 h.space),.sc (.int .i64 h.bump)]
theorem map_ne {α β : Type} {f : α → β} {l : List α} (h : l ≠ []) : l.map f ≠ [] := by simpa using h
theorem cloneWordsN (ws : List Int) (hw : ws.length ≤ 1048576) (hne : ws ≠ []) : GSpec Try.prog 58 [wordsV ws] true (.ow 0) [.arr 38 1 (ws.map wdv)] := by
 exact gF [24007] Try.func58 [] (Fh 5 [.els (List.map wdv [])] (Fh 7 [.els (List.map wdv ws)] (Fa (by exact map_ne hne : List.map wdv ws ≠ []) (Fr (List.map wdv []) (Fa (by (simp [*]; omega) : (List.map wdv []).length + (List.map wdv ws).length≤2 ^ 30) (Fr (List.map wdv ws) (Fa (by exact flat_wdv _ : FlatEls (List.map wdv ws)) Fz)))))))
theorem clonePages (l : List Page) (hl : l.length ≤ 1048576) (hne : l ≠ []) : GSpec Try.prog 41 [pagesV l] true (pagesV l) [] := by
 exact gF [] Try.func41 [] (Fh 5 [.els (List.map Page.dv [])] (Fh 7 [.els (List.map Page.dv l)] (Fa (by exact map_ne hne : List.map Page.dv l ≠ []) (Fr (List.map Page.dv []) (Fa (by (simp [*]; omega) : (List.map Page.dv []).length + (List.map Page.dv l).length≤2 ^ 30) (Fr (List.map Page.dv l) (Fa (by exact flat_pages _ : FlatEls (List.map Page.dv l)) Fz)))))))
theorem ne_of_len {α : Type} {l : List α} (h : 0 < l.length) : l ≠ [] := by
 rintro rfl
 simp at h
theorem arenaWrite (ws l : List Int) (a : Int) (hw : ws.length ≤ 1048576) (hl : l.length ≤ 1048576) (h0 : 0 ≤ a ∧ a ≤ 18446744073709551615) (hn : 0 < l.length) : GSpec Try.prog 45 [wordsV ws,u64 a,wordsV l] true (.tu [wordsV (writeA ws a l).1,int (writeA ws a l).2]) [] := by
 by_cases h : 4096 ≤ a ∧ a - 4096 + l.length ≤ ws.length
 ·have e7 : writeA ws a l = (spl ws (a - 4096).toNat l,0) := by rw [writeA,if_pos h]
  have e1 : placeA ws a (l.length : Int) = (a - 4096,true) := by
   rw [placeA,if_pos (by omega)]
   simp; omega
  have e2 := congrArg (fun x => x.1) e1
  have e3 := congrArg (fun x => x.2) e1
  simp only at e2 e3
  have hne : ws ≠ [] := ne_of_len (by omega)
  have hs : spliceE (List.map wdv ws) (placeA ws a l.length).1.toNat (List.map wdv l) = List.map wdv (List.take (placeA ws a l.length).1.toNat ws ++ l ++ List.drop ((placeA ws a l.length).1.toNat + l.length) ws) := by simp [spliceE]
  rw [e7]
  exact gF [] Try.func45 [true] (Fh 27 [.els (List.map wdv (List.take (placeA ws a (↑l.length : Int)).fst.toNat ws ++ l ++ List.drop ((placeA ws a (↑l.length : Int)).fst.toNat + l.length) ws))] (Fl 15 wdv l (Fc 16 (@arenaPlace ws a ((↑l.length : Int)) ‹_› ‹_›) (Ffb 20 (!(placeA ws a (↑l.length : Int)).snd) (Fc 22 (@cloneWordsN ws ‹_› ‹_›) (Fa (by (simp only [List.length_map]; omega) : 0≤(placeA ws a (↑l.length : Int)).fst∧(placeA ws a (↑l.length : Int)).fst≤(↑(List.map wdv ws).length : Int)) (Fa (by (simp only [List.length_map]; omega) : (List.map wdv l).length≤(↑(List.map wdv ws).length : Int).toNat - (placeA ws a (↑l.length : Int)).fst.toNat) (Fa (by exact hs : spliceE (List.map wdv ws) (placeA ws a (↑l.length : Int)).fst.toNat (List.map wdv l) =List.map wdv (List.take (placeA ws a (↑l.length : Int)).fst.toNat ws ++ l ++ List.drop ((placeA ws a (↑l.length : Int)).fst.toNat + l.length) ws)) (Fa (by exact flat_wdv _ : FlatEls (List.map wdv (List.take (placeA ws a (↑l.length : Int)).fst.toNat ws ++ l ++ List.drop ((placeA ws a (↑l.length : Int)).fst.toNat + l.length) ws))) (Fa (by refine congrArg _ ?_; simp [spl, *] : List.map wdv (List.take (placeA ws a (↑l.length : Int)).fst.toNat ws ++ l ++ List.drop ((placeA ws a (↑l.length : Int)).fst.toNat + l.length) ws) =List.map wdv (spl ws (a - 4096).toNat l,0).fst) (Fr (0 : Int) Fz)))))))))))
 ·have e7 : writeA ws a l = ([],2) := by rw [writeA,if_neg h]
  have e3 : (placeA ws a (l.length : Int)).2 = false := by
   unfold placeA
   split
   ·simp; omega
   ·rfl
  rw [e7]
  exact gF [] Try.func45 [] (Fl 15 wdv l (Fc 16 (@arenaPlace ws a ((↑l.length : Int)) ‹_› ‹_›) (Ftb 20 (!(placeA ws a (↑l.length : Int)).snd) (Fnl Fz))))
theorem objectChanged0 (h : Heap) (ws : List Int) (e : Int) (hp : h.pages.length ≤ 1048576) (he : e = 0) (hne : h.pages ≠ []) : GSpec Try.prog 46 [h.av,wordsV ws,int e] false (.tu [Heap.av ⟨h.conf,ws,h.pages,h.space,h.bump⟩,int 0]) [] := by
 exact gF [] Try.func46 [] (Ffb 9 (e != 0) (Fc 15 (@clonePages h.pages ‹_› ‹_›) Fz))
theorem objectChangedE (h : Heap) (ws : List Int) (e : Int) (he : ¬ e = 0) : GSpec Try.prog 46 [h.av,wordsV ws,int e] false (.tu [noHeap.av,int e]) [] := by
 exact gF [] Try.func46 [] (Ftb 9 (e != 0) (Fnl (Fnl Fz)))
theorem ref4NewA : GSpec Try.prog 9 [.ag [int 16,int 8]] true (.tu [.ag [int 16,int 8,.ow 0,.ow 1,int 0,int (-1)],int 0]) [.arr 38 1 ((List.replicate 128 0).map wdv),.arr 65 4 ((List.replicate 8 (⟨0,0,0,0⟩ : Page)).map Page.dv)] := by
 have h : validB ⟨16,8⟩ = true := by decide
 have ei : (8 : Int) * 16 = 128 := rfl
 exact gF [24014,24017] Try.func9 [] (Fh 14 [.els (List.map wdv (List.replicate (Int.toNat 128) 0))] (Fh 17 [.els (List.map Page.dv [Page.mk 0 0 0 0,Page.mk 0 0 0 0,Page.mk 0 0 0 0,Page.mk 0 0 0 0,Page.mk 0 0 0 0,Page.mk 0 0 0 0,Page.mk 0 0 0 0,Page.mk 0 0 0 0])] (Fc 5 (@refValidConf (Conf.mk 16 8)) (Fa (by decide +kernel : 0≤IntKind.i64.wrap ((8 :Int) * 16)∧IntKind.i64.wrap ((8 :Int) * 16)≤IntKind.i64.wrap ((8 :Int) * 16)∧IntKind.i64.wrap ((8 :Int) * 16) * ((↑(nat_lit 7) : Int) + 1)≤2 ^ 48) (Fr (List.map wdv (List.replicate (Int.toNat 128) 0)) (Fa (by decide +kernel : (0 :Int)≤(8 :Int)∧(8 :Int)≤(8 :Int)∧8 * ((↑(nat_lit 31) : Int) + 1)≤2 ^ 48) (Fr (List.replicate (Int.toNat 8) [dint 0,dint 0,dint 0,dint 0]) (Fa (by exact flat_wdv _ : FlatEls (List.map wdv (List.replicate (Int.toNat 128) 0))) (Fa (by exact flat_pages _ : FlatEls (List.map Page.dv [Page.mk 0 0 0 0,Page.mk 0 0 0 0,Page.mk 0 0 0 0,Page.mk 0 0 0 0,Page.mk 0 0 0 0,Page.mk 0 0 0 0,Page.mk 0 0 0 0,Page.mk 0 0 0 0])) Fz)))))))))
theorem getD_mem_iff {l : List Int} {v : Int} : v ∈ l ↔ ∃ i,i < l.length ∧ l.getD i default = v := by
 rw [List.mem_iff_getElem]
 constructor
 ·rintro ⟨i,h,e⟩; exact ⟨i,h,by simp [List.getD,h,e]⟩
 ·rintro ⟨i,h,e⟩; exact ⟨i,h,by simpa [List.getD,h] using e⟩
structure Tape where
 l : List Int
 at' : Int
 deriving Inhabited
def Tape.next (t : Tape) (n : Int) : Int := if n < 1 then 0 else (if t.at' < t.l.length then t.l.getD t.at'.toNat default else t.at' * 7 + 3) % n
def Tape.step (t : Tape) (n : Int) : Tape := if n < 1 then t else ⟨t.l,t.at' + 1⟩
def Tape.conf (t : Tape) : Conf := ⟨[16,16,20,32].getD (t.next 4).toNat default,[8,12,16,20,24].getD ((t.step 4).next 5).toNat default⟩
structure WorldM where
 heap : Heap
 strong : List Int
 weak : List Int
 deriving Inhabited
def WorldM.cells (w : WorldM) : List AV := w.heap.cells ++ [wordsV w.strong,wordsV w.weak]
def WorldM.refs (w : WorldM) : List Int := 0 :: (w.strong ++ w.weak)
def WorldM.pick (w : WorldM) (t : Tape) : Int := w.refs.getD (t.next (w.refs.length : Int)).toNat default
def WorldM.put (w : WorldM) (hd : Header) : WorldM := if (new7 w.heap hd).2.2 = 0 then ⟨(new7 w.heap hd).1,w.strong ++ [(new7 w.heap hd).2.1],w.weak⟩ else w
def dropI (w : WorldM) (t : Tape) : Int := t.next (w.strong.length : Int)
def WorldM.drop (w : WorldM) (t : Tape) : WorldM :=
 if 0 < w.strong.length then ⟨w.heap,w.strong.take (dropI w t).toNat ++ w.strong.drop ((dropI w t).toNat + 1),if (t.step (w.strong.length : Int)).next 3 = 0 then w.weak ++ [w.strong.getD (dropI w t).toNat default] else w.weak⟩ else w
structure Rep where
 copied : Int
 kept : Int
 filled : Int
 freed : Int
 cleared : Int
 steps : Int
 deriving Inhabited
def Rep.cells (r : Rep) : List AV := [int r.copied,int r.kept,int r.filled,int r.freed,int r.cleared,int r.steps]
structure Work where
 heap : Heap
 old : List Int
 taken : List Int
 queue : List Int
 scanned : Int
 rep : Rep
 deriving Inhabited
def Work.cells (w : Work) : List AV := w.heap.cells ++ [wordsV w.old,intsV w.taken,wordsV w.queue,int w.scanned] ++ w.rep.cells
def noWork : Work := ⟨noHeap,[],[],[],0,⟨0,0,0,0,0,0⟩⟩
def Work.keep (w : Work) (r : Int) : Work := ⟨w.heap,w.old,w.taken,w.queue ++ [r],w.scanned,⟨w.rep.copied,w.rep.kept + 1,w.rep.filled,w.rep.freed,w.rep.cleared,w.rep.steps⟩⟩
def lastT (w : Work) : Int := w.taken.getD ((w.taken.length : Int) - 1).toNat default
def fitsW (w : Work) (n : Int) : Prop := 0 < w.taken.length ∧ (w.heap.pages.getD (lastT w).toNat default).used + n ≤ w.heap.conf.pw
instance (w : Work) (n : Int) : Decidable (fitsW w n) := by unfold fitsW; infer_instance
def firstW (w : Work) : Int := first w.heap.pages 1
def freshW (w : Work) : List Page := freshP ⟨w.heap.conf,w.heap.words,w.heap.pages,1 - w.heap.space,w.heap.bump⟩
def Work.place (w : Work) (n : Int) : Work × Int × Bool :=
 if fitsW w n then (⟨⟨w.heap.conf,w.heap.words,growP w.heap.pages (lastT w).toNat n,w.heap.space,w.heap.bump⟩,w.old,w.taken,w.queue,w.scanned,w.rep⟩,4096 + lastT w * w.heap.conf.pw + (w.heap.pages.getD (lastT w).toNat default).used,true)
 else if 0 ≤ firstW w then (⟨⟨w.heap.conf,w.heap.words,growP (freshW w) (firstW w).toNat n,w.heap.space,w.heap.bump⟩,w.old,w.taken ++ [firstW w],w.queue,w.scanned,w.rep⟩,4096 + firstW w * w.heap.conf.pw,true)
 else (noWork,0,false)
def Work.copy (w : Work) (r a n : Int) : Work := ⟨⟨w.heap.conf,(storeA (moveA w.heap.words a r n).1 r (4 * a + 2)).1,w.heap.pages,w.heap.space,w.heap.bump⟩,w.old,w.taken,w.queue ++ [a],w.scanned,⟨w.rep.copied + 1,w.rep.kept,w.rep.filled,w.rep.freed,w.rep.cleared,w.rep.steps⟩⟩
def roomP (pw : Int) (p : Page) : Nat := if p.kind = 0 then pw.toNat else (pw - p.used).toNat
def roomL (pw : Int) (l : List Page) : Nat := (l.map (roomP pw)).sum
def leftN (old q : List Int) : Nat := (old.filter fun x => decide (x ∉ q)).length
def muW (w : Work) : Nat := leftN w.old w.queue + roomL w.heap.conf.pw w.heap.pages
structure WkOk (w : Work) : Prop where
 words : WOk w.heap.words
 wl : w.heap.words.length ≤ 4096
 conf : validB w.heap.conf = true
 pl : (w.heap.pages.length : Int) = w.heap.conf.pg
 sp : w.heap.space = 0 ∨ w.heap.space = 1
 ol : w.old.length ≤ 524288
 o : ∀ x ∈ w.old,0 ≤ x ∧ x ≤ 8192
 tk : ∀ x ∈ w.taken,0 ≤ x ∧ x < w.heap.pages.length ∧ (w.heap.pages.getD x.toNat default).kind = 1
 tl : w.taken.length ≤ w.queue.length
 q : ∀ x ∈ w.queue,0 ≤ x ∧ x ≤ 16384
 us : ∀ j,j < w.heap.pages.length → 0 ≤ (w.heap.pages.getD j default).used ∧ (w.heap.pages.getD j default).used ≤ 1024
 mu : w.queue.length + muW w ≤ 1000000
 sc : 0 ≤ w.scanned ∧ w.scanned ≤ w.queue.length
 rk : 0 ≤ w.rep.kept ∧ 0 ≤ w.rep.copied ∧ w.rep.kept + w.rep.copied ≤ w.queue.length
 rs : 0 ≤ w.rep.steps ∧ w.rep.steps ≤ 1000 * w.scanned
 r0 : w.rep.filled = 0 ∧ w.rep.freed = 0 ∧ w.rep.cleared = 0
theorem tookP_one {l : List Page} {i : Nat} {p q : Page} (h : i < l.length) : tookP l i 1 p q = l.set i p := by
 unfold tookP
 have e : wr l (List.replicate 1 q) i 1 = l.set i q := by
  have := wr_succ (ws := l) (l := List.replicate 1 q) (i := i) (k := 0) (by simp; omega) (by simp) q
  rw [wr_zero] at this
  simpa using this.symm
 rw [e,List.set_set]
theorem getD_set {l : List Page} {i j : Nat} {p : Page} (h : i < l.length) : (l.set i p).getD j default = if i = j then p else l.getD j default := by
 simp only [List.getD_eq_getElem?_getD,List.getElem?_set,h]
 split
 ·rename_i e; subst e; simp
 ·rfl
theorem wok_write {ws l : List Int} (h : WOk ws) (hl : WOk l) (a : Int) : WOk (writeA ws a l).1 := by
 unfold writeA
 split
 ·intro x hx
  simp only [spl,List.mem_append] at hx
  rcases hx with (hx | hx) | hx
  ·exact h x (List.mem_of_mem_take hx)
  ·exact hl x hx
  ·exact h x (List.mem_of_mem_drop hx)
 ·exact wok_nil
theorem lastT_mem {w : Work} (h : 0 < w.taken.length) : lastT w ∈ w.taken := by
 unfold lastT
 exact getD_mem_iff.2 ⟨((w.taken.length : Int) - 1).toNat,by omega,rfl⟩
theorem decodeH_valid (v : Int) : validH (decodeH v).1 = true := by
 cases e : (decodeH v).2 with
 | true => exact decodeH_ok e
 | false =>
  unfold decodeH at e ⊢
  split
  ·rename_i hc; rw [if_pos hc] at e; cases e
  ·decide
def hlA (ws : List Int) (a : Int) : Int := (decodeH (loadA ws a).1).1.length
theorem hlA_range (ws : List Int) (a : Int) : 0 ≤ hlA ws a ∧ hlA ws a ≤ 255 := by
 have := validH_iff.1 (decodeH_valid (loadA ws a).1)
 exact ⟨this.2.2.1,this.2.2.2.1⟩
theorem load_write_out {ws l : List Int} {a b : Int} (h : 4096 ≤ a ∧ a - 4096 + l.length ≤ ws.length) (hb : b < a ∨ a + l.length ≤ b) : loadA (writeA ws a l).1 b = loadA ws b := by
 unfold writeA
 rw [if_pos h]
 have hl : (spl ws (a - 4096).toNat l).length = ws.length := spl_len (by omega)
 unfold loadA
 simp only [hl]
 split
 ·have := wr_get (ws := ws) (l := l) (i := (a - 4096).toNat) (k := l.length) (by omega) (Nat.le_refl _) (b - 4096).toNat
  rw [wr_all] at this
  rw [List.getD_eq_getElem?_getD,List.getD_eq_getElem?_getD,this]
  by_cases h1 : (b - 4096).toNat < (a - 4096).toNat
  ·rw [if_pos h1]
  ·rw [if_neg h1,if_neg (by omega)]
 ·rfl
theorem load_write_in {ws l : List Int} {a b : Int} (h : 4096 ≤ a ∧ a - 4096 + l.length ≤ ws.length) (hb : a ≤ b ∧ b < a + l.length) : loadA (writeA ws a l).1 b = (l.getD (b - a).toNat 0,0) := by
 unfold writeA
 rw [if_pos h]
 have hl : (spl ws (a - 4096).toNat l).length = ws.length := spl_len (by omega)
 unfold loadA
 simp only [hl]
 rw [if_pos (by omega)]
 have := wr_get (ws := ws) (l := l) (i := (a - 4096).toNat) (k := l.length) (by omega) (Nat.le_refl _) (b - 4096).toNat
 rw [wr_all] at this
 rw [List.getD_eq_getElem?_getD,List.getD_eq_getElem?_getD,this,if_neg (by omega),if_pos (by omega),show (b - 4096).toNat - (a - 4096).toNat = (b - a).toNat by omega]
theorem store_len_in {ws : List Int} {a v : Int} (h : 4096 ≤ a ∧ a < 4096 + ws.length) : (storeA ws a v).1.length = ws.length := by
 unfold storeA writeA
 rw [if_pos (by simp; omega)]
 exact spl_len (by simp; omega)
theorem load_store_ne {ws : List Int} {a b v : Int} (h : 4096 ≤ a ∧ a < 4096 + ws.length) (hb : b ≠ a) : loadA (storeA ws a v).1 b = loadA ws b :=
 load_write_out (by simp; omega) (by simp; omega)
theorem load_store_eq {ws : List Int} {a v : Int} (h : 4096 ≤ a ∧ a < 4096 + ws.length) : loadA (storeA ws a v).1 a = (v,0) := by
 have := load_write_in (ws := ws) (l := [v]) (a := a) (b := a) (by simp; omega) (by simp; omega)
 rw [storeA,this]
 simp
theorem move_in {ws : List Int} {a b n : Int} (hn : 1 ≤ n) (ha : 4096 ≤ a ∧ a - 4096 + n ≤ ws.length) (hb : 4096 ≤ b ∧ b - 4096 + n ≤ ws.length) :
  (moveA ws a b n).1.length = ws.length ∧ loadA (moveA ws a b n).1 a = ((loadA ws b).1,0) ∧ ∀ x,x < a ∨ a + n ≤ x → loadA (moveA ws a b n).1 x = loadA ws x := by
 have e1 : readA ws b n = ((ws.drop (b - 4096).toNat).take n.toNat,0) := by rw [readA,if_neg (by omega),if_pos hb]
 have e2 : moveA ws a b n = writeA ws a ((ws.drop (b - 4096).toNat).take n.toNat) := by rw [moveA,e1]; simp
 have hl : ((ws.drop (b - 4096).toNat).take n.toNat).length = n.toNat := by simp; omega
 rw [e2]
 refine ⟨?_, ?_, ?_⟩
 ·unfold writeA
  rw [if_pos (by omega)]
  exact spl_len (by omega)
 ·rw [load_write_in (by omega) (by omega)]
  congr 1
  unfold loadA
  rw [if_pos (by omega)]
  simp only [List.getD_eq_getElem?_getD,Int.sub_self,Int.toNat_zero]
  rw [List.getElem?_take_of_lt (by omega),List.getElem?_drop]
  simp
 ·intro x hx
  exact load_write_out (by omega) (by omega)
theorem decode_fwd (a : Int) : (decodeH (4 * a + 2)).1.length = 0 := by
 unfold decodeH
 rw [if_neg]
 ·rfl
 ·rintro ⟨h1,h2⟩
  unfold encodeH at h1 h2
  split at h2
  ·simp only [hdrOf] at h2; omega
  ·simp only at h2; omega
def occP (p : Page) : Int := if p.kind = 0 then 0 else p.used
structure Inv (w : Work) : Prop where
 L : (w.heap.words.length : Int) = w.heap.conf.pw * w.heap.conf.pg
 r : ∀ a ∈ w.old ++ w.queue,4096 ≤ a ∧ a + hlA w.heap.words a < 4096 + w.heap.words.length
 s : ∀ a ∈ w.old ++ w.queue,∀ b ∈ w.old ++ w.queue,a < b → a + hlA w.heap.words a < b
 f : ∀ i : Nat,i < w.heap.pages.length → (w.heap.pages.getD i default).kind = 0 ∨ (i : Int) ∈ w.taken → ∀ a ∈ w.old ++ w.queue,a + hlA w.heap.words a < 4096 + i * w.heap.conf.pw + occP (w.heap.pages.getD i default) ∨ 4096 + i * w.heap.conf.pw + w.heap.conf.pw ≤ a
 z : ∀ x ∈ w.old,(w.heap.pages.getD (ofA w.heap.conf x).1.toNat default).kind = 2 ∨ hlA w.heap.words x + 1 ≤ w.heap.conf.pw
theorem Inv.keep {w : Work} (h : Inv w) {r : Int} (hr : r ∈ w.old) : Inv (w.keep r) := by
 have hm : ∀ a,a ∈ w.old ++ (w.queue ++ [r]) → a ∈ w.old ++ w.queue := by
  intro a ha
  simp only [List.mem_append,List.mem_singleton] at ha ⊢
  rcases ha with ha | ha | rfl
  ·exact Or.inl ha
  ·exact Or.inr ha
  ·exact Or.inl hr
 exact ⟨h.L,fun a ha => h.r a (hm a ha),fun a ha b hb => h.s a (hm a ha) b (hm b hb),fun i hi hc a ha => h.f i hi hc a (hm a ha),h.z⟩
theorem place_more {w : Work} {n : Int} (hw : WkOk w) (hn : 1 ≤ n ∧ n ≤ w.heap.conf.pw) (h : (w.place n).2.2 = true) :
  ∃ (i : Nat) (p : Page) (t : List Int),i < w.heap.pages.length ∧ ((w.heap.pages.getD i default).kind = 0 ∨ ((i : Int) ∈ w.taken ∧ (w.heap.pages.getD i default).kind = 1)) ∧ p.kind = 1 ∧ p.used = occP (w.heap.pages.getD i default) + n ∧ occP (w.heap.pages.getD i default) + n ≤ w.heap.conf.pw ∧ 0 ≤ occP (w.heap.pages.getD i default) ∧ (∀ x ∈ t,x ∈ w.taken ∨ x = (i : Int)) ∧ (w.place n).2.1 = 4096 + i * w.heap.conf.pw + occP (w.heap.pages.getD i default) ∧
  (w.place n).1 = ⟨⟨w.heap.conf,w.heap.words,w.heap.pages.set i p,w.heap.space,w.heap.bump⟩,w.old,t,w.queue,w.scanned,w.rep⟩ := by
 have hb := validB_iff.1 hw.conf
 have hpl := hw.pl
 by_cases hf : fitsW w n
 ·have e : w.place n = (⟨⟨w.heap.conf,w.heap.words,growP w.heap.pages (lastT w).toNat n,w.heap.space,w.heap.bump⟩,w.old,w.taken,w.queue,w.scanned,w.rep⟩,4096 + lastT w * w.heap.conf.pw + (w.heap.pages.getD (lastT w).toNat default).used,true) := by rw [Work.place,if_pos hf]
  unfold fitsW at hf
  have hm := hw.tk _ (lastT_mem hf.1)
  have hu := hw.us (lastT w).toNat (by omega)
  have hk := hm.2.2
  have hup : occP (w.heap.pages.getD (lastT w).toNat default) = (w.heap.pages.getD (lastT w).toNat default).used := by rw [occP,if_neg (by omega)]
  have hc : (((lastT w).toNat : Nat) : Int) = lastT w := by omega
  refine ⟨(lastT w).toNat,⟨(w.heap.pages.getD (lastT w).toNat default).kind,(w.heap.pages.getD (lastT w).toNat default).space,(w.heap.pages.getD (lastT w).toNat default).used + n,(w.heap.pages.getD (lastT w).toNat default).pins⟩,w.taken,by omega,Or.inr ⟨by rw [hc]; exact lastT_mem hf.1,hk⟩,hk,by rw [hup],by rw [hup]; omega,by rw [hup]; omega,fun x hx => Or.inl hx, ?_, ?_⟩
  ·rw [e,hup,hc]
  ·rw [e]; rfl
 ·by_cases hg : 0 ≤ firstW w
  ·have e : w.place n = (⟨⟨w.heap.conf,w.heap.words,growP (freshW w) (firstW w).toNat n,w.heap.space,w.heap.bump⟩,w.old,w.taken ++ [firstW w],w.queue,w.scanned,w.rep⟩,4096 + firstW w * w.heap.conf.pw,true) := by rw [Work.place,if_neg hf,if_pos hg]
   obtain ⟨f1,f2,f3,f4⟩ := freshP_ok (h := ⟨w.heap.conf,w.heap.words,w.heap.pages,1 - w.heap.space,w.heap.bump⟩) (by have := hw.sp; simp only; omega) hg
   obtain ⟨g1,g2,g3⟩ := first_free hg
   simp only at f1 f2 f3 f4
   have hi : (firstW w).toNat < w.heap.pages.length := by unfold firstW; omega
   have hk : (w.heap.pages.getD (firstW w).toNat default).kind = 0 := by
    have := freeK_iff.1 g3 0 (by decide)
    simpa [firstW] using this
   have hup : occP (w.heap.pages.getD (firstW w).toNat default) = 0 := by rw [occP,if_pos hk]
   have hc : (((firstW w).toNat : Nat) : Int) = firstW w := by omega
   have hq : growP (freshW w) (firstW w).toNat n = w.heap.pages.set (firstW w).toNat ⟨1,1 - w.heap.space,n,0⟩ := by
    unfold growP
    have e4 : (freshW w).getD (firstW w).toNat default = ⟨1,1 - w.heap.space,0,0⟩ := f4
    rw [e4]
    have e1 : freshW w = w.heap.pages.set (firstW w).toNat ⟨1,1 - w.heap.space,0,0⟩ := by
     have : freshW w = tookP w.heap.pages (firstW w).toNat 1 ⟨1,1 - w.heap.space,0,0⟩ ⟨0,0,0,0⟩ := f1
     rw [this,tookP_one hi]
    rw [e1,List.set_set]
    simp
   refine ⟨(firstW w).toNat,⟨1,1 - w.heap.space,n,0⟩,w.taken ++ [firstW w],hi,Or.inl hk,rfl,by rw [hup]; simp,by rw [hup]; omega,by rw [hup]; decide, ?_, ?_, ?_⟩
   ·intro x hx
    simp only [List.mem_append,List.mem_singleton] at hx
    rcases hx with hx | rfl
    ·exact Or.inl hx
    ·exact Or.inr hc.symm
   ·rw [e,hup,hc]; simp
   ·rw [e,hq]
  ·rw [Work.place,if_neg hf,if_neg hg] at h
   simp at h
theorem mul_step {i j pw : Int} (h : i < j) (hp : 0 ≤ pw) : i * pw + pw ≤ j * pw := by
 have := Int.mul_le_mul_of_nonneg_right (show i + 1 ≤ j by omega) hp
 rw [Int.add_mul,Int.one_mul] at this
 exact this
theorem Inv.copy {w : Work} (hw : WkOk w) (h : Inv w) {r n : Int} (hr : r ∈ w.old) (hn : n = hlA w.heap.words r + 1) (hp : n ≤ w.heap.conf.pw) (hc : (w.place n).2.2 = true) : Inv ((w.place n).1.copy r (w.place n).2.1 n) := by
 have hlr := hlA_range w.heap.words r
 obtain ⟨i,p,t,h1,h2,h3,h4,h5,h6,h7,h8,e⟩ := place_more hw ⟨by omega,hp⟩ hc
 have hb := validB_iff.1 hw.conf
 have hpl := hw.pl
 have hL := h.L
 have hio : (i : Int) * w.heap.conf.pw + w.heap.conf.pw ≤ w.heap.conf.pw * w.heap.conf.pg := by
  have := mul_step (i := i) (j := w.heap.conf.pg) (pw := w.heap.conf.pw) (by omega) (by omega)
  rw [Int.mul_comm w.heap.conf.pw]; exact this
 have hi0 : 0 ≤ (i : Int) * w.heap.conf.pw := Int.mul_nonneg (by omega) (by omega)
 rw [e,h8]
 generalize hu : occP (w.heap.pages.getD i default) = u at *
 generalize ha : 4096 + (i : Int) * w.heap.conf.pw + u = at'
 have hrr := h.r r (List.mem_append_left _ hr)
 have hf := h.f i h1 (by rcases h2 with h2 | h2; exact Or.inl h2; exact Or.inr h2.1)
 rw [hu] at hf
 obtain ⟨m1,m2,m3⟩ := move_in (ws := w.heap.words) (a := at') (b := r) (n := n) (by omega) (by omega) (by omega)
 have hfr := hf r (List.mem_append_left _ hr)
 have hne : r ≠ at' := by omega
 have hsr : 4096 ≤ r ∧ r < 4096 + (moveA w.heap.words at' r n).1.length := by omega
 have k1 : ∀ a ∈ w.old ++ w.queue,hlA (storeA (moveA w.heap.words at' r n).1 r (4 * at' + 2)).1 a ≤ hlA w.heap.words a := by
  intro a hA
  have hfa := hf a hA
  have hla := hlA_range w.heap.words a
  by_cases hk : a = r
  ·subst hk
   have : hlA (storeA (moveA w.heap.words at' a n).1 a (4 * at' + 2)).1 a = 0 := by
    unfold hlA
    rw [load_store_eq hsr]
    exact decode_fwd at'
   omega
  ·have : hlA (storeA (moveA w.heap.words at' r n).1 r (4 * at' + 2)).1 a = hlA w.heap.words a := by
    unfold hlA
    rw [load_store_ne hsr hk,m3 a (by omega)]
   omega
 have k2 : hlA (storeA (moveA w.heap.words at' r n).1 r (4 * at' + 2)).1 at' = n - 1 := by
  have : hlA (storeA (moveA w.heap.words at' r n).1 r (4 * at' + 2)).1 at' = hlA w.heap.words r := by
   unfold hlA
   rw [load_store_ne hsr (Ne.symm hne),m2]
  omega
 have hlen : (storeA (moveA w.heap.words at' r n).1 r (4 * at' + 2)).1.length = w.heap.words.length := by rw [store_len_in hsr,m1]
 have hmem : ∀ a,a ∈ w.old ++ (w.queue ++ [at']) → a ∈ w.old ++ w.queue ∨ a = at' := by
  intro a hA
  simp only [List.mem_append,List.mem_singleton] at hA ⊢
  rcases hA with hA | hA | hA
  ·exact Or.inl (Or.inl hA)
  ·exact Or.inl (Or.inr hA)
  ·exact Or.inr hA
 refine ⟨?_, ?_, ?_, ?_, ?_⟩
 ·simp only [Work.copy,hlen]; exact hL
 ·intro a hA
  simp only [Work.copy,hlen] at hA ⊢
  rcases hmem a hA with hA | rfl
  ·have q1 := h.r a hA
   have q2 := k1 a hA
   omega
  ·rw [k2]; omega
 ·intro a hA b hB hab
  simp only [Work.copy] at hA hB ⊢
  rcases hmem a hA with hA' | e1 <;> rcases hmem b hB with hB' | e2
  ·have q1 := h.s a hA' b hB' hab
   have q2 := k1 a hA'
   omega
  ·have q1 := hf a hA'
   have q2 := k1 a hA'
   omega
  ·have q1 := hf b hB'
   have q2 := hlA_range w.heap.words b
   rw [e1,k2]; omega
  ·omega
 ·intro j hj hcj a hA
  simp only [Work.copy,List.length_set] at hj hcj hA ⊢
  by_cases hij : i = j
  ·subst hij
   rw [getD_set h1,if_pos rfl]
   have hup : occP p = u + n := by rw [occP,if_neg (by omega),h4]
   rw [hup]
   rcases hmem a hA with hA | rfl
   ·have q1 := hf a hA
    have q2 := k1 a hA
    omega
   ·rw [k2]; omega
  ·rw [getD_set h1,if_neg hij] at hcj ⊢
   have hcj' : (w.heap.pages.getD j default).kind = 0 ∨ (j : Int) ∈ w.taken := by
    rcases hcj with hcj | hcj
    ·exact Or.inl hcj
    ·rcases h7 _ hcj with q | q
     ·exact Or.inr q
     ·omega
   rcases hmem a hA with hA | rfl
   ·have q1 := h.f j hj hcj' a hA
    have q2 := k1 a hA
    omega
   ·rw [k2]
    have hus : 0 ≤ occP (w.heap.pages.getD j default) := by
     have := hw.us j hj
     unfold occP
     split <;> omega
    by_cases hlt : i < j
    ·have := mul_step (i := i) (j := j) (pw := w.heap.conf.pw) (by omega) (by omega)
     omega
    ·have := mul_step (i := j) (j := i) (pw := w.heap.conf.pw) (by omega) (by omega)
     omega
 ·intro x hx
  simp only [Work.copy] at hx ⊢
  have q1 := h.z x hx
  have q2 := k1 x (List.mem_append_left _ hx)
  rw [getD_set h1]
  split
  ·rename_i hxi
   rw [← hxi] at q1
   rcases h2 with h2 | h2 <;> omega
  ·omega
structure Ext (w v : Work) : Prop where
 c : v.heap.conf = w.heap.conf
 o : v.old = w.old
 q : ∀ x ∈ w.queue,x ∈ v.queue
 l : ∀ x ∈ w.queue,hlA v.heap.words x = hlA w.heap.words x
theorem Ext.trans {u v w : Work} (h1 : Ext u v) (h2 : Ext v w) : Ext u w :=
 ⟨h2.c.trans h1.c,h2.o.trans h1.o,fun x hx => h2.q x (h1.q x hx),fun x hx => (h2.l x (h1.q x hx)).trans (h1.l x hx)⟩
theorem tailRun_get (sp : Int) : ∀ (l : List Page) (m : Nat),m < tailRun sp l → m < l.length ∧ (l.getD m default).kind = 3 ∧ (l.getD m default).space = sp
 | [],m,h => by simp [tailRun] at h
 | p :: l,m,h => by
  unfold tailRun at h
  split at h
  ·rename_i hp
   cases m with
   | zero => exact ⟨by simp,hp⟩
   | succ m =>
    obtain ⟨h1,h2⟩ := tailRun_get sp l m (by omega)
    exact ⟨by simp; omega,by simpa using h2⟩
  ·omega
theorem need_used {c : Conf} {n : Int} (h : 1 ≤ need c n) : n ≤ need c n * c.pw := by
 unfold need at h ⊢
 split at h
 ·rename_i hc
  rw [if_pos hc]
  have hb := validB_iff.1 hc.1
  split at h
  ·omega
  ·rename_i hd
   rw [if_neg hd]
   have e := Int.mul_ediv_add_emod (n + c.pw - 1) c.pw
   have l := Int.emod_lt_of_pos (n + c.pw - 1) (b := c.pw) (by omega)
   rw [Int.mul_comm] at e
   omega
 ·omega
structure PgOk (c : Conf) (p : Page) : Prop where
 s : 0 ≤ p.space ∧ p.space ≤ 1
 n : 0 ≤ p.pins ∧ p.pins ≤ 2147483647
 k : 0 ≤ p.kind ∧ p.kind ≤ 3
 k0 : p.kind = 0 → p.space = 0 ∧ p.used = 0 ∧ p.pins = 0
 k1 : p.kind = 1 → 0 ≤ p.used ∧ p.used ≤ c.pw
 k3 : p.kind = 3 → p.used = 0 ∧ p.pins = 0
structure PT (c : Conf) (l : List Page) : Prop where
 b : ∀ i,i < l.length → PgOk c (l.getD i default)
 lg : ∀ i,i < l.length → (l.getD i default).kind = 2 → 1 ≤ need c (l.getD i default).used ∧ ∀ m : Nat,1 ≤ m → (m : Int) < need c (l.getD i default).used → i + m < l.length ∧ (l.getD (i + m) default).kind = 3 ∧ (l.getD (i + m) default).space = (l.getD i default).space
 tl : ∀ i,i < l.length → (l.getD i default).kind = 3 → ∃ j,j < i ∧ (l.getD j default).kind = 2 ∧ (i : Int) < j + need c (l.getD j default).used
def dueAt (c : Conf) (l : List Page) : Nat → Int
 | 0 => 0
 | i + 1 => rdue c l i (dueAt c l i)
theorem rpB_due {c : Conf} {l : List Page} : ∀ {f i : Nat},l.length ≤ i + f → (rpB c l f i (dueAt c l i) = true ↔ ∀ j,i ≤ j → j < l.length → rchk c l j (dueAt c l j))
 | 0,i,h => by
  simp only [rpB,true_iff]
  intro j h1 h2
  omega
 | f + 1,i,h => by
  unfold rpB
  by_cases hi : i < l.length
  ·rw [if_pos hi,Bool.and_eq_true,decide_eq_true_eq,show rdue c l i (dueAt c l i) = dueAt c l (i + 1) from rfl,rpB_due (f := f) (i := i + 1) (by omega)]
   constructor
   ·rintro ⟨h1,h2⟩ j h3 h4
    by_cases hj : j = i
    ·subst hj; exact h1
    ·exact h2 j (by omega) h4
   ·intro hh
    exact ⟨hh i (Nat.le_refl _) hi,fun j h3 h4 => hh j (by omega) h4⟩
  ·rw [if_neg hi]
   simp only [true_iff]
   intro j h1 h2
   omega
theorem dueAt_pos {c : Conf} {l : List Page} : ∀ i,0 ≤ dueAt c l i → 0 < dueAt c l i → ∃ j,j < i ∧ (l.getD j default).kind = 2 ∧ dueAt c l i = j + need c (l.getD j default).used - i
 | 0,_,h => by simp [dueAt] at h
 | i + 1,h0,h => by
  simp only [dueAt,rdue] at h0 h ⊢
  split at h
  ·rename_i hk
   refine ⟨i,by omega,hk, ?_⟩
   rw [if_pos hk]; omega
  ·rename_i hk
   have h1 : 1 < dueAt c l i := by omega
   obtain ⟨j,j1,j2,j3⟩ := dueAt_pos (c := c) (l := l) i (by omega) (by omega)
   refine ⟨j,by omega,j2, ?_⟩
   rw [if_neg hk]; omega
theorem tailRun_ge (sp : Int) : ∀ (l : List Page) (k : Nat),(∀ m,m < k → m < l.length ∧ (l.getD m default).kind = 3 ∧ (l.getD m default).space = sp) → k ≤ tailRun sp l
 | _,0,_ => Nat.zero_le _
 | [],k + 1,h => by have := (h 0 (by omega)).1; simp at this
 | p :: l,k + 1,h => by
  have h0 := (h 0 (by omega)).2
  simp only [List.getD_cons_zero] at h0
  rw [tailRun,if_pos h0]
  have := tailRun_ge sp l k fun m hm => by
   have := h (m + 1) (by omega)
   simpa using this
  omega
theorem PT.due {c : Conf} {l : List Page} (h : PT c l) {i : Nat} (hi : i < l.length) (hk : (l.getD i default).kind = 2) : ∀ m : Nat,(m : Int) < need c (l.getD i default).used → dueAt c l (i + 1 + m) = need c (l.getD i default).used - 1 - m
 | 0,hm => by
  show rdue c l i (dueAt c l i) = _
  rw [rdue,if_pos hk]; omega
 | m + 1,hm => by
  have ih := h.due hi hk m (by omega)
  have ht := ((h.lg i hi hk).2 (m + 1) (by omega) hm).2.1
  show rdue c l (i + 1 + m) (dueAt c l (i + 1 + m)) = _
  rw [rdue,show i + 1 + m = i + (m + 1) by omega,if_neg (by rw [ht]; decide),show i + (m + 1) = i + 1 + m by omega,ih]
  omega
theorem dueAt_nonneg {c : Conf} {l : List Page} (h : ∀ i,i < l.length → (l.getD i default).kind = 2 → 1 ≤ need c (l.getD i default).used) : ∀ i,i ≤ l.length → 0 ≤ dueAt c l i
 | 0,_ => Int.le_refl _
 | i + 1,hi => by
  have ih := dueAt_nonneg h i (by omega)
  simp only [dueAt,rdue]
  split
  ·rename_i hk
   have := h i (by omega) hk
   omega
  ·omega
theorem PT_iff {c : Conf} {l : List Page} : rpB c l l.length 0 0 = true ↔ PT c l := by
 have e := rpB_due (c := c) (l := l) (f := l.length) (i := 0) (by omega)
 rw [show dueAt c l 0 = 0 from rfl] at e
 rw [e]
 constructor
 ·intro h
  have hb : ∀ i,i < l.length → PgOk c (l.getD i default) := by
   intro i hi
   have q := h i (by omega) hi
   unfold rchk at q
   exact ⟨⟨q.2.1,q.2.2.1⟩,⟨q.2.2.2.1,q.2.2.2.2.1⟩,⟨q.2.2.2.2.2.1,q.2.2.2.2.2.2.1⟩,q.2.2.2.2.2.2.2.1,q.2.2.2.2.2.2.2.2.1,q.2.2.2.2.2.2.2.2.2.2⟩
  have hl : ∀ i,i < l.length → (l.getD i default).kind = 2 → 1 ≤ need c (l.getD i default).used ∧ ∀ m : Nat,1 ≤ m → (m : Int) < need c (l.getD i default).used → i + m < l.length ∧ (l.getD (i + m) default).kind = 3 ∧ (l.getD (i + m) default).space = (l.getD i default).space := by
   intro i hi hk
   have q := (h i (by omega) hi).2.2.2.2.2.2.2.2.2.1 hk
   refine ⟨q.1, ?_⟩
   intro m h1 h2
   obtain ⟨g1,g2⟩ := tailRun_get (l.getD i default).space (l.drop (i + 1)) (m - 1) (by omega)
   have g3 : i + m < l.length := by simp at g1; omega
   have : (l.drop (i + 1)).getD (m - 1) default = l.getD (i + m) default := by
    rw [List.getD_eq_getElem?_getD,List.getD_eq_getElem?_getD,List.getElem?_drop,show i + 1 + (m - 1) = i + m by omega]
   rw [this] at g2
   exact ⟨g3,g2⟩
  refine ⟨hb,hl, ?_⟩
  intro i hi hk
  have q := (h i (by omega) hi).1.1 hk
  obtain ⟨j,j1,j2,j3⟩ := dueAt_pos (c := c) (l := l) i (by omega) q
  exact ⟨j,j1,j2,by omega⟩
 ·intro h j _ hj
  have b := h.b j hj
  have hd := dueAt_nonneg (fun i hi hk => (h.lg i hi hk).1) j (by omega)
  refine ⟨⟨?_, ?_⟩,b.s.1,b.s.2,b.n.1,b.n.2,b.k.1,b.k.2,b.k0,b.k1, ?_,b.k3⟩
  ·intro hk
   obtain ⟨i,i1,i2,i3⟩ := h.tl j hj hk
   have := h.due (show i < l.length by omega) i2 (j - i - 1) (by omega)
   rw [show i + 1 + (j - i - 1) = j by omega] at this
   omega
  ·intro hp
   obtain ⟨i,i1,i2,i3⟩ := dueAt_pos j hd hp
   have := ((h.lg i (by omega) i2).2 (j - i) (by omega) (by omega)).2.1
   rw [show i + (j - i) = j by omega] at this
   exact this
  ·intro hk
   have q := h.lg j hj hk
   refine ⟨q.1, ?_⟩
   have := tailRun_ge (l.getD j default).space (l.drop (j + 1)) (need c (l.getD j default).used - 1).toNat fun m hm => by
    have r := q.2 (m + 1) (by omega) (by omega)
    have e2 : (l.drop (j + 1)).getD m default = l.getD (j + (m + 1)) default := by
     rw [List.getD_eq_getElem?_getD,List.getD_eq_getElem?_getD,List.getElem?_drop,show j + 1 + m = j + (m + 1) by omega]
    rw [e2]
    exact ⟨by simp; omega,r.2⟩
   omega
theorem proper_pt {h : Heap} : properB h = true ↔ validB h.conf = true ∧ (h.words.length : Int) = h.conf.pw * h.conf.pg ∧ (h.pages.length : Int) = h.conf.pg ∧ (h.space = 0 ∨ h.space = 1) ∧
  (h.bump = -1 ∨ (0 ≤ h.bump ∧ h.bump < h.pages.length ∧ (h.pages.getD h.bump.toNat default).kind = 1)) ∧ PT h.conf h.pages := by
 rw [properB_iff,PT_iff]
theorem PT.setPage {c : Conf} {l : List Page} (h : PT c l) {i : Nat} (hi : i < l.length) (hk : (l.getD i default).kind = 0 ∨ (l.getD i default).kind = 1) {p : Page} (hp : PgOk c p) (hpk : p.kind = 0 ∨ p.kind = 1) : PT c (l.set i p) := by
 refine ⟨?_, ?_, ?_⟩
 ·intro j hj
  rw [List.length_set] at hj
  rw [getD_set hi]
  split
  ·exact hp
  ·exact h.b j hj
 ·intro j hj hk2
  rw [List.length_set] at hj
  rw [getD_set hi] at hk2 ⊢
  by_cases hij : i = j
  ·rw [if_pos hij] at hk2; omega
  ·rw [if_neg hij] at hk2 ⊢
   have q := h.lg j hj hk2
   refine ⟨q.1,fun m h1 h2 => ?_⟩
   have r := q.2 m h1 h2
   rw [List.length_set,getD_set hi,if_neg (by rintro rfl; omega)]
   exact r
 ·intro j hj hk3
  rw [List.length_set] at hj
  rw [getD_set hi] at hk3
  by_cases hij : i = j
  ·rw [if_pos hij] at hk3; omega
  ·rw [if_neg hij] at hk3
   obtain ⟨a,a1,a2,a3⟩ := h.tl j hj hk3
   refine ⟨a,a1, ?_⟩
   rw [getD_set hi,if_neg (by rintro rfl; omega)]
   exact ⟨a2,a3⟩
theorem tookP_get {l : List Page} {i k : Nat} {p q : Page} (hk : 1 ≤ k) (h : i + k ≤ l.length) (j : Nat) : (tookP l i k p q).getD j default = if j = i then p else if i < j ∧ j < i + k then q else l.getD j default := by
 have hl : (wr l (List.replicate k q) i k).length = l.length := wr_len (by simpa using h) (by simp)
 unfold tookP
 rw [List.getD_eq_getElem?_getD,List.getElem?_set]
 by_cases hj : j = i
 ·subst hj
  rw [if_pos rfl,if_pos rfl,if_pos (by omega)]
  rfl
 ·rw [if_neg (fun e => hj e.symm),if_neg hj,wr_get (by simpa using h) (by simp)]
  by_cases h1 : j < i
  ·rw [if_pos h1,if_neg (by omega),List.getD_eq_getElem?_getD]
  ·rw [if_neg h1]
   by_cases h2 : j < i + k
   ·rw [if_pos h2,if_pos (by omega)]
    simp [show j - i < k by omega]
   ·rw [if_neg h2,if_neg (by omega),List.getD_eq_getElem?_getD]
theorem PT.took {c : Conf} {l : List Page} (h : PT c l) {i k : Nat} {n sp : Int} (hk : 1 ≤ k) (hik : i + k ≤ l.length) (hf : ∀ j,j < k → (l.getD (i + j) default).kind = 0) (hn : need c n = k) (hs : sp = 0 ∨ sp = 1) : PT c (tookP l i k ⟨2,sp,n,0⟩ ⟨3,sp,0,0⟩) := by
 have hg := tookP_get (p := ⟨2,sp,n,0⟩) (q := ⟨3,sp,0,0⟩) hk hik
 have hl : (tookP l i k ⟨2,sp,n,0⟩ ⟨3,sp,0,0⟩).length = l.length := tookP_len hik
 have hf' : ∀ j,i ≤ j → j < i + k → (l.getD j default).kind = 0 := fun j h1 h2 => by
  have := hf (j - i) (by omega)
  rwa [show i + (j - i) = j by omega] at this
 refine ⟨?_, ?_, ?_⟩
 ·intro j hj
  rw [hl] at hj
  rw [hg]
  split
  ·exact ⟨by simp only; omega,by simp,by simp,by simp,by simp,by simp⟩
  ·split
   ·exact ⟨by simp only; omega,by simp,by simp,by simp,by simp,by simp⟩
   ·exact h.b j hj
 ·intro j hj hk2
  rw [hl] at hj ⊢
  simp only [hg] at hk2 ⊢
  by_cases hji : j = i
  ·subst hji
   simp only [if_pos] at hk2 ⊢
   rw [hn]
   refine ⟨by omega,fun m h1 h2 => ⟨by omega, ?_⟩⟩
   rw [if_neg (by omega),if_pos (by omega)]
   exact ⟨rfl,rfl⟩
  ·rw [if_neg hji] at hk2 ⊢
   by_cases hr : i < j ∧ j < i + k
   ·rw [if_pos hr] at hk2; simp at hk2
   ·rw [if_neg hr] at hk2 ⊢
    have q := h.lg j hj hk2
    refine ⟨q.1,fun m h1 h2 => ?_⟩
    have r := q.2 m h1 h2
    have hne : ¬ (i ≤ j + m ∧ j + m < i + k) := fun hc => by
     have := hf' (j + m) hc.1 hc.2
     omega
    rw [if_neg (by omega),if_neg (by omega)]
    exact r
 ·intro j hj hk3
  rw [hl] at hj
  simp only [hg] at hk3 ⊢
  by_cases hji : j = i
  ·rw [if_pos hji] at hk3; simp at hk3
  ·rw [if_neg hji] at hk3
   by_cases hr : i < j ∧ j < i + k
   ·refine ⟨i,hr.1, ?_⟩
    simp only [if_pos]
    refine ⟨trivial, ?_⟩
    rw [hn]; omega
   ·rw [if_neg hr] at hk3
    obtain ⟨a,a1,a2,a3⟩ := h.tl j hj hk3
    have hne : ¬ (i ≤ a ∧ a < i + k) := fun hc => by
     have := hf' a hc.1 hc.2
     omega
    refine ⟨a,a1, ?_⟩
    rw [if_neg (by omega),if_neg (by omega)]
    exact ⟨a2,a3⟩
theorem growP_eq {l : List Page} {i : Nat} {n : Int} : growP l i n = l.set i ⟨(l.getD i default).kind,(l.getD i default).space,(l.getD i default).used + n,(l.getD i default).pins⟩ := rfl
theorem fresh_grow {h : Heap} (hs : h.space = 0 ∨ h.space = 1) (hf : 0 ≤ first h.pages 1) (n : Int) : growP (freshP h) (first h.pages 1).toNat n = h.pages.set (first h.pages 1).toNat ⟨1,h.space,n,0⟩ ∧ (h.pages.getD (first h.pages 1).toNat default).kind = 0 ∧ (first h.pages 1).toNat < h.pages.length := by
 obtain ⟨f1,f2,f3,f4⟩ := freshP_ok hs hf
 obtain ⟨g1,g2,g3⟩ := first_free hf
 have hi : (first h.pages 1).toNat < h.pages.length := by omega
 refine ⟨?_, ?_,hi⟩
 ·rw [growP_eq,f4,f1,tookP_one hi,List.set_set]
  simp
 ·have := freeK_iff.1 g3 0 (by decide)
  simpa using this
structure PutOk (h : Heap) (n : Int) (h' : Heap) (a : Int) : Prop where
 pr : properB h' = true
 c : h'.conf = h.conf
 w : h'.words = h.words
 l : h'.pages.length = h.pages.length
 sp : h'.space = h.space
 pin : ∀ p ∈ h'.pages,p.pins = 0 ∨ ∃ q ∈ h.pages,p.pins = q.pins
 lo : 4096 ≤ a
 hi : a + n ≤ 4096 + h.words.length
theorem getD_in {l : List Page} {i : Nat} (h : i < l.length) : l.getD i default ∈ l := by
 rw [List.getD_eq_getElem?_getD,List.getElem?_eq_getElem h]
 exact List.getElem_mem h
theorem small7_put {h : Heap} {n : Int} (hp : properB h = true) (hn : 1 ≤ n ∧ n ≤ h.conf.pw) (e : (small7 h n).2.2 = true) : PutOk h n (small7 h n).1 (small7 h n).2.1 := by
 have hp' := hp
 rw [proper_pt] at hp
 obtain ⟨p1,p2,p3,p4,p5,p6⟩ := hp
 have hb := validB_iff.1 p1
 by_cases hf : fitsB h n
 ·have e7 : small7 h n = (⟨h.conf,h.words,growP h.pages h.bump.toNat n,h.space,h.bump⟩,4096 + h.bump * h.conf.pw + (h.pages.getD h.bump.toNat default).used,true) := by rw [small7,if_pos hf]
  unfold fitsB at hf
  have hbi : h.bump.toNat < h.pages.length := by omega
  have hk : (h.pages.getD h.bump.toNat default).kind = 1 := by omega
  have ok := p6.b h.bump.toNat hbi
  have u := ok.k1 hk
  have ha := at_page p1 (i := h.bump) (by omega) (by omega)
  have hio := mul_step (i := h.bump) (j := h.conf.pg) (pw := h.conf.pw) (by omega) (by omega)
  rw [Int.mul_comm h.conf.pg] at hio
  rw [e7]
  refine ⟨?_,rfl,rfl,by simp [growP],rfl, ?_,by simp only; omega,by simp only; omega⟩
  ·rw [proper_pt]
   refine ⟨p1,p2,by simp [growP,p3],p4, ?_, ?_⟩
   ·refine Or.inr ⟨hf.1,by simp [growP]; omega, ?_⟩
    show ((growP h.pages h.bump.toNat n).getD h.bump.toNat default).kind = 1
    rw [growP_eq,getD_set hbi,if_pos rfl]
    exact hk
   ·exact p6.setPage hbi (Or.inr hk) ⟨ok.s,ok.n,ok.k,fun q => by simp only at q; omega,fun _ => by simp only; omega,fun q => by simp only at q; omega⟩ (Or.inr hk)
  ·intro p hp
   rcases List.mem_or_eq_of_mem_set hp with hp | rfl
   ·exact Or.inr ⟨p,hp,rfl⟩
   ·exact Or.inr ⟨_,getD_in hbi,rfl⟩
 ·by_cases hg : 0 ≤ first h.pages 1 ∧ (inUse h.pages : Int) < limit h.conf
  ·have e7 : small7 h n = (⟨h.conf,h.words,growP (freshP h) (first h.pages 1).toNat n,h.space,first h.pages 1⟩,4096 + first h.pages 1 * h.conf.pw + ((freshP h).getD (first h.pages 1).toNat default).used,true) := by rw [small7,if_neg hf,if_pos hg]
   obtain ⟨g1,g2,g3⟩ := fresh_grow p4 hg.1 n
   have g4 := congrArg Page.used (freshP_ok p4 hg.1).2.2.2
   simp only at g4
   have ha := at_page p1 (i := first h.pages 1) (by omega) (by omega)
   have hio := mul_step (i := first h.pages 1) (j := h.conf.pg) (pw := h.conf.pw) (by omega) (by omega)
   rw [Int.mul_comm h.conf.pg] at hio
   rw [e7,g1,g4]
   refine ⟨?_,rfl,rfl,by simp,rfl, ?_,by simp only; omega,by simp only; omega⟩
   ·rw [proper_pt]
    refine ⟨p1,p2,by simp [p3],p4, ?_, ?_⟩
    ·refine Or.inr ⟨hg.1,by simp only [List.length_set]; omega, ?_⟩
     simp only
     rw [getD_set g3,if_pos rfl]
    ·exact p6.setPage g3 (Or.inl g2) ⟨by simp only; omega,by simp,by simp,by simp,fun _ => by simp only; omega,by simp⟩ (Or.inr rfl)
   ·intro p hp
    rcases List.mem_or_eq_of_mem_set hp with hp | rfl
    ·exact Or.inr ⟨p,hp,rfl⟩
    ·exact Or.inl rfl
  ·rw [small7,if_neg hf,if_neg hg] at e
   simp at e
theorem large7_put {h : Heap} {n : Int} (hp : properB h = true) (hk : 1 ≤ need h.conf n) (e : (large7 h n (need h.conf n)).2.2 = true) : PutOk h n (large7 h n (need h.conf n)).1 (large7 h n (need h.conf n)).2.1 := by
 have hp' := hp
 rw [proper_pt] at hp
 obtain ⟨p1,p2,p3,p4,p5,p6⟩ := hp
 have hb := validB_iff.1 p1
 by_cases hg : 0 ≤ first h.pages (need h.conf n) ∧ inUse h.pages + need h.conf n ≤ limit h.conf
 ·obtain ⟨g1,g2,g3⟩ := first_free hg.1
  have el : (largeP h.conf h.pages (first h.pages (need h.conf n)) h.space n).1 = tookP h.pages (first h.pages (need h.conf n)).toNat (need h.conf n).toNat ⟨2,h.space,n,0⟩ ⟨3,h.space,0,0⟩ := by
   rw [largeP,if_pos ⟨hk,by omega⟩,takeP,if_pos (by omega),if_pos g3]
  have e7 : large7 h n (need h.conf n) = (⟨h.conf,h.words,tookP h.pages (first h.pages (need h.conf n)).toNat (need h.conf n).toNat ⟨2,h.space,n,0⟩ ⟨3,h.space,0,0⟩,h.space,h.bump⟩,4096 + first h.pages (need h.conf n) * h.conf.pw,true) := by rw [large7,if_pos hg,el]
  have hf : ∀ j,j < (need h.conf n).toNat → (h.pages.getD ((first h.pages (need h.conf n)).toNat + j) default).kind = 0 := freeK_iff.1 g3
  have hlen : (tookP h.pages (first h.pages (need h.conf n)).toNat (need h.conf n).toNat ⟨2,h.space,n,0⟩ ⟨3,h.space,0,0⟩).length = h.pages.length := tookP_len (by omega)
  have hu := need_used hk
  have h0 : 0 ≤ first h.pages (need h.conf n) * h.conf.pw := Int.mul_nonneg hg.1 (by omega)
  have hio := Int.mul_le_mul_of_nonneg_right (show first h.pages (need h.conf n) + need h.conf n ≤ h.conf.pg by omega) (show 0 ≤ h.conf.pw by omega)
  rw [Int.add_mul,Int.mul_comm h.conf.pg] at hio
  rw [e7]
  refine ⟨?_,rfl,rfl,hlen,rfl, ?_,by simp only; omega,by simp only; omega⟩
  ·rw [proper_pt]
   refine ⟨p1,p2,by simp only [hlen]; exact p3,p4, ?_, ?_⟩
   ·simp only [hlen]
    rcases p5 with p5 | p5
    ·exact Or.inl p5
    ·refine Or.inr ⟨p5.1,p5.2.1, ?_⟩
     have hne : ¬ ((first h.pages (need h.conf n)).toNat ≤ h.bump.toNat ∧ h.bump.toNat < (first h.pages (need h.conf n)).toNat + (need h.conf n).toNat) := fun hc => by
      have := hf (h.bump.toNat - (first h.pages (need h.conf n)).toNat) (by omega)
      rw [show (first h.pages (need h.conf n)).toNat + (h.bump.toNat - (first h.pages (need h.conf n)).toNat) = h.bump.toNat by omega] at this
      omega
     rw [tookP_get (by omega) (by omega),if_neg (by omega),if_neg (by omega)]
     exact p5.2.2
   ·exact p6.took (by omega) (by omega) hf (by omega) p4
  ·intro p hp
   rcases List.mem_or_eq_of_mem_set hp with hp | rfl
   ·simp only [wr,List.mem_append] at hp
    rcases hp with (hp | hp) | hp
    ·exact Or.inr ⟨p,List.mem_of_mem_take hp,rfl⟩
    ·have := List.eq_of_mem_replicate (List.mem_of_mem_take hp)
     subst this
     exact Or.inl rfl
    ·exact Or.inr ⟨p,List.mem_of_mem_drop hp,rfl⟩
   ·exact Or.inl rfl
 ·rw [large7,if_neg hg] at e
  simp at e
theorem objW_ok {hd : Header} (hv : validH hd = true) (hm : 0 ≤ hd.map ∧ hd.map ≤ 4294967295) : WOk (objW hd) ∧ ((objW hd).length : Int) = sizeH hd := by
 have hb := validH_bounds hv hm.1 hm.2
 constructor
 ·intro x hx
  simp only [objW,List.mem_cons,List.mem_replicate,encodeH,if_pos hv] at hx
  rcases hx with rfl | ⟨_,rfl⟩ <;> omega
 ·rw [sizeH,if_pos hv]
  simp [objW]; omega
theorem new7_ok {h : Heap} {hd : Header} (hw : WOk h.words) (hm : 0 ≤ hd.map ∧ hd.map ≤ 4294967295) (e : (new7 h hd).2.2 = 0) :
  properB h = true ∧ asksH h.conf hd = true ∧ PutOk h (sizeH hd) (put7 h hd).1 (put7 h hd).2.1 ∧ (put7 h hd).2.2 = true ∧ (new7 h hd).2.1 = (put7 h hd).2.1 ∧ (new7 h hd).1 = { (put7 h hd).1 with words := (writeA h.words (put7 h hd).2.1 (objW hd)).1 } ∧ properB (new7 h hd).1 = true ∧ WOk (new7 h hd).1.words := by
 unfold new7 at e
 split at e
 ·rename_i c1
  split at e
  ·rename_i c2
   obtain ⟨a1,a2,a3,a4,a5⟩ := asksH_ok c1.2
   have po := proper_ok c1.1
   have hput : PutOk h (sizeH hd) (put7 h hd).1 (put7 h hd).2.1 := by
    by_cases hn : 0 < need h.conf (sizeH hd)
    ·have e7 : put7 h hd = large7 h (sizeH hd) (need h.conf (sizeH hd)) := by rw [put7,if_pos hn]
     rw [e7] at c2 ⊢
     exact large7_put c1.1 (by omega) c2
    ·have e7 : put7 h hd = small7 h (sizeH hd) := by rw [put7,if_neg hn]
     rw [e7] at c2 ⊢
     refine small7_put c1.1 ⟨a2, ?_⟩ c2
     unfold need at hn a4
     split at a4
     ·rename_i hc
      rw [if_pos hc] at hn
      split at a4
      ·omega
      ·rename_i hd'
       rw [if_neg hd'] at hn
       have e := Int.mul_ediv_add_emod (sizeH hd + h.conf.pw - 1) h.conf.pw
       have hz : (sizeH hd + h.conf.pw - 1) / h.conf.pw = 0 := by omega
       rw [hz] at e
       have := Int.emod_lt_of_pos (sizeH hd + h.conf.pw - 1) (b := h.conf.pw) (by omega)
       omega
     ·omega
   have ho := objW_ok a1 hm
   have hin : 4096 ≤ (put7 h hd).2.1 ∧ (put7 h hd).2.1 - 4096 + (objW hd).length ≤ h.words.length := ⟨hput.lo,by have := hput.hi; omega⟩
   have e2 : writeA h.words (put7 h hd).2.1 (objW hd) = (spl h.words ((put7 h hd).2.1 - 4096).toNat (objW hd),0) := by rw [writeA,if_pos hin]
   have hlen : (spl h.words ((put7 h hd).2.1 - 4096).toNat (objW hd)).length = h.words.length := spl_len (by omega)
   have e3 : (initH (put7 h hd).1 (put7 h hd).2.1 hd).1 = { (put7 h hd).1 with words := (writeA h.words (put7 h hd).2.1 (objW hd)).1 } := by
    rw [initH,if_pos ⟨hput.pr,a1⟩,hput.w,e2]
    simp
   have e4 : new7 h hd = ((initH (put7 h hd).1 (put7 h hd).2.1 hd).1,(put7 h hd).2.1,0) := by rw [new7,if_pos c1,if_pos c2]
   refine ⟨c1.1,c1.2,hput,c2,by rw [e4],by rw [e4]; exact e3, ?_, ?_⟩
   ·rw [e4]
    simp only
    rw [e3,e2]
    have q := hput.pr
    rw [proper_pt] at q ⊢
    refine ⟨q.1, ?_,q.2.2.1,q.2.2.2.1,q.2.2.2.2.1,q.2.2.2.2.2⟩
    simp only [hlen]
    have := q.2.1
    rw [hput.w] at this
    exact this
   ·rw [e4]
    simp only
    rw [e3]
    exact wok_write hw ho.1 _
  ·simp at e
 ·simp at e
theorem spl_took {l : List Page} {i k : Nat} {p q : Page} (hk : 1 ≤ k) (h : i + k ≤ l.length) : spl l i (p :: List.replicate (k - 1) q) = tookP l i k p q := by
 obtain ⟨m,rfl⟩ : ∃ m,k = m + 1 := ⟨k - 1,by omega⟩
 have hl : (List.take i l).length = i := by simp; omega
 rw [tookP,wr,spl,List.take_of_length_le (l := List.replicate (m + 1) q) (by simp),List.append_assoc,List.append_assoc,List.set_append,if_neg (by omega),hl,Nat.sub_self]
 simp [List.replicate_succ]
theorem inUseN_zero {l : List Page} : ∀ {i : Nat},(∀ j,j < i → (l.getD j default).kind = 0) → inUseN l i = 0
 | 0,_ => rfl
 | i + 1,h => by
  have hp : pageAt l i = l.getD i default := by rw [pageAt_getD]; simp
  rw [inUseN,inUseN_zero (fun j hj => h j (by omega)),hp,if_pos (h i (by omega))]
theorem inUse_free {l : List Page} {i k : Nat} (h : i + k ≤ l.length) (hf : freeK l i k = true) : inUse ((l.drop i).take k) = 0 := by
 refine inUseN_zero fun j hj => ?_
 simp only [List.length_take,List.length_drop] at hj
 have := freeK_iff.1 hf j (by omega)
 rw [List.getD_eq_getElem?_getD] at this ⊢
 rwa [List.getElem?_take,if_pos (by omega),List.getElem?_drop]
theorem clonePagesN (l : List Page) (hl : l.length ≤ 1048576) (hne : l ≠ []) : GSpec Try.prog 41 [pagesV l] true (.ow 0) [.arr 65 4 (l.map Page.dv)] := by
 exact gF [24007] Try.func41 [] (Fh 5 [.els (List.map Page.dv [])] (Fh 7 [.els (List.map Page.dv l)] (Fa (by exact map_ne hne : List.map Page.dv l ≠ []) (Fr (List.map Page.dv []) (Fa (by (simp [*]; omega) : (List.map Page.dv []).length + (List.map Page.dv l).length≤2 ^ 30) (Fr (List.map Page.dv l) (Fa (by exact flat_pages _ : FlatEls (List.map Page.dv l)) Fz)))))))
theorem pageMade (ps l : List Page) (i : Int) (hl : ps.length ≤ 1048576) (hll : l.length ≤ 1048576) (hi : 0 ≤ i) (h1 : i + l.length ≤ ps.length) (hf : freeK ps i.toNat l.length = true) (hn : 0 < ps.length) : GSpec Try.prog 55 [pagesV ps,int i,pagesV l] true (.tu [.ow 0,int 0]) [.arr 65 4 ((spl ps i.toNat l).map Page.dv)] := by
 have hne : ps ≠ [] := ne_of_len hn
 have e1 : inUse (List.take ((i + l.length).toNat - i.toNat) (List.drop i.toNat ps)) = 0 := by
  rw [show (i + l.length).toNat - i.toNat = l.length from by omega]
  exact inUse_free (by omega) hf
 have hs : spliceE (List.map Page.dv ps) i.toNat (List.map Page.dv l) = List.map Page.dv (spl ps i.toNat l) := by simp [spliceE,spl]
 exact gF [33030] Try.func55 [] (Fh 14 [.int ↑ps.length] (Fh 17 [.int ((↑ps.length : Int) - (↑l.length : Int))] (Fh 24 [.int ↑l.length] (Fh 26 [.els (List.map Page.dv (List.take ((i + (↑l.length : Int)).toNat - i.toNat) (List.drop i.toNat ps)))] (Fh 35 [.els (List.map Page.dv (List.take i.toNat ps ++ l ++ List.drop (i.toNat + l.length) ps))] (Fa (by intro hg; (try simp only [bs] at hg); simp only [List.length_map] : (!decide (i < 0)) =true→(↑(List.map Page.dv ps).length : Int) =(↑ps.length : Int)) (Fa (by intro hg; (try simp only [bs] at hg); simp only [List.length_map] : (!decide (i < 0)) =true→(↑(List.map Page.dv l).length : Int) =(↑l.length : Int)) (Fa (by intro hg; (try simp only [bs] at hg); exact wrapI2 rfl (by omega) (by omega) : (!decide (i < 0)) =true→IntKind.i64.wrap ((↑ps.length : Int) - (↑l.length : Int)) =(↑ps.length : Int) - (↑l.length : Int)) (Ffb 19 (decide (i < 0)||decide ((↑ps.length : Int) - (↑l.length : Int) < i)) (Fl 16 Page.dv l (Fi 25 (i + (↑l.length : Int)) (Fa (by (simp only [List.length_map]; omega) : 0≤i∧i≤i + (↑l.length : Int)∧i + (↑l.length : Int)≤(↑(List.map Page.dv ps).length : Int)) (Fa (by simp [e1,spl,List.map_take,List.map_drop,List.map_set,List.map_append,wdv,idv] : List.take ((i + (↑l.length : Int)).toNat - i.toNat) (List.drop i.toNat (List.map Page.dv ps)) =List.map Page.dv (List.take ((i + (↑l.length : Int)).toNat - i.toNat) (List.drop i.toNat ps))) (Fc 27 (@pageInUse (List.take ((i + (↑l.length : Int)).toNat - i.toNat) (List.drop i.toNat ps)) (by (simp [e1,spl, *]; omega))) (Ffb 28 (decide (0 < (↑(inUse (List.take ((i + (↑l.length : Int)).toNat - i.toNat) (List.drop i.toNat ps))) : Int))) (Fc 30 (@clonePagesN ps ‹_› ‹_›) (Fa (by (simp only [List.length_map]; omega) : 0≤i∧i≤(↑(List.map Page.dv ps).length : Int)) (Fa (by (simp only [List.length_map]; omega) : (List.map Page.dv l).length≤(↑(List.map Page.dv ps).length : Int).toNat - i.toNat) (Fa (by exact hs : spliceE (List.map Page.dv ps) i.toNat (List.map Page.dv l) =List.map Page.dv (List.take i.toNat ps ++ l ++ List.drop (i.toNat + l.length) ps)) (Fa (by exact flat_pages _ : FlatEls (List.map Page.dv (List.take i.toNat ps ++ l ++ List.drop (i.toNat + l.length) ps))) Fz))))))))))))))))))))
theorem took1 {l : List Page} {i : Nat} {p q : Page} (h : i + 1 ≤ l.length) : spl l i [p] = tookP l i 1 p q := by
 have := spl_took (l := l) (i := i) (k := 1) (p := p) (q := q) (Nat.le_refl _) h
 simpa using this
theorem pageSmallN (l : List Page) (i sp : Int) (hl : l.length ≤ 1048576) (hs : 0 ≤ sp ∧ sp ≤ 1) (hi : 0 ≤ i ∧ i + 1 ≤ l.length) (hf : freeK l i.toNat 1 = true) : GSpec Try.prog 42 [pagesV l,int i,int sp] true (.tu [.ow 0,int 0]) [.arr 65 4 ((tookP l i.toNat 1 ⟨1,sp,0,0⟩ ⟨0,0,0,0⟩).map Page.dv)] := by
 have e := took1 (l := l) (i := i.toNat) (p := ⟨1,sp,0,0⟩) (q := ⟨0,0,0,0⟩) (by omega)
 rw [← e]
 have e2 : freeK l i.toNat ([⟨1,sp,0,0⟩] : List Page).length = true := hf
 have e3 : spacedB ⟨1,sp,0,0⟩ = true := by simp [spacedB]; omega
 exact gF [33018] Try.func42 [] (Fh 17 [.els (List.map Page.dv [Page.mk 1 sp 0 0])] (Fc 12 (@entrySpaced (Page.mk 1 sp 0 0)) (Ffb 13 (!spacedB (Page.mk 1 sp 0 0)) (Fr (List.map Page.dv [Page.mk 1 sp 0 0]) (Fc 18 (@pageMade l ([Page.mk 1 sp 0 0]) i ‹_› (by simp [*]) (by omega) (by simp [*]) ‹_› (by omega)) (Fa (by exact flat_pages _ : FlatEls (List.map Page.dv (spl l i.toNat [Page.mk 1 sp 0 0]))) Fz))))))
def lrgL (l : List Page) (i sp n k : Int) (j : Nat) : Tg := ⟨tm 45 [(1,pagesV l),(2,int i),(3,int sp),(10,.d (.sl 0 [])),(11,int 0),(13,int k),(14,.ow 40029)],[(40029,.arr 65 4 (((⟨2,sp,n,0⟩ : Page) :: List.replicate j ⟨3,sp,0,0⟩).map Page.dv))],60⟩
theorem lrgRound (l : List Page) (i sp n k : Int) (j : Nat) (hj : (j : Int) + 1 < k) (hk : k ≤ 1000) : CSpec Try.prog (rndF Try.f43 0) (lrgL l i sp n k j).st .nrm (lrgL l i sp n k (j + 1)).st := by
 have e : ((⟨2,sp,n,0⟩ : Page) :: List.replicate (j + 1) ⟨3,sp,0,0⟩) = (⟨2,sp,n,0⟩ :: List.replicate j ⟨3,sp,0,0⟩) ++ [⟨3,sp,0,0⟩] := by rw [List.replicate_succ',List.cons_append]
 exact sF [(488038,40029)] [false,false,false,false,false,false,false,true] (Fh 37 [.els (List.map Page.dv [Page.mk 3 sp 0 0])] (Fh 38 [.els (List.map Page.dv (Page.mk 2 sp n 0 :: List.replicate j (Page.mk 3 sp 0 0) ++ [Page.mk 3 sp 0 0]))] (Fg 31 (by simp only [List.length_map,List.length_append,List.length_take,List.length_drop,List.length_set,List.length_replicate,List.length_nil,List.length_cons] : (↑(List.map Page.dv (Page.mk 2 sp n 0 :: List.replicate j (Page.mk 3 sp 0 0))).length : Int) =(↑(j + 1) : Int)) (Ftb 33 (decide ((↑(j + 1) : Int) < k)) (Fr (List.map Page.dv [Page.mk 3 sp 0 0]) (Fa (by (simp [*]; omega) : (List.map Page.dv (Page.mk 2 sp n 0 :: List.replicate j (Page.mk 3 sp 0 0))).length + (List.map Page.dv [Page.mk 3 sp 0 0]).length≤2 ^ 30) (Fa (by simp [List.map_take,List.map_drop,List.map_set,List.map_append,wdv,idv] : List.map Page.dv (Page.mk 2 sp n 0 :: List.replicate j (Page.mk 3 sp 0 0)) ++ List.map Page.dv [Page.mk 3 sp 0 0] =List.map Page.dv (Page.mk 2 sp n 0 :: List.replicate j (Page.mk 3 sp 0 0) ++ [Page.mk 3 sp 0 0])) (Fr (65 : Int) (Fa (by refine congrArg _ ?_; rw [e] : List.map Page.dv (Page.mk 2 sp n 0 :: List.replicate j (Page.mk 3 sp 0 0) ++ [Page.mk 3 sp 0 0]) =List.map Page.dv (Page.mk 2 sp n 0 :: List.replicate (j + 1) (Page.mk 3 sp 0 0))) Fz)))))))))
theorem lrgEnd (l : List Page) (i sp n k : Int) (h1 : 1 ≤ k) : CSpec Try.prog (rndF Try.f43 0) (lrgL l i sp n k (k.toNat - 1)).st (.ext 0) (Tg.st ⟨tm 45 [(1,pagesV l),(2,int i),(10,.d (.sl 0 [])),(11,int 0),(14,.ow 40029)],[(40029,.arr 65 4 (((⟨2,sp,n,0⟩ : Page) :: List.replicate (k.toNat - 1) ⟨3,sp,0,0⟩).map Page.dv))],60⟩) := by
 exact sF [] [] (Fg 31 (by simp only [List.length_map,List.length_append,List.length_take,List.length_drop,List.length_set,List.length_replicate,List.length_nil,List.length_cons] : (↑(List.map Page.dv (Page.mk 2 sp n 0 :: List.replicate (k.toNat - 1) (Page.mk 3 sp 0 0))).length : Int) =(↑(k.toNat - 1 + 1) : Int)) (Ffb 33 (decide ((↑(k.toNat - 1 + 1) : Int) < k)) Fz))
theorem lrgLoop (l : List Page) (i sp n k : Int) (h1 : 1 ≤ k) (hk : k ≤ 1000) : CSpec Try.prog (blkF Try.f43 0) (Tg.st ⟨tm 45 [(1,pagesV l),(2,int i),(3,int sp),(10,.d (.sl 0 [])),(11,int 0),(13,int k),(14,.ow 40029)],[(40029,.arr 65 4 ([(⟨2,sp,n,0⟩ : Page)].map Page.dv))],60⟩) .nrm (Tg.st ⟨tm 45 [(1,pagesV l),(2,int i),(10,.d (.sl 0 [])),(11,int 0),(14,.ow 40029)],[(40029,.arr 65 4 (((⟨2,sp,n,0⟩ : Page) :: List.replicate (k.toNat - 1) ⟨3,sp,0,0⟩).map Page.dv))],60⟩) :=
 loop_ext_of (S := fun j => (lrgL l i sp n k j).st) (k.toNat - 1) (by kernel_rfl) (fun j hj => lrgRound l i sp n k j (by omega) hk) (lrgEnd l i sp n k h1)
theorem pageLargeN (c : Conf) (l : List Page) (i sp n : Int) (hl : l.length ≤ 1048576) (hs : 0 ≤ sp ∧ sp ≤ 1) (hn : 1 ≤ need c n) (hi : 0 ≤ i ∧ i + need c n ≤ l.length) (hf : freeK l i.toNat (need c n).toNat = true) : GSpec Try.prog 43 [c.av,pagesV l,int i,int sp,int n] true (.tu [.ow 0,int 0]) [.arr 65 4 ((tookP l i.toNat (need c n).toNat ⟨2,sp,n,0⟩ ⟨3,sp,0,0⟩).map Page.dv)] := by
 have e := spl_took (l := l) (i := i.toNat) (k := (need c n).toNat) (p := ⟨2,sp,n,0⟩) (q := ⟨3,sp,0,0⟩) (by omega) (by omega)
 rw [← e]
 have hr := need_range c n
 have e3 : spacedB ⟨2,sp,n,0⟩ = true := by simp [spacedB]; omega
 exact gF [481042] Try.func43 [] (Fh 25 [.call true (Sx.bool (spacedB (Page.mk 2 sp n 0))) []] (Fh 29 [.els (List.map Page.dv [Page.mk 2 sp n 0])] (Fc 20 (@pageNeed c n) (Fa ((fun hg => by (try simp only [bs] at hg); exact @entrySpaced (Page.mk 2 sp n 0)) : (!decide (need c n < 1)) =true→GSpec Try.prog 54 [(Page.mk 2 sp n 0).av] true (Sx.bool (spacedB (Page.mk 2 sp n 0))) []) (Ff 27 (by simp [*] : (decide (need c n < 1)||!spacedB (Page.mk 2 sp n 0))=false) (Fr (List.map Page.dv [Page.mk 2 sp n 0]) (Fu (@lrgLoop l i sp n (need c n) ‹_› (by omega)) (Fc 42 (@pageMade l (Page.mk 2 sp n 0 :: List.replicate ((need c n).toNat - 1) (Page.mk 3 sp 0 0)) i ‹_› (by (simp [*]; omega)) (by omega) (by (simp [*]; omega)) (by grind []) (by omega)) (Fa (by exact flat_pages _ : FlatEls (List.map Page.dv (spl l i.toNat (Page.mk 2 sp n 0 :: List.replicate ((need c n).toNat - 1) (Page.mk 3 sp 0 0))))) Fz)))))))))
theorem asks_eq (c : Conf) (hd : Header) : (validH hd && hd.kind != 0 && decide (0 ≤ need c (sizeH hd))) = asksH c hd := by
 have hr := need_range c (sizeH hd)
 have e : decide (0 ≤ need c (sizeH hd)) = decide (need c (sizeH hd) ≠ -1) := decide_eq_decide.2 (by omega)
 have e3 : (hd.kind != 0) = decide (hd.kind ≠ 0) := by rw [Bool.eq_iff_iff]; simp
 rw [asksH,e,e3]
theorem allocAsks (c : Conf) (hd : Header) (hm : 0 ≤ hd.map ∧ hd.map ≤ 4294967295) : GSpec Try.prog 7 [c.av,hd.av] true (bool (asksH c hd)) [] := by
 exact gF [] Try.func7 [false,false,false,false,false,false,false,false,true] (Fh 15 [.call true (int (sizeH hd)) []] (Fh 16 [.call true (int (need c (sizeH hd))) []] (Fc 6 (@headerValid hd ‹_›) (Fa ((fun hg => by (try simp only [bs] at hg); exact @headerSize hd (by (try simp only [bs] at hg); assumption)) : (validH hd&&hd.kind != 0) =true→GSpec Try.prog 23 [hd.av] true (int (sizeH hd)) []) (Fa ((fun hg => by (try simp only [bs] at hg); exact @pageNeed c (sizeH hd)) : (validH hd&&hd.kind != 0) =true→GSpec Try.prog 22 [c.av,int (sizeH hd)] true (int (need c (sizeH hd))) []) (Fa (by exact asks_eq _ _ : (validH hd&&hd.kind != 0&&decide (0≤need c (sizeH hd))) =asksH c hd) Fz))))))
theorem allocPlaceFit (h : Heap) (n : Int) (hp : properB h = true) (hn : 1 ≤ n ∧ n ≤ 256) (hk : ¬ 0 < need h.conf n) (hf : fitsB h n) : GSpec Try.prog 40 [h.av,int n] false (.ic 58 (.ag [int h.bump,int (h.pages.getD h.bump.toNat default).used])) [] := by
 obtain ⟨o1,o2,o3,o4,o5,o6,o7,o8,o9⟩ := proper_ok hp
 have hb := (properB_iff.1 hp).2.2.2.2.1
 have hpg := fun hj => proper_page hp (j := h.bump.toNat) hj
 have hli := limit_le o1
 unfold fitsB at hf
 exact gF [] Try.func40 [] (Fh 65 [.int (h.conf.pw - (h.pages.getD h.bump.toNat default).used)] (Fc 13 (@pageInUse h.pages (by omega)) (Fc 16 (@pageLimit h.conf) (Fc 20 (@pageNeed h.conf n) (Ffb 22 (decide (0 < need h.conf n)) (Ftb 46 (decide (0≤h.bump)&&decide ((↑(inUse h.pages) : Int)≤limit h.conf)) (Fe 51 Page.dv h.pages h.bump (Fa (by intro hg; (try simp only [bs] at hg); exact wrapI2 rfl (by omega) (by omega) : ((h.pages.getD h.bump.toNat default).space == h.space) =true→IntKind.i64.wrap (h.conf.pw - (h.pages.getD h.bump.toNat default).used) =h.conf.pw - (h.pages.getD h.bump.toNat default).used) (Ftb 67 ((h.pages.getD h.bump.toNat default).space == h.space&&decide (n≤h.conf.pw - (h.pages.getD h.bump.toNat default).used)) Fz)))))))))
theorem allocPlaceFresh (h : Heap) (n : Int) (hp : properB h = true) (hn : 1 ≤ n ∧ n ≤ 256) (hk : ¬ 0 < need h.conf n) (hf : ¬ fitsB h n) (hg : 0 ≤ first h.pages 1 ∧ (inUse h.pages : Int) < limit h.conf) : GSpec Try.prog 40 [h.av,int n] false (.ic 74 (.ag [int (first h.pages 1)])) [] := by
 obtain ⟨o1,o2,o3,o4,o5,o6,o7,o8,o9⟩ := proper_ok hp
 have hb := (properB_iff.1 hp).2.2.2.2.1
 have hpg := fun hj => proper_page hp (j := h.bump.toNat) hj
 have hli := limit_le o1
 unfold fitsB at hf
 have Q0 {h_ c_ p_} (r_ : Fq h_ c_ p_) := Fc 13 (@pageInUse h.pages (by omega)) (Fc 16 (@pageLimit h.conf) (Fc 20 (@pageNeed h.conf n) (Ffb 22 (decide (0 < need h.conf n)) r_)))
 rcases bb (decide (0 ≤ h.bump) && decide ((↑(inUse h.pages) : Int) ≤ limit h.conf)) with hc0 | hc0<;>have hc0p:=hc0<;>simp only [bs] at hc0p
 ·obtain ⟨hc0pa,hc0pb⟩ := hc0p
  exact gF [] Try.func40 [] (Fh 65 [.int (h.conf.pw - (h.pages.getD h.bump.toNat default).used)] (Q0 (Ft 46 hc0 (Fe 51 Page.dv h.pages h.bump (Fa (by intro hg; (try simp only [bs] at hg); exact wrapI2 rfl (by omega) (by omega) : ((h.pages.getD h.bump.toNat default).space == h.space) =true→IntKind.i64.wrap (h.conf.pw - (h.pages.getD h.bump.toNat default).used) =h.conf.pw - (h.pages.getD h.bump.toNat default).used) (Ffb 67 ((h.pages.getD h.bump.toNat default).space == h.space&&decide (n≤h.conf.pw - (h.pages.getD h.bump.toNat default).used)) (Fc 76 (@pageFirst h.pages (1) (by omega)) (Ftb 83 (decide (0≤first h.pages 1)&&decide ((↑(inUse h.pages) : Int) < limit h.conf)) Fz))))))))
 ·exact gF [] Try.func40 [] (Q0 (Ff 46 hc0 (Fc 76 (@pageFirst h.pages (1) (by omega)) (Ftb 83 (decide (0≤first h.pages 1)&&decide ((↑(inUse h.pages) : Int) < limit h.conf)) Fz))))
theorem allocPlaceFull (h : Heap) (n : Int) (hp : properB h = true) (hn : 1 ≤ n ∧ n ≤ 256) (hk : ¬ 0 < need h.conf n) (hf : ¬ fitsB h n) (hg : ¬ (0 ≤ first h.pages 1 ∧ (inUse h.pages : Int) < limit h.conf)) : GSpec Try.prog 40 [h.av,int n] false (.d (.sc .nilIface)) [] := by
 obtain ⟨o1,o2,o3,o4,o5,o6,o7,o8,o9⟩ := proper_ok hp
 have hb := (properB_iff.1 hp).2.2.2.2.1
 have hpg := fun hj => proper_page hp (j := h.bump.toNat) hj
 have hli := limit_le o1
 unfold fitsB at hf
 have Q0 {h_ c_ p_} (r_ : Fq h_ c_ p_) := Fc 13 (@pageInUse h.pages (by omega)) (Fc 16 (@pageLimit h.conf) (Fc 20 (@pageNeed h.conf n) (Ffb 22 (decide (0 < need h.conf n)) r_)))
 rcases bb (decide (0 ≤ h.bump) && decide ((↑(inUse h.pages) : Int) ≤ limit h.conf)) with hc0 | hc0<;>have hc0p:=hc0<;>simp only [bs] at hc0p
 ·obtain ⟨hc0pa,hc0pb⟩ := hc0p
  exact gF [] Try.func40 [] (Fh 65 [.int (h.conf.pw - (h.pages.getD h.bump.toNat default).used)] (Q0 (Ft 46 hc0 (Fe 51 Page.dv h.pages h.bump (Fa (by intro hg; (try simp only [bs] at hg); exact wrapI2 rfl (by omega) (by omega) : ((h.pages.getD h.bump.toNat default).space == h.space) =true→IntKind.i64.wrap (h.conf.pw - (h.pages.getD h.bump.toNat default).used) =h.conf.pw - (h.pages.getD h.bump.toNat default).used) (Ffb 67 ((h.pages.getD h.bump.toNat default).space == h.space&&decide (n≤h.conf.pw - (h.pages.getD h.bump.toNat default).used)) (Fc 76 (@pageFirst h.pages (1) (by omega)) (Ffb 83 (decide (0≤first h.pages 1)&&decide ((↑(inUse h.pages) : Int) < limit h.conf)) Fz))))))))
 ·exact gF [] Try.func40 [] (Q0 (Ff 46 hc0 (Fc 76 (@pageFirst h.pages (1) (by omega)) (Ffb 83 (decide (0≤first h.pages 1)&&decide ((↑(inUse h.pages) : Int) < limit h.conf)) Fz))))
theorem allocPlaceOwn (h : Heap) (n : Int) (hp : properB h = true) (hk : 0 < need h.conf n) (hg : 0 ≤ first h.pages (need h.conf n) ∧ inUse h.pages + need h.conf n ≤ limit h.conf) : GSpec Try.prog 40 [h.av,int n] false (.ic 78 (.ag [int (first h.pages (need h.conf n))])) [] := by
 obtain ⟨o1,o2,o3,o4,o5,o6,o7,o8,o9⟩ := proper_ok hp
 have hnr := need_range h.conf n
 have hli := limit_le o1
 exact gF [] Try.func40 [] (Fh 33 [.int (limit h.conf - need h.conf n)] (Fc 13 (@pageInUse h.pages (by omega)) (Fc 16 (@pageLimit h.conf) (Fc 20 (@pageNeed h.conf n) (Ftb 22 (decide (0 < need h.conf n)) (Fc 26 (@pageFirst h.pages (need h.conf n) (by omega)) (Fa (by intro hg; (try simp only [bs] at hg); exact wrapI2 rfl (by omega) (by omega) : decide (0≤first h.pages (need h.conf n)) =true→IntKind.i64.wrap (limit h.conf - need h.conf n) =limit h.conf - need h.conf n) (Ftb 35 (decide (0≤first h.pages (need h.conf n))&&decide ((↑(inUse h.pages) : Int)≤limit h.conf - need h.conf n)) Fz))))))))
theorem allocPlaceNo (h : Heap) (n : Int) (hp : properB h = true) (hk : 0 < need h.conf n) (hg : ¬ (0 ≤ first h.pages (need h.conf n) ∧ inUse h.pages + need h.conf n ≤ limit h.conf)) : GSpec Try.prog 40 [h.av,int n] false (.d (.sc .nilIface)) [] := by
 obtain ⟨o1,o2,o3,o4,o5,o6,o7,o8,o9⟩ := proper_ok hp
 have hnr := need_range h.conf n
 have hli := limit_le o1
 exact gF [] Try.func40 [] (Fh 33 [.int (limit h.conf - need h.conf n)] (Fc 13 (@pageInUse h.pages (by omega)) (Fc 16 (@pageLimit h.conf) (Fc 20 (@pageNeed h.conf n) (Ftb 22 (decide (0 < need h.conf n)) (Fc 26 (@pageFirst h.pages (need h.conf n) (by omega)) (Fa (by intro hg; (try simp only [bs] at hg); exact wrapI2 rfl (by omega) (by omega) : decide (0≤first h.pages (need h.conf n)) =true→IntKind.i64.wrap (limit h.conf - need h.conf n) =limit h.conf - need h.conf n) (Ffb 35 (decide (0≤first h.pages (need h.conf n))&&decide ((↑(inUse h.pages) : Int)≤limit h.conf - need h.conf n)) Fz))))))))
def putN (h : Heap) (n : Int) : Heap × Int × Bool := if 0 < need h.conf n then large7 h n (need h.conf n) else small7 h n
def prepI (h : Heap) (n : Int) : Int := if 0 < need h.conf n then first h.pages (need h.conf n) else if fitsB h n then h.bump else first h.pages 1
def prepO (h : Heap) (n : Int) : Int := if 0 < need h.conf n then 0 else if fitsB h n then (h.pages.getD h.bump.toNat default).used else 0
theorem allocPrepFit (h : Heap) (n : Int) (hp : properB h = true) (hn : 1 ≤ n ∧ n ≤ 256) (hk : ¬ 0 < need h.conf n) (hf : fitsB h n) : GSpec Try.prog 29 [h.av,int n] false (.tu [Heap.av ⟨h.conf,h.words,growP h.pages h.bump.toNat n,h.space,h.bump⟩,.ag [int h.bump,int (h.pages.getD h.bump.toNat default).used],int 0]) [] := by
 have po := proper_ok hp
 have hb := (properB_iff.1 hp).2.2.2.2.1
 have hf' := hf
 unfold fitsB at hf'
 have hne : h.pages ≠ [] := ne_of_len (by omega)
 have hpg := proper_page hp (j := h.bump.toNat) (by omega)
 exact gF [] Try.func29 [] (Fh 34 [.el (h.pages.getD h.bump.toNat default).dv] (Fh 10038 [.el (h.pages.getD h.bump.toNat default).dv,.els (List.map Page.dv (h.pages.set h.bump.toNat (Page.mk (h.pages.getD h.bump.toNat default).kind (h.pages.getD h.bump.toNat default).space ((h.pages.getD h.bump.toNat default).used + n) (h.pages.getD h.bump.toNat default).pins)))] (Fc 17 (@allocPlaceFit h n ‹_› ‹_› ‹_› ‹_›) (Fc 26 (@clonePagesN h.pages (by omega) ‹_›) (Fa (by (simp only [List.length_map]; omega) : 0≤h.bump∧h.bump.toNat < (List.map Page.dv h.pages).length) (Fa (by exact el_of (by omega) : (List.map Page.dv h.pages)[h.bump.toNat]? = some (h.pages.getD h.bump.toNat default).dv) (Fi 36 ((h.pages.getD h.bump.toNat default).used + n) (Fa (by (simp only [List.length_map]; omega) : 0≤h.bump∧h.bump.toNat < (List.map Page.dv h.pages).length) (Fa (by exact el_of (by omega) : (List.map Page.dv h.pages)[h.bump.toNat]? = some (h.pages.getD h.bump.toNat default).dv) (Fa (by rw [List.map_set]; rfl : (List.map Page.dv h.pages).set h.bump.toNat (spliceD (h.pages.getD h.bump.toNat default).dv (0 + #[Field.mk "Kind" 3 0 false "" "" 0,Field.mk "Space" 3 1 false "" "" 8,Field.mk "Used" 3 2 false "" "" 16,Field.mk "Pins" 3 3 false "" "" 24][2].offset) [dint ((h.pages.getD h.bump.toNat default).used + n)]) =List.map Page.dv (h.pages.set h.bump.toNat (Page.mk (h.pages.getD h.bump.toNat default).kind (h.pages.getD h.bump.toNat default).space ((h.pages.getD h.bump.toNat default).used + n) (h.pages.getD h.bump.toNat default).pins))) Fz))))))))))
theorem allocPrepFresh (h : Heap) (n : Int) (hp : properB h = true) (hn : 1 ≤ n ∧ n ≤ 256) (hk : ¬ 0 < need h.conf n) (hf : ¬ fitsB h n) (hg : 0 ≤ first h.pages 1 ∧ (inUse h.pages : Int) < limit h.conf) : GSpec Try.prog 29 [h.av,int n] false (.tu [Heap.av ⟨h.conf,h.words,growP (freshP h) (first h.pages 1).toNat n,h.space,first h.pages 1⟩,.ag [int (first h.pages 1),int 0],int 0]) [] := by
 have po := proper_ok hp
 obtain ⟨q1,q2,q3,q4⟩ := freshP_ok (h := h) po.2.2.2.2.2.2.2.2 hg.1
 obtain ⟨r1,r2,r3⟩ := first_free hg.1
 have r4 : freeK h.pages (first h.pages 1).toNat 1 = true := r3
 rw [q1] at q2 q4 ⊢
 have q6 := congrArg Page.used q4
 simp only at q6
 exact gF [] Try.func29 [true] (Fh 10072 [.el ((tookP h.pages (first h.pages 1).toNat 1 (Page.mk 1 h.space 0 0) (Page.mk 0 0 0 0)).getD (first h.pages 1).toNat default).dv,.els (List.map Page.dv ((tookP h.pages (first h.pages 1).toNat 1 (Page.mk 1 h.space 0 0) (Page.mk 0 0 0 0)).set (first h.pages 1).toNat (Page.mk ((tookP h.pages (first h.pages 1).toNat 1 (Page.mk 1 h.space 0 0) (Page.mk 0 0 0 0)).getD (first h.pages 1).toNat default).kind ((tookP h.pages (first h.pages 1).toNat 1 (Page.mk 1 h.space 0 0) (Page.mk 0 0 0 0)).getD (first h.pages 1).toNat default).space n ((tookP h.pages (first h.pages 1).toNat 1 (Page.mk 1 h.space 0 0) (Page.mk 0 0 0 0)).getD (first h.pages 1).toNat default).pins)))] (Fc 17 (@allocPlaceFresh h n ‹_› ‹_› ‹_› ‹_› ‹_›) (Fc 54 (@pageSmallN h.pages (first h.pages 1) h.space (by omega) (by omega) (by omega) ‹_›) (Fa (by (simp only [List.length_map]; omega) : 0≤first h.pages 1∧(first h.pages 1).toNat < (List.map Page.dv (tookP h.pages (first h.pages 1).toNat 1 (Page.mk 1 h.space 0 0) (Page.mk 0 0 0 0))).length) (Fa (by exact el_of (by omega) : (List.map Page.dv (tookP h.pages (first h.pages 1).toNat 1 (Page.mk 1 h.space 0 0) (Page.mk 0 0 0 0)))[(first h.pages 1).toNat]? = some ((tookP h.pages (first h.pages 1).toNat 1 (Page.mk 1 h.space 0 0) (Page.mk 0 0 0 0)).getD (first h.pages 1).toNat default).dv) (Fa (by rw [List.map_set]; rfl : (List.map Page.dv (tookP h.pages (first h.pages 1).toNat 1 (Page.mk 1 h.space 0 0) (Page.mk 0 0 0 0))).set (first h.pages 1).toNat (spliceD ((tookP h.pages (first h.pages 1).toNat 1 (Page.mk 1 h.space 0 0) (Page.mk 0 0 0 0)).getD (first h.pages 1).toNat default).dv (0 + #[Field.mk "Kind" 3 0 false "" "" 0,Field.mk "Space" 3 1 false "" "" 8,Field.mk "Used" 3 2 false "" "" 16,Field.mk "Pins" 3 3 false "" "" 24][2].offset) [dint n]) =List.map Page.dv ((tookP h.pages (first h.pages 1).toNat 1 (Page.mk 1 h.space 0 0) (Page.mk 0 0 0 0)).set (first h.pages 1).toNat (Page.mk ((tookP h.pages (first h.pages 1).toNat 1 (Page.mk 1 h.space 0 0) (Page.mk 0 0 0 0)).getD (first h.pages 1).toNat default).kind ((tookP h.pages (first h.pages 1).toNat 1 (Page.mk 1 h.space 0 0) (Page.mk 0 0 0 0)).getD (first h.pages 1).toNat default).space n ((tookP h.pages (first h.pages 1).toNat 1 (Page.mk 1 h.space 0 0) (Page.mk 0 0 0 0)).getD (first h.pages 1).toNat default).pins))) (Fr h.conf.pw (Fr h.conf.pg (Fr (List.map wdv h.words) (Fa (by refine congrArg _ ?_; (simp only [growP,q4]; (repeat' split) <;> first | rfl | omega | (exfalso; omega) | simp_all) : List.map Page.dv ((tookP h.pages (first h.pages 1).toNat 1 (Page.mk 1 h.space 0 0) (Page.mk 0 0 0 0)).set (first h.pages 1).toNat (Page.mk ((tookP h.pages (first h.pages 1).toNat 1 (Page.mk 1 h.space 0 0) (Page.mk 0 0 0 0)).getD (first h.pages 1).toNat default).kind ((tookP h.pages (first h.pages 1).toNat 1 (Page.mk 1 h.space 0 0) (Page.mk 0 0 0 0)).getD (first h.pages 1).toNat default).space n ((tookP h.pages (first h.pages 1).toNat 1 (Page.mk 1 h.space 0 0) (Page.mk 0 0 0 0)).getD (first h.pages 1).toNat default).pins)) =List.map Page.dv (Heap.mk h.conf h.words (growP (tookP h.pages (first h.pages 1).toNat 1 (Page.mk 1 h.space 0 0) (Page.mk 0 0 0 0)) (first h.pages 1).toNat n) h.space (first h.pages 1)).pages) (Fr h.space (Fr (first h.pages 1) (Fr (first h.pages 1) (Fr (0 : Int) (Fr (0 : Int) Fz)))))))))))))))
theorem allocPrepFull (h : Heap) (n : Int) (hp : properB h = true) (hn : 1 ≤ n ∧ n ≤ 256) (hk : ¬ 0 < need h.conf n) (hf : ¬ fitsB h n) (hg : ¬ (0 ≤ first h.pages 1 ∧ (inUse h.pages : Int) < limit h.conf)) : GSpec Try.prog 29 [h.av,int n] false (.tu [noHeap.av,.ag [int 0,int 0],int 3]) [] := by
 exact gF [] Try.func29 [] (Fc 17 (@allocPlaceFull h n ‹_› ‹_› ‹_› ‹_› (by omega)) (Fnl (Fnl Fz)))
theorem allocPrepOwn (h : Heap) (n : Int) (hp : properB h = true) (hk : 0 < need h.conf n) (hg : 0 ≤ first h.pages (need h.conf n) ∧ inUse h.pages + need h.conf n ≤ limit h.conf) : GSpec Try.prog 29 [h.av,int n] false (.tu [Heap.av ⟨h.conf,h.words,(largeP h.conf h.pages (first h.pages (need h.conf n)) h.space n).1,h.space,h.bump⟩,.ag [int (first h.pages (need h.conf n)),int 0],int 0]) [] := by
 have po := proper_ok hp
 obtain ⟨r1,r2,r3⟩ := first_free hg.1
 have hnr := need_range h.conf n
 have e : (largeP h.conf h.pages (first h.pages (need h.conf n)) h.space n).1 = tookP h.pages (first h.pages (need h.conf n)).toNat (need h.conf n).toNat ⟨2,h.space,n,0⟩ ⟨3,h.space,0,0⟩ := by
  rw [largeP,if_pos (by omega),takeP,if_pos (by omega),if_pos r3]
 rw [e]
 exact gF [] Try.func29 [] (Fc 17 (@allocPlaceOwn h n ‹_› ‹_› ‹_›) (Fc 96 (@pageLargeN h.conf h.pages (first h.pages (need h.conf n)) h.space n (by omega) (by omega) ‹_› (by omega) ‹_›) Fz))
theorem allocPrepNo (h : Heap) (n : Int) (hp : properB h = true) (hk : 0 < need h.conf n) (hg : ¬ (0 ≤ first h.pages (need h.conf n) ∧ inUse h.pages + need h.conf n ≤ limit h.conf)) : GSpec Try.prog 29 [h.av,int n] false (.tu [noHeap.av,.ag [int 0,int 0],int 3]) [] := by
 exact gF [] Try.func29 [] (Fc 17 (@allocPlaceNo h n ‹_› ‹_› (by omega)) (Fnl (Fnl Fz)))
theorem or_add {a v k : Nat} (ha : a < 2 ^ k) (hv : a + v * 2 ^ k < 18446744073709551616) : bits .or .u64 (a : Int) ((v * 2 ^ k : Nat) : Int) = ((a + v * 2 ^ k : Nat) : Int) := by
 rw [bits_or_u64_nat a (v * 2 ^ k) (by omega) (by omega),Nat.mul_comm v,Nat.or_comm,← Nat.two_pow_add_eq_or_of_lt ha,Nat.add_comm]
theorem andNot_zero {v n : Nat} (hn : n ≤ 64) (hv : v < 2 ^ n) : bits .andNot .u64 (v : Int) (2 ^ n - 1) = 0 := by
 have h64 : (2 : Nat) ^ n ≤ 2 ^ 64 := Nat.pow_le_pow_right (by decide) hn
 have hp : 0 < (2 : Nat) ^ n := Nat.two_pow_pos n
 have e : ((2 : Int) ^ n - 1) = ((2 ^ n - 1 : Nat) : Int) := by
  have : ((2 ^ n : Nat) : Int) = 2 ^ n := by simp
  omega
 rw [e]
 have h1 : (BitVec.ofInt 64 (v : Int)).toNat = v := by
  rw [BitVec.ofInt_natCast,BitVec.toNat_ofNat]; exact Nat.mod_eq_of_lt (by omega)
 have h2 : (BitVec.ofInt 64 ((2 ^ n - 1 : Nat) : Int)).toNat = 2 ^ n - 1 := by
  rw [BitVec.ofInt_natCast,BitVec.toNat_ofNat]; exact Nat.mod_eq_of_lt (by omega)
 show IntKind.u64.wrap ((BitVec.ofInt 64 (v : Int) &&& ~~~ BitVec.ofInt 64 ((2 ^ n - 1 : Nat) : Int)).toNat : Int) = _
 rw [BitVec.toNat_and,BitVec.toNat_not,h1,h2]
 have e2 : 2 ^ 64 - 1 - (2 ^ n - 1) = 2 ^ n * (2 ^ (64 - n) - 1) := by
  have : (2 : Nat) ^ 64 = 2 ^ n * 2 ^ (64 - n) := by rw [← Nat.pow_add]; congr 1; omega
  rw [Nat.mul_sub,Nat.mul_one,← this]; omega
 have e3 : v &&& (2 ^ 64 - 1 - (2 ^ n - 1)) = 0 := by
  rw [e2]
  apply Nat.eq_of_testBit_eq
  intro i
  rw [Nat.testBit_and,Nat.zero_testBit,Nat.testBit_two_pow_mul]
  by_cases hi : n ≤ i
  ·rw [Nat.testBit_lt_two_pow (Nat.lt_of_lt_of_le hv (Nat.pow_le_pow_right (by decide) hi)),Bool.false_and]
  ·simp [hi]
 rw [e3]
 decide
theorem bitsFits (v n : Int) (h0 : 0 ≤ v) (hn : 0 ≤ n ∧ n ≤ 64) (hv : v < 2 ^ n.toNat) : GSpec Try.prog 63 [u64 v,int n] true (bool true) [] := by
 have e : bits .andNot .u64 v (ones n) = 0 := by
  obtain ⟨a,rfl⟩ := Int.eq_ofNat_of_zero_le h0
  rw [ones,Nat.min_eq_left (by omega)]
  exact andNot_zero (by omega) (by exact_mod_cast hv)
 exact gF [] Try.func63 [true] (Fc 7 (@bitsOnes n) (Fb ((bits BinOp.andNot IntKind.u64 v (ones n) == 0)=true) Fz))
structure BField where
 width : Int
 value : Int
 deriving DecidableEq,Inhabited
def BField.dv (f : BField) : List DV := [.sc (.int .i64 f.width),.sc (.int .u64 f.value)]
def packL (k l m : Int) : List BField := [⟨2,1⟩,⟨2,k⟩,⟨12,l⟩,⟨32,m⟩]
def pk1 (k l m : Int) (i : Nat) : Tg := ⟨tm 55 [(0,.d (.sl 2 ((packL k l m).map BField.dv))),(2,u64 0),(3,int 0),(4,int ([64,62,60,48,16].getD i 0)),(11,.d (.sl 2 ((packL k l m).map BField.dv))),(12,int (packL k l m).length),(13,int i)],[],4⟩
theorem pk1Round (k l m : Int) (i : Nat) (hi : i < 4) : CSpec Try.prog (rndF Try.f56 0) (pk1 k l m i).st .nrm (pk1 k l m (i + 1)).st := by
 have eL : (packL k l m).length = 4 := rfl
 have e0 : (packL k l m).getD 0 default = ⟨2,1⟩ := rfl
 have e1 : (packL k l m).getD 1 default = ⟨2,k⟩ := rfl
 have e2 : (packL k l m).getD 2 default = ⟨12,l⟩ := rfl
 have e3 : (packL k l m).getD 3 default = ⟨32,m⟩ := rfl
 have h : i = 0 ∨ i = 1 ∨ i = 2 ∨ i = 3 := by omega
 rcases h with rfl | rfl | rfl | rfl
 ·exact sF [] [] (Fek 15 BField.dv (packL k l m) (↑0 : Int) 0 (Fg 29 (rfl : IntKind.i64.wrap ([64,62,60,48,16].getD 0 0 - ((packL k l m).getD 0 default).width) =64 - ((packL k l m).getD 0 default).width) Fz))
 ·exact sF [] [] (Fek 15 BField.dv (packL k l m) (↑1 : Int) 1 (Fg 29 (rfl : IntKind.i64.wrap ([64,62,60,48,16].getD 1 0 - ((packL k l m).getD 1 default).width) =62 - ((packL k l m).getD 1 default).width) Fz))
 ·exact sF [] [] (Fek 15 BField.dv (packL k l m) (↑2 : Int) 2 (Fg 29 (rfl : IntKind.i64.wrap ([64,62,60,48,16].getD 2 0 - ((packL k l m).getD 2 default).width) =60 - ((packL k l m).getD 2 default).width) Fz))
 ·exact sF [] [] (Fek 15 BField.dv (packL k l m) (↑3 : Int) 3 (Fg 29 (rfl : IntKind.i64.wrap ([64,62,60,48,16].getD 3 0 - ((packL k l m).getD 3 default).width) =48 - ((packL k l m).getD 3 default).width) Fz))
theorem pk1End (k l m : Int) : CSpec Try.prog (rndF Try.f56 0) (pk1 k l m 4).st (.ext 0) (Tg.st ⟨tm 55 [(0,.d (.sl 2 ((packL k l m).map BField.dv))),(2,u64 0),(3,int 0)],[],4⟩) := by
 have eL : (packL k l m).length = 4 := rfl
 exact sF [] [] Fz
theorem pk1Loop (k l m : Int) : CSpec Try.prog (blkF Try.f56 0) (Tg.st ⟨tm 55 [(0,.d (.sl 2 ((packL k l m).map BField.dv))),(2,u64 0),(3,int 0),(4,int 64),(11,.d (.sl 2 ((packL k l m).map BField.dv))),(12,int (packL k l m).length),(13,int 0)],[],4⟩) .nrm (Tg.st ⟨tm 55 [(0,.d (.sl 2 ((packL k l m).map BField.dv))),(2,u64 0),(3,int 0)],[],4⟩) :=
 loop_ext_of (S := fun i => (pk1 k l m i).st) 4 (by kernel_rfl) (fun i hi => pk1Round k l m i hi) (pk1End k l m)
def pkW (k l m : Int) (i : Nat) : Int := [0,1,1 + 4 * k,1 + 4 * k + 16 * l,1 + 4 * k + 16 * l + 65536 * m].getD i 0
def pk2 (k l m : Int) (i : Nat) : Tg := ⟨tm 55 [(2,u64 0),(3,int 0),(7,u64 (pkW k l m i)),(8,int ([0,2,4,16,48].getD i 0)),(31,.d (.sl 2 ((packL k l m).map BField.dv))),(32,int (packL k l m).length),(33,int i)],[],6⟩
theorem orI (n : Nat) {p a v : Int} (hp : p = ((2 ^ n : Nat) : Int)) (ha : 0 ≤ a) (hv : 0 ≤ v) (h1 : a < p) (h2 : a + v * p < 18446744073709551616) : bits .or .u64 a (IntKind.u64.wrap (v * p)) = a + v * p := by
 obtain ⟨x,rfl⟩ := Int.eq_ofNat_of_zero_le ha
 obtain ⟨y,rfl⟩ := Int.eq_ofNat_of_zero_le hv
 have hm : (y : Int) * p = ((y * 2 ^ n : Nat) : Int) := by rw [hp,Int.natCast_mul]
 rw [hm] at h2 ⊢
 rw [wrapU' (by omega) (by omega)]
 exact or_add (by omega) (by omega)
theorem pk2Round (k l m : Int) (i : Nat) (h1 : 0 ≤ k ∧ k ≤ 3) (h2 : 0 ≤ l ∧ l ≤ 255) (h3 : 0 ≤ m ∧ m ≤ 4294967295) (hi : i < 4) : CSpec Try.prog (rndF Try.f56 2) (pk2 k l m i).st .nrm (pk2 k l m (i + 1)).st := by
 have eL : (packL k l m).length = 4 := rfl
 have e0 : (packL k l m).getD 0 default = ⟨2,1⟩ := rfl
 have e1 : (packL k l m).getD 1 default = ⟨2,k⟩ := rfl
 have e2 : (packL k l m).getD 2 default = ⟨12,l⟩ := rfl
 have e3 : (packL k l m).getD 3 default = ⟨32,m⟩ := rfl
 have h : i = 0 ∨ i = 1 ∨ i = 2 ∨ i = 3 := by omega
 have f1 : bits .or .u64 (pkW k l m 1) (IntKind.u64.wrap (((packL k l m).getD 1 default).value * 4)) = pkW k l m (1 + 1) := (orI 2 (a := 1) (v := k) (by decide) (by omega) (by omega) (by omega) (by omega)).trans (by show _ = 1 + 4 * k; omega)
 have f2 : bits .or .u64 (pkW k l m 2) (IntKind.u64.wrap (((packL k l m).getD 2 default).value * 16)) = pkW k l m (2 + 1) := (orI 4 (a := 1 + 4 * k) (v := l) (by decide) (by omega) (by omega) (by omega) (by omega)).trans (by show _ = 1 + 4 * k + 16 * l; omega)
 have f3 : bits .or .u64 (pkW k l m 3) (IntKind.u64.wrap (((packL k l m).getD 3 default).value * 65536)) = pkW k l m (3 + 1) := (orI 16 (a := 1 + 4 * k + 16 * l) (v := m) (by decide) (by omega) (by omega) (by omega) (by omega)).trans (by show _ = 1 + 4 * k + 16 * l + 65536 * m; omega)
 rcases h with rfl | rfl | rfl | rfl
 ·refine stretchE [((35 : Nat),[Hint.el ((packL k l m).getD (0 : Nat) default).dv]),((41 : Nat),[Hint.call true (Sx.bool true) []]),((47 : Nat),[Hint.int (((packL k l m).getD (0 : Nat) default).value * (1 : Int))]),((52 : Nat),[Hint.int ((0 : Int) + ((packL k l m).getD (0 : Nat) default).width)])] [] [] [] (φ := ((0 : Int) ≤ (↑(0 : Nat) : Int) ∧ (List.map BField.dv (packL k l m))[(↑(0 : Nat) : Int).toNat]? = some ((packL k l m).getD (0 : Nat) default).dv) ∧ GSpec Try.prog 63 [u64 ((packL k l m).getD (0 : Nat) default).value,int ((packL k l m).getD (0 : Nat) default).width] true (Sx.bool true) [] ∧ IntKind.u64.wrap (((packL k l m).getD (0 : Nat) default).value * (2 : Int) ^ min ([(0 : Int),(2 : Int),(4 : Int),(16 : Int),(48 : Int)].getD (0 : Nat) (0 : Int)).toNat (64 : Nat)) = ((packL k l m).getD (0 : Nat) default).value * (1 : Int) ∧ (0 : Int) ≤ [(0 : Int),(2 : Int),(4 : Int),(16 : Int),(48 : Int)].getD (0 : Nat) (0 : Int) ∧ IntKind.i64.wrap ([(0 : Int),(2 : Int),(4 : Int),(16 : Int),(48 : Int)].getD (0 : Nat) (0 : Int) + ((packL k l m).getD (0 : Nat) default).width) = (0 : Int) + ((packL k l m).getD (0 : Nat) default).width) ?_ (by kernel_rfl) (by kernel_rfl) (by kernel_rfl)
  exact ⟨(by exact elI (by omega) (by omega) (by omega)),(@bitsFits (((packL k l m).getD (0 : Nat) default).value) (((packL k l m).getD (0 : Nat) default).width) (by grind [pkW]) (by grind [pkW]) (by grind [pkW])),rfl,(by simp [pkW, *]),rfl⟩
 ·refine stretchE [((35 : Nat),[Hint.el ((packL k l m).getD (1 : Nat) default).dv]),((41 : Nat),[Hint.call true (Sx.bool true) []]),((48 : Nat),[Hint.int (bits BinOp.or IntKind.u64 (pkW k l m (1 : Nat)) (IntKind.u64.wrap (((packL k l m).getD (1 : Nat) default).value * (4 : Int))))]),((52 : Nat),[Hint.int ((2 : Int) + ((packL k l m).getD (1 : Nat) default).width)])] [] [] [false,false,true] (φ := ((0 : Int) ≤ (↑(1 : Nat) : Int) ∧ (List.map BField.dv (packL k l m))[(↑(1 : Nat) : Int).toNat]? = some ((packL k l m).getD (1 : Nat) default).dv) ∧ GSpec Try.prog 63 [u64 ((packL k l m).getD (1 : Nat) default).value,int ((packL k l m).getD (1 : Nat) default).width] true (Sx.bool true) [] ∧ (0 : Int) ≤ [(0 : Int),(2 : Int),(4 : Int),(16 : Int),(48 : Int)].getD (1 : Nat) (0 : Int) ∧ bits BinOp.or IntKind.u64 (pkW k l m (1 : Nat)) (IntKind.u64.wrap (((packL k l m).getD (1 : Nat) default).value * (2 : Int) ^ min ([(0 : Int),(2 : Int),(4 : Int),(16 : Int),(48 : Int)].getD (1 : Nat) (0 : Int)).toNat (64 : Nat))) = bits BinOp.or IntKind.u64 (pkW k l m (1 : Nat)) (IntKind.u64.wrap (((packL k l m).getD (1 : Nat) default).value * (4 : Int))) ∧ IntKind.i64.wrap ([(0 : Int),(2 : Int),(4 : Int),(16 : Int),(48 : Int)].getD (1 : Nat) (0 : Int) + ((packL k l m).getD (1 : Nat) default).width) = (2 : Int) + ((packL k l m).getD (1 : Nat) default).width ∧ bits BinOp.or IntKind.u64 (pkW k l m (1 : Nat)) (IntKind.u64.wrap (((packL k l m).getD (1 : Nat) default).value * (4 : Int))) = pkW k l m ((1 : Nat) + (1 : Nat))) ?_ (by kernel_rfl) (by kernel_rfl) (by kernel_rfl)
  exact ⟨(by exact elI (by omega) (by omega) (by omega)),(@bitsFits (((packL k l m).getD (1 : Nat) default).value) (((packL k l m).getD (1 : Nat) default).width) (by simp only [bs, *,true_or,or_true,true_and,and_true,not_true_eq_false,not_false_eq_true,Bool.true_eq_false,Bool.false_eq_true]) (by grind [pkW]) (by grind [pkW])),(by simp [pkW, *]),rfl,rfl,‹_›⟩
 ·refine stretchE [((35 : Nat),[Hint.el ((packL k l m).getD (2 : Nat) default).dv]),((41 : Nat),[Hint.call true (Sx.bool true) []]),((48 : Nat),[Hint.int (bits BinOp.or IntKind.u64 (pkW k l m (2 : Nat)) (IntKind.u64.wrap (((packL k l m).getD (2 : Nat) default).value * (16 : Int))))]),((52 : Nat),[Hint.int ((4 : Int) + ((packL k l m).getD (2 : Nat) default).width)])] [] [] [false,false,true] (φ := ((0 : Int) ≤ (↑(2 : Nat) : Int) ∧ (List.map BField.dv (packL k l m))[(↑(2 : Nat) : Int).toNat]? = some ((packL k l m).getD (2 : Nat) default).dv) ∧ GSpec Try.prog 63 [u64 ((packL k l m).getD (2 : Nat) default).value,int ((packL k l m).getD (2 : Nat) default).width] true (Sx.bool true) [] ∧ (0 : Int) ≤ [(0 : Int),(2 : Int),(4 : Int),(16 : Int),(48 : Int)].getD (2 : Nat) (0 : Int) ∧ bits BinOp.or IntKind.u64 (pkW k l m (2 : Nat)) (IntKind.u64.wrap (((packL k l m).getD (2 : Nat) default).value * (2 : Int) ^ min ([(0 : Int),(2 : Int),(4 : Int),(16 : Int),(48 : Int)].getD (2 : Nat) (0 : Int)).toNat (64 : Nat))) = bits BinOp.or IntKind.u64 (pkW k l m (2 : Nat)) (IntKind.u64.wrap (((packL k l m).getD (2 : Nat) default).value * (16 : Int))) ∧ IntKind.i64.wrap ([(0 : Int),(2 : Int),(4 : Int),(16 : Int),(48 : Int)].getD (2 : Nat) (0 : Int) + ((packL k l m).getD (2 : Nat) default).width) = (4 : Int) + ((packL k l m).getD (2 : Nat) default).width ∧ bits BinOp.or IntKind.u64 (pkW k l m (2 : Nat)) (IntKind.u64.wrap (((packL k l m).getD (2 : Nat) default).value * (16 : Int))) = pkW k l m ((2 : Nat) + (1 : Nat))) ?_ (by kernel_rfl) (by kernel_rfl) (by kernel_rfl)
  exact ⟨(by exact elI (by omega) (by omega) (by omega)),(@bitsFits (((packL k l m).getD (2 : Nat) default).value) (((packL k l m).getD (2 : Nat) default).width) (by simp only [bs, *,true_or,or_true,true_and,and_true,not_true_eq_false,not_false_eq_true,Bool.true_eq_false,Bool.false_eq_true]) (by grind [pkW]) (by grind [pkW])),(by simp [pkW, *]),rfl,rfl,‹_›⟩
 ·refine stretchE [((35 : Nat),[Hint.el ((packL k l m).getD (3 : Nat) default).dv]),((41 : Nat),[Hint.call true (Sx.bool true) []]),((48 : Nat),[Hint.int (bits BinOp.or IntKind.u64 (pkW k l m (3 : Nat)) (IntKind.u64.wrap (((packL k l m).getD (3 : Nat) default).value * (65536 : Int))))]),((52 : Nat),[Hint.int ((16 : Int) + ((packL k l m).getD (3 : Nat) default).width)])] [] [] [false,false,true] (φ := ((0 : Int) ≤ (↑(3 : Nat) : Int) ∧ (List.map BField.dv (packL k l m))[(↑(3 : Nat) : Int).toNat]? = some ((packL k l m).getD (3 : Nat) default).dv) ∧ GSpec Try.prog 63 [u64 ((packL k l m).getD (3 : Nat) default).value,int ((packL k l m).getD (3 : Nat) default).width] true (Sx.bool true) [] ∧ (0 : Int) ≤ [(0 : Int),(2 : Int),(4 : Int),(16 : Int),(48 : Int)].getD (3 : Nat) (0 : Int) ∧ bits BinOp.or IntKind.u64 (pkW k l m (3 : Nat)) (IntKind.u64.wrap (((packL k l m).getD (3 : Nat) default).value * (2 : Int) ^ min ([(0 : Int),(2 : Int),(4 : Int),(16 : Int),(48 : Int)].getD (3 : Nat) (0 : Int)).toNat (64 : Nat))) = bits BinOp.or IntKind.u64 (pkW k l m (3 : Nat)) (IntKind.u64.wrap (((packL k l m).getD (3 : Nat) default).value * (65536 : Int))) ∧ IntKind.i64.wrap ([(0 : Int),(2 : Int),(4 : Int),(16 : Int),(48 : Int)].getD (3 : Nat) (0 : Int) + ((packL k l m).getD (3 : Nat) default).width) = (16 : Int) + ((packL k l m).getD (3 : Nat) default).width ∧ bits BinOp.or IntKind.u64 (pkW k l m (3 : Nat)) (IntKind.u64.wrap (((packL k l m).getD (3 : Nat) default).value * (65536 : Int))) = pkW k l m ((3 : Nat) + (1 : Nat))) ?_ (by kernel_rfl) (by kernel_rfl) (by kernel_rfl)
  exact ⟨(by exact elI (by omega) (by omega) (by omega)),(@bitsFits (((packL k l m).getD (3 : Nat) default).value) (((packL k l m).getD (3 : Nat) default).width) (by simp only [bs, *,true_or,or_true,true_and,and_true,not_true_eq_false,not_false_eq_true,Bool.true_eq_false,Bool.false_eq_true]) (by grind [pkW]) (by grind [pkW])),(by simp [pkW, *]),rfl,rfl,‹_›⟩
theorem pk2End (k l m : Int) : CSpec Try.prog (rndF Try.f56 2) (pk2 k l m 4).st (.ext 2) (Tg.st ⟨tm 55 [(2,u64 0),(3,int 0),(7,u64 (1 + 4 * k + 16 * l + 65536 * m))],[],6⟩) := by
 have eL : (packL k l m).length = 4 := rfl
 have ew : pkW k l m 4 = 1 + 4 * k + 16 * l + 65536 * m := rfl
 exact sF [] [] Fz
theorem pk2Loop (k l m : Int) (h1 : 0 ≤ k ∧ k ≤ 3) (h2 : 0 ≤ l ∧ l ≤ 255) (h3 : 0 ≤ m ∧ m ≤ 4294967295) : CSpec Try.prog (blkF Try.f56 2) (Tg.st ⟨tm 55 [(2,u64 0),(3,int 0),(7,u64 0),(8,int 0),(31,.d (.sl 2 ((packL k l m).map BField.dv))),(32,int (packL k l m).length),(33,int 0)],[],6⟩) .nrm (Tg.st ⟨tm 55 [(2,u64 0),(3,int 0),(7,u64 (1 + 4 * k + 16 * l + 65536 * m))],[],6⟩) :=
 loop_ext_of (S := fun i => (pk2 k l m i).st) 4 (by kernel_rfl) (fun i hi => pk2Round k l m i h1 h2 h3 hi) (pk2End k l m)
theorem bitsPack (k l m : Int) (h1 : 0 ≤ k ∧ k ≤ 3) (h2 : 0 ≤ l ∧ l ≤ 255) (h3 : 0 ≤ m ∧ m ≤ 4294967295) : GSpec Try.prog 56 [.d (.sl 2 ((packL k l m).map BField.dv))] true (.tu [u64 (1 + 4 * k + 16 * l + 65536 * m),int 0]) [] := by
 exact gF [] Try.func56 [] (Fg 12 (rfl : (↑(List.map BField.dv (packL k l m)).length : Int) =(↑(packL k l m).length : Int)) (Fu (@pk1Loop k l m) (Fg 32 (rfl : (↑(List.map BField.dv (packL k l m)).length : Int) =(↑(packL k l m).length : Int)) (Fu (@pk2Loop k l m ‹_› ‹_› ‹_›) Fz))))
theorem headerEncode (h : Header) (hm : 0 ≤ h.map ∧ h.map ≤ 4294967295) : GSpec Try.prog 44 [h.av] true (.tu [u64 (encodeH h).1,int (encodeH h).2]) [] := by
 rcases bb (!validH h) with hc0 | hc0<;>have hc0p:=hc0<;>simp only [bs] at hc0p
 ·exact gF [] Try.func44 [true] (Fc 5 (@headerValid h ‹_›) (Ft 6 hc0 (Fa (by simp [encodeH, *] : 0 =(encodeH h).fst) (Fa (by simp [encodeH, *] : 1 =(encodeH h).snd) Fz))))
 ·have hf3 := validH_iff.1 hc0p
  obtain ⟨hf3a,⟨hf3ba,⟨hf3bba,⟨hf3bbba,hf3bbbb⟩⟩⟩⟩ := hf3
  exact gF [] Try.func44 [true] (Fh 20 [.els (List.map BField.dv [BField.mk 2 1,BField.mk 2 h.kind,BField.mk 12 h.length,BField.mk 32 h.map])] (Fc 5 (@headerValid h ‹_›) (Ff 6 hc0 (Fv 10 h.kind (Fv 14 h.length (Fv 18 h.map (Fr (List.map BField.dv [BField.mk 2 1,BField.mk 2 h.kind,BField.mk 12 h.length,BField.mk 32 h.map]) (Fc 21 (@bitsPack h.kind h.length h.map (by omega) (by omega) ‹_›) (Fa (by simp [encodeH, *] : (1 :Int) + 4 * h.kind + 16 * h.length + 65536 * h.map =(encodeH h).fst) (Fa (by simp [encodeH, *] : 0 =(encodeH h).snd) Fz))))))))))
theorem objectInit (h : Heap) (a : Int) (hd : Header) (hw : WOk h.words) (h0 : 0 ≤ a ∧ a ≤ 18446744073709551615) (hm : 0 ≤ hd.map ∧ hd.map ≤ 4294967295) : GSpec Try.prog 31 [h.av,u64 a,hd.av] false (.tu [(initH h a hd).1.av,int (initH h a hd).2]) [] := by
 by_cases hp : properB h = true ∧ (encodeH hd).2 = 0
 ·have ok := encodeH_ok hp.2
  have hz : sizeH hd = hd.length + 1 := by rw [sizeH,if_pos ok.1]
  have po := proper_ok hp.1
  have hp1 := hp.1
  have hp2 := hp.2
  have es : (List.replicate (sizeH hd).toNat 0).set 0 (encodeH hd).1 = objW hd := by
   rw [hz,objW,show (hd.length + 1).toNat = hd.length.toNat + 1 from by omega,List.replicate_succ,List.set_cons_zero]
  have el : ((List.replicate (sizeH hd).toNat 0).set 0 (encodeH hd).1).length = hd.length.toNat + 1 := by rw [es]; simp [objW]
  have hne : h.pages ≠ [] := ne_of_len (by omega)
  by_cases e : (writeA h.words a ((List.replicate (sizeH hd).toNat 0).set 0 (encodeH hd).1)).2 = 0
  ·have e7 : initH h a hd = ({ h with words := (writeA h.words a ((List.replicate (sizeH hd).toNat 0).set 0 (encodeH hd).1)).1 },0) := by
    rw [es] at e ⊢
    rw [initH,if_pos ⟨hp.1,ok.1⟩,if_pos e]
   rw [e7]
   exact gF [] Try.func31 [] (Fh 21 [.call true (Sx.bool (properB h)) []] (Fh 27 [.els (List.map wdv (List.replicate (sizeH hd).toNat 0))] (Fh 10030 [.els (List.map wdv ((List.replicate (sizeH hd).toNat 0).set 0 (encodeH hd).fst))] (Fc 14 (@headerEncode hd ‹_›) (Fa ((fun hg => by (try simp only [bs] at hg); exact @pageProper h) : (!(encodeH hd).snd != 0) =true→GSpec Try.prog 28 [h.av] true (Sx.bool (properB h)) []) (Ff 23 (by simp only [bs, *,true_or,or_true,true_and,and_true,not_true_eq_false,not_false_eq_true,Bool.true_eq_false,Bool.false_eq_true] : ((encodeH hd).snd != 0||!properB h)=false) (Fc 26 (@headerSize hd ‹_›) (Fb (0≤sizeH hd∧sizeH hd≤sizeH hd∧sizeH hd * ((↑(nat_lit 7) : Int) + 1)≤2 ^ 48) (Fa (by simp [List.map_take,List.map_drop,List.map_set,List.map_append,wdv,idv] : List.replicate (sizeH hd).toNat [du64 0] =List.map wdv (List.replicate (sizeH hd).toNat 0)) (Fa (by (simp [*]; omega) : (0 :Int)≤0∧Int.toNat 0 < (List.map wdv (List.replicate (sizeH hd).toNat 0)).length) (Fa (by (simp [*]; omega) : Int.toNat 0 < (List.map wdv (List.replicate (sizeH hd).toNat 0)).length) (Fa (by simp [List.map_take,List.map_drop,List.map_set,List.map_append,wdv,idv] : (List.map wdv (List.replicate (sizeH hd).toNat 0)).set (Int.toNat 0) [du64 (encodeH hd).fst] =List.map wdv ((List.replicate (sizeH hd).toNat 0).set 0 (encodeH hd).fst)) (Fc 36 (@arenaWrite h.words ((List.replicate (sizeH hd).toNat 0).set 0 (encodeH hd).fst) a (by omega) (by omega) ‹_› (by omega)) (Fc 42 (@objectChanged0 h ((writeA h.words a ((List.replicate (sizeH hd).toNat 0).set 0 (encodeH hd).fst)).fst) ((writeA h.words a ((List.replicate (sizeH hd).toNat 0).set 0 (encodeH hd).fst)).snd) (by omega) ‹_› ‹_›) Fz))))))))))))))
  ·have e7 : initH h a hd = (noHeap,(writeA h.words a ((List.replicate (sizeH hd).toNat 0).set 0 (encodeH hd).1)).2) := by
    rw [es] at e ⊢
    rw [initH,if_pos ⟨hp.1,ok.1⟩,if_neg e]
   rw [e7]
   exact gF [] Try.func31 [] (Fh 21 [.call true (Sx.bool (properB h)) []] (Fh 27 [.els (List.map wdv (List.replicate (sizeH hd).toNat 0))] (Fh 10030 [.els (List.map wdv ((List.replicate (sizeH hd).toNat 0).set 0 (encodeH hd).fst))] (Fc 14 (@headerEncode hd ‹_›) (Fa ((fun hg => by (try simp only [bs] at hg); exact @pageProper h) : (!(encodeH hd).snd != 0) =true→GSpec Try.prog 28 [h.av] true (Sx.bool (properB h)) []) (Ff 23 (by simp only [bs, *,true_or,or_true,true_and,and_true,not_true_eq_false,not_false_eq_true,Bool.true_eq_false,Bool.false_eq_true] : ((encodeH hd).snd != 0||!properB h)=false) (Fc 26 (@headerSize hd ‹_›) (Fb (0≤sizeH hd∧sizeH hd≤sizeH hd∧sizeH hd * ((↑(nat_lit 7) : Int) + 1)≤2 ^ 48) (Fa (by simp [noHeap,List.map_take,List.map_drop,List.map_set,List.map_append,wdv,idv] : List.replicate (sizeH hd).toNat [du64 0] =List.map wdv (List.replicate (sizeH hd).toNat 0)) (Fa (by (simp [noHeap, *]; omega) : (0 :Int)≤0∧Int.toNat 0 < (List.map wdv (List.replicate (sizeH hd).toNat 0)).length) (Fa (by (simp [noHeap, *]; omega) : Int.toNat 0 < (List.map wdv (List.replicate (sizeH hd).toNat 0)).length) (Fa (by simp [noHeap,List.map_take,List.map_drop,List.map_set,List.map_append,wdv,idv] : (List.map wdv (List.replicate (sizeH hd).toNat 0)).set (Int.toNat 0) [du64 (encodeH hd).fst] =List.map wdv ((List.replicate (sizeH hd).toNat 0).set 0 (encodeH hd).fst)) (Fc 36 (@arenaWrite h.words ((List.replicate (sizeH hd).toNat 0).set 0 (encodeH hd).fst) a (by omega) (by omega) ‹_› (by omega)) (Fc 42 (@objectChangedE h ((writeA h.words a ((List.replicate (sizeH hd).toNat 0).set 0 (encodeH hd).fst)).fst) ((writeA h.words a ((List.replicate (sizeH hd).toNat 0).set 0 (encodeH hd).fst)).snd) ‹_›) Fz))))))))))))))
 ·have e7 : initH h a hd = (noHeap,1) := initH_bad (by
   by_cases q : properB h = true
   ·exact .inr fun q2 => hp ⟨q,q2⟩
   ·exact .inl (by simpa using q))
  rw [e7]
  have Q0 {h_ c_ p_} (r_ : Fq h_ c_ p_) := Fc 14 (@headerEncode hd ‹_›) (Fa ((fun hg => by (try simp only [bs] at hg); exact @pageProper h) : (!(encodeH hd).snd != 0) =true→GSpec Try.prog 28 [h.av] true (Sx.bool (properB h)) []) r_)
  rcases bb ((encodeH hd).snd != 0 || !properB h) with hc0 | hc0<;>have hc0p:=hc0<;>simp only [bs] at hc0p
  ·exact gF [] Try.func31 [] (Fh 21 [.call true (Sx.bool (properB h)) []] (Q0 (Ft 23 hc0 (Fnl (Fnl Fz)))))
  ·obtain ⟨hc0pa,hc0pb⟩ := hc0p
   exact gF [] Try.func31 [false,false,false,true] (Fh 21 [.call true (Sx.bool (properB h)) []] (Fh 27 [.els (List.map wdv (List.replicate (sizeH hd).toNat 0))] (Fh 10030 [.els (List.map wdv ((List.replicate (sizeH hd).toNat 0).set 0 (encodeH hd).fst))] (Q0 (Ff 23 hc0 (Fc 26 (@headerSize hd ‹_›) (Fa (by (simp only [noHeap]; (repeat' split) <;> first | rfl | omega | (exfalso; omega) | simp_all) : 0≤sizeH hd∧sizeH hd≤sizeH hd∧sizeH hd * ((↑(nat_lit 7) : Int) + 1)≤2 ^ 48) (Fa (by simp [noHeap,List.map_take,List.map_drop,List.map_set,List.map_append,wdv,idv] : List.replicate (sizeH hd).toNat [du64 0] =List.map wdv (List.replicate (sizeH hd).toNat 0)) (Fa (by grind [noHeap] : (0 :Int)≤0∧Int.toNat 0 < (List.map wdv (List.replicate (sizeH hd).toNat 0)).length) (Fa (by grind [noHeap] : Int.toNat 0 < (List.map wdv (List.replicate (sizeH hd).toNat 0)).length) (Fa (by simp [noHeap,List.map_take,List.map_drop,List.map_set,List.map_append,wdv,idv] : (List.map wdv (List.replicate (sizeH hd).toNat 0)).set (Int.toNat 0) [du64 (encodeH hd).fst] =List.map wdv ((List.replicate (sizeH hd).toNat 0).set 0 (encodeH hd).fst)) (Fc 36 (@arenaWrite h.words ((List.replicate (sizeH hd).toNat 0).set 0 (encodeH hd).fst) a (by grind [noHeap]) (by grind [noHeap]) ‹_› (by grind [noHeap])) (Fc 42 (@objectChanged0 h ((writeA h.words a ((List.replicate (sizeH hd).toNat 0).set 0 (encodeH hd).fst)).fst) ((writeA h.words a ((List.replicate (sizeH hd).toNat 0).set 0 (encodeH hd).fst)).snd) (by grind [noHeap]) (by grind [noHeap]) (by grind [noHeap])) (Fa (by (simp only [noHeap]; (repeat' split) <;> first | rfl | omega | (exfalso; omega) | simp_all) : (Heap.mk h.conf (writeA h.words a ((List.replicate (sizeH hd).toNat 0).set 0 (encodeH hd).fst)).fst h.pages h.space h.bump).conf.pw =0) (Fa (by (simp only [noHeap]; (repeat' split) <;> first | rfl | omega | (exfalso; omega) | simp_all) : (Heap.mk h.conf (writeA h.words a ((List.replicate (sizeH hd).toNat 0).set 0 (encodeH hd).fst)).fst h.pages h.space h.bump).conf.pg =0) (Fa (by refine congrArg _ ?_; (simp only [noHeap]; (repeat' split) <;> first | rfl | omega | (exfalso; omega) | simp_all) : List.map wdv (Heap.mk h.conf (writeA h.words a ((List.replicate (sizeH hd).toNat 0).set 0 (encodeH hd).fst)).fst h.pages h.space h.bump).words =List.map wdv (noHeap,1).fst.words) (Fa (by refine congrArg _ ?_; (simp only [noHeap]; (repeat' split) <;> first | rfl | omega | (exfalso; omega) | simp_all) : List.map Page.dv (Heap.mk h.conf (writeA h.words a ((List.replicate (sizeH hd).toNat 0).set 0 (encodeH hd).fst)).fst h.pages h.space h.bump).pages =List.map Page.dv (noHeap,1).fst.pages) (Fa (by (simp only [noHeap]; (repeat' split) <;> first | rfl | omega | (exfalso; omega) | simp_all) : (Heap.mk h.conf (writeA h.words a ((List.replicate (sizeH hd).toNat 0).set 0 (encodeH hd).fst)).fst h.pages h.space h.bump).space =0) (Fa (by (simp only [noHeap]; (repeat' split) <;> first | rfl | omega | (exfalso; omega) | simp_all) : (Heap.mk h.conf (writeA h.words a ((List.replicate (sizeH hd).toNat 0).set 0 (encodeH hd).fst)).fst h.pages h.space h.bump).bump =0) (Fa (by grind [noHeap] : (0 :Int) =1) Fz))))))))))))))))))))
theorem putN_eq (h : Heap) (hd : Header) : put7 h hd = putN h (sizeH hd) := rfl
theorem prep_put {h : Heap} {n : Int} (hp : properB h = true) (hn : 1 ≤ n ∧ n ≤ 256) (e : (putN h n).2.2 = true) : (putN h n).2.1 = 4096 + (prepI h n * h.conf.pw + prepO h n) ∧ inB h.conf (prepI h n) (prepO h n) = true := by
 obtain ⟨o1,o2,o3,o4,o5,o6,o7,o8,o9⟩ := proper_ok hp
 have hb := (properB_iff.1 hp).2.2.2.2.1
 rw [inB_iff]
 unfold putN prepI prepO at *
 split at e
 ·rename_i hk
  unfold large7 at e ⊢
  split at e
  ·rename_i hg
   have := (first_free hg.1).2.1
   simp only [if_pos hk,if_pos hg]
   exact ⟨by omega,by omega,by omega,by omega,by omega⟩
  ·simp at e
 ·rename_i hk
  unfold small7 at e ⊢
  split at e
  ·rename_i hf
   simp only [if_neg hk,if_pos hf]
   unfold fitsB at hf
   have hpg := proper_page hp (j := h.bump.toNat) (by omega)
   exact ⟨by omega,by omega,by omega,by omega,by omega⟩
  ·rename_i hf
   split at e
   ·rename_i hg
    have q := freshP_ok (h := h) o9 hg.1
    have q6 := congrArg Page.used q.2.2.2
    simp only at q6
    simp only [if_neg hk,if_neg hf,if_pos hg]
    exact ⟨by rw [q6]; omega,by omega,by omega,by omega,by omega⟩
   ·simp at e
theorem allocPrep (h : Heap) (n : Int) (hp : properB h = true) (hn : 1 ≤ n ∧ n ≤ 256) (e : (putN h n).2.2 = true) : GSpec Try.prog 29 [h.av,int n] false (.tu [(putN h n).1.av,.ag [int (prepI h n),int (prepO h n)],int 0]) [] := by
 unfold putN prepI prepO at *
 split at e
 ·rename_i hk
  unfold large7 at e ⊢
  split at e
  ·rename_i hg
   simp only [if_pos hk,if_pos hg]
   exact allocPrepOwn h n hp hk hg
  ·simp at e
 ·rename_i hk
  unfold small7 at e ⊢
  split at e
  ·rename_i hf
   simp only [if_neg hk,if_pos hf]
   exact allocPrepFit h n hp hn hk hf
  ·rename_i hf
   split at e
   ·rename_i hg
    simp only [if_neg hk,if_neg hf,if_pos hg]
    exact allocPrepFresh h n hp hn hk hf hg
   ·simp at e
theorem allocPrepBad (h : Heap) (n : Int) (hp : properB h = true) (hn : 1 ≤ n ∧ n ≤ 256) (e : (putN h n).2.2 = false) : GSpec Try.prog 29 [h.av,int n] false (.tu [noHeap.av,.ag [int 0,int 0],int 3]) [] := by
 unfold putN at e
 split at e
 ·rename_i hk
  unfold large7 at e
  split at e
  ·simp at e
  ·rename_i hg
   exact allocPrepNo h n hp hk hg
 ·rename_i hk
  unfold small7 at e
  split at e
  ·simp at e
  ·rename_i hf
   split at e
   ·simp at e
   ·rename_i hg
    exact allocPrepFull h n hp hn hk hf hg
theorem allocNew (h : Heap) (hd : Header) (hw : WOk h.words) (hm : 0 ≤ hd.map ∧ hd.map ≤ 4294967295) : GSpec Try.prog 12 [h.av,hd.av] false (.tu [(new7 h hd).1.av,u64 (new7 h hd).2.1,int (new7 h hd).2.2]) [] := by
 by_cases hc : properB h = true ∧ asksH h.conf hd = true
 ·obtain ⟨c1,c2⟩ := hc
  obtain ⟨a1,a2,a3,a4,a5⟩ := asksH_ok c2
  have po := proper_ok c1
  by_cases hf : (putN h (sizeH hd)).2.2 = true
  ·have e0 : (new7 h hd).2.2 = 0 := by rw [new7,if_pos ⟨c1,c2⟩,putN_eq,if_pos hf]
   obtain ⟨k1,k2,k3,k4,k5,k6,k7,k8⟩ := new7_ok hw hm e0
   rw [putN_eq] at k3
   obtain ⟨p1,p2⟩ := prep_put c1 ⟨a2,a3⟩ hf
   have hwp : WOk (putN h (sizeH hd)).1.words := by rw [k3.w]; exact hw
   have e8 : address h.conf (prepI h (sizeH hd)) (prepO h (sizeH hd)) = ((putN h (sizeH hd)).2.1,0) := by rw [address,if_pos po.1,if_pos p2,p1]
   have ei1 := congrArg (fun x => x.1) e8
   have e82 := congrArg (fun x => x.2) e8
   simp only at ei1 e82
   have hlo := k3.lo
   have hhi := k3.hi
   have ei2 : (initH (putN h (sizeH hd)).1 (putN h (sizeH hd)).2.1 hd).2 = 0 := by
    have ho := objW_ok a1 hm
    have ew : writeA (putN h (sizeH hd)).1.words (putN h (sizeH hd)).2.1 (objW hd) = (spl (putN h (sizeH hd)).1.words ((putN h (sizeH hd)).2.1 - 4096).toNat (objW hd),0) := by rw [writeA,if_pos ⟨hlo,by rw [k3.w]; omega⟩]
    rw [initH,if_pos ⟨k3.pr,a1⟩,ew]
    simp
   have ei3 : (initH (putN h (sizeH hd)).1 (address h.conf (prepI h (sizeH hd)) (prepO h (sizeH hd))).1 hd).2 = 0 := by rw [ei1]; exact ei2
   have e7 : new7 h hd = ((initH (putN h (sizeH hd)).1 (putN h (sizeH hd)).2.1 hd).1,(putN h (sizeH hd)).2.1,0) := by rw [new7,if_pos ⟨c1,c2⟩,putN_eq,if_pos hf]
   rw [e7]
   refine gspec_ofE [((12 : Nat),[Hint.call true (Sx.bool (properB h)) []]),((18 : Nat),[Hint.call true (Sx.bool (asksH h.conf hd)) []]),((20 : Nat),[Hint.br false]),((25 : Nat),[Hint.call true (int (sizeH hd)) []]),((26 : Nat),[Hint.call false (AV.tu [(putN h (sizeH hd)).fst.av,AV.ag [int (prepI h (sizeH hd)),int (prepO h (sizeH hd))],int (0 : Int)]) []]),((41 : Nat),[Hint.call true (addressV h.conf (prepI h (sizeH hd)) (prepO h (sizeH hd))) []]),((45 : Nat),[Hint.br false]),((52 : Nat),[Hint.call false (AV.tu [(initH (putN h (sizeH hd)).fst (address h.conf (prepI h (sizeH hd)) (prepO h (sizeH hd))).fst hd).fst.av,int (initH (putN h (sizeH hd)).fst (address h.conf (prepI h (sizeH hd)) (prepO h (sizeH hd))).fst hd).snd]) []]),((56 : Nat),[Hint.br false])] [] [] (by decide) Try.func12 [false,false,false,false,false,true] (φ := GSpec Try.prog 28 [h.av] true (Sx.bool (properB h)) [] ∧ ((!!properB h) = true → GSpec Try.prog 7 [h.conf.av,hd.av] true (Sx.bool (asksH h.conf hd)) []) ∧ (!properB h || !asksH h.conf hd) = false ∧ false = false ∧ GSpec Try.prog 23 [hd.av] true (int (sizeH hd)) [] ∧ GSpec Try.prog 29 [h.av,int (sizeH hd)] false (AV.tu [(putN h (sizeH hd)).fst.av,AV.ag [int (prepI h (sizeH hd)),int (prepO h (sizeH hd))],int (0 : Int)]) [] ∧ GSpec Try.prog 30 [h.conf.av,int (prepI h (sizeH hd)),int (prepO h (sizeH hd))] true (addressV h.conf (prepI h (sizeH hd)) (prepO h (sizeH hd))) [] ∧ ((address h.conf (prepI h (sizeH hd)) (prepO h (sizeH hd))).snd != (0 : Int)) = false ∧ false = false ∧ GSpec Try.prog 31 [(putN h (sizeH hd)).fst.av,u64 (address h.conf (prepI h (sizeH hd)) (prepO h (sizeH hd))).fst,hd.av] false (AV.tu [(initH (putN h (sizeH hd)).fst (address h.conf (prepI h (sizeH hd)) (prepO h (sizeH hd))).fst hd).fst.av,int (initH (putN h (sizeH hd)).fst (address h.conf (prepI h (sizeH hd)) (prepO h (sizeH hd))).fst hd).snd]) [] ∧ ((initH (putN h (sizeH hd)).fst (address h.conf (prepI h (sizeH hd)) (prepO h (sizeH hd))).fst hd).snd != (0 : Int)) = false ∧ false = false ∧ (initH (putN h (sizeH hd)).fst (address h.conf (prepI h (sizeH hd)) (prepO h (sizeH hd))).fst hd).fst.conf.pw = (initH (putN h (sizeH hd)).fst (putN h (sizeH hd)).snd.fst hd).fst.conf.pw ∧ (initH (putN h (sizeH hd)).fst (address h.conf (prepI h (sizeH hd)) (prepO h (sizeH hd))).fst hd).fst.conf.pg = (initH (putN h (sizeH hd)).fst (putN h (sizeH hd)).snd.fst hd).fst.conf.pg ∧ List.map wdv (initH (putN h (sizeH hd)).fst (address h.conf (prepI h (sizeH hd)) (prepO h (sizeH hd))).fst hd).fst.words = List.map wdv ((initH (putN h (sizeH hd)).fst (putN h (sizeH hd)).snd.fst hd).fst,(putN h (sizeH hd)).snd.fst,(0 : Int)).fst.words ∧ List.map Page.dv (initH (putN h (sizeH hd)).fst (address h.conf (prepI h (sizeH hd)) (prepO h (sizeH hd))).fst hd).fst.pages = List.map Page.dv ((initH (putN h (sizeH hd)).fst (putN h (sizeH hd)).snd.fst hd).fst,(putN h (sizeH hd)).snd.fst,(0 : Int)).fst.pages ∧ (initH (putN h (sizeH hd)).fst (address h.conf (prepI h (sizeH hd)) (prepO h (sizeH hd))).fst hd).fst.space = (initH (putN h (sizeH hd)).fst (putN h (sizeH hd)).snd.fst hd).fst.space ∧ (initH (putN h (sizeH hd)).fst (address h.conf (prepI h (sizeH hd)) (prepO h (sizeH hd))).fst hd).fst.bump = (initH (putN h (sizeH hd)).fst (putN h (sizeH hd)).snd.fst hd).fst.bump ∧ (address h.conf (prepI h (sizeH hd)) (prepO h (sizeH hd))).fst = (putN h (sizeH hd)).snd.fst ∧ (0 : Int) = (0 : Int)) ?_ (by kernel_rfl) (by kernel_rfl)
   exact ⟨(@pageProper (h)),(fun hg => by (try simp only [bs] at hg); exact @allocAsks (h.conf) (hd) (by (try simp only [bs] at hg); assumption)),(by simp only [bs, *,true_or,or_true,true_and,and_true,not_true_eq_false,not_false_eq_true,Bool.true_eq_false,Bool.false_eq_true]),rfl,(@headerSize (hd) ‹_›),(@allocPrep (h) (sizeH hd) ‹_› (by omega) ‹_›),(@pageAddress (h.conf) (prepI h (sizeH hd)) (prepO h (sizeH hd))),(by (simp only [bs]; omega)),rfl,(@objectInit ((putN h (sizeH hd)).fst) ((address h.conf (prepI h (sizeH hd)) (prepO h (sizeH hd))).fst) (hd) ‹_› (by omega) ‹_›),(by (simp only [bs]; omega)),rfl,(by simp only [bs, *,true_or,or_true,true_and,and_true,not_true_eq_false,not_false_eq_true,Bool.true_eq_false,Bool.false_eq_true]),(by simp only [bs, *,true_or,or_true,true_and,and_true,not_true_eq_false,not_false_eq_true,Bool.true_eq_false,Bool.false_eq_true]),(by refine congrArg _ ?_; simp [ei1,List.map_take,List.map_drop,List.map_set,List.map_append,wdv,idv]),(by refine congrArg _ ?_; simp [ei1,List.map_take,List.map_drop,List.map_set,List.map_append,wdv,idv]),(by simp only [bs, *,true_or,or_true,true_and,and_true,not_true_eq_false,not_false_eq_true,Bool.true_eq_false,Bool.false_eq_true]),(by simp only [bs, *,true_or,or_true,true_and,and_true,not_true_eq_false,not_false_eq_true,Bool.true_eq_false,Bool.false_eq_true]),‹_›,rfl⟩
  ·have hf' : (putN h (sizeH hd)).2.2 = false := by simpa using hf
   have e7 : new7 h hd = (noHeap,0,3) := by rw [new7,if_pos ⟨c1,c2⟩,putN_eq,if_neg hf]
   rw [e7]
   refine gspec_ofE [((12 : Nat),[Hint.call true (Sx.bool (properB h)) []]),((18 : Nat),[Hint.call true (Sx.bool (asksH h.conf hd)) []]),((20 : Nat),[Hint.br false]),((25 : Nat),[Hint.call true (int (sizeH hd)) []]),((26 : Nat),[Hint.call false (AV.tu [noHeap.av,AV.ag [int (0 : Int),int (0 : Int)],int (3 : Int)]) []])] [] [] (by decide) Try.func12 [] (φ := GSpec Try.prog 28 [h.av] true (Sx.bool (properB h)) [] ∧ ((!!properB h) = true → GSpec Try.prog 7 [h.conf.av,hd.av] true (Sx.bool (asksH h.conf hd)) []) ∧ (!properB h || !asksH h.conf hd) = false ∧ false = false ∧ GSpec Try.prog 23 [hd.av] true (int (sizeH hd)) [] ∧ GSpec Try.prog 29 [h.av,int (sizeH hd)] false (AV.tu [noHeap.av,AV.ag [int (0 : Int),int (0 : Int)],int (3 : Int)]) [] ∧ ([] : List (List DV)) = [] ∧ ([] : List (List DV)) = []) ?_ (by kernel_rfl) (by kernel_rfl)
   exact ⟨(@pageProper (h)),(fun hg => by (try simp only [bs] at hg); exact @allocAsks (h.conf) (hd) (by (try simp only [bs] at hg); assumption)),(by simp only [bs, *,true_or,or_true,true_and,and_true,not_true_eq_false,not_false_eq_true,Bool.true_eq_false,Bool.false_eq_true]),rfl,(@headerSize (hd) ‹_›),(@allocPrepBad (h) (sizeH hd) ‹_› (by omega) ‹_›),rfl,rfl⟩
 ·have e7 : new7 h hd = (noHeap,0,1) := by rw [new7,if_neg hc]
  rw [e7]
  rcases Bool.eq_false_or_eq_true (!properB h || !asksH h.conf hd) with hc0 | hc0
  ·have hc0p := hc0
   simp only [bs] at hc0p
   refine gspec_ofE [((12 : Nat),[Hint.call true (Sx.bool (properB h)) []]),((18 : Nat),[Hint.call true (Sx.bool (asksH h.conf hd)) []]),((20 : Nat),[Hint.br true])] [] [] (by decide) Try.func12 [] (φ := GSpec Try.prog 28 [h.av] true (Sx.bool (properB h)) [] ∧ ((!!properB h) = true → GSpec Try.prog 7 [h.conf.av,hd.av] true (Sx.bool (asksH h.conf hd)) []) ∧ (!properB h || !asksH h.conf hd) = true ∧ true = true ∧ ([] : List (List DV)) = [] ∧ ([] : List (List DV)) = []) ?_ (by kernel_rfl) (by kernel_rfl)
   exact ⟨(@pageProper (h)),(fun hg => by (try simp only [bs] at hg); exact @allocAsks (h.conf) (hd) (by (try simp only [bs] at hg); assumption)),‹_›,rfl,rfl,rfl⟩
  ·have hc0p := hc0
   simp only [bs] at hc0p
   obtain ⟨hc0pa,hc0pb⟩ := hc0p
   rcases Bool.eq_false_or_eq_true ((address h.conf (prepI h (sizeH hd)) (prepO h (sizeH hd))).snd != (0 : Int)) with hc1 | hc1
   ·have hc1p := hc1
    simp only [bs] at hc1p
    refine gspec_ofE [((12 : Nat),[Hint.call true (Sx.bool (properB h)) []]),((18 : Nat),[Hint.call true (Sx.bool (asksH h.conf hd)) []]),((20 : Nat),[Hint.br false]),((25 : Nat),[Hint.call true (int (sizeH hd)) []]),((26 : Nat),[Hint.call false (AV.tu [(putN h (sizeH hd)).fst.av,AV.ag [int (prepI h (sizeH hd)),int (prepO h (sizeH hd))],int (0 : Int)]) []]),((41 : Nat),[Hint.call true (addressV h.conf (prepI h (sizeH hd)) (prepO h (sizeH hd))) []]),((45 : Nat),[Hint.br true])] [] [] (by decide) Try.func12 [false,false,false,false,false,true] (φ := GSpec Try.prog 28 [h.av] true (Sx.bool (properB h)) [] ∧ ((!!properB h) = true → GSpec Try.prog 7 [h.conf.av,hd.av] true (Sx.bool (asksH h.conf hd)) []) ∧ (!properB h || !asksH h.conf hd) = false ∧ false = false ∧ GSpec Try.prog 23 [hd.av] true (int (sizeH hd)) [] ∧ GSpec Try.prog 29 [h.av,int (sizeH hd)] false (AV.tu [(putN h (sizeH hd)).fst.av,AV.ag [int (prepI h (sizeH hd)),int (prepO h (sizeH hd))],int (0 : Int)]) [] ∧ GSpec Try.prog 30 [h.conf.av,int (prepI h (sizeH hd)),int (prepO h (sizeH hd))] true (addressV h.conf (prepI h (sizeH hd)) (prepO h (sizeH hd))) [] ∧ ((address h.conf (prepI h (sizeH hd)) (prepO h (sizeH hd))).snd != (0 : Int)) = true ∧ true = true ∧ ([] : List (List DV)) = [] ∧ ([] : List (List DV)) = [] ∧ (0 : Int) = (0 : Int) ∧ (0 : Int) = (0 : Int) ∧ [] = List.map wdv (noHeap,(0 : Int),(1 : Int)).fst.words ∧ [] = List.map Page.dv (noHeap,(0 : Int),(1 : Int)).fst.pages ∧ (0 : Int) = (0 : Int) ∧ (0 : Int) = (0 : Int) ∧ (0 : Int) = (0 : Int) ∧ (address h.conf (prepI h (sizeH hd)) (prepO h (sizeH hd))).snd = (1 : Int)) ?_ (by kernel_rfl) (by kernel_rfl)
    exact ⟨(@pageProper (h)),(fun hg => by (try simp only [bs] at hg); exact @allocAsks (h.conf) (hd) (by (try simp only [bs] at hg); assumption)),‹_›,rfl,(@headerSize (hd) ‹_›),(@allocPrep (h) (sizeH hd) ‹_› (by grind [noHeap]) (by grind [noHeap])),(@pageAddress (h.conf) (prepI h (sizeH hd)) (prepO h (sizeH hd))),‹_›,rfl,rfl,rfl,rfl,rfl,rfl,rfl,rfl,rfl,rfl,(by grind [noHeap])⟩
   ·have hc1p := hc1
    simp only [bs] at hc1p
    rcases Bool.eq_false_or_eq_true ((initH (putN h (sizeH hd)).fst (address h.conf (prepI h (sizeH hd)) (prepO h (sizeH hd))).fst hd).snd != (0 : Int)) with hc2 | hc2
    ·have hc2p := hc2
     simp only [bs] at hc2p
     refine gspec_ofE [((12 : Nat),[Hint.call true (Sx.bool (properB h)) []]),((18 : Nat),[Hint.call true (Sx.bool (asksH h.conf hd)) []]),((20 : Nat),[Hint.br false]),((25 : Nat),[Hint.call true (int (sizeH hd)) []]),((26 : Nat),[Hint.call false (AV.tu [(putN h (sizeH hd)).fst.av,AV.ag [int (prepI h (sizeH hd)),int (prepO h (sizeH hd))],int (0 : Int)]) []]),((41 : Nat),[Hint.call true (addressV h.conf (prepI h (sizeH hd)) (prepO h (sizeH hd))) []]),((45 : Nat),[Hint.br false]),((52 : Nat),[Hint.call false (AV.tu [(initH (putN h (sizeH hd)).fst (address h.conf (prepI h (sizeH hd)) (prepO h (sizeH hd))).fst hd).fst.av,int (initH (putN h (sizeH hd)).fst (address h.conf (prepI h (sizeH hd)) (prepO h (sizeH hd))).fst hd).snd]) []]),((56 : Nat),[Hint.br true])] [] [] (by decide) Try.func12 [false,false,false,false,false,true] (φ := GSpec Try.prog 28 [h.av] true (Sx.bool (properB h)) [] ∧ ((!!properB h) = true → GSpec Try.prog 7 [h.conf.av,hd.av] true (Sx.bool (asksH h.conf hd)) []) ∧ (!properB h || !asksH h.conf hd) = false ∧ false = false ∧ GSpec Try.prog 23 [hd.av] true (int (sizeH hd)) [] ∧ GSpec Try.prog 29 [h.av,int (sizeH hd)] false (AV.tu [(putN h (sizeH hd)).fst.av,AV.ag [int (prepI h (sizeH hd)),int (prepO h (sizeH hd))],int (0 : Int)]) [] ∧ GSpec Try.prog 30 [h.conf.av,int (prepI h (sizeH hd)),int (prepO h (sizeH hd))] true (addressV h.conf (prepI h (sizeH hd)) (prepO h (sizeH hd))) [] ∧ ((address h.conf (prepI h (sizeH hd)) (prepO h (sizeH hd))).snd != (0 : Int)) = false ∧ false = false ∧ GSpec Try.prog 31 [(putN h (sizeH hd)).fst.av,u64 (address h.conf (prepI h (sizeH hd)) (prepO h (sizeH hd))).fst,hd.av] false (AV.tu [(initH (putN h (sizeH hd)).fst (address h.conf (prepI h (sizeH hd)) (prepO h (sizeH hd))).fst hd).fst.av,int (initH (putN h (sizeH hd)).fst (address h.conf (prepI h (sizeH hd)) (prepO h (sizeH hd))).fst hd).snd]) [] ∧ ((initH (putN h (sizeH hd)).fst (address h.conf (prepI h (sizeH hd)) (prepO h (sizeH hd))).fst hd).snd != (0 : Int)) = true ∧ true = true ∧ ([] : List (List DV)) = [] ∧ ([] : List (List DV)) = [] ∧ (0 : Int) = (0 : Int) ∧ (0 : Int) = (0 : Int) ∧ [] = List.map wdv (noHeap,(0 : Int),(1 : Int)).fst.words ∧ [] = List.map Page.dv (noHeap,(0 : Int),(1 : Int)).fst.pages ∧ (0 : Int) = (0 : Int) ∧ (0 : Int) = (0 : Int) ∧ (0 : Int) = (0 : Int) ∧ (initH (putN h (sizeH hd)).fst (address h.conf (prepI h (sizeH hd)) (prepO h (sizeH hd))).fst hd).snd = (1 : Int)) ?_ (by kernel_rfl) (by kernel_rfl)
     exact ⟨(@pageProper (h)),(fun hg => by (try simp only [bs] at hg); exact @allocAsks (h.conf) (hd) (by (try simp only [bs] at hg); assumption)),‹_›,rfl,(@headerSize (hd) ‹_›),(@allocPrep (h) (sizeH hd) ‹_› (by grind [noHeap]) (by grind [noHeap])),(@pageAddress (h.conf) (prepI h (sizeH hd)) (prepO h (sizeH hd))),‹_›,rfl,(@objectInit ((putN h (sizeH hd)).fst) ((address h.conf (prepI h (sizeH hd)) (prepO h (sizeH hd))).fst) (hd) (by grind [noHeap]) (by grind [noHeap]) ‹_›),‹_›,rfl,rfl,rfl,rfl,rfl,rfl,rfl,rfl,rfl,rfl,(by grind [noHeap])⟩
    ·have hc2p := hc2
     simp only [bs] at hc2p
     refine gspec_ofE [((12 : Nat),[Hint.call true (Sx.bool (properB h)) []]),((18 : Nat),[Hint.call true (Sx.bool (asksH h.conf hd)) []]),((20 : Nat),[Hint.br false]),((25 : Nat),[Hint.call true (int (sizeH hd)) []]),((26 : Nat),[Hint.call false (AV.tu [(putN h (sizeH hd)).fst.av,AV.ag [int (prepI h (sizeH hd)),int (prepO h (sizeH hd))],int (0 : Int)]) []]),((41 : Nat),[Hint.call true (addressV h.conf (prepI h (sizeH hd)) (prepO h (sizeH hd))) []]),((45 : Nat),[Hint.br false]),((52 : Nat),[Hint.call false (AV.tu [(initH (putN h (sizeH hd)).fst (address h.conf (prepI h (sizeH hd)) (prepO h (sizeH hd))).fst hd).fst.av,int (initH (putN h (sizeH hd)).fst (address h.conf (prepI h (sizeH hd)) (prepO h (sizeH hd))).fst hd).snd]) []]),((56 : Nat),[Hint.br false])] [] [] (by decide) Try.func12 [false,false,false,false,false,true] (φ := GSpec Try.prog 28 [h.av] true (Sx.bool (properB h)) [] ∧ ((!!properB h) = true → GSpec Try.prog 7 [h.conf.av,hd.av] true (Sx.bool (asksH h.conf hd)) []) ∧ (!properB h || !asksH h.conf hd) = false ∧ false = false ∧ GSpec Try.prog 23 [hd.av] true (int (sizeH hd)) [] ∧ GSpec Try.prog 29 [h.av,int (sizeH hd)] false (AV.tu [(putN h (sizeH hd)).fst.av,AV.ag [int (prepI h (sizeH hd)),int (prepO h (sizeH hd))],int (0 : Int)]) [] ∧ GSpec Try.prog 30 [h.conf.av,int (prepI h (sizeH hd)),int (prepO h (sizeH hd))] true (addressV h.conf (prepI h (sizeH hd)) (prepO h (sizeH hd))) [] ∧ ((address h.conf (prepI h (sizeH hd)) (prepO h (sizeH hd))).snd != (0 : Int)) = false ∧ false = false ∧ GSpec Try.prog 31 [(putN h (sizeH hd)).fst.av,u64 (address h.conf (prepI h (sizeH hd)) (prepO h (sizeH hd))).fst,hd.av] false (AV.tu [(initH (putN h (sizeH hd)).fst (address h.conf (prepI h (sizeH hd)) (prepO h (sizeH hd))).fst hd).fst.av,int (initH (putN h (sizeH hd)).fst (address h.conf (prepI h (sizeH hd)) (prepO h (sizeH hd))).fst hd).snd]) [] ∧ ((initH (putN h (sizeH hd)).fst (address h.conf (prepI h (sizeH hd)) (prepO h (sizeH hd))).fst hd).snd != (0 : Int)) = false ∧ false = false ∧ (initH (putN h (sizeH hd)).fst (address h.conf (prepI h (sizeH hd)) (prepO h (sizeH hd))).fst hd).fst.conf.pw = (0 : Int) ∧ (initH (putN h (sizeH hd)).fst (address h.conf (prepI h (sizeH hd)) (prepO h (sizeH hd))).fst hd).fst.conf.pg = (0 : Int) ∧ List.map wdv (initH (putN h (sizeH hd)).fst (address h.conf (prepI h (sizeH hd)) (prepO h (sizeH hd))).fst hd).fst.words = List.map wdv (noHeap,(0 : Int),(1 : Int)).fst.words ∧ List.map Page.dv (initH (putN h (sizeH hd)).fst (address h.conf (prepI h (sizeH hd)) (prepO h (sizeH hd))).fst hd).fst.pages = List.map Page.dv (noHeap,(0 : Int),(1 : Int)).fst.pages ∧ (initH (putN h (sizeH hd)).fst (address h.conf (prepI h (sizeH hd)) (prepO h (sizeH hd))).fst hd).fst.space = (0 : Int) ∧ (initH (putN h (sizeH hd)).fst (address h.conf (prepI h (sizeH hd)) (prepO h (sizeH hd))).fst hd).fst.bump = (0 : Int) ∧ (address h.conf (prepI h (sizeH hd)) (prepO h (sizeH hd))).fst = (0 : Int) ∧ (0 : Int) = (1 : Int)) ?_ (by kernel_rfl) (by kernel_rfl)
     exact ⟨(@pageProper (h)),(fun hg => by (try simp only [bs] at hg); exact @allocAsks (h.conf) (hd) (by (try simp only [bs] at hg); assumption)),‹_›,rfl,(@headerSize (hd) ‹_›),(@allocPrep (h) (sizeH hd) ‹_› (by grind [noHeap]) (by grind [noHeap])),(@pageAddress (h.conf) (prepI h (sizeH hd)) (prepO h (sizeH hd))),‹_›,rfl,(@objectInit ((putN h (sizeH hd)).fst) ((address h.conf (prepI h (sizeH hd)) (prepO h (sizeH hd))).fst) (hd) (by grind [noHeap]) (by grind [noHeap]) ‹_›),‹_›,rfl,(by grind [noHeap]),(by grind [noHeap]),(by refine congrArg _ ?_; (simp only [noHeap]; (repeat' split) <;> first | rfl | omega | (exfalso; omega) | simp_all)),(by refine congrArg _ ?_; (simp only [noHeap]; (repeat' split) <;> first | rfl | omega | (exfalso; omega) | simp_all)),(by grind [noHeap]),(by grind [noHeap]),(by grind [noHeap]),(by grind [noHeap])⟩
def room7 (h : Heap) : Int := if properB h = true ∧ 0 ≤ h.bump then h.conf.pw - (h.pages.getD h.bump.toNat default).used else 0
theorem allocRoom (h : Heap) : GSpec Try.prog 20 [h.av] true (int (room7 h)) [] := by
 by_cases q : properB h = true ∧ 0 ≤ h.bump
 ·obtain ⟨q1,q2⟩ := q
  have po := proper_ok q1
  have hb := (properB_iff.1 q1).2.2.2.2.1
  have hpg := proper_page q1 (j := h.bump.toNat) (by omega)
  have e7 : room7 h = h.conf.pw - (h.pages.getD h.bump.toNat default).used := by rw [room7,if_pos ⟨q1,q2⟩]
  rw [e7]
  exact gF [] Try.func20 [] (Fc 4 (@pageProper h) (Ff 10 (by simp [*] : (!properB h||decide (h.bump < 0))=false) (Fe 18 Page.dv h.pages h.bump (Fi 21 (h.conf.pw - (h.pages.getD h.bump.toNat default).used) Fz))))
 ·have e7 : room7 h = 0 := by rw [room7,if_neg q]
  rw [e7]
  by_cases q1 : properB h = true
  ·have hb := (properB_iff.1 q1).2.2.2.2.1
   have q2 : h.bump = -1 := by
    have : ¬ 0 ≤ h.bump := fun x => q ⟨q1,x⟩
    omega
   exact gF [] Try.func20 [] (Fc 4 (@pageProper h) (Ftb 10 (!properB h||decide (h.bump < 0)) Fz))
  ·have q1' : properB h = false := by simpa using q1
   exact gF [] Try.func20 [] (Fc 4 (@pageProper h) (Ft 10 (by simp only [bs, *,true_or,or_true,true_and,and_true,not_true_eq_false,not_false_eq_true,Bool.true_eq_false,Bool.false_eq_true] : (!properB h||decide (h.bump < 0))=true) Fz))
theorem law7words (n : Int) : GSpec Try.prog 10 [int n] true (Header.av ⟨3,n,0⟩) [] := by
 exact gF [] Try.func10 [] Fz
theorem law7awake : GSpec Try.prog 6 [] true (bool true) [] := by
 have e1 : (new7 (newHeap ⟨16,8⟩) ⟨3,3,0⟩).2.2 = 0 := by decide +kernel
 have e2 : (new7 (newHeap ⟨16,8⟩) ⟨3,3,0⟩).2.1 = 4096 := by decide +kernel
 have e3 : (new7 (newHeap ⟨16,8⟩) ⟨3,3,0⟩).1.bump = 0 := by decide +kernel
 have e4 : room7 (new7 (newHeap ⟨16,8⟩) ⟨3,3,0⟩).1 = 12 := by decide +kernel
 have hw : WOk (newHeap ⟨16,8⟩).words := fun x hx => by
  simp [newHeap] at hx; omega
 have hv : validB ⟨16,8⟩ = true := by decide
 exact gF [] Try.func6 [] (Fh 14 [.kill (AV.tu [(new7 (Heap.mk (Conf.mk 16 8) (List.replicate 128 0) (List.replicate 8 (Page.mk 0 0 0 0)) 0 (-1 : Int)) (Header.mk 3 3 0)).fst.av,u64 (new7 (Heap.mk (Conf.mk 16 8) (List.replicate 128 0) (List.replicate 8 (Page.mk 0 0 0 0)) 0 (-1 : Int)) (Header.mk 3 3 0)).snd.fst,int (new7 (Heap.mk (Conf.mk 16 8) (List.replicate 128 0) (List.replicate 8 (Page.mk 0 0 0 0)) 0 (-1 : Int)) (Header.mk 3 3 0)).snd.snd])] (Fh 31 [.call true (int (room7 (Heap.mk (Conf.mk 16 8) (new7 (Heap.mk (Conf.mk 16 8) (List.replicate 128 0) (List.replicate 8 (Page.mk 0 0 0 0)) 0 (-1 : Int)) (Header.mk 3 3 0)).fst.words (new7 (Heap.mk (Conf.mk 16 8) (List.replicate 128 0) (List.replicate 8 (Page.mk 0 0 0 0)) 0 (-1 : Int)) (Header.mk 3 3 0)).fst.pages 0 0))) []] (Fc 8 (@ref4NewA) (Fc 13 (@law7words (3)) (Fa (@allocNew (Heap.mk (Conf.mk 16 8) (List.replicate 128 0) (List.replicate 8 (Page.mk 0 0 0 0)) 0 (-1 : Int)) (Header.mk 3 3 0) ‹_› (by (simp only [bs]; omega))) (Fa ((fun hg => by (try simp only [bs] at hg); exact @allocRoom (Heap.mk (Conf.mk 16 8) (new7 (Heap.mk (Conf.mk 16 8) (List.replicate 128 0) (List.replicate 8 (Page.mk 0 0 0 0)) 0 (-1 : Int)) (Header.mk 3 3 0)).fst.words (new7 (Heap.mk (Conf.mk 16 8) (List.replicate 128 0) (List.replicate 8 (Page.mk 0 0 0 0)) 0 (-1 : Int)) (Header.mk 3 3 0)).fst.pages 0 0)) : ((new7 (Heap.mk (Conf.mk 16 8) (List.replicate 128 0) (List.replicate 8 (Page.mk 0 0 0 0)) 0 (-1 : Int)) (Header.mk 3 3 0)).snd.snd == 0&&(new7 (Heap.mk (Conf.mk 16 8) (List.replicate 128 0) (List.replicate 8 (Page.mk 0 0 0 0)) 0 (-1 : Int)) (Header.mk 3 3 0)).snd.fst == 4096&&(new7 (Heap.mk (Conf.mk 16 8) (List.replicate 128 0) (List.replicate 8 (Page.mk 0 0 0 0)) 0 (-1 : Int)) (Header.mk 3 3 0)).fst.bump == 0) =true→GSpec Try.prog 20 [(Heap.mk (Conf.mk 16 8) (new7 (Heap.mk (Conf.mk 16 8) (List.replicate 128 0) (List.replicate 8 (Page.mk 0 0 0 0)) 0 (-1 : Int)) (Header.mk 3 3 0)).fst.words (new7 (Heap.mk (Conf.mk 16 8) (List.replicate 128 0) (List.replicate 8 (Page.mk 0 0 0 0)) 0 (-1 : Int)) (Header.mk 3 3 0)).fst.pages 0 0).av] true (int (room7 (Heap.mk (Conf.mk 16 8) (new7 (Heap.mk (Conf.mk 16 8) (List.replicate 128 0) (List.replicate 8 (Page.mk 0 0 0 0)) 0 (-1 : Int)) (Header.mk 3 3 0)).fst.words (new7 (Heap.mk (Conf.mk 16 8) (List.replicate 128 0) (List.replicate 8 (Page.mk 0 0 0 0)) 0 (-1 : Int)) (Header.mk 3 3 0)).fst.pages 0 0))) []) Fz))))))
structure Pref (l : List Page) (a : Nat) : Prop where
 le : a ≤ l.length
 us : ∀ j,j < a → (l.getD j default).kind ≠ 0
 fr : ∀ j,a ≤ j → j < l.length → (l.getD j default).kind = 0
theorem pageAt_D (l : List Page) (i : Nat) : pageAt l i = l.getD i default := by rw [pageAt_getD]; simp
theorem Pref.runs {l : List Page} {a : Nat} (h : Pref l a) : ∀ i,i ≤ l.length → runsUp l i = if i ≤ a then [] else [⟨a,(i : Int) - a⟩]
 | 0,_ => by rw [runsUp,if_pos (Nat.zero_le _)]
 | i + 1,hi => by
  have ih := h.runs i (by omega)
  rw [runsUp,ih,pageAt_D]
  by_cases h1 : i + 1 ≤ a
  ·rw [if_pos (by omega),if_pos h1,runsStep,if_neg (h.us i (by omega))]
  ·rw [if_neg h1,runsStep,if_pos (h.fr i (by omega) (by omega))]
   by_cases h2 : i ≤ a
   ·rw [if_pos h2,if_neg (by simp)]
    have : i = a := by omega
    subst this
    simp; omega
   ·rw [if_neg h2,if_pos (by simp [lastRun]; omega)]
    simp [lastRun]; omega
theorem Pref.first {l : List Page} {a : Nat} {k : Int} (h : Pref l a) (h1 : 1 ≤ k) (h2 : a + k ≤ l.length) : first l k = a := by
 have e : Go.Proofs.Ytpklpkmnhgedbaa.runs l = [⟨a,(l.length : Int) - a⟩] := by rw [Go.Proofs.Ytpklpkmnhgedbaa.runs,h.runs _ (Nat.le_refl _),if_neg (by omega)]
 rw [Go.Proofs.Ytpklpkmnhgedbaa.first,if_neg (by omega),e,firstOf,if_pos (by simp only; omega)]
theorem Pref.inUse {l : List Page} {a : Nat} (h : Pref l a) : inUse l = a := by
 have : ∀ i,i ≤ l.length → inUseN l i = min i a := by
  intro i
  induction i with
  | zero => intro _; simp [inUseN]
  | succ i ih =>
   intro hi
   rw [inUseN,ih (by omega),pageAt_D]
   by_cases q : i < a
   ·rw [if_neg (h.us i q)]; omega
   ·rw [if_pos (h.fr i (by omega) (by omega))]; omega
 have := this l.length (Nat.le_refl _)
 have := h.le
 unfold Go.Proofs.Ytpklpkmnhgedbaa.inUse
 omega
theorem Pref.set {l : List Page} {a i : Nat} (h : Pref l a) (hi : i < a) {p : Page} (hp : p.kind ≠ 0) : Pref (l.set i p) a := by
 have hil : i < l.length := by have := h.le; omega
 refine ⟨by rw [List.length_set]; exact h.le,fun j hj => ?_,fun j h1 h2 => ?_⟩
 ·rw [getD_set hil]
  split
  ·exact hp
  ·exact h.us j hj
 ·rw [List.length_set] at h2
  rw [getD_set hil,if_neg (by omega)]
  exact h.fr j h1 h2
theorem Pref.next {l : List Page} {a : Nat} (h : Pref l a) (hl : a < l.length) {p : Page} (hp : p.kind ≠ 0) : Pref (l.set a p) (a + 1) := by
 refine ⟨by rw [List.length_set]; exact hl,fun j hj => ?_,fun j h1 h2 => ?_⟩
 ·rw [getD_set hl]
  split
  ·exact hp
  ·exact h.us j (by omega)
 ·rw [List.length_set] at h2
  rw [getD_set hl,if_neg (by omega)]
  exact h.fr j (by omega) h2
theorem Pref.took {l : List Page} {a k : Nat} (h : Pref l a) (hk : 1 ≤ k) (hl : a + k ≤ l.length) {p q : Page} (hp : p.kind ≠ 0) (hq : q.kind ≠ 0) : Pref (tookP l a k p q) (a + k) := by
 refine ⟨by rw [tookP_len hl]; exact hl,fun j hj => ?_,fun j h1 h2 => ?_⟩
 ·rw [tookP_get hk hl]
  split
  ·exact hp
  ·split
   ·exact hq
   ·exact h.us j (by omega)
 ·rw [tookP_len hl] at h2
  rw [tookP_get hk hl,if_neg (by omega),if_neg (by omega)]
  exact h.fr j (by omega) h2
structure LimI (c : Conf) (hd : Header) (i : Nat) (h : Heap) : Prop where
 pr : properB h = true
 cf : h.conf = c
 sp : h.space = 0
 w : WOk h.words
 pl : (h.pages.length : Int) = c.pg
 sm : need c (sizeH hd) = 0 → (i = 0 ∧ h.bump = -1 ∧ Pref h.pages 0) ∨ ∃ u f : Nat,(i : Int) = u * (c.pw / sizeH hd) + f ∧ 1 ≤ f ∧ (f : Int) ≤ c.pw / sizeH hd ∧ h.bump = u ∧ Pref h.pages (u + 1) ∧ (u : Int) + 1 ≤ limit c ∧ (h.pages.getD u default).space = 0 ∧ (h.pages.getD u default).used = f * sizeH hd ∧ (h.pages.getD u default).kind ≠ 0
 lg : 0 < need c (sizeH hd) → ∃ a : Nat,(a : Int) = i * need c (sizeH hd) ∧ Pref h.pages a
def mostF (c : Conf) (s : Int) : Int := if 0 < need c s then c.pg / 4 / need c s else c.pg / 4 * (c.pw / s)
theorem new7_flag {h : Heap} {hd : Header} (h1 : properB h = true) (h2 : asksH h.conf hd = true) (h3 : (put7 h hd).2.2 = true) : (new7 h hd).2.2 = 0 := by rw [new7,if_pos ⟨h1,h2⟩,if_pos h3]
theorem new7_full {h : Heap} {hd : Header} (h1 : properB h = true) (h2 : asksH h.conf hd = true) (h3 : (put7 h hd).2.2 = false) : (new7 h hd).2.2 = 3 := by rw [new7,if_pos ⟨h1,h2⟩,if_neg (by rw [h3]; simp)]
theorem limit_eq {c : Conf} (hv : validB c = true) : limit c = c.pg / 4 := by
 have := validB_iff.1 hv
 rw [limit,if_pos hv,tdivI (by omega)]
theorem LimI.mk' {c : Conf} {hd : Header} {h : Heap} {i : Nat} (hm : 0 ≤ hd.map ∧ hd.map ≤ 4294967295) (H : LimI c hd i h) (e : (new7 h hd).2.2 = 0) (l : List Page) (hl : (put7 h hd).1.pages = l)
  (sm : need c (sizeH hd) = 0 → ∃ u f : Nat,((i + 1 : Nat) : Int) = u * (c.pw / sizeH hd) + f ∧ 1 ≤ f ∧ (f : Int) ≤ c.pw / sizeH hd ∧ (put7 h hd).1.bump = u ∧ Pref l (u + 1) ∧ (u : Int) + 1 ≤ limit c ∧ (l.getD u default).space = 0 ∧ (l.getD u default).used = f * sizeH hd ∧ (l.getD u default).kind ≠ 0)
  (lg : 0 < need c (sizeH hd) → ∃ a : Nat,(a : Int) = ((i + 1 : Nat) : Int) * need c (sizeH hd) ∧ Pref l a) : LimI c hd (i + 1) (new7 h hd).1 ∧ (new7 h hd).1.pages = l := by
 obtain ⟨k1,k2,k3,k4,k5,k6,k7,k8⟩ := new7_ok H.w hm e
 have e1 : (new7 h hd).1.pages = l := by rw [k6]; exact hl
 have e2 : (new7 h hd).1.bump = (put7 h hd).1.bump := by rw [k6]
 refine ⟨⟨k7,by rw [k6]; exact k3.c.trans H.cf,by rw [k6]; exact k3.sp.trans H.sp,k8, ?_,fun q => .inr ?_,fun q => ?_⟩,e1⟩
 ·rw [e1,← hl,k3.l]; exact H.pl
 ·rw [e1,e2]; exact sm q
 ·rw [e1]; exact lg q
theorem limStep {c : Conf} {hd : Header} {h : Heap} {i : Nat} (hm : 0 ≤ hd.map ∧ hd.map ≤ 4294967295) (ha : asksH c hd = true) (H : LimI c hd i h) (hi : (i : Int) < mostF c (sizeH hd)) :
  (new7 h hd).2.2 = 0 ∧ (inUse (new7 h hd).1.pages : Int) ≤ c.pg / 4 ∧ LimI c hd (i + 1) (new7 h hd).1 := by
 have hv : validB c = true := H.cf ▸ (proper_ok H.pr).1
 have hb := validB_iff.1 hv
 obtain ⟨a1,a2,a3,a4,a5⟩ := asksH_ok ha
 have hli := limit_eq hv
 have ha' : asksH h.conf hd = true := by rw [H.cf]; exact ha
 have hpl := H.pl
 by_cases hk : 0 < need c (sizeH hd)
 ·obtain ⟨a,ea,hp⟩ := H.lg hk
  have hin := hp.inUse
  have hle := hp.le
  rw [mostF,if_pos hk] at hi
  have q1 : ((i : Int) + 1) * need c (sizeH hd) ≤ c.pg / 4 / need c (sizeH hd) * need c (sizeH hd) := Int.mul_le_mul_of_nonneg_right (by omega) (by omega)
  have q2 := Int.ediv_mul_le (c.pg / 4) (b := need c (sizeH hd)) (by omega)
  have q3 : ((i : Int) + 1) * need c (sizeH hd) = i * need c (sizeH hd) + need c (sizeH hd) := by rw [Int.add_mul,Int.one_mul]
  have hf := hp.first (k := need c (sizeH hd)) (by omega) (by omega)
  have eL : largeP h.conf h.pages (first h.pages (need h.conf (sizeH hd))) h.space (sizeH hd) = (tookP h.pages a (need c (sizeH hd)).toNat ⟨2,h.space,sizeH hd,0⟩ ⟨3,h.space,0,0⟩,0) := by
   have hff := first_free (l := h.pages) (k := need c (sizeH hd)) (by rw [hf]; omega)
   rw [H.cf,hf] at *
   rw [largeP,if_pos (by rw [H.sp]; omega),takeP,if_pos (by omega),if_pos hff.2.2]
   simp
  have e7 : put7 h hd = (⟨h.conf,h.words,tookP h.pages a (need c (sizeH hd)).toNat ⟨2,h.space,sizeH hd,0⟩ ⟨3,h.space,0,0⟩,h.space,h.bump⟩,4096 + first h.pages (need h.conf (sizeH hd)) * h.conf.pw,true) := by
   rw [put7,if_pos (by rw [H.cf]; exact hk),large7,if_pos (by rw [H.cf,hf,hin,hli]; omega),eL]
  have e := new7_flag H.pr ha' (by rw [e7])
  have hP := hp.took (k := (need c (sizeH hd)).toNat) (by omega) (by omega) (p := ⟨2,h.space,sizeH hd,0⟩) (q := ⟨3,h.space,0,0⟩) (by simp) (by simp)
  obtain ⟨r1,r2⟩ := LimI.mk' hm H e _ (by rw [e7]) (fun q => by omega) (fun _ => ⟨a + (need c (sizeH hd)).toNat,by rw [show ((i + 1 : Nat) : Int) = (i : Int) + 1 from by omega,q3]; omega,hP⟩)
  refine ⟨e, ?_,r1⟩
  rw [r2,hP.inUse]
  omega
 ·have hk0 : need c (sizeH hd) = 0 := by omega
  rw [mostF,if_neg hk] at hi
  have hs4 : sizeH hd ≤ c.pw / 4 := by
   unfold need at hk0
   split at hk0
   ·split at hk0
    ·assumption
    ·rename_i hc
     have e := Int.mul_ediv_add_emod (sizeH hd + c.pw - 1) c.pw
     rw [hk0] at e
     have := Int.emod_lt_of_pos (sizeH hd + c.pw - 1) (b := c.pw) (by omega)
     omega
   ·omega
  have m1 := Int.ediv_mul_le c.pw (b := sizeH hd) (by omega)
  have m2 := Int.lt_ediv_add_one_mul_self c.pw (b := sizeH hd) (by omega)
  have m3 : 1 ≤ c.pw / sizeH hd := Int.le_ediv_of_mul_le (by omega) (by omega)
  generalize hM : c.pw / sizeH hd = M at *
  rcases H.sm hk0 with ⟨rfl,hbu,hp⟩ | ⟨u,f,hu1,hf1,hf2,hbu,hp,hu2,hs1,hs2,hs3⟩
  ·have hf := hp.first (k := 1) (by omega) (by omega)
   have hin := hp.inUse
   have hnf : ¬ fitsB h (sizeH hd) := by unfold fitsB; omega
   have fg := fresh_grow (h := h) (.inl H.sp) (by rw [hf]; omega) (sizeH hd)
   have e7 : put7 h hd = (⟨h.conf,h.words,h.pages.set 0 ⟨1,h.space,sizeH hd,0⟩,h.space,0⟩,4096 + first h.pages 1 * h.conf.pw + ((freshP h).getD (first h.pages 1).toNat default).used,true) := by
    rw [put7,if_neg (by rw [H.cf]; exact hk),small7,if_neg hnf,if_pos (by rw [hf,hin,H.cf,hli]; omega),fg.1,hf]
    simp
   have e := new7_flag H.pr ha' (by rw [e7])
   have hP := hp.next (by omega) (p := ⟨1,h.space,sizeH hd,0⟩) (by simp)
   obtain ⟨r1,r2⟩ := LimI.mk' hm H e _ (by rw [e7]) (fun _ => ⟨0,1,by rw [hM]; simp,by omega,by rw [hM]; omega,by rw [e7]; rfl,hP,by omega,by rw [getD_set (by omega)]; simp [H.sp],by rw [getD_set (by omega)]; simp,by rw [getD_set (by omega)]; simp⟩) (fun q => absurd q hk)
   refine ⟨e, ?_,r1⟩
   rw [r2,hP.inUse]
   omega
  ·rw [hM] at hu1 hf2
   have hin := hp.inUse
   have hle := hp.le
   have hul : u < h.pages.length := by omega
   have hb2 : h.bump.toNat = u := by omega
   by_cases hfm : (f : Int) < M
   ·have q1 : ((f : Int) + 1) * sizeH hd ≤ M * sizeH hd := Int.mul_le_mul_of_nonneg_right (by omega) (by omega)
    rw [Int.add_mul,Int.one_mul] at q1
    have hfit : fitsB h (sizeH hd) := by
     unfold fitsB
     rw [hb2,hs1,hs2,hin,H.cf,H.sp]
     omega
    have e7 : put7 h hd = (⟨h.conf,h.words,growP h.pages u (sizeH hd),h.space,h.bump⟩,4096 + h.bump * h.conf.pw + (h.pages.getD h.bump.toNat default).used,true) := by
     rw [put7,if_neg (by rw [H.cf]; exact hk),small7,if_pos hfit,hb2]
    have e := new7_flag H.pr ha' (by rw [e7])
    have hP := hp.set (i := u) (by omega) (p := ⟨(h.pages.getD u default).kind,(h.pages.getD u default).space,(h.pages.getD u default).used + sizeH hd,(h.pages.getD u default).pins⟩) hs3
    obtain ⟨r1,r2⟩ := LimI.mk' hm H e _ (by rw [e7]; rfl) (fun _ => ⟨u,f + 1,by rw [hM]; omega,by omega,by rw [hM]; omega,by rw [e7]; exact hbu,hP,hu2,by rw [getD_set hul,if_pos rfl]; exact hs1,by rw [getD_set hul,if_pos rfl]; simp only; rw [hs2,show ((f + 1 : Nat) : Int) = (f : Int) + 1 from by omega,Int.add_mul,Int.one_mul],by rw [getD_set hul,if_pos rfl]; exact hs3⟩) (fun q => absurd q hk)
    refine ⟨e, ?_,r1⟩
    rw [r2,hP.inUse]
    omega
   ·have hfM : (f : Int) = M := by omega
    have q0 : (u : Int) * M + M = ((u : Int) + 1) * M := by rw [Int.add_mul,Int.one_mul]
    have hu3 : (u : Int) + 1 < c.pg / 4 := by
     have : ((u : Int) + 1) * M < c.pg / 4 * M := by omega
     exact Int.lt_of_mul_lt_mul_right this (by omega)
    have hnf : ¬ fitsB h (sizeH hd) := by
     unfold fitsB
     rw [hb2,hs1,hs2,hin,H.cf,H.sp,hfM]
     rw [Int.add_mul,Int.one_mul] at m2
     omega
    have hf := hp.first (k := 1) (by omega) (by omega)
    have fg := fresh_grow (h := h) (.inl H.sp) (by rw [hf]; omega) (sizeH hd)
    have hfn : (first h.pages 1).toNat = u + 1 := by rw [hf]; omega
    have e7 : put7 h hd = (⟨h.conf,h.words,h.pages.set (u + 1) ⟨1,h.space,sizeH hd,0⟩,h.space,first h.pages 1⟩,4096 + first h.pages 1 * h.conf.pw + ((freshP h).getD (first h.pages 1).toNat default).used,true) := by
     rw [put7,if_neg (by rw [H.cf]; exact hk),small7,if_neg hnf,if_pos (by rw [hf,hin,H.cf,hli]; omega),fg.1,hfn]
    have e := new7_flag H.pr ha' (by rw [e7])
    have hP := hp.next (by omega) (p := ⟨1,h.space,sizeH hd,0⟩) (by simp)
    obtain ⟨r1,r2⟩ := LimI.mk' hm H e _ (by rw [e7]) (fun _ => ⟨u + 1,1,by rw [hM,show ((u + 1 : Nat) : Int) = (u : Int) + 1 from by omega,← q0]; omega,by omega,by rw [hM]; omega,by rw [e7]; exact hf,hP,by omega,by rw [getD_set (by omega)]; simp [H.sp],by rw [getD_set (by omega)]; simp,by rw [getD_set (by omega)]; simp⟩) (fun q => absurd q hk)
    refine ⟨e, ?_,r1⟩
    rw [r2,hP.inUse]
    omega
theorem limEnd {c : Conf} {hd : Header} {h : Heap} {i : Nat} (ha : asksH c hd = true) (H : LimI c hd i h) (hi : (i : Int) = mostF c (sizeH hd)) : (new7 h hd).2.2 = 3 := by
 have hv : validB c = true := H.cf ▸ (proper_ok H.pr).1
 have hb := validB_iff.1 hv
 obtain ⟨a1,a2,a3,a4,a5⟩ := asksH_ok ha
 have hli := limit_eq hv
 have ha' : asksH h.conf hd = true := by rw [H.cf]; exact ha
 have hpl := H.pl
 refine new7_full H.pr ha' ?_
 by_cases hk : 0 < need c (sizeH hd)
 ·obtain ⟨a,ea,hp⟩ := H.lg hk
  have hin := hp.inUse
  rw [mostF,if_pos hk] at hi
  have q2 := Int.lt_ediv_add_one_mul_self (c.pg / 4) (b := need c (sizeH hd)) (by omega)
  rw [← hi,Int.add_mul,Int.one_mul] at q2
  rw [put7,if_pos (by rw [H.cf]; exact hk),large7,if_neg (by rw [hin,H.cf,hli]; omega)]
 ·have hk0 : need c (sizeH hd) = 0 := by omega
  rw [mostF,if_neg hk] at hi
  have m2 := Int.lt_ediv_add_one_mul_self c.pw (b := sizeH hd) (by omega)
  have m3 : 0 ≤ c.pw / sizeH hd := Int.ediv_nonneg (by omega) (by omega)
  generalize hM : c.pw / sizeH hd = M at *
  rcases H.sm hk0 with ⟨rfl,hbu,hp⟩ | ⟨u,f,hu1,hf1,hf2,hbu,hp,hu2,hs1,hs2,hs3⟩
  ·exfalso
   rcases Int.mul_eq_zero.1 (by omega : c.pg / 4 * M = 0) with q | q
   ·omega
   ·rw [q] at m2
    have hs4 : sizeH hd ≤ c.pw := by
     unfold need at hk0
     split at hk0
     ·split at hk0
      ·omega
      ·rename_i hc
       have e := Int.mul_ediv_add_emod (sizeH hd + c.pw - 1) c.pw
       rw [hk0] at e
       have := Int.emod_lt_of_pos (sizeH hd + c.pw - 1) (b := c.pw) (by omega)
       omega
     ·omega
    omega
  ·rw [hM] at hu1 hf2
   have hin := hp.inUse
   have hb2 : h.bump.toNat = u := by omega
   have q0 : (u : Int) * M + M = ((u : Int) + 1) * M := by rw [Int.add_mul,Int.one_mul]
   have q1 : c.pg / 4 * M ≤ ((u : Int) + 1) * M := by omega
   have q2 : c.pg / 4 ≤ (u : Int) + 1 := Int.le_of_mul_le_mul_right q1 (by omega)
   have q3 : c.pg / 4 = (u : Int) + 1 := by omega
   have hfM : (f : Int) = M := by rw [q3] at hi; omega
   have hnf : ¬ fitsB h (sizeH hd) := by
    unfold fitsB
    rw [hb2,hs1,hs2,hin,H.cf,H.sp,hfM]
    rw [Int.add_mul,Int.one_mul] at m2
    omega
   rw [put7,if_neg (by rw [H.cf]; exact hk),small7,if_neg hnf,if_neg (by rw [hin,H.cf,hli]; omega)]
theorem newHeap_proper {c : Conf} (hv : validB c = true) : properB (newHeap c) = true := by
 have hb := validB_iff.1 hv
 have ha := area hv
 have hz : ∀ j,j < (newHeap c).pages.length → (newHeap c).pages.getD j default = ⟨0,0,0,0⟩ := fun j hj => by
  simp only [newHeap,List.length_replicate] at hj
  simp [newHeap,List.getD_eq_getElem?_getD,hj]
 refine proper_pt.2 ⟨hv,by simp only [newHeap,List.length_replicate]; omega,by simp only [newHeap,List.length_replicate]; omega,.inl rfl,.inl rfl,fun j hj => ?_,fun j hj q => ?_,fun j hj q => ?_⟩
 ·rw [hz j hj]; exact ⟨by simp,by simp,by simp,by simp,by simp,by simp⟩
 ·rw [hz j hj] at q; simp at q
 ·rw [hz j hj] at q; simp at q
theorem limStart {c : Conf} (hd : Header) (hv : validB c = true) : LimI c hd 0 (newHeap c) := by
 have hb := validB_iff.1 hv
 have hl : (newHeap c).pages.length = c.pg.toNat := by simp [newHeap]
 have hz : ∀ j,j < c.pg.toNat → (newHeap c).pages.getD j default = ⟨0,0,0,0⟩ := fun j hj => by
  simp [newHeap,List.getD_eq_getElem?_getD,hj]
 have hp : Pref (newHeap c).pages 0 := ⟨Nat.zero_le _,fun j hj => by omega,fun j _ h2 => by rw [hz j (by omega)]⟩
 refine ⟨newHeap_proper hv,rfl,rfl,fun x hx => ?_,by omega,fun _ => .inl ⟨rfl,rfl,hp⟩,fun _ => ⟨0,by simp,hp⟩⟩
 simp [newHeap] at hx
 omega
end Go.Proofs.Ytpklpkmnhgedbaa
