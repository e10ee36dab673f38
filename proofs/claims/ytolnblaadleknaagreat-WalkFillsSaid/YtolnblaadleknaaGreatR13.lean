/-
 The statement WalkFills: part 13.
 Conditions: none.
-/
import Derived.Test.YtolnblaadleknaaGreatR12
set_option maxRecDepth 100000
set_option maxHeartbeats 2000000
set_option linter.all false
namespace Go.Proofs.YtolnblaadleknaaGreat
open Go.Sx
def spT2 (w : WorldM) (t : Tape) : Tape := (t.step (w.heap.words.length : Int)).step (w.heap.pages.length : Int)
def spT3 (w : WorldM) (t : Tape) : Tape := (spT2 w t).step 12
def spI (w : WorldM) (t : Tape) : Nat := (t.next (w.heap.words.length : Int)).toNat
def spP (w : WorldM) (t : Tape) : Nat := ((t.step (w.heap.words.length : Int)).next (w.heap.pages.length : Int)).toNat
def spPg (w : WorldM) (t : Tape) : Page := w.heap.pages.getD (spP w t) default
def spList : List Int := [0,1,5,21,4096,4097,4112,16386,1099511627776,61]
def pinQ (p : Page) : Page := if p.kind = 1 then ⟨p.kind,p.space,p.used,1⟩ else p
def spV (w : WorldM) (t : Tape) (d : Int) : Int := if d ≤ 1 then spList.getD ((spT3 w t).next 10).toNat default else bits .xor .u64 (w.heap.words.getD (spI w t) default) (IntKind.u64.wrap (1 * 2 ^ min ((spT3 w t).next 64).toNat 64))
def spQ (w : WorldM) (t : Tape) (d : Int) : Page :=
 if d = 3 then ⟨(spT3 w t).next 5,(spPg w t).space,(spPg w t).used,(spPg w t).pins⟩
 else if d = 4 then ⟨(spPg w t).kind,(spT3 w t).next 3,(spPg w t).used,(spPg w t).pins⟩
 else if d = 5 then ⟨(spPg w t).kind,(spPg w t).space,(spPg w t).used + (spT3 w t).next 9 - 4,(spPg w t).pins⟩
 else ⟨(spPg w t).kind,(spPg w t).space,(spPg w t).used,(spT3 w t).next 3 - 1⟩
def spH (w : WorldM) (t : Tape) (d : Int) : Heap :=
 if d ≤ 2 then ⟨w.heap.conf,w.heap.words.set (spI w t) (spV w t d),w.heap.pages,w.heap.space,w.heap.bump⟩
 else if d ≤ 6 then ⟨w.heap.conf,w.heap.words,w.heap.pages.set (spP w t) (spQ w t d),w.heap.space,w.heap.bump⟩
 else if d = 7 then ⟨w.heap.conf,w.heap.words,w.heap.pages,(spT3 w t).next 3,w.heap.bump⟩
 else if d = 8 then ⟨w.heap.conf,w.heap.words,w.heap.pages,w.heap.space,(spT3 w t).next ((w.heap.pages.length + 2 : Nat) : Int) - 1⟩
 else if d = 9 then ⟨⟨w.heap.conf.pw + 4,w.heap.conf.pg⟩,w.heap.words,w.heap.pages,w.heap.space,w.heap.bump⟩
 else if d = 10 then ⟨w.heap.conf,w.heap.words,w.heap.pages.drop 1,w.heap.space,w.heap.bump⟩
 else ⟨w.heap.conf,w.heap.words,w.heap.pages.map pinQ,w.heap.space,w.heap.bump⟩
def spN (w : WorldM) (d : Int) : Int := if d ≤ 1 then 10 else if d = 2 then 64 else if d = 3 then 5 else if d = 4 then 3 else if d = 5 then 9 else if d = 6 then 3 else if d = 7 then 3 else if d = 8 then ((w.heap.pages.length + 2 : Nat) : Int) else 0
def WorldM.spoil (w : WorldM) (t : Tape) : WorldM := ⟨spH w t ((spT2 w t).next 12),w.strong,w.weak⟩
def WorldM.spoilT (w : WorldM) (t : Tape) : Tape := if (spT2 w t).next 12 ≤ 8 then (spT3 w t).step (spN w ((spT2 w t).next 12)) else spT3 w t
section
variable (w : WorldM) (t : Tape) (hm : MOk w 1000) (ht : TOk t) (ha : t.at' ≤ 900000) (hus : ∀ j,j < w.heap.pages.length → -1099511627776 ≤ (w.heap.pages.getD j default).used ∧ (w.heap.pages.getD j default).used ≤ 1099511627776)
include hm ht ha hus
theorem ZlY (hd : (spT2 w t).next 12 = 0) : LentSpec Tryz.prog 40 [w.av,.pt 0 0 0] [t.b] (w.spoil t).av [(w.spoilT t).b] := by
 have e7 : w.spoil t = ⟨⟨w.heap.conf,w.heap.words.set (spI w t) (spV w t 0),w.heap.pages,w.heap.space,w.heap.bump⟩,w.strong,w.weak⟩ := by simp [WorldM.spoil,spH,hd]
 have e8 : w.spoilT t = (spT3 w t).step 10 := by simp [WorldM.spoilT,spN,hd]
 have s1 := Z0v (t := t) (w.heap.words.length : Int)
 have s2 : (t.step (w.heap.words.length : Int)).at' ≤ (spT2 w t).at' ∧ (spT2 w t).at' ≤ (t.step (w.heap.words.length : Int)).at' + 1 ∧ (spT2 w t).l = (t.step (w.heap.words.length : Int)).l := Z0v _
 have s3 : (spT2 w t).at' ≤ (spT3 w t).at' ∧ (spT3 w t).at' ≤ (spT2 w t).at' + 1 ∧ (spT3 w t).l = (spT2 w t).l := Z0v _
 have k1 := Z0Q ht s1.2.2 (by omega) (by omega)
 have k2 : TOk (spT2 w t) := Z0Q k1 s2.2.2 (by omega) (by omega)
 have k3 : TOk (spT3 w t) := Z0Q k2 s3.2.2 (by omega) (by omega)
 have a1 := area hm.hv
 have a2 := validB_iff.1 hm.hv
 have a3 := hm.L
 have a4 := hm.pl
 have hw := hm.words
 have n1 := Z09 t (n := (w.heap.words.length : Int)) (by omega)
 have n2 := Z09 (t.step (w.heap.words.length : Int)) (n := (w.heap.pages.length : Int)) (by omega)
 have n3 := Z09 (spT3 w t) (n := 10) (by omega)
 rw [e7,e8]
 unfold spT3 spT2 at *
 exact lF Tryz.func40 [] (Fh 43 [.el (wdv ([0,1,5,21,4096,4097,4112,16386,1099511627776,61].getD ((((t.step (↑w.heap.words.length : Int)).step (↑w.heap.pages.length : Int)).step 12).next 10).toNat default))] (Fh 10044 [.els (List.map wdv (w.heap.words.set (t.next (↑w.heap.words.length : Int)).toNat ([0,1,5,21,4096,4097,4112,16386,1099511627776,61].getD ((((t.step (↑w.heap.words.length : Int)).step (↑w.heap.pages.length : Int)).step 12).next 10).toNat default)))] (Fs 11 (List.map wdv []) (Fa (by (simp only [List.length_map,List.length_cons,List.length_nil]; omega) : (List.map wdv []).length + (List.map wdv w.heap.words).length≤2 ^ 30) (Fs 14 (List.map wdv w.heap.words) (Fs 15 (List.map Page.dv []) (Fa (by (simp only [List.length_map,List.length_cons,List.length_nil]; omega) : (List.map Page.dv []).length + (List.map Page.dv w.heap.pages).length≤2 ^ 30) (Fs 18 (List.map Page.dv w.heap.pages) (Fl 24 wdv w.heap.words (Fp 25 (@Z0a t ((↑w.heap.words.length : Int)) ‹_› (by omega) (by omega)) (Fl 29 Page.dv w.heap.pages (Fp 30 (@Z0a (t.step (↑w.heap.words.length : Int)) ((↑w.heap.pages.length : Int)) ‹_› (by omega) (by omega)) (Fp 32 (@Z0K ((t.step (↑w.heap.words.length : Int)).step (↑w.heap.pages.length : Int)) (0) ‹_› ‹_›) (Fs 39 (List.map wdv [0,1,5,21,4096,4097,4112,16386,1099511627776,61]) (Fp 41 (@Z0a (((t.step (↑w.heap.words.length : Int)).step (↑w.heap.pages.length : Int)).step 12) (10) ‹_› (by omega) (by omega)) (Fa (by (simp only [List.length_map,List.length_cons,List.length_nil]; omega) : 0≤(((t.step (↑w.heap.words.length : Int)).step (↑w.heap.pages.length : Int)).step 12).next 10∧((((t.step (↑w.heap.words.length : Int)).step (↑w.heap.pages.length : Int)).step 12).next 10).toNat < (List.map wdv [0,1,5,21,4096,4097,4112,16386,1099511627776,61]).length) (Fa (by exact Z1b (by simp only [List.length_cons,List.length_nil]; omega) : (List.map wdv [0,1,5,21,4096,4097,4112,16386,1099511627776,61])[((((t.step (↑w.heap.words.length : Int)).step (↑w.heap.pages.length : Int)).step 12).next 10).toNat]? = some (wdv ([0,1,5,21,4096,4097,4112,16386,1099511627776,61].getD ((((t.step (↑w.heap.words.length : Int)).step (↑w.heap.pages.length : Int)).step 12).next 10).toNat default))) (Fa (by (simp only [List.length_map,List.length_cons,List.length_nil]; omega) : 0≤t.next (↑w.heap.words.length : Int)∧(t.next (↑w.heap.words.length : Int)).toNat < (List.map wdv w.heap.words).length) (Fa (by (simp only [List.length_map,List.length_cons,List.length_nil]; omega) : (t.next (↑w.heap.words.length : Int)).toNat < (List.map wdv w.heap.words).length) (Fa (by simp [spV,spQ,spPg,spI,spP,spT3,spT2,spList,List.map_take,List.map_drop,List.map_set,List.map_append,wdv,idv] : (List.map wdv w.heap.words).set (t.next (↑w.heap.words.length : Int)).toNat [du64 ([0,1,5,21,4096,4097,4112,16386,1099511627776,61].getD ((((t.step (↑w.heap.words.length : Int)).step (↑w.heap.pages.length : Int)).step 12).next 10).toNat default)] =List.map wdv (w.heap.words.set (t.next (↑w.heap.words.length : Int)).toNat ([0,1,5,21,4096,4097,4112,16386,1099511627776,61].getD ((((t.step (↑w.heap.words.length : Int)).step (↑w.heap.pages.length : Int)).step 12).next 10).toNat default))) Fz))))))))))))))))))))
theorem Zlt (hd : (spT2 w t).next 12 = 1) : LentSpec Tryz.prog 40 [w.av,.pt 0 0 0] [t.b] (w.spoil t).av [(w.spoilT t).b] := by
 have e7 : w.spoil t = ⟨⟨w.heap.conf,w.heap.words.set (spI w t) (spV w t 1),w.heap.pages,w.heap.space,w.heap.bump⟩,w.strong,w.weak⟩ := by simp [WorldM.spoil,spH,hd]
 have e8 : w.spoilT t = (spT3 w t).step 10 := by simp [WorldM.spoilT,spN,hd]
 have s1 := Z0v (t := t) (w.heap.words.length : Int)
 have s2 : (t.step (w.heap.words.length : Int)).at' ≤ (spT2 w t).at' ∧ (spT2 w t).at' ≤ (t.step (w.heap.words.length : Int)).at' + 1 ∧ (spT2 w t).l = (t.step (w.heap.words.length : Int)).l := Z0v _
 have s3 : (spT2 w t).at' ≤ (spT3 w t).at' ∧ (spT3 w t).at' ≤ (spT2 w t).at' + 1 ∧ (spT3 w t).l = (spT2 w t).l := Z0v _
 have k1 := Z0Q ht s1.2.2 (by omega) (by omega)
 have k2 : TOk (spT2 w t) := Z0Q k1 s2.2.2 (by omega) (by omega)
 have k3 : TOk (spT3 w t) := Z0Q k2 s3.2.2 (by omega) (by omega)
 have a1 := area hm.hv
 have a2 := validB_iff.1 hm.hv
 have a3 := hm.L
 have a4 := hm.pl
 have hw := hm.words
 have n1 := Z09 t (n := (w.heap.words.length : Int)) (by omega)
 have n2 := Z09 (t.step (w.heap.words.length : Int)) (n := (w.heap.pages.length : Int)) (by omega)
 have n3 := Z09 (spT3 w t) (n := 10) (by omega)
 rw [e7,e8]
 unfold spT3 spT2 at *
 exact lF Tryz.func40 [] (Fh 43 [.el (wdv ([0,1,5,21,4096,4097,4112,16386,1099511627776,61].getD ((((t.step (↑w.heap.words.length : Int)).step (↑w.heap.pages.length : Int)).step 12).next 10).toNat default))] (Fh 10044 [.els (List.map wdv (w.heap.words.set (t.next (↑w.heap.words.length : Int)).toNat ([0,1,5,21,4096,4097,4112,16386,1099511627776,61].getD ((((t.step (↑w.heap.words.length : Int)).step (↑w.heap.pages.length : Int)).step 12).next 10).toNat default)))] (Fs 11 (List.map wdv []) (Fa (by (simp only [List.length_map,List.length_cons,List.length_nil]; omega) : (List.map wdv []).length + (List.map wdv w.heap.words).length≤2 ^ 30) (Fs 14 (List.map wdv w.heap.words) (Fs 15 (List.map Page.dv []) (Fa (by (simp only [List.length_map,List.length_cons,List.length_nil]; omega) : (List.map Page.dv []).length + (List.map Page.dv w.heap.pages).length≤2 ^ 30) (Fs 18 (List.map Page.dv w.heap.pages) (Fl 24 wdv w.heap.words (Fp 25 (@Z0a t ((↑w.heap.words.length : Int)) ‹_› (by omega) (by omega)) (Fl 29 Page.dv w.heap.pages (Fp 30 (@Z0a (t.step (↑w.heap.words.length : Int)) ((↑w.heap.pages.length : Int)) ‹_› (by omega) (by omega)) (Fp 32 (@Z0K ((t.step (↑w.heap.words.length : Int)).step (↑w.heap.pages.length : Int)) (1) ‹_› ‹_›) (Fs 39 (List.map wdv [0,1,5,21,4096,4097,4112,16386,1099511627776,61]) (Fp 41 (@Z0a (((t.step (↑w.heap.words.length : Int)).step (↑w.heap.pages.length : Int)).step 12) (10) ‹_› (by omega) (by omega)) (Fa (by (simp only [List.length_map,List.length_cons,List.length_nil]; omega) : 0≤(((t.step (↑w.heap.words.length : Int)).step (↑w.heap.pages.length : Int)).step 12).next 10∧((((t.step (↑w.heap.words.length : Int)).step (↑w.heap.pages.length : Int)).step 12).next 10).toNat < (List.map wdv [0,1,5,21,4096,4097,4112,16386,1099511627776,61]).length) (Fa (by exact Z1b (by simp only [List.length_cons,List.length_nil]; omega) : (List.map wdv [0,1,5,21,4096,4097,4112,16386,1099511627776,61])[((((t.step (↑w.heap.words.length : Int)).step (↑w.heap.pages.length : Int)).step 12).next 10).toNat]? = some (wdv ([0,1,5,21,4096,4097,4112,16386,1099511627776,61].getD ((((t.step (↑w.heap.words.length : Int)).step (↑w.heap.pages.length : Int)).step 12).next 10).toNat default))) (Fa (by (simp only [List.length_map,List.length_cons,List.length_nil]; omega) : 0≤t.next (↑w.heap.words.length : Int)∧(t.next (↑w.heap.words.length : Int)).toNat < (List.map wdv w.heap.words).length) (Fa (by (simp only [List.length_map,List.length_cons,List.length_nil]; omega) : (t.next (↑w.heap.words.length : Int)).toNat < (List.map wdv w.heap.words).length) (Fa (by simp [spV,spQ,spPg,spI,spP,spT3,spT2,spList,List.map_take,List.map_drop,List.map_set,List.map_append,wdv,idv] : (List.map wdv w.heap.words).set (t.next (↑w.heap.words.length : Int)).toNat [du64 ([0,1,5,21,4096,4097,4112,16386,1099511627776,61].getD ((((t.step (↑w.heap.words.length : Int)).step (↑w.heap.pages.length : Int)).step 12).next 10).toNat default)] =List.map wdv (w.heap.words.set (t.next (↑w.heap.words.length : Int)).toNat ([0,1,5,21,4096,4097,4112,16386,1099511627776,61].getD ((((t.step (↑w.heap.words.length : Int)).step (↑w.heap.pages.length : Int)).step 12).next 10).toNat default))) Fz))))))))))))))))))))
theorem ZlS (hd : (spT2 w t).next 12 = 2) : LentSpec Tryz.prog 40 [w.av,.pt 0 0 0] [t.b] (w.spoil t).av [(w.spoilT t).b] := by
 have e7 : w.spoil t = ⟨⟨w.heap.conf,w.heap.words.set (spI w t) (spV w t 2),w.heap.pages,w.heap.space,w.heap.bump⟩,w.strong,w.weak⟩ := by simp [WorldM.spoil,spH,hd]
 have e8 : w.spoilT t = (spT3 w t).step 64 := by simp [WorldM.spoilT,spN,hd]
 have s1 := Z0v (t := t) (w.heap.words.length : Int)
 have s2 : (t.step (w.heap.words.length : Int)).at' ≤ (spT2 w t).at' ∧ (spT2 w t).at' ≤ (t.step (w.heap.words.length : Int)).at' + 1 ∧ (spT2 w t).l = (t.step (w.heap.words.length : Int)).l := Z0v _
 have s3 : (spT2 w t).at' ≤ (spT3 w t).at' ∧ (spT3 w t).at' ≤ (spT2 w t).at' + 1 ∧ (spT3 w t).l = (spT2 w t).l := Z0v _
 have k1 := Z0Q ht s1.2.2 (by omega) (by omega)
 have k2 : TOk (spT2 w t) := Z0Q k1 s2.2.2 (by omega) (by omega)
 have k3 : TOk (spT3 w t) := Z0Q k2 s3.2.2 (by omega) (by omega)
 have a1 := area hm.hv
 have a2 := validB_iff.1 hm.hv
 have a3 := hm.L
 have a4 := hm.pl
 have hw := hm.words
 have n1 := Z09 t (n := (w.heap.words.length : Int)) (by omega)
 have n2 := Z09 (t.step (w.heap.words.length : Int)) (n := (w.heap.pages.length : Int)) (by omega)
 have n3 := Z09 (spT3 w t) (n := 64) (by omega)
 rw [e7,e8]
 unfold spT3 spT2 at *
 exact lF Tryz.func40 [] (Fh 51 [.el (wdv (w.heap.words.getD (t.next (↑w.heap.words.length : Int)).toNat default))] (Fh 10057 [.els (List.map wdv (w.heap.words.set (t.next (↑w.heap.words.length : Int)).toNat (bits BinOp.xor IntKind.u64 (w.heap.words.getD (t.next (↑w.heap.words.length : Int)).toNat default) (IntKind.u64.wrap ((1 :Int) * 2 ^ min ((((t.step (↑w.heap.words.length : Int)).step (↑w.heap.pages.length : Int)).step 12).next 64).toNat 64)))))] (Fs 11 (List.map wdv []) (Fa (by (simp [spV,spQ,spPg,spI,spP,spT3,spT2,spList, *]; omega) : (List.map wdv []).length + (List.map wdv w.heap.words).length≤2 ^ 30) (Fs 14 (List.map wdv w.heap.words) (Fs 15 (List.map Page.dv []) (Fa (by (simp [spV,spQ,spPg,spI,spP,spT3,spT2,spList, *]; omega) : (List.map Page.dv []).length + (List.map Page.dv w.heap.pages).length≤2 ^ 30) (Fs 18 (List.map Page.dv w.heap.pages) (Fl 24 wdv w.heap.words (Fp 25 (@Z0a t ((↑w.heap.words.length : Int)) ‹_› (by omega) (by omega)) (Fl 29 Page.dv w.heap.pages (Fp 30 (@Z0a (t.step (↑w.heap.words.length : Int)) ((↑w.heap.pages.length : Int)) ‹_› (by omega) (by omega)) (Fp 32 (@Z0K ((t.step (↑w.heap.words.length : Int)).step (↑w.heap.pages.length : Int)) (2) ‹_› ‹_›) (Fa (by (simp only [List.length_map]; omega) : 0≤t.next (↑w.heap.words.length : Int)∧(t.next (↑w.heap.words.length : Int)).toNat < (List.map wdv w.heap.words).length) (Fa (by exact Z1b (by omega) : (List.map wdv w.heap.words)[(t.next (↑w.heap.words.length : Int)).toNat]? = some (wdv (w.heap.words.getD (t.next (↑w.heap.words.length : Int)).toNat default))) (Fp 53 (@Z0a (((t.step (↑w.heap.words.length : Int)).step (↑w.heap.pages.length : Int)).step 12) (64) ‹_› (by omega) (by omega)) (Fv 54 ((((t.step (↑w.heap.words.length : Int)).step (↑w.heap.pages.length : Int)).step 12).next 64) (Fo (0≤(((t.step (↑w.heap.words.length : Int)).step (↑w.heap.pages.length : Int)).step 12).next 64) (Fa (by (simp only [List.length_map]; omega) : 0≤t.next (↑w.heap.words.length : Int)∧(t.next (↑w.heap.words.length : Int)).toNat < (List.map wdv w.heap.words).length) (Fa (by (simp only [List.length_map]; omega) : (t.next (↑w.heap.words.length : Int)).toNat < (List.map wdv w.heap.words).length) (Fa (by rw [List.map_set]; rfl : (List.map wdv w.heap.words).set (t.next (↑w.heap.words.length : Int)).toNat [du64 (bits BinOp.xor IntKind.u64 (w.heap.words.getD (t.next (↑w.heap.words.length : Int)).toNat default) (IntKind.u64.wrap ((1 :Int) * 2 ^ min ((((t.step (↑w.heap.words.length : Int)).step (↑w.heap.pages.length : Int)).step 12).next 64).toNat IntKind.u64.bits)))] =List.map wdv (w.heap.words.set (t.next (↑w.heap.words.length : Int)).toNat (bits BinOp.xor IntKind.u64 (w.heap.words.getD (t.next (↑w.heap.words.length : Int)).toNat default) (IntKind.u64.wrap ((1 :Int) * 2 ^ min ((((t.step (↑w.heap.words.length : Int)).step (↑w.heap.pages.length : Int)).step 12).next 64).toNat 64))))) Fz)))))))))))))))))))))
theorem ZlK (hd : (spT2 w t).next 12 = 3) : LentSpec Tryz.prog 40 [w.av,.pt 0 0 0] [t.b] (w.spoil t).av [(w.spoilT t).b] := by
 have e7 : w.spoil t = ⟨⟨w.heap.conf,w.heap.words,w.heap.pages.set (spP w t) (spQ w t 3),w.heap.space,w.heap.bump⟩,w.strong,w.weak⟩ := by simp [WorldM.spoil,spH,hd]
 have e8 : w.spoilT t = (spT3 w t).step 5 := by simp [WorldM.spoilT,spN,hd]
 have s1 := Z0v (t := t) (w.heap.words.length : Int)
 have s2 : (t.step (w.heap.words.length : Int)).at' ≤ (spT2 w t).at' ∧ (spT2 w t).at' ≤ (t.step (w.heap.words.length : Int)).at' + 1 ∧ (spT2 w t).l = (t.step (w.heap.words.length : Int)).l := Z0v _
 have s3 : (spT2 w t).at' ≤ (spT3 w t).at' ∧ (spT3 w t).at' ≤ (spT2 w t).at' + 1 ∧ (spT3 w t).l = (spT2 w t).l := Z0v _
 have k1 := Z0Q ht s1.2.2 (by omega) (by omega)
 have k2 : TOk (spT2 w t) := Z0Q k1 s2.2.2 (by omega) (by omega)
 have k3 : TOk (spT3 w t) := Z0Q k2 s3.2.2 (by omega) (by omega)
 have a1 := area hm.hv
 have a2 := validB_iff.1 hm.hv
 have a3 := hm.L
 have a4 := hm.pl
 have hw := hm.words
 have n1 := Z09 t (n := (w.heap.words.length : Int)) (by omega)
 have n2 := Z09 (t.step (w.heap.words.length : Int)) (n := (w.heap.pages.length : Int)) (by omega)
 have n3 := Z09 (spT3 w t) (n := 5) (by omega)
 rw [e7,e8]
 unfold spT3 spT2 at *
 exact lF Tryz.func40 [] (Fs 11 (List.map wdv []) (Fa (by (simp [spV,spQ,spPg,spI,spP,spT3,spT2,spList, *]; omega) : (List.map wdv []).length + (List.map wdv w.heap.words).length≤2 ^ 30) (Fs 14 (List.map wdv w.heap.words) (Fs 15 (List.map Page.dv []) (Fa (by (simp [spV,spQ,spPg,spI,spP,spT3,spT2,spList, *]; omega) : (List.map Page.dv []).length + (List.map Page.dv w.heap.pages).length≤2 ^ 30) (Fs 18 (List.map Page.dv w.heap.pages) (Fl 24 wdv w.heap.words (Fp 25 (@Z0a t ((↑w.heap.words.length : Int)) ‹_› (by omega) (by omega)) (Fl 29 Page.dv w.heap.pages (Fp 30 (@Z0a (t.step (↑w.heap.words.length : Int)) ((↑w.heap.pages.length : Int)) ‹_› (by omega) (by omega)) (Fp 32 (@Z0K ((t.step (↑w.heap.words.length : Int)).step (↑w.heap.pages.length : Int)) (3) ‹_› ‹_›) (Fp 64 (@Z0a (((t.step (↑w.heap.words.length : Int)).step (↑w.heap.pages.length : Int)).step 12) (5) ‹_› (by omega) (by omega)) (Fa (by (simp only [List.length_map]; omega) : 0≤(t.step (↑w.heap.words.length : Int)).next (↑w.heap.pages.length : Int)∧((t.step (↑w.heap.words.length : Int)).next (↑w.heap.pages.length : Int)).toNat < (List.map Page.dv w.heap.pages).length) (Fa (by exact Z1b (by omega) : (List.map Page.dv w.heap.pages)[((t.step (↑w.heap.words.length : Int)).next (↑w.heap.pages.length : Int)).toNat]? = some (w.heap.pages.getD ((t.step (↑w.heap.words.length : Int)).next (↑w.heap.pages.length : Int)).toNat default).dv) (FS 10066 Page.dv w.heap.pages (((t.step (↑w.heap.words.length : Int)).next (↑w.heap.pages.length : Int)).toNat) (Page.mk ((((t.step (↑w.heap.words.length : Int)).step (↑w.heap.pages.length : Int)).step 12).next 5) (w.heap.pages.getD ((t.step (↑w.heap.words.length : Int)).next (↑w.heap.pages.length : Int)).toNat default).space (w.heap.pages.getD ((t.step (↑w.heap.words.length : Int)).next (↑w.heap.pages.length : Int)).toNat default).used (w.heap.pages.getD ((t.step (↑w.heap.words.length : Int)).next (↑w.heap.pages.length : Int)).toNat default).pins) ((w.heap.pages.getD ((t.step (↑w.heap.words.length : Int)).next (↑w.heap.pages.length : Int)).toNat default).dv) Fz)))))))))))))))
theorem ZlV (hd : (spT2 w t).next 12 = 4) : LentSpec Tryz.prog 40 [w.av,.pt 0 0 0] [t.b] (w.spoil t).av [(w.spoilT t).b] := by
 have e7 : w.spoil t = ⟨⟨w.heap.conf,w.heap.words,w.heap.pages.set (spP w t) (spQ w t 4),w.heap.space,w.heap.bump⟩,w.strong,w.weak⟩ := by simp [WorldM.spoil,spH,hd]
 have e8 : w.spoilT t = (spT3 w t).step 3 := by simp [WorldM.spoilT,spN,hd]
 have s1 := Z0v (t := t) (w.heap.words.length : Int)
 have s2 : (t.step (w.heap.words.length : Int)).at' ≤ (spT2 w t).at' ∧ (spT2 w t).at' ≤ (t.step (w.heap.words.length : Int)).at' + 1 ∧ (spT2 w t).l = (t.step (w.heap.words.length : Int)).l := Z0v _
 have s3 : (spT2 w t).at' ≤ (spT3 w t).at' ∧ (spT3 w t).at' ≤ (spT2 w t).at' + 1 ∧ (spT3 w t).l = (spT2 w t).l := Z0v _
 have k1 := Z0Q ht s1.2.2 (by omega) (by omega)
 have k2 : TOk (spT2 w t) := Z0Q k1 s2.2.2 (by omega) (by omega)
 have k3 : TOk (spT3 w t) := Z0Q k2 s3.2.2 (by omega) (by omega)
 have a1 := area hm.hv
 have a2 := validB_iff.1 hm.hv
 have a3 := hm.L
 have a4 := hm.pl
 have hw := hm.words
 have n1 := Z09 t (n := (w.heap.words.length : Int)) (by omega)
 have n2 := Z09 (t.step (w.heap.words.length : Int)) (n := (w.heap.pages.length : Int)) (by omega)
 have n3 := Z09 (spT3 w t) (n := 3) (by omega)
 rw [e7,e8]
 unfold spT3 spT2 at *
 exact lF Tryz.func40 [] (Fs 11 (List.map wdv []) (Fa (by (simp [spV,spQ,spPg,spI,spP,spT3,spT2,spList, *]; omega) : (List.map wdv []).length + (List.map wdv w.heap.words).length≤2 ^ 30) (Fs 14 (List.map wdv w.heap.words) (Fs 15 (List.map Page.dv []) (Fa (by (simp [spV,spQ,spPg,spI,spP,spT3,spT2,spList, *]; omega) : (List.map Page.dv []).length + (List.map Page.dv w.heap.pages).length≤2 ^ 30) (Fs 18 (List.map Page.dv w.heap.pages) (Fl 24 wdv w.heap.words (Fp 25 (@Z0a t ((↑w.heap.words.length : Int)) ‹_› (by omega) (by omega)) (Fl 29 Page.dv w.heap.pages (Fp 30 (@Z0a (t.step (↑w.heap.words.length : Int)) ((↑w.heap.pages.length : Int)) ‹_› (by omega) (by omega)) (Fp 32 (@Z0K ((t.step (↑w.heap.words.length : Int)).step (↑w.heap.pages.length : Int)) (4) ‹_› ‹_›) (Fp 73 (@Z0a (((t.step (↑w.heap.words.length : Int)).step (↑w.heap.pages.length : Int)).step 12) (3) ‹_› (by omega) (by omega)) (Fa (by (simp only [List.length_map]; omega) : 0≤(t.step (↑w.heap.words.length : Int)).next (↑w.heap.pages.length : Int)∧((t.step (↑w.heap.words.length : Int)).next (↑w.heap.pages.length : Int)).toNat < (List.map Page.dv w.heap.pages).length) (Fa (by exact Z1b (by omega) : (List.map Page.dv w.heap.pages)[((t.step (↑w.heap.words.length : Int)).next (↑w.heap.pages.length : Int)).toNat]? = some (w.heap.pages.getD ((t.step (↑w.heap.words.length : Int)).next (↑w.heap.pages.length : Int)).toNat default).dv) (FS 10075 Page.dv w.heap.pages (((t.step (↑w.heap.words.length : Int)).next (↑w.heap.pages.length : Int)).toNat) (Page.mk (w.heap.pages.getD ((t.step (↑w.heap.words.length : Int)).next (↑w.heap.pages.length : Int)).toNat default).kind ((((t.step (↑w.heap.words.length : Int)).step (↑w.heap.pages.length : Int)).step 12).next 3) (w.heap.pages.getD ((t.step (↑w.heap.words.length : Int)).next (↑w.heap.pages.length : Int)).toNat default).used (w.heap.pages.getD ((t.step (↑w.heap.words.length : Int)).next (↑w.heap.pages.length : Int)).toNat default).pins) ((w.heap.pages.getD ((t.step (↑w.heap.words.length : Int)).next (↑w.heap.pages.length : Int)).toNat default).dv) Fz)))))))))))))))
theorem Zmn (hd : (spT2 w t).next 12 = 5) : LentSpec Tryz.prog 40 [w.av,.pt 0 0 0] [t.b] (w.spoil t).av [(w.spoilT t).b] := by
 have e7 : w.spoil t = ⟨⟨w.heap.conf,w.heap.words,w.heap.pages.set (spP w t) (spQ w t 5),w.heap.space,w.heap.bump⟩,w.strong,w.weak⟩ := by simp [WorldM.spoil,spH,hd]
 have e8 : w.spoilT t = (spT3 w t).step 9 := by simp [WorldM.spoilT,spN,hd]
 have s1 := Z0v (t := t) (w.heap.words.length : Int)
 have s2 : (t.step (w.heap.words.length : Int)).at' ≤ (spT2 w t).at' ∧ (spT2 w t).at' ≤ (t.step (w.heap.words.length : Int)).at' + 1 ∧ (spT2 w t).l = (t.step (w.heap.words.length : Int)).l := Z0v _
 have s3 : (spT2 w t).at' ≤ (spT3 w t).at' ∧ (spT3 w t).at' ≤ (spT2 w t).at' + 1 ∧ (spT3 w t).l = (spT2 w t).l := Z0v _
 have k1 := Z0Q ht s1.2.2 (by omega) (by omega)
 have k2 : TOk (spT2 w t) := Z0Q k1 s2.2.2 (by omega) (by omega)
 have k3 : TOk (spT3 w t) := Z0Q k2 s3.2.2 (by omega) (by omega)
 have a1 := area hm.hv
 have a2 := validB_iff.1 hm.hv
 have a3 := hm.L
 have a4 := hm.pl
 have hw := hm.words
 have n1 := Z09 t (n := (w.heap.words.length : Int)) (by omega)
 have n2 := Z09 (t.step (w.heap.words.length : Int)) (n := (w.heap.pages.length : Int)) (by omega)
 have n3 := Z09 (spT3 w t) (n := 9) (by omega)
 have pu := hus (spP w t)
 unfold spP at pu
 rw [e7,e8]
 unfold spT3 spT2 at *
 exact lF Tryz.func40 [] (Fh 86 [.el (w.heap.pages.getD ((t.step (↑w.heap.words.length : Int)).next (↑w.heap.pages.length : Int)).toNat default).dv] (Fs 11 (List.map wdv []) (Fa (by (simp [spV,spQ,spPg,spI,spP,spT3,spT2,spList, *]; omega) : (List.map wdv []).length + (List.map wdv w.heap.words).length≤2 ^ 30) (Fs 14 (List.map wdv w.heap.words) (Fs 15 (List.map Page.dv []) (Fa (by (simp [spV,spQ,spPg,spI,spP,spT3,spT2,spList, *]; omega) : (List.map Page.dv []).length + (List.map Page.dv w.heap.pages).length≤2 ^ 30) (Fs 18 (List.map Page.dv w.heap.pages) (Fl 24 wdv w.heap.words (Fp 25 (@Z0a t ((↑w.heap.words.length : Int)) ‹_› (by omega) (by omega)) (Fl 29 Page.dv w.heap.pages (Fp 30 (@Z0a (t.step (↑w.heap.words.length : Int)) ((↑w.heap.pages.length : Int)) ‹_› (by omega) (by omega)) (Fp 32 (@Z0K ((t.step (↑w.heap.words.length : Int)).step (↑w.heap.pages.length : Int)) (5) ‹_› ‹_›) (Fa (by (simp only [List.length_map]; omega) : 0≤(t.step (↑w.heap.words.length : Int)).next (↑w.heap.pages.length : Int)∧((t.step (↑w.heap.words.length : Int)).next (↑w.heap.pages.length : Int)).toNat < (List.map Page.dv w.heap.pages).length) (Fa (by exact Z1b (by omega) : (List.map Page.dv w.heap.pages)[((t.step (↑w.heap.words.length : Int)).next (↑w.heap.pages.length : Int)).toNat]? = some (w.heap.pages.getD ((t.step (↑w.heap.words.length : Int)).next (↑w.heap.pages.length : Int)).toNat default).dv) (Fp 88 (@Z0a (((t.step (↑w.heap.words.length : Int)).step (↑w.heap.pages.length : Int)).step 12) (9) ‹_› (by omega) (by omega)) (Fi 89 ((w.heap.pages.getD ((t.step (↑w.heap.words.length : Int)).next (↑w.heap.pages.length : Int)).toNat default).used + (((t.step (↑w.heap.words.length : Int)).step (↑w.heap.pages.length : Int)).step 12).next 9) (Fi 90 ((w.heap.pages.getD ((t.step (↑w.heap.words.length : Int)).next (↑w.heap.pages.length : Int)).toNat default).used + (((t.step (↑w.heap.words.length : Int)).step (↑w.heap.pages.length : Int)).step 12).next (9 :Int) - 4) (Fa (by (simp only [List.length_map]; omega) : 0≤(t.step (↑w.heap.words.length : Int)).next (↑w.heap.pages.length : Int)∧((t.step (↑w.heap.words.length : Int)).next (↑w.heap.pages.length : Int)).toNat < (List.map Page.dv w.heap.pages).length) (Fa (by exact Z1b (by omega) : (List.map Page.dv w.heap.pages)[((t.step (↑w.heap.words.length : Int)).next (↑w.heap.pages.length : Int)).toNat]? = some (w.heap.pages.getD ((t.step (↑w.heap.words.length : Int)).next (↑w.heap.pages.length : Int)).toNat default).dv) (FS 10092 Page.dv w.heap.pages (((t.step (↑w.heap.words.length : Int)).next (↑w.heap.pages.length : Int)).toNat) (Page.mk (w.heap.pages.getD ((t.step (↑w.heap.words.length : Int)).next (↑w.heap.pages.length : Int)).toNat default).kind (w.heap.pages.getD ((t.step (↑w.heap.words.length : Int)).next (↑w.heap.pages.length : Int)).toNat default).space ((w.heap.pages.getD ((t.step (↑w.heap.words.length : Int)).next (↑w.heap.pages.length : Int)).toNat default).used + (((t.step (↑w.heap.words.length : Int)).step (↑w.heap.pages.length : Int)).step 12).next (9 :Int) - 4) (w.heap.pages.getD ((t.step (↑w.heap.words.length : Int)).next (↑w.heap.pages.length : Int)).toNat default).pins) ((w.heap.pages.getD ((t.step (↑w.heap.words.length : Int)).next (↑w.heap.pages.length : Int)).toNat default).dv) Fz))))))))))))))))))))
theorem Zlp (hd : (spT2 w t).next 12 = 6) : LentSpec Tryz.prog 40 [w.av,.pt 0 0 0] [t.b] (w.spoil t).av [(w.spoilT t).b] := by
 have e7 : w.spoil t = ⟨⟨w.heap.conf,w.heap.words,w.heap.pages.set (spP w t) (spQ w t 6),w.heap.space,w.heap.bump⟩,w.strong,w.weak⟩ := by simp [WorldM.spoil,spH,hd]
 have e8 : w.spoilT t = (spT3 w t).step 3 := by simp [WorldM.spoilT,spN,hd]
 have s1 := Z0v (t := t) (w.heap.words.length : Int)
 have s2 : (t.step (w.heap.words.length : Int)).at' ≤ (spT2 w t).at' ∧ (spT2 w t).at' ≤ (t.step (w.heap.words.length : Int)).at' + 1 ∧ (spT2 w t).l = (t.step (w.heap.words.length : Int)).l := Z0v _
 have s3 : (spT2 w t).at' ≤ (spT3 w t).at' ∧ (spT3 w t).at' ≤ (spT2 w t).at' + 1 ∧ (spT3 w t).l = (spT2 w t).l := Z0v _
 have k1 := Z0Q ht s1.2.2 (by omega) (by omega)
 have k2 : TOk (spT2 w t) := Z0Q k1 s2.2.2 (by omega) (by omega)
 have k3 : TOk (spT3 w t) := Z0Q k2 s3.2.2 (by omega) (by omega)
 have a1 := area hm.hv
 have a2 := validB_iff.1 hm.hv
 have a3 := hm.L
 have a4 := hm.pl
 have hw := hm.words
 have n1 := Z09 t (n := (w.heap.words.length : Int)) (by omega)
 have n2 := Z09 (t.step (w.heap.words.length : Int)) (n := (w.heap.pages.length : Int)) (by omega)
 have n3 := Z09 (spT3 w t) (n := 3) (by omega)
 rw [e7,e8]
 unfold spT3 spT2 at *
 exact lF Tryz.func40 [] (Fs 11 (List.map wdv []) (Fa (by (simp [spV,spQ,spPg,spI,spP,spT3,spT2,spList, *]; omega) : (List.map wdv []).length + (List.map wdv w.heap.words).length≤2 ^ 30) (Fs 14 (List.map wdv w.heap.words) (Fs 15 (List.map Page.dv []) (Fa (by (simp [spV,spQ,spPg,spI,spP,spT3,spT2,spList, *]; omega) : (List.map Page.dv []).length + (List.map Page.dv w.heap.pages).length≤2 ^ 30) (Fs 18 (List.map Page.dv w.heap.pages) (Fl 24 wdv w.heap.words (Fp 25 (@Z0a t ((↑w.heap.words.length : Int)) ‹_› (by omega) (by omega)) (Fl 29 Page.dv w.heap.pages (Fp 30 (@Z0a (t.step (↑w.heap.words.length : Int)) ((↑w.heap.pages.length : Int)) ‹_› (by omega) (by omega)) (Fp 32 (@Z0K ((t.step (↑w.heap.words.length : Int)).step (↑w.heap.pages.length : Int)) (6) ‹_› ‹_›) (Fp 99 (@Z0a (((t.step (↑w.heap.words.length : Int)).step (↑w.heap.pages.length : Int)).step 12) (3) ‹_› (by omega) (by omega)) (Fi 100 ((((t.step (↑w.heap.words.length : Int)).step (↑w.heap.pages.length : Int)).step 12).next (3 :Int) - 1) (Fa (by (simp only [List.length_map]; omega) : 0≤(t.step (↑w.heap.words.length : Int)).next (↑w.heap.pages.length : Int)∧((t.step (↑w.heap.words.length : Int)).next (↑w.heap.pages.length : Int)).toNat < (List.map Page.dv w.heap.pages).length) (Fa (by exact Z1b (by omega) : (List.map Page.dv w.heap.pages)[((t.step (↑w.heap.words.length : Int)).next (↑w.heap.pages.length : Int)).toNat]? = some (w.heap.pages.getD ((t.step (↑w.heap.words.length : Int)).next (↑w.heap.pages.length : Int)).toNat default).dv) (FS 10102 Page.dv w.heap.pages (((t.step (↑w.heap.words.length : Int)).next (↑w.heap.pages.length : Int)).toNat) (Page.mk (w.heap.pages.getD ((t.step (↑w.heap.words.length : Int)).next (↑w.heap.pages.length : Int)).toNat default).kind (w.heap.pages.getD ((t.step (↑w.heap.words.length : Int)).next (↑w.heap.pages.length : Int)).toNat default).space (w.heap.pages.getD ((t.step (↑w.heap.words.length : Int)).next (↑w.heap.pages.length : Int)).toNat default).used ((((t.step (↑w.heap.words.length : Int)).step (↑w.heap.pages.length : Int)).step 12).next (3 :Int) - 1)) ((w.heap.pages.getD ((t.step (↑w.heap.words.length : Int)).next (↑w.heap.pages.length : Int)).toNat default).dv) Fz))))))))))))))))
end
def pinL (w : WorldM) (tp : Tape) (i : Nat) : Tg := ⟨tm 156 [(2,.pt 8002 0 0),(4,.pt 8004 0 0),(5,.pt 16005 0 0),(8,int i)],[(0,tp.b),(16005,.box 28 [int w.heap.conf.pw,int w.heap.conf.pg,.ow 24014,.ow 24018,int w.heap.space,int w.heap.bump]),(24018,.arr 134 4 ((preM pinQ w.heap.pages i).map Page.dv)),(24014,.arr 56 1 (w.heap.words.map wdv)),(8004,.box 30 [int 0,int 0,.d (.sl 0 []),.d (.sl 0 []),int 0,int 0,.d (.sl 0 []),.d (.sl 0 [])]),(8002,.box 30 w.cells)],60⟩
theorem ZhK (w : WorldM) (tp : Tape) (i : Nat) (hl : w.heap.pages.length ≤ 64) (hi : i < w.heap.pages.length) : CSpec Tryz.prog (rndF Tryz.f40 1) (pinL w tp i).st .nrm (pinL w tp (i + 1)).st := by
 have ha := Z6N pinQ w.heap.pages (Nat.le_refl i) default
 have hn := Z38 pinQ w.heap.pages i
 by_cases hc : (w.heap.pages.getD i default).kind = 1
 ·have hq := Z5u pinQ w.heap.pages hi default
  rw [show pinQ (w.heap.pages.getD i default) = ⟨(w.heap.pages.getD i default).kind,(w.heap.pages.getD i default).space,(w.heap.pages.getD i default).used,1⟩ by rw [pinQ,if_pos hc],← ha] at hq
  rw [← ha] at hc
  rcases bb (((preM pinQ w.heap.pages i).getD (↑i : Int).toNat default).kind == 1) with hc0 | hc0<;>have hc0p:=hc0<;>simp only [bs] at hc0p
  ·exact sF [] [false,false,false,false,false,false,true] (Fl 137 Page.dv (preM pinQ w.heap.pages i) (Ftb 138 (decide ((↑i : Int) < (↑(preM pinQ w.heap.pages i).length : Int))) (Fm 146 Page.dv (preM pinQ w.heap.pages i) (↑i) ((↑i : Int).toNat) (Ft 147 hc0 (Fm0 Page.dv (preM pinQ w.heap.pages i) (↑i) ((↑i : Int).toNat) (FS 10152 Page.dv (preM pinQ w.heap.pages i) ((↑i : Int).toNat) (Page.mk ((preM pinQ w.heap.pages i).getD (↑i : Int).toNat default).kind ((preM pinQ w.heap.pages i).getD (↑i : Int).toNat default).space ((preM pinQ w.heap.pages i).getD (↑i : Int).toNat default).used 1) (((preM pinQ w.heap.pages i).getD (↑i : Int).toNat default).dv) (Fx 140 i (Fr (134 : Int) (Fa (by refine congrArg _ ?_; exact hq : List.map Page.dv ((preM pinQ w.heap.pages i).set (↑i : Int).toNat (Page.mk ((preM pinQ w.heap.pages i).getD (↑i : Int).toNat default).kind ((preM pinQ w.heap.pages i).getD (↑i : Int).toNat default).space ((preM pinQ w.heap.pages i).getD (↑i : Int).toNat default).used 1)) =List.map Page.dv (preM pinQ w.heap.pages (i + 1))) Fz)))))))))
  ·contradiction
 ·have hq := Z8d pinQ w.heap.pages hi default (by rw [pinQ,if_neg hc])
  rw [← ha] at hc
  rcases bb (((preM pinQ w.heap.pages i).getD (↑i : Int).toNat default).kind == 1) with hc0 | hc0<;>have hc0p:=hc0<;>simp only [bs] at hc0p
  ·contradiction
  ·exact sF [] [false,false,false,false,false,false,true] (Fl 137 Page.dv (preM pinQ w.heap.pages i) (Ftb 138 (decide ((↑i : Int) < (↑(preM pinQ w.heap.pages i).length : Int))) (Fm 146 Page.dv (preM pinQ w.heap.pages i) (↑i) ((↑i : Int).toNat) (Ff 147 hc0 (Fx 140 i (Fr (134 : Int) (Fa (by refine congrArg _ ?_; exact hq : List.map Page.dv (preM pinQ w.heap.pages i) =List.map Page.dv (preM pinQ w.heap.pages (i + 1))) Fz)))))))
theorem Zmh (w : WorldM) (tp : Tape) : CSpec Tryz.prog (rndF Tryz.f40 1) (pinL w tp w.heap.pages.length).st (.ext 1) (Tg.st ⟨tm 156 [(2,.pt 8002 0 0),(4,.pt 8004 0 0),(5,.pt 16005 0 0)],[(0,tp.b),(16005,.box 28 [int w.heap.conf.pw,int w.heap.conf.pg,.ow 24014,.ow 24018,int w.heap.space,int w.heap.bump]),(24018,.arr 134 4 ((w.heap.pages.map pinQ).map Page.dv)),(24014,.arr 56 1 (w.heap.words.map wdv)),(8004,.box 30 [int 0,int 0,.d (.sl 0 []),.d (.sl 0 []),int 0,int 0,.d (.sl 0 []),.d (.sl 0 [])]),(8002,.box 30 w.cells)],60⟩) := by
 have hq := Z74 pinQ w.heap.pages
 have hn := Z38 pinQ w.heap.pages w.heap.pages.length
 exact sF [] [false,false,false,false,false,true] (Fl 137 Page.dv (preM pinQ w.heap.pages w.heap.pages.length) (Ffb 138 (decide ((↑w.heap.pages.length : Int) < (↑(preM pinQ w.heap.pages w.heap.pages.length).length : Int))) (Fr (134 : Int) (Fa (by refine congrArg _ ?_; assumption : List.map Page.dv (preM pinQ w.heap.pages w.heap.pages.length) =List.map Page.dv (List.map pinQ w.heap.pages)) Fz))))
theorem ZkL (w : WorldM) (tp : Tape) (hl : w.heap.pages.length ≤ 64) : CSpec Tryz.prog (blkF Tryz.f40 1) (Tg.st ⟨tm 156 [(2,.pt 8002 0 0),(4,.pt 8004 0 0),(5,.pt 16005 0 0),(8,int 0)],[(0,tp.b),(16005,.box 28 [int w.heap.conf.pw,int w.heap.conf.pg,.ow 24014,.ow 24018,int w.heap.space,int w.heap.bump]),(24018,.arr 134 4 (w.heap.pages.map Page.dv)),(24014,.arr 56 1 (w.heap.words.map wdv)),(8004,.box 30 [int 0,int 0,.d (.sl 0 []),.d (.sl 0 []),int 0,int 0,.d (.sl 0 []),.d (.sl 0 [])]),(8002,.box 30 w.cells)],60⟩) .nrm (Tg.st ⟨tm 156 [(2,.pt 8002 0 0),(4,.pt 8004 0 0),(5,.pt 16005 0 0)],[(0,tp.b),(16005,.box 28 [int w.heap.conf.pw,int w.heap.conf.pg,.ow 24014,.ow 24018,int w.heap.space,int w.heap.bump]),(24018,.arr 134 4 ((w.heap.pages.map pinQ).map Page.dv)),(24014,.arr 56 1 (w.heap.words.map wdv)),(8004,.box 30 [int 0,int 0,.d (.sl 0 []),.d (.sl 0 []),int 0,int 0,.d (.sl 0 []),.d (.sl 0 [])]),(8002,.box 30 w.cells)],60⟩) := by
 have := Z08 (S := fun k => (pinL w tp k).st) w.heap.pages.length (by kernel_rfl) (fun k hk => ZhK w tp k hl hk) (Zmh w tp)
 simp only [pinL,ZaE] at this
 exact this
section
variable (w : WorldM) (t : Tape) (hm : MOk w 1000) (ht : TOk t) (ha : t.at' ≤ 900000) (hus : ∀ j,j < w.heap.pages.length → -1099511627776 ≤ (w.heap.pages.getD j default).used ∧ (w.heap.pages.getD j default).used ≤ 1099511627776)
include hm ht ha hus
theorem Zmm (hd : (spT2 w t).next 12 = 7) : LentSpec Tryz.prog 40 [w.av,.pt 0 0 0] [t.b] (w.spoil t).av [(w.spoilT t).b] := by
 have e7 : w.spoil t = ⟨⟨w.heap.conf,w.heap.words,w.heap.pages,(spT3 w t).next 3,w.heap.bump⟩,w.strong,w.weak⟩ := by simp [WorldM.spoil,spH,hd]
 have e8 : w.spoilT t = (spT3 w t).step 3 := by simp [WorldM.spoilT,spN,hd]
 have s1 := Z0v (t := t) (w.heap.words.length : Int)
 have s2 : (t.step (w.heap.words.length : Int)).at' ≤ (spT2 w t).at' ∧ (spT2 w t).at' ≤ (t.step (w.heap.words.length : Int)).at' + 1 ∧ (spT2 w t).l = (t.step (w.heap.words.length : Int)).l := Z0v _
 have s3 : (spT2 w t).at' ≤ (spT3 w t).at' ∧ (spT3 w t).at' ≤ (spT2 w t).at' + 1 ∧ (spT3 w t).l = (spT2 w t).l := Z0v _
 have k1 := Z0Q ht s1.2.2 (by omega) (by omega)
 have k2 : TOk (spT2 w t) := Z0Q k1 s2.2.2 (by omega) (by omega)
 have k3 : TOk (spT3 w t) := Z0Q k2 s3.2.2 (by omega) (by omega)
 have a1 := area hm.hv
 have a2 := validB_iff.1 hm.hv
 have a3 := hm.L
 have a4 := hm.pl
 have hw := hm.words
 have n1 := Z09 t (n := (w.heap.words.length : Int)) (by omega)
 have n2 := Z09 (t.step (w.heap.words.length : Int)) (n := (w.heap.pages.length : Int)) (by omega)
 have n3 := Z09 (spT3 w t) (n := 3) (by omega)
 rw [e7,e8]
 unfold spT3 spT2 at *
 exact lF Tryz.func40 [] (Fs 11 (List.map wdv []) (Fa (by (simp [spV,spQ,spPg,spI,spP,spT3,spT2,spList, *]; omega) : (List.map wdv []).length + (List.map wdv w.heap.words).length≤2 ^ 30) (Fs 14 (List.map wdv w.heap.words) (Fs 15 (List.map Page.dv []) (Fa (by (simp [spV,spQ,spPg,spI,spP,spT3,spT2,spList, *]; omega) : (List.map Page.dv []).length + (List.map Page.dv w.heap.pages).length≤2 ^ 30) (Fs 18 (List.map Page.dv w.heap.pages) (Fl 24 wdv w.heap.words (Fp 25 (@Z0a t ((↑w.heap.words.length : Int)) ‹_› (by omega) (by omega)) (Fl 29 Page.dv w.heap.pages (Fp 30 (@Z0a (t.step (↑w.heap.words.length : Int)) ((↑w.heap.pages.length : Int)) ‹_› (by omega) (by omega)) (Fp 32 (@Z0K ((t.step (↑w.heap.words.length : Int)).step (↑w.heap.pages.length : Int)) (7) ‹_› ‹_›) (Fp 106 (@Z0a (((t.step (↑w.heap.words.length : Int)).step (↑w.heap.pages.length : Int)).step 12) (3) ‹_› (by omega) (by omega)) Fz))))))))))))
theorem ZlJ (hd : (spT2 w t).next 12 = 8) : LentSpec Tryz.prog 40 [w.av,.pt 0 0 0] [t.b] (w.spoil t).av [(w.spoilT t).b] := by
 have e7 : w.spoil t = ⟨⟨w.heap.conf,w.heap.words,w.heap.pages,w.heap.space,(spT3 w t).next ((w.heap.pages.length + 2 : Nat) : Int) - 1⟩,w.strong,w.weak⟩ := by simp [WorldM.spoil,spH,hd]
 have e8 : w.spoilT t = (spT3 w t).step ((w.heap.pages.length + 2 : Nat) : Int) := by simp [WorldM.spoilT,spN,hd]
 have s1 := Z0v (t := t) (w.heap.words.length : Int)
 have s2 : (t.step (w.heap.words.length : Int)).at' ≤ (spT2 w t).at' ∧ (spT2 w t).at' ≤ (t.step (w.heap.words.length : Int)).at' + 1 ∧ (spT2 w t).l = (t.step (w.heap.words.length : Int)).l := Z0v _
 have s3 : (spT2 w t).at' ≤ (spT3 w t).at' ∧ (spT3 w t).at' ≤ (spT2 w t).at' + 1 ∧ (spT3 w t).l = (spT2 w t).l := Z0v _
 have k1 := Z0Q ht s1.2.2 (by omega) (by omega)
 have k2 : TOk (spT2 w t) := Z0Q k1 s2.2.2 (by omega) (by omega)
 have k3 : TOk (spT3 w t) := Z0Q k2 s3.2.2 (by omega) (by omega)
 have a1 := area hm.hv
 have a2 := validB_iff.1 hm.hv
 have a3 := hm.L
 have a4 := hm.pl
 have hw := hm.words
 have n1 := Z09 t (n := (w.heap.words.length : Int)) (by omega)
 have n2 := Z09 (t.step (w.heap.words.length : Int)) (n := (w.heap.pages.length : Int)) (by omega)
 have n3 := Z09 (spT3 w t) (n := ((w.heap.pages.length + 2 : Nat) : Int)) (by omega)
 rw [e7,e8]
 unfold spT3 spT2 at *
 exact lF Tryz.func40 [] (Fs 11 (List.map wdv []) (Fa (by (simp [spV,spQ,spPg,spI,spP,spT3,spT2,spList, *]; omega) : (List.map wdv []).length + (List.map wdv w.heap.words).length≤2 ^ 30) (Fs 14 (List.map wdv w.heap.words) (Fs 15 (List.map Page.dv []) (Fa (by (simp [spV,spQ,spPg,spI,spP,spT3,spT2,spList, *]; omega) : (List.map Page.dv []).length + (List.map Page.dv w.heap.pages).length≤2 ^ 30) (Fs 18 (List.map Page.dv w.heap.pages) (Fl 24 wdv w.heap.words (Fp 25 (@Z0a t ((↑w.heap.words.length : Int)) ‹_› (by omega) (by omega)) (Fl 29 Page.dv w.heap.pages (Fp 30 (@Z0a (t.step (↑w.heap.words.length : Int)) ((↑w.heap.pages.length : Int)) ‹_› (by omega) (by omega)) (Fp 32 (@Z0K ((t.step (↑w.heap.words.length : Int)).step (↑w.heap.pages.length : Int)) (8) ‹_› ‹_›) (Fl 113 Page.dv w.heap.pages (Fw 114 ((↑w.heap.pages.length : Int) + 2) (↑(w.heap.pages.length + 2) : Int) (Fp 115 (@Z0a (((t.step (↑w.heap.words.length : Int)).step (↑w.heap.pages.length : Int)).step 12) ((↑(w.heap.pages.length + 2) : Int)) ‹_› (by omega) (by omega)) (Fi 116 ((((t.step (↑w.heap.words.length : Int)).step (↑w.heap.pages.length : Int)).step 12).next (↑(w.heap.pages.length + 2) : Int) - 1) Fz)))))))))))))))
theorem ZlG (hd : (spT2 w t).next 12 = 9) : LentSpec Tryz.prog 40 [w.av,.pt 0 0 0] [t.b] (w.spoil t).av [(w.spoilT t).b] := by
 have e7 : w.spoil t = ⟨⟨⟨w.heap.conf.pw + 4,w.heap.conf.pg⟩,w.heap.words,w.heap.pages,w.heap.space,w.heap.bump⟩,w.strong,w.weak⟩ := by simp [WorldM.spoil,spH,hd]
 have e8 : w.spoilT t = spT3 w t := by simp [WorldM.spoilT,spN,hd]
 have s1 := Z0v (t := t) (w.heap.words.length : Int)
 have s2 : (t.step (w.heap.words.length : Int)).at' ≤ (spT2 w t).at' ∧ (spT2 w t).at' ≤ (t.step (w.heap.words.length : Int)).at' + 1 ∧ (spT2 w t).l = (t.step (w.heap.words.length : Int)).l := Z0v _
 have s3 : (spT2 w t).at' ≤ (spT3 w t).at' ∧ (spT3 w t).at' ≤ (spT2 w t).at' + 1 ∧ (spT3 w t).l = (spT2 w t).l := Z0v _
 have k1 := Z0Q ht s1.2.2 (by omega) (by omega)
 have k2 : TOk (spT2 w t) := Z0Q k1 s2.2.2 (by omega) (by omega)
 have k3 : TOk (spT3 w t) := Z0Q k2 s3.2.2 (by omega) (by omega)
 have a1 := area hm.hv
 have a2 := validB_iff.1 hm.hv
 have a3 := hm.L
 have a4 := hm.pl
 have hw := hm.words
 have n1 := Z09 t (n := (w.heap.words.length : Int)) (by omega)
 have n2 := Z09 (t.step (w.heap.words.length : Int)) (n := (w.heap.pages.length : Int)) (by omega)
 rw [e7,e8]
 unfold spT3 spT2 at *
 exact lF Tryz.func40 [] (Fs 11 (List.map wdv []) (Fa (by (simp [spV,spQ,spPg,spI,spP,spT3,spT2,spList, *]; omega) : (List.map wdv []).length + (List.map wdv w.heap.words).length≤2 ^ 30) (Fs 14 (List.map wdv w.heap.words) (Fs 15 (List.map Page.dv []) (Fa (by (simp [spV,spQ,spPg,spI,spP,spT3,spT2,spList, *]; omega) : (List.map Page.dv []).length + (List.map Page.dv w.heap.pages).length≤2 ^ 30) (Fs 18 (List.map Page.dv w.heap.pages) (Fl 24 wdv w.heap.words (Fp 25 (@Z0a t ((↑w.heap.words.length : Int)) ‹_› (by omega) (by omega)) (Fl 29 Page.dv w.heap.pages (Fp 30 (@Z0a (t.step (↑w.heap.words.length : Int)) ((↑w.heap.pages.length : Int)) ‹_› (by omega) (by omega)) (Fp 32 (@Z0K ((t.step (↑w.heap.words.length : Int)).step (↑w.heap.pages.length : Int)) (9) ‹_› ‹_›) (Fi 123 (w.heap.conf.pw + 4) Fz))))))))))))
theorem Zl4 (hd : (spT2 w t).next 12 = 10) : LentSpec Tryz.prog 40 [w.av,.pt 0 0 0] [t.b] (w.spoil t).av [(w.spoilT t).b] := by
 have e7 : w.spoil t = ⟨⟨w.heap.conf,w.heap.words,w.heap.pages.drop 1,w.heap.space,w.heap.bump⟩,w.strong,w.weak⟩ := by simp [WorldM.spoil,spH,hd]
 have e8 : w.spoilT t = spT3 w t := by simp [WorldM.spoilT,spN,hd]
 have s1 := Z0v (t := t) (w.heap.words.length : Int)
 have s2 : (t.step (w.heap.words.length : Int)).at' ≤ (spT2 w t).at' ∧ (spT2 w t).at' ≤ (t.step (w.heap.words.length : Int)).at' + 1 ∧ (spT2 w t).l = (t.step (w.heap.words.length : Int)).l := Z0v _
 have s3 : (spT2 w t).at' ≤ (spT3 w t).at' ∧ (spT3 w t).at' ≤ (spT2 w t).at' + 1 ∧ (spT3 w t).l = (spT2 w t).l := Z0v _
 have k1 := Z0Q ht s1.2.2 (by omega) (by omega)
 have k2 : TOk (spT2 w t) := Z0Q k1 s2.2.2 (by omega) (by omega)
 have k3 : TOk (spT3 w t) := Z0Q k2 s3.2.2 (by omega) (by omega)
 have a1 := area hm.hv
 have a2 := validB_iff.1 hm.hv
 have a3 := hm.L
 have a4 := hm.pl
 have hw := hm.words
 have n1 := Z09 t (n := (w.heap.words.length : Int)) (by omega)
 have n2 := Z09 (t.step (w.heap.words.length : Int)) (n := (w.heap.pages.length : Int)) (by omega)
 have hq : List.take ((↑(List.map Page.dv w.heap.pages).length : Int).toNat - Int.toNat 1) (List.drop (Int.toNat 1) (List.map Page.dv w.heap.pages)) = List.map Page.dv (w.heap.pages.drop 1) := by
  show List.take _ (List.drop 1 (List.map Page.dv w.heap.pages)) = _
  rw [← List.map_drop]
  exact List.take_of_length_le (by simp)
 rw [e7,e8]
 unfold spT3 spT2 at *
 exact lF Tryz.func40 [true] (Fs 11 (List.map wdv []) (Fa (by (simp [spV,spQ,spPg,spI,spP,spT3,spT2,spList, *]; omega) : (List.map wdv []).length + (List.map wdv w.heap.words).length≤2 ^ 30) (Fs 14 (List.map wdv w.heap.words) (Fs 15 (List.map Page.dv []) (Fa (by (simp [spV,spQ,spPg,spI,spP,spT3,spT2,spList, *]; omega) : (List.map Page.dv []).length + (List.map Page.dv w.heap.pages).length≤2 ^ 30) (Fs 18 (List.map Page.dv w.heap.pages) (Fl 24 wdv w.heap.words (Fp 25 (@Z0a t ((↑w.heap.words.length : Int)) ‹_› (by omega) (by omega)) (Fl 29 Page.dv w.heap.pages (Fp 30 (@Z0a (t.step (↑w.heap.words.length : Int)) ((↑w.heap.pages.length : Int)) ‹_› (by omega) (by omega)) (Fp 32 (@Z0K ((t.step (↑w.heap.words.length : Int)).step (↑w.heap.pages.length : Int)) (10) ‹_› ‹_›) (Fa (by (simp only [List.length_map]; omega) : (0 :Int)≤(1 :Int)∧1≤(↑(List.map Page.dv w.heap.pages).length : Int)) (Fr w.heap.conf.pw (Fr w.heap.conf.pg (Fr (List.map wdv w.heap.words) (Fa (by exact hq : List.take ((↑(List.map Page.dv w.heap.pages).length : Int).toNat - Int.toNat 1) (List.drop (Int.toNat 1) (List.map Page.dv w.heap.pages)) =List.map Page.dv (WorldM.mk (Heap.mk w.heap.conf w.heap.words (List.drop 1 w.heap.pages) w.heap.space w.heap.bump) w.strong w.weak).heap.pages) (Fr w.heap.space (Fr w.heap.bump (Fr (List.map wdv w.strong) (Fr (List.map wdv w.weak) Fz))))))))))))))))))))
theorem ZkV (hd : (spT2 w t).next 12 = 11) : LentSpec Tryz.prog 40 [w.av,.pt 0 0 0] [t.b] (w.spoil t).av [(w.spoilT t).b] := by
 have e7 : w.spoil t = ⟨⟨w.heap.conf,w.heap.words,w.heap.pages.map pinQ,w.heap.space,w.heap.bump⟩,w.strong,w.weak⟩ := by simp [WorldM.spoil,spH,hd]
 have e8 : w.spoilT t = spT3 w t := by simp [WorldM.spoilT,spN,hd]
 have s1 := Z0v (t := t) (w.heap.words.length : Int)
 have s2 : (t.step (w.heap.words.length : Int)).at' ≤ (spT2 w t).at' ∧ (spT2 w t).at' ≤ (t.step (w.heap.words.length : Int)).at' + 1 ∧ (spT2 w t).l = (t.step (w.heap.words.length : Int)).l := Z0v _
 have s3 : (spT2 w t).at' ≤ (spT3 w t).at' ∧ (spT3 w t).at' ≤ (spT2 w t).at' + 1 ∧ (spT3 w t).l = (spT2 w t).l := Z0v _
 have k1 := Z0Q ht s1.2.2 (by omega) (by omega)
 have k2 : TOk (spT2 w t) := Z0Q k1 s2.2.2 (by omega) (by omega)
 have k3 : TOk (spT3 w t) := Z0Q k2 s3.2.2 (by omega) (by omega)
 have a1 := area hm.hv
 have a2 := validB_iff.1 hm.hv
 have a3 := hm.L
 have a4 := hm.pl
 have hw := hm.words
 have n1 := Z09 t (n := (w.heap.words.length : Int)) (by omega)
 have n2 := Z09 (t.step (w.heap.words.length : Int)) (n := (w.heap.pages.length : Int)) (by omega)
 rw [e7,e8]
 unfold spT3 spT2 at *
 exact lF Tryz.func40 [] (Fs 11 (List.map wdv []) (Fa (by (simp [spV,spQ,spPg,spI,spP,spT3,spT2,spList, *]; omega) : (List.map wdv []).length + (List.map wdv w.heap.words).length≤2 ^ 30) (Fs 14 (List.map wdv w.heap.words) (Fs 15 (List.map Page.dv []) (Fa (by (simp [spV,spQ,spPg,spI,spP,spT3,spT2,spList, *]; omega) : (List.map Page.dv []).length + (List.map Page.dv w.heap.pages).length≤2 ^ 30) (Fs 18 (List.map Page.dv w.heap.pages) (Fl 24 wdv w.heap.words (Fp 25 (@Z0a t ((↑w.heap.words.length : Int)) ‹_› (by omega) (by omega)) (Fl 29 Page.dv w.heap.pages (Fp 30 (@Z0a (t.step (↑w.heap.words.length : Int)) ((↑w.heap.pages.length : Int)) ‹_› (by omega) (by omega)) (Fp 32 (@Z0K ((t.step (↑w.heap.words.length : Int)).step (↑w.heap.pages.length : Int)) (11) ‹_› ‹_›) (Fu (@ZkL w (((t.step (↑w.heap.words.length : Int)).step (↑w.heap.pages.length : Int)).step 12) (by omega)) Fz))))))))))))
theorem Zb9 : LentSpec Tryz.prog 40 [w.av,.pt 0 0 0] [t.b] (w.spoil t).av [(w.spoilT t).b] := by
 have n := Z09 (spT2 w t) (n := 12) (by decide)
 have hd : (spT2 w t).next 12 = 0 ∨ (spT2 w t).next 12 = 1 ∨ (spT2 w t).next 12 = 2 ∨ (spT2 w t).next 12 = 3 ∨ (spT2 w t).next 12 = 4 ∨ (spT2 w t).next 12 = 5 ∨ (spT2 w t).next 12 = 6 ∨ (spT2 w t).next 12 = 7 ∨ (spT2 w t).next 12 = 8 ∨ (spT2 w t).next 12 = 9 ∨ (spT2 w t).next 12 = 10 ∨ (spT2 w t).next 12 = 11 := by omega
 rcases hd with hd | hd | hd | hd | hd | hd | hd | hd | hd | hd | hd | hd
 ·exact ZlY w t hm ht ha hus hd
 ·exact Zlt w t hm ht ha hus hd
 ·exact ZlS w t hm ht ha hus hd
 ·exact ZlK w t hm ht ha hus hd
 ·exact ZlV w t hm ht ha hus hd
 ·exact Zmn w t hm ht ha hus hd
 ·exact Zlp w t hm ht ha hus hd
 ·exact Zmm w t hm ht ha hus hd
 ·exact ZlJ w t hm ht ha hus hd
 ·exact ZlG w t hm ht ha hus hd
 ·exact Zl4 w t hm ht ha hus hd
 ·exact ZkV w t hm ht ha hus hd
end
def Zef (h : Heap) : Bool := decide (h.words.length ≤ 5000 ∧ h.pages.length ≤ 100)
def Z2v (raw : Heap) (tape odd : List Int) : List Heap := [(Z1B tape).heap,((Z1B tape).spoil ⟨odd,0⟩).heap] ++ (if Zef raw = true then [raw] else [])
structure HOk (h : Heap) : Prop where
 w : WOk h.words
 wl : h.words.length ≤ 1048576
 pl : h.pages.length ≤ 1048576
theorem Zcd (n : Int) : 0 ≤ IntKind.u64.wrap n ∧ IntKind.u64.wrap n ≤ 18446744073709551615 := by
 unfold IntKind.wrap
 simp only [IntKind.signed,IntKind.bits,Bool.false_and,Bool.false_eq_true,if_false]
 omega
theorem ZfE {w : WorldM} (hw : WOk w.heap.words) (t : Tape) (d : Int) : 0 ≤ spV w t d ∧ spV w t d ≤ 18446744073709551615 := by
 unfold spV
 split
 ·have h : ∀ x ∈ spList,0 ≤ x ∧ x ≤ 18446744073709551615 := by
   intro x hx
   simp only [spList,List.mem_cons,List.not_mem_nil,or_false] at hx
   omega
  exact Z3H h _
 ·exact Zcd _
theorem Zjr {w : WorldM} (hm : MOk w 1000) (t : Tape) : HOk (w.spoil t).heap := by
 have a1 := area hm.hv
 have a2 := validB_iff.1 hm.hv
 have a3 := hm.L
 have a4 := hm.pl
 unfold WorldM.spoil spH
 simp only
 split
 ·refine ⟨fun x hx => ?_,by simp only [List.length_set]; omega,by simp only; omega⟩
  rcases List.mem_or_eq_of_mem_set hx with hx | rfl
  ·exact hm.words x hx
  ·exact ZfE hm.words _ _
 ·split
  ·exact ⟨hm.words,by simp only; omega,by simp only [List.length_set]; omega⟩
  ·split
   ·exact ⟨hm.words,by simp only; omega,by simp only; omega⟩
   ·split
    ·exact ⟨hm.words,by simp only; omega,by simp only; omega⟩
    ·split
     ·exact ⟨hm.words,by simp only; omega,by simp only; omega⟩
     ·split
      ·exact ⟨hm.words,by simp only; omega,by simp only [List.length_drop]; omega⟩
      ·exact ⟨hm.words,by simp only; omega,by simp only [List.length_map]; omega⟩
theorem Zhq (raw : Heap) (tape odd : List Int) (hw : WOk raw.words) : (Z2v raw tape odd).length ≤ 3 ∧ ∀ h ∈ Z2v raw tape odd,HOk h := by
 have hm := ZdQ tape
 have a1 := area hm.hv
 have a2 := validB_iff.1 hm.hv
 have a3 := hm.L
 have a4 := hm.pl
 have h1 : HOk (Z1B tape).heap := ⟨hm.words,by omega,by omega⟩
 have h2 := Zjr hm ⟨odd,0⟩
 unfold Z2v
 split
 ·rename_i hc
  simp only [Zef,decide_eq_true_eq] at hc
  refine ⟨by simp,fun h hh => ?_⟩
  simp only [List.cons_append,List.nil_append,List.mem_cons,List.not_mem_nil,or_false] at hh
  rcases hh with rfl | rfl | rfl
  ·exact h1
  ·exact h2
  ·exact ⟨hw,by omega,by omega⟩
 ·refine ⟨by simp,fun h hh => ?_⟩
  simp only [List.append_nil,List.mem_cons,List.not_mem_nil,or_false] at hh
  rcases hh with rfl | rfl
  ·exact h1
  ·exact h2
def pgOf (w : Work) (x : Int) : Page := w.heap.pages.getD (ofA w.heap.conf x).1.toNat default
structure Rt (w : Work) : Prop where
 q : ∀ x ∈ w.queue,((pgOf w x).kind = 1 ∨ (pgOf w x).kind = 2) ∧ (pgOf w x).space = 1 - w.heap.space
 t : ∀ x ∈ w.old,(Z0n (loadA w.heap.words x).1).2 = true → (Z0n (loadA w.heap.words x).1).1 ∈ w.queue
theorem ZeM {a : Int} (h0 : 0 ≤ a) (h1 : a < 4294967296) : Z0n (4 * a + 2) = (a,true) := by
 have e : (4 * a + 2) / 4 = a := by omega
 rw [Z0n,if_pos (by omega),e]
theorem Rt.copy {B : Int} {w : Work} (hw : WkOk w) (h : Inv w) (hT : Tab B w) (hR : Rt w) {r n : Int} (hr : r ∈ w.old) (hq : r ∉ w.queue) (hn : n = hlA w.heap.words r + 1) (hp : n ≤ w.heap.conf.pw) (hc : (w.place n).2.2 = true) : Rt ((w.place n).1.copy r (w.place n).2.1 n) := by
 have hlr := Z1G w.heap.words r
 obtain ⟨i,p,t,h1,h2,h3,h4,h5,h6,h7,h8,e⟩ := Z6j hw ⟨by omega,hp⟩ hc
 have hsp : p.space = 1 - w.heap.space := by
  by_cases hf : Z5c w n
  ·have e7 : w.place n = (⟨⟨w.heap.conf,w.heap.words,Z2d w.heap.pages (Z12 w).toNat n,w.heap.space,w.heap.bump⟩,w.old,w.taken,w.queue,w.scanned,w.rep⟩,4096 + Z12 w * w.heap.conf.pw + (w.heap.pages.getD (Z12 w).toNat default).used,true) := by rw [Work.place,if_pos hf]
   unfold Z5c at hf
   have hm := hw.tk _ (Z1F hf.1)
   have ht := hT.tk _ (Z1F hf.1)
   have hi : (Z12 w).toNat < w.heap.pages.length := by omega
   rw [e7] at e
   simp only [Z4I,Work.mk.injEq,Heap.mk.injEq] at e
   have e2 := e.1.2.2.1
   have g1 : (w.heap.pages.set i p).getD i default = p := by rw [Z0A h1,if_pos rfl]
   rw [← e2,Z0A hi] at g1
   split at g1
   ·rw [← g1]; exact ht
   ·rename_i hne
    have g2 : (w.heap.pages.set i p).getD (Z12 w).toNat default = w.heap.pages.getD (Z12 w).toNat default := by rw [Z0A h1,if_neg (fun q => hne q.symm)]
    rw [← e2,Z0A hi,if_pos rfl] at g2
    have := congrArg Page.used g2
    simp only at this
    omega
  ·by_cases hg : 0 ≤ Z0x w
   ·have e7 : w.place n = (⟨⟨w.heap.conf,w.heap.words,Z2d (Z2M w) (Z0x w).toNat n,w.heap.space,w.heap.bump⟩,w.old,w.taken ++ [Z0x w],w.queue,w.scanned,w.rep⟩,4096 + Z0x w * w.heap.conf.pw,true) := by rw [Work.place,if_neg hf,if_pos hg]
    obtain ⟨g1,g2,g3⟩ := Z4J (h := ⟨w.heap.conf,w.heap.words,w.heap.pages,1 - w.heap.space,w.heap.bump⟩) (by have := hw.sp; simp only; omega) hg n
    have g1' : Z2d (Z2M w) (Z0x w).toNat n = w.heap.pages.set (Z0x w).toNat ⟨1,1 - w.heap.space,n,0⟩ := g1
    have g2' : (w.heap.pages.getD (Z0x w).toNat default).kind = 0 := g2
    have g3' : (Z0x w).toNat < w.heap.pages.length := g3
    rw [e7,g1'] at e
    simp only [Work.mk.injEq,Heap.mk.injEq] at e
    have e2 := e.1.2.2.1
    have k1 : (w.heap.pages.set i p).getD i default = p := by rw [Z0A h1,if_pos rfl]
    rw [← e2,Z0A g3'] at k1
    split at k1
    ·rw [← k1]
    ·rename_i hne
     have k2 : (w.heap.pages.set i p).getD (Z0x w).toNat default = w.heap.pages.getD (Z0x w).toNat default := by rw [Z0A h1,if_neg (fun q => hne q.symm)]
     rw [← e2,Z0A g3',if_pos rfl] at k2
     rw [← k2] at g2'
     simp at g2'
   ·rw [Work.place,if_neg hf,if_neg hg] at hc
    simp at hc
 have hb := validB_iff.1 hw.conf
 have hpl := hw.pl
 have hL := h.L
 have hio : (i : Int) * w.heap.conf.pw + w.heap.conf.pw ≤ w.heap.conf.pw * w.heap.conf.pg := by
  have := Z2i (i := i) (j := w.heap.conf.pg) (pw := w.heap.conf.pw) (by omega) (by omega)
  rw [Int.mul_comm w.heap.conf.pw]; exact this
 have hi0 : 0 ≤ (i : Int) * w.heap.conf.pw := Int.mul_nonneg (by omega) (by omega)
 have har := area hw.conf
 rw [e,h8]
 generalize hu : occP (w.heap.pages.getD i default) = u at *
 have hof : (ofA w.heap.conf (4096 + (i : Int) * w.heap.conf.pw + u)).1.toNat = i := by
  have := Z8O (c := w.heap.conf) (i := i) (o := u) hw.conf (by omega) (by omega)
  rw [show 4096 + (i : Int) * w.heap.conf.pw + u = 4096 + ((i : Int) * w.heap.conf.pw + u) by omega,this]
  simp
 generalize ha : 4096 + (i : Int) * w.heap.conf.pw + u = at' at *
 have hrr := h.r r (List.mem_append_left _ hr)
 have hf := h.f i h1 (by rcases h2 with h2 | h2; exact Or.inl h2; exact Or.inr h2.1)
 rw [hu] at hf
 obtain ⟨m1,m2,m3⟩ := ZcM (ws := w.heap.words) (a := at') (b := r) (n := n) (by omega) (by omega) (by omega)
 have hsr : 4096 ≤ r ∧ r < 4096 + (moveA w.heap.words at' r n).1.length := by omega
 refine ⟨?_, ?_⟩
 ·intro x hx
  simp only [Work.copy,List.mem_append,List.mem_singleton] at hx
  simp only [pgOf,Work.copy]
  rw [Z0A h1]
  split
  ·exact ⟨Or.inl h3,hsp⟩
  ·rename_i hne
   rcases hx with hx | rfl
   ·exact hR.q x hx
   ·exact absurd hof.symm hne
 ·intro x hx ht
  simp only [Work.copy] at hx ht ⊢
  by_cases hxr : x = r
  ·subst hxr
   rw [Z5x hsr] at ht ⊢
   simp only
   rw [ZeM (by omega) (by omega)]
   simp
  ·have hfx := hf x (List.mem_append_left _ hx)
   have hlx := Z1G w.heap.words x
   have el : loadA (Z1a (moveA w.heap.words at' r n).1 r (4 * at' + 2)).1 x = loadA w.heap.words x := by rw [Z23 hsr hxr,m3 x (by omega)]
   rw [el] at ht ⊢
   exact List.mem_append_left _ (hR.t x hx ht)
structure PR (B : Int) (w : Work) : Prop where
 tab : Tab B w
 rt : Rt w
def ToOk (w : Work) (x : Int) : Prop := x = 0 ∨ x ∈ w.queue
theorem ZlQ {B : Int} (w : Work) (r : Int) (hp : PR B w) (e : (w.fwd r).2.2 = 0) : ToOk (w.fwd r).1 (w.fwd r).2.1 := by
 unfold Work.fwd at e ⊢
 split at e
 ·rename_i c1
  rw [if_pos c1]
  exact c1
 ·rename_i c1
  rw [if_neg c1]
  split at e
  ·simp at e
  ·rename_i c2
   rw [if_neg c2]
   have c2' : r ∈ w.old := Decidable.not_not.1 c2
   split at e
   ·rename_i c3
    rw [if_pos c3]
    exact Or.inr (hp.rt.t r c2' c3)
   ·rename_i c3
    rw [if_neg c3]
    split at e
    ·simp at e
    ·rename_i c4
     rw [if_neg c4]
     split at e
     ·rename_i c5
      rw [if_pos c5]
      exact Or.inr (List.mem_append_right _ (by simp))
     ·rename_i c5
      rw [if_neg c5]
      split at e
      ·rename_i c6
       rw [if_pos c6]
       exact Or.inr (List.mem_append_right _ (by simp))
      ·rename_i c6
       rw [if_neg c6]
       split at e
       ·simp at e
       ·rename_i c7
        rw [if_neg c7]
        exact Or.inr (List.mem_append_right _ (by simp))
theorem PR.fwd {B : Int} (hB : 0 ≤ B) (w : Work) (r : Int) (hw : WkOk w) (hi : Inv w) (h : PR B w) (e : (w.fwd r).2.2 = 0) : PR B (w.fwd r).1 := by
 refine ⟨h.tab.fwd hB w r hw hi e, ?_⟩
 have hR := h.rt
 have hsp := hw.sp
 unfold Work.fwd at e ⊢
 split at e
 ·rename_i c1
  rw [if_pos c1]
  exact hR
 ·rename_i c1
  rw [if_neg c1]
  have c1' : r ∉ w.queue := fun h => c1 (Or.inr h)
  split at e
  ·simp at e
  ·rename_i c2
   rw [if_neg c2]
   have c2' : r ∈ w.old := Decidable.not_not.1 c2
   split at e
   ·rename_i c3
    rw [if_pos c3]
    exact hR
   ·rename_i c3
    rw [if_neg c3]
    split at e
    ·simp at e
    ·rename_i c4
     rw [if_neg c4]
     have o := Z3r hw.conf (Decidable.not_not.1 c4)
     have hpl := hw.pl
     split at e
     ·rename_i c5
      rw [if_pos c5]
      simp only [Z1A,decide_eq_true_eq] at c5
      have ok := h.tab.pt.b (ofA w.heap.conf r).1.toNat (by omega)
      have oks := ok.s
      refine ⟨?_,fun x hx ht => List.mem_append_left _ (hR.t x hx ht)⟩
      intro x hx
      simp only [Work.keep,List.mem_append,List.mem_singleton] at hx
      rcases hx with hx | rfl
      ·exact hR.q x hx
      ·refine ⟨Or.inl c5.2.2.1, ?_⟩
       simp only [pgOf,Work.keep]
       omega
     ·rename_i c5
      rw [if_neg c5]
      split at e
      ·rename_i c6
       rw [if_pos c6]
       refine ⟨?_,fun x hx ht => List.mem_append_left _ (hR.t x hx ht)⟩
       have hlr : (ofA w.heap.conf r).1.toNat < w.heap.pages.length := by omega
       intro x hx
       simp only [Work.keep,List.mem_append,List.mem_singleton] at hx
       have hxl : (ofA w.heap.conf x).1.toNat < w.heap.pages.length := by
        rcases hx with hx | rfl
        ·by_cases q : (ofA w.heap.conf x).1.toNat < w.heap.pages.length
         ·exact q
         ·have := (hR.q x hx).1
          rw [pgOf,List.getD_eq_getElem?_getD,List.getElem?_eq_none (by omega)] at this
          simp only [Option.getD_none] at this
          have d : (default : Page).kind = 0 := rfl
          omega
        ·exact hlr
       simp only [pgOf,Work.keep,Work.flip]
       rw [Z2g hxl]
       split
       ·refine ⟨?_,rfl⟩
        rcases hx with hx | rfl
        ·exact (hR.q x hx).1
        ·exact Or.inr c6
       ·rename_i hne
        rcases hx with hx | rfl
        ·exact hR.q x hx
        ·exact absurd ⟨Nat.le_refl _,Nat.le_add_right _ _⟩ hne
      ·rename_i c6
       rw [if_neg c6]
       split at e
       ·simp at e
       ·rename_i c7
        rw [if_neg c7]
        have c7' : (w.place (sizeH (hdW w r))).2.2 = true := by simpa using c7
        have hz := hi.z r c2'
        have hp : sizeH (hdW w r) ≤ w.heap.conf.pw := by
         rw [Z6m]
         rcases hz with hz | hz
         ·exact absurd hz c6
         ·exact hz
        exact hR.copy hw hi h.tab c2' c1' (Z6m w r) hp c7'
theorem PR.in1 {B : Int} (hB : 0 ≤ B) (w : Work) (q j : Int) (hw : WkOk w) (hi : Inv w) (h : PR B w) (hq : q ∈ w.queue) (h0 : 0 ≤ j) (h1 : j < hlA w.heap.words q) (e : (w.fwd (loadA w.heap.words (q + 1 + j)).1).2.2 = 0) : PR B (w.in1 (q + 1 + j)) := by
 have hf := PR.fwd hB w _ hw hi h e
 obtain ⟨i1,x1⟩ := Z9q hw hi _ e
 have hq1 := x1.q q hq
 have hl1 := x1.l q hq
 have hr := i1.r q (List.mem_append_right _ hq1)
 have hs := i1.s q (List.mem_append_right _ hq1)
 have hin : 4096 ≤ q + 1 + j ∧ q + 1 + j < 4096 + (w.fwd (loadA w.heap.words (q + 1 + j)).1).1.heap.words.length := by omega
 refine ⟨hf.tab.withWords _,hf.rt.q,fun x hx ht => ?_⟩
 have el : loadA (Z1a (w.fwd (loadA w.heap.words (q + 1 + j)).1).1.heap.words (q + 1 + j) (w.fwd (loadA w.heap.words (q + 1 + j)).1).2.1).1 x = loadA (w.fwd (loadA w.heap.words (q + 1 + j)).1).1.heap.words x := by
  refine Z23 hin fun hc => ?_
  have := hs x (List.mem_append_left _ hx) (by omega)
  omega
 simp only [Work.in1] at hx ht ⊢
 rw [el] at ht ⊢
 exact hf.rt.t x hx ht
theorem Zdm {h : Heap} (hp : Z01 h = true) : Rt (beginW h) := by
 refine ⟨by simp [beginW],fun x hx ht => ?_⟩
 exfalso
 simp only [beginW] at hx ht
 obtain ⟨j,j1,o⟩ := (Z7B hp).1 x hx
 have e := o.at'
 have k := ZdN e
 unfold atH at e
 rw [if_pos k.1,if_pos k.2.1] at e
 split at e
 ·rename_i g
  have hd := g.2.2
  unfold decodeH at hd
  split at hd
  ·rename_i c
   have c1 := c.1
   have c2 := c.2
   unfold Z04 at c1 c2
   split at c2
   ·unfold Z0n at ht
    split at ht
    ·simp only at c2; omega
    ·simp at ht
   ·rename_i hv; rw [if_neg hv] at c1; simp at c1
  ·simp at hd
 ·simp at e
theorem Zm4 {B : Int} (hB : 0 ≤ B) {h : Heap} {s : List Int} (hw : WOk h.words) (hp : Z01 h = true) (hb : ∀ p ∈ h.pages,p.pins ≤ B) (e : (rootsF (beginW h) s).2.2 = 0) (e2 : (allF (rootsF (beginW h) s).1).2 = 0) : PR B (cW2 h s) :=
 ZlA (PR B) (fun w r hw hi h e => PR.fwd hB w r hw hi h e) (fun w q j hw hi h hq h0 h1 e => PR.in1 hB w q j hw hi h hq h0 h1 e) (fun w n h => ⟨⟨h.tab.pt,h.tab.tk,h.tab.pin⟩,h.rt.q,h.rt.t⟩) hw hp ⟨Z7y hp hb,Zdm hp⟩ e e2
theorem Zb5 {B : Int} (hB : 0 ≤ B) {w : Work} {roots : List Int} (hw : WkOk w) (h : Inv w) (hp : PR B w) : ∀ k,(∀ j,j < k → Z2h w roots j = 0) → ∀ x ∈ (Z1l w roots k).2,ToOk (Z1l w roots k).1 x
 | 0,_,x,hx => by simp [Z1l] at hx
 | k + 1,hh,x,hx => by
  have ih := Zb5 hB (roots := roots) hw h hp k (fun j hj => hh j (by omega))
  have ok := (Z2O (roots := roots) hw k (fun j hj => hh j (by omega))).1
  have iv := (Z4B (roots := roots) hw h k (fun j hj => hh j (by omega))).1
  have pr := Zap (PR B) (fun w r hw hi h e => PR.fwd hB w r hw hi h e) (roots := roots) hw h hp k (fun j hj => hh j (by omega))
  have he := hh k (by omega)
  simp only [Z1l,List.mem_append,List.mem_singleton] at hx ⊢
  rcases hx with hx | rfl
  ·rcases ih x hx with q | q
   ·exact Or.inl q
   ·exact Or.inr ((Z9q ok iv _ he).2.q x q)
  ·exact ZlQ _ _ pr he
def RootOn (h : Heap) (r : Int) : Prop := (ofA h.conf r).2.2 = 0 → (h.pages.getD (ofA h.conf r).1.toNat default).kind = 1 ∨ (h.pages.getD (ofA h.conf r).1.toNat default).kind = 2
structure POk (w : WorldM) : Prop where
 p : Z01 w.heap = true
 s : ∀ r ∈ w.strong,RootOn w.heap r
 k : ∀ r ∈ w.weak,RootOn w.heap r
theorem Zlu (h : Heap) : RootOn h 0 := by
 intro e
 exfalso
 unfold ofA at e
 split at e
 ·split at e
  ·omega
  ·simp at e
 ·simp at e
theorem Zcf {h : Heap} {n : Int} (hp : Z01 h = true) (hn : 1 ≤ n ∧ n ≤ h.conf.pw) (e : (Z0c h n).2.2 = true) : (∀ j : Nat,(h.pages.getD j default).kind ≠ 0 → ((Z0c h n).1.pages.getD j default).kind = (h.pages.getD j default).kind) ∧ RootOn (Z0c h n).1 (Z0c h n).2.1 := by
 have hp' := hp
 rw [Z1u] at hp
 obtain ⟨p1,p2,p3,p4,p5,p6⟩ := hp
 have hb := validB_iff.1 p1
 by_cases hf : Z6J h n
 ·have e7 : Z0c h n = (⟨h.conf,h.words,Z2d h.pages h.bump.toNat n,h.space,h.bump⟩,4096 + h.bump * h.conf.pw + (h.pages.getD h.bump.toNat default).used,true) := by rw [Z0c,if_pos hf]
  unfold Z6J at hf
  have hbi : h.bump.toNat < h.pages.length := by omega
  have hk : (h.pages.getD h.bump.toNat default).kind = 1 := by omega
  have u := (p6.b h.bump.toNat hbi).k1 hk
  rw [e7]
  refine ⟨fun j hj => ?_,fun _ => ?_⟩
  ·simp only [Z4I]
   rw [Z0A hbi]
   split
   ·rename_i q; subst q; rfl
   ·rfl
  ·have := Z8O (c := h.conf) (i := h.bump) (o := (h.pages.getD h.bump.toNat default).used) p1 (by omega) (by omega)
   simp only [Z4I]
   rw [show 4096 + h.bump * h.conf.pw + (h.pages.getD h.bump.toNat default).used = 4096 + (h.bump * h.conf.pw + (h.pages.getD h.bump.toNat default).used) by omega,this]
   simp only
   rw [Z0A hbi,if_pos rfl]
   exact Or.inl hk
 ·by_cases hg : 0 ≤ first h.pages 1 ∧ (Z1e h.pages : Int) < Z1Z h.conf
  ·have e7 : Z0c h n = (⟨h.conf,h.words,Z2d (Z2R h) (first h.pages 1).toNat n,h.space,first h.pages 1⟩,4096 + first h.pages 1 * h.conf.pw + ((Z2R h).getD (first h.pages 1).toNat default).used,true) := by rw [Z0c,if_neg hf,if_pos hg]
   obtain ⟨g1,g2,g3⟩ := Z4J p4 hg.1 n
   have g4 := congrArg Page.used (Z2P p4 hg.1).2.2.2
   simp only at g4
   rw [e7,g1,g4]
   refine ⟨fun j hj => ?_,fun _ => ?_⟩
   ·simp only
    rw [Z0A g3]
    split
    ·rename_i q; subst q; exact absurd g2 hj
    ·rfl
   ·have := Z8O (c := h.conf) (i := first h.pages 1) (o := 0) p1 (by omega) (by omega)
    simp only
    rw [show 4096 + first h.pages 1 * h.conf.pw + 0 = 4096 + (first h.pages 1 * h.conf.pw + 0) by omega,this]
    simp only
    rw [Z0A g3,if_pos rfl]
    exact Or.inl rfl
  ·rw [Z0c,if_neg hf,if_neg hg] at e
   simp at e
theorem Zcz {h : Heap} {n : Int} (hp : Z01 h = true) (hk : 1 ≤ need h.conf n) (e : (Z0m h n (need h.conf n)).2.2 = true) : (∀ j : Nat,(h.pages.getD j default).kind ≠ 0 → ((Z0m h n (need h.conf n)).1.pages.getD j default).kind = (h.pages.getD j default).kind) ∧ RootOn (Z0m h n (need h.conf n)).1 (Z0m h n (need h.conf n)).2.1 := by
 have hp' := hp
 rw [Z1u] at hp
 obtain ⟨p1,p2,p3,p4,p5,p6⟩ := hp
 have hb := validB_iff.1 p1
 by_cases hg : 0 ≤ first h.pages (need h.conf n) ∧ Z1e h.pages + need h.conf n ≤ Z1Z h.conf
 ·obtain ⟨g1,g2,g3⟩ := Z1E hg.1
  have el : (Z2a h.conf h.pages (first h.pages (need h.conf n)) h.space n).1 = tookP h.pages (first h.pages (need h.conf n)).toNat (need h.conf n).toNat ⟨2,h.space,n,0⟩ ⟨3,h.space,0,0⟩ := by
   rw [Z2a,if_pos ⟨hk,by omega⟩,Z2n,if_pos (by omega),if_pos g3]
  have e7 : Z0m h n (need h.conf n) = (⟨h.conf,h.words,tookP h.pages (first h.pages (need h.conf n)).toNat (need h.conf n).toNat ⟨2,h.space,n,0⟩ ⟨3,h.space,0,0⟩,h.space,h.bump⟩,4096 + first h.pages (need h.conf n) * h.conf.pw,true) := by rw [Z0m,if_pos hg,el]
  have hf : ∀ j,j < (need h.conf n).toNat → (h.pages.getD ((first h.pages (need h.conf n)).toNat + j) default).kind = 0 := freeK_iff.1 g3
  have hgt := Z7r (l := h.pages) (i := (first h.pages (need h.conf n)).toNat) (k := (need h.conf n).toNat) (p := ⟨2,h.space,n,0⟩) (q := ⟨3,h.space,0,0⟩) (by omega) (by omega)
  rw [e7]
  refine ⟨fun j hj => ?_,fun _ => ?_⟩
  ·simp only
   have hne : ¬ ((first h.pages (need h.conf n)).toNat ≤ j ∧ j < (first h.pages (need h.conf n)).toNat + (need h.conf n).toNat) := fun hc => by
    have := hf (j - (first h.pages (need h.conf n)).toNat) (by omega)
    rw [show (first h.pages (need h.conf n)).toNat + (j - (first h.pages (need h.conf n)).toNat) = j by omega] at this
    exact hj this
   rw [hgt,if_neg (by omega),if_neg (by omega)]
  ·have := Z8O (c := h.conf) (i := first h.pages (need h.conf n)) (o := 0) p1 (by omega) (by omega)
   simp only
   rw [show 4096 + first h.pages (need h.conf n) * h.conf.pw = 4096 + (first h.pages (need h.conf n) * h.conf.pw + 0) by omega,this]
   simp only
   rw [hgt,if_pos rfl]
   exact Or.inr rfl
 ·rw [Z0m,if_neg hg] at e
  simp at e
theorem RootOn.mono {h h' : Heap} {r : Int} (hr : RootOn h r) (hc : h'.conf = h.conf) (hk : ∀ j : Nat,(h.pages.getD j default).kind ≠ 0 → (h'.pages.getD j default).kind = (h.pages.getD j default).kind) : RootOn h' r := by
 intro e
 rw [hc] at e ⊢
 have q := hr e
 rw [hk _ (by omega)]
 exact q
theorem Zfl {c : Conf} {hd : Header} (ha : Z2x c hd = true) (hv : Z05 c = true) (hn : ¬ 0 < need c (sizeH hd)) : sizeH hd ≤ c.pw := by
 obtain ⟨a1,a2,a3,a4,a5⟩ := Z5w ha
 have hb := validB_iff.1 hv
 unfold need at hn a4
 split at a4
 ·rename_i hc
  rw [if_pos hc] at hn
  split at a4
  ·omega
  ·rename_i hd'
   rw [if_neg hd'] at hn
   have e := Int.mul_ediv_add_emod (sizeH hd + c.pw - 1) c.pw
   have hz : (sizeH hd + c.pw - 1) / c.pw = 0 := by omega
   rw [hz] at e
   have := Int.emod_lt_of_pos (sizeH hd + c.pw - 1) (b := c.pw) (by omega)
   omega
 ·omega
theorem POk.put {w : WorldM} (h : POk w) (hw : WOk w.heap.words) {hd : Header} (hm : 0 ≤ hd.map ∧ hd.map ≤ 4294967295) : POk (w.put hd) := by
 unfold WorldM.put
 split
 ·rename_i e
  obtain ⟨k1,k2,k3,k4,k5,k6,k7,k8⟩ := Zgv hw hm e
  have hv := (Z0b k1).1
  obtain ⟨a1,a2,a3,a4,a5⟩ := Z5w k2
  have kk : (∀ j : Nat,(w.heap.pages.getD j default).kind ≠ 0 → ((put7 w.heap hd).1.pages.getD j default).kind = (w.heap.pages.getD j default).kind) ∧ RootOn (put7 w.heap hd).1 (put7 w.heap hd).2.1 := by
   by_cases hn : 0 < need w.heap.conf (sizeH hd)
   ·have e7 : put7 w.heap hd = Z0m w.heap (sizeH hd) (need w.heap.conf (sizeH hd)) := by rw [put7,if_pos hn]
    rw [e7] at k4 ⊢
    exact Zcz k1 (by omega) k4
   ·have e7 : put7 w.heap hd = Z0c w.heap (sizeH hd) := by rw [put7,if_neg hn]
    rw [e7] at k4 ⊢
    exact Zcf k1 ⟨a2,Zfl k2 hv hn⟩ k4
  have hc : (new7 w.heap hd).1.conf = w.heap.conf := by rw [k6]; exact k3.c
  have hk : ∀ j : Nat,(w.heap.pages.getD j default).kind ≠ 0 → ((new7 w.heap hd).1.pages.getD j default).kind = (w.heap.pages.getD j default).kind := by rw [k6]; exact kk.1
  refine ⟨k7,fun r hr => ?_,fun r hr => (h.k r hr).mono hc hk⟩
  rcases List.mem_append.1 hr with hr | hr
  ·exact (h.s r hr).mono hc hk
  ·simp only [List.mem_singleton] at hr
   subst hr
   rw [k5,k6]
   exact kk.2
 ·exact h
theorem POk.link {w : WorldM} {n : Nat} (h : POk w) (hm : MOk w n) (hn : n ≤ 1000000) (t : Tape) : POk (w.link t) := by
 unfold WorldM.link
 split
 ·rename_i hc
  have hw := hm.wm hn
  have g := Z4x hc.1
  have n1 := Z09 (w.pickT (w.pickT t)) (n := 8) (by decide)
  have hi : 0 ≤ Z1K w t ∧ Z1K w t < (getH w.heap (w.pick t)).1.length := by
   unfold Z1K
   rw [Int.tmod_eq_emod_of_nonneg n1.1]
   exact ⟨Int.emod_nonneg _ (by omega),Int.emod_lt_of_pos _ (by omega)⟩
  have hv : 0 ≤ Z1Q w t ∧ Z1Q w t ≤ 18446744073709551615 := by
   unfold Z1Q
   split
   ·exact Z2X hw _
   ·have := Z09 ((w.pickT (w.pickT t)).step 8) (n := 1048576) (by decide)
    omega
  obtain ⟨s1,s2,s3⟩ := Z79 hm.words hv hc.1 hi
  refine ⟨s2,fun r hr => ?_,fun r hr => ?_⟩
  ·simp only
   rw [s1]
   exact h.s r hr
  ·simp only
   rw [s1]
   exact h.k r hr
 ·exact h
theorem PT.setPins {c : Conf} {l : List Page} (h : PT c l) {i : Nat} (hi : i < l.length) (hk : (l.getD i default).kind = 1 ∨ (l.getD i default).kind = 2) {n : Int} (hn : 0 ≤ n ∧ n ≤ 2147483647) : PT c (l.set i ⟨(l.getD i default).kind,(l.getD i default).space,(l.getD i default).used,n⟩) := by
 have e : ∀ j,((l.set i ⟨(l.getD i default).kind,(l.getD i default).space,(l.getD i default).used,n⟩).getD j default).kind = (l.getD j default).kind ∧ ((l.set i ⟨(l.getD i default).kind,(l.getD i default).space,(l.getD i default).used,n⟩).getD j default).space = (l.getD j default).space ∧ ((l.set i ⟨(l.getD i default).kind,(l.getD i default).space,(l.getD i default).used,n⟩).getD j default).used = (l.getD j default).used := by
  intro j
  rw [Z0A hi]
  split
  ·rename_i q; subst q; exact ⟨rfl,rfl,rfl⟩
  ·exact ⟨rfl,rfl,rfl⟩
 refine ⟨?_, ?_, ?_⟩
 ·intro j hj
  rw [List.length_set] at hj
  rw [Z0A hi]
  split
  ·have b := h.b i hi
   exact ⟨b.s,hn,b.k,fun q => by simp only at q; omega,b.k1,fun q => by simp only at q; omega⟩
  ·exact h.b j hj
 ·intro j hj hk2
  rw [List.length_set] at hj
  rw [(e j).1] at hk2
  rw [(e j).2.2,(e j).2.1]
  have q := h.lg j hj hk2
  refine ⟨q.1,fun m h1 h2 => ?_⟩
  rw [List.length_set,(e _).1,(e _).2.1]
  exact q.2 m h1 h2
 ·intro j hj hk3
  rw [List.length_set] at hj
  rw [(e j).1] at hk3
  obtain ⟨a,a1,a2,a3⟩ := h.tl j hj hk3
  exact ⟨a,a1,by rw [(e a).1]; exact a2,by rw [(e a).2.2]; exact a3⟩
theorem ZdP {w : WorldM} {n : Nat} (h : POk w) (hm : MOk w n) (hn : n ≤ 1000000) {i : Nat} (hi : i < w.heap.pages.length) (hk : (w.heap.pages.getD i default).kind = 1 ∨ (w.heap.pages.getD i default).kind = 2) {d : Int} (hd : d = 1 ∨ (d = -1 ∧ 0 < (w.heap.pages.getD i default).pins)) : POk (pinB w i d) := by
 have hp := hm.pins i hi
 have kk : ∀ j : Nat,((pinB w i d).heap.pages.getD j default).kind = (w.heap.pages.getD j default).kind := by
  intro j
  simp only [pinB]
  rw [Z0A hi]
  split
  ·rename_i q; subst q; rfl
  ·rfl
 have pr := h.p
 rw [Z1u] at pr
 obtain ⟨p1,p2,p3,p4,p5,p6⟩ := pr
 refine ⟨?_,fun r hr => (h.s r hr).mono rfl (fun j _ => kk j),fun r hr => (h.k r hr).mono rfl (fun j _ => kk j)⟩
 rw [Z1u]
 refine ⟨p1,p2,by simp only [pinB,List.length_set]; exact p3,p4, ?_,p6.setPins hi hk (by omega)⟩
 rcases p5 with p5 | p5
 ·exact Or.inl p5
 ·refine Or.inr ⟨p5.1,by simp only [pinB,List.length_set]; exact p5.2.1, ?_⟩
  rw [show (pinB w i d).heap.bump = w.heap.bump from rfl,kk]
  exact p5.2.2
theorem ZhE (w : WorldM) (t : Tape) : w.pick t = 0 ∨ w.pick t ∈ w.strong ∨ w.pick t ∈ w.weak := by
 have hn := Z09 t (n := (w.refs.length : Int)) (by simp [WorldM.refs]; omega)
 have : w.pick t ∈ w.refs := getD_mem_iff.2 ⟨_,by omega,rfl⟩
 simpa [WorldM.refs] using this
theorem POk.pick {w : WorldM} (h : POk w) (t : Tape) : RootOn w.heap (w.pick t) := by
 rcases ZhE w t with e | e | e
 ·rw [e]; exact Zlu _
 ·exact h.s _ e
 ·exact h.k _ e
theorem POk.pin {w : WorldM} {n : Nat} (h : POk w) (hm : MOk w n) (hn : n ≤ 1000000) (t : Tape) : POk (w.pin t) := by
 unfold WorldM.pin
 split
 ·rename_i e
  have o := Z3r hm.hv e
  have hpl := hm.pl
  have hi : pinI w t < w.heap.pages.length := by unfold pinI; omega
  have hk := h.pick t e
  split
  ·rename_i hc
   exact ZdP h hm hn hi hk (Or.inr ⟨rfl,hc.1⟩)
  ·split
   ·exact ZdP h hm hn hi hk (Or.inl rfl)
   ·exact h
 ·exact h
theorem POk.drop {w : WorldM} (h : POk w) (t : Tape) : POk (w.drop t) := by
 unfold WorldM.drop
 split
 ·rename_i hl
  have n1 := Z09 t (n := (w.strong.length : Int)) (by omega)
  refine ⟨h.p,fun r hr => ?_,fun r hr => ?_⟩
  ·rcases List.mem_append.1 hr with hr | hr
   ·exact h.s r (List.mem_of_mem_take hr)
   ·exact h.s r (List.mem_of_mem_drop hr)
  ·simp only at hr
   split at hr
   ·rcases List.mem_append.1 hr with hr | hr
    ·exact h.k r hr
    ·simp only [List.mem_singleton] at hr
     subst hr
     refine h.s _ (getD_mem_iff.2 ⟨_, ?_,rfl⟩)
     unfold Zil
     omega
   ·exact h.k r hr
 ·exact h
theorem POk.collect {w : WorldM} {n : Nat} (h : POk w) (hm : MOk w n) : POk w.collect := by
 unfold WorldM.collect
 split
 ·rename_i e
  have c := Z8X (B := n) (by omega) hm.words (fun p hp => (hm.pin_mem p hp).2) e
  have hp := h.p
  by_cases hr : Z0l w.heap w.strong = true ∧ Z0l w.heap w.weak = true
  ·by_cases e1 : (rootsF (beginW w.heap) w.strong).2.2 = 0
   ·by_cases e2 : (allF (rootsF (beginW w.heap) w.strong).1).2 = 0
    ·have e7 : Z0j w.heap w.strong w.weak = (endH (cW5 w.heap w.strong w.weak),(rootsF (beginW w.heap) w.strong).2.1,Z30 (cW2 w.heap w.strong) w.weak w.weak.length,(cW5 w.heap w.strong w.weak).rep,0) := by rw [Z0j,if_pos hp,if_pos hr,if_pos e1,if_pos e2]
     have hb := Z3I hm.words hp
     have hi := Z3x hp
     have pr0 : PR n (beginW w.heap) := ⟨Z7y hp (fun p hp => (hm.pin_mem p hp).2),Zdm hp⟩
     have pr := Zm4 (B := n) (by omega) hm.words hp (fun p hp => (hm.pin_mem p hp).2) e1 e2
     have ck := cOk w.heap w.strong w.weak hm.words hp e1 e2
     obtain ⟨g1,g2,g3,g4,g5⟩ := ck.h4
     have hc2 : (cW2 w.heap w.strong).heap.conf = w.heap.conf := ck.x2.c
     have hsp := ck.w2.sp
     have seen : ∀ x,ToOk (cW2 w.heap w.strong) x → RootOn (endH (cW5 w.heap w.strong w.weak)) x := by
      intro x hx
      rcases hx with rfl | hx
      ·exact Zlu _
      ·intro he
       have q := pr.rt.q x hx
       unfold pgOf at q
       simp only [endH,cW5,Z0Y,g1,g2,g3] at he ⊢
       rw [hc2] at q
       have hlt : (ofA w.heap.conf x).1.toNat < (cW2 w.heap w.strong).heap.pages.length := by
        by_cases hq : (ofA w.heap.conf x).1.toNat < (cW2 w.heap w.strong).heap.pages.length
        ·exact hq
        ·have q1 := q.1
         rw [List.getD_eq_getElem?_getD,List.getElem?_eq_none (by omega)] at q1
         simp only [Option.getD_none] at q1
         have d : (default : Page).kind = 0 := rfl
         omega
       have ef : (List.map (Z26 (cW2 w.heap w.strong).heap.space) (cW2 w.heap w.strong).heap.pages).getD (ofA w.heap.conf x).1.toNat default = Z26 (cW2 w.heap w.strong).heap.space ((cW2 w.heap w.strong).heap.pages.getD (ofA w.heap.conf x).1.toNat default) := by simp [List.getD_eq_getElem?_getD,hlt]
       rw [ef,Z26,if_neg (by unfold Z5M; omega)]
       exact q.1
     have hall := Z3p (roots := w.strong) hb hi e1
     have ax := Zdd hall.1 hall.2.1 e2
     have r1 : ∀ x ∈ (rootsF (beginW w.heap) w.strong).2.1,ToOk (cW2 w.heap w.strong) x := by
      intro x hx
      have : ToOk (rootsF (beginW w.heap) w.strong).1 x := by
       unfold rootsF at e1 hx ⊢
       cases hbb : (List.range w.strong.length).find? (fun k => decide (Z2h (beginW w.heap) w.strong k ≠ 0)) with
       | none =>
        rw [hbb] at hx
        have h0 : ∀ j,j < w.strong.length → Z2h (beginW w.heap) w.strong j = 0 := fun j hj => by
         have := List.find?_eq_none.1 hbb j (List.mem_range.2 hj)
         simpa using this
        exact Zb5 (B := n) (by omega) hb hi pr0 w.strong.length h0 x hx
       | some k =>
        rw [hbb] at e1
        simp only at e1
        have := (List.find?_range_eq_some.1 hbb).1
        simp [e1] at this
      rcases this with q | q
      ·exact Or.inl q
      ·exact Or.inr (ax.2.q x q)
     have r2 : ∀ i,i ≤ w.weak.length → ∀ x ∈ Z30 (cW2 w.heap w.strong) w.weak i,ToOk (cW2 w.heap w.strong) x := by
      intro i
      induction i with
      | zero => intro _ x hx; simp [Z30] at hx
      | succ i ih =>
       intro hi' x hx
       simp only [Z30,List.mem_append,List.mem_singleton] at hx
       rcases hx with hx | rfl
       ·exact ih (by omega) x hx
       ·have hs := Z5E (cW2 w.heap w.strong) w.weak i
        unfold Z6C
        split
        ·exact Or.inl rfl
        ·rename_i hne
         unfold Z1s
         rw [hs.2.2.2.1,hs.1]
         split
         ·rename_i hq; exact Or.inr hq
         ·cases ht : (Z0n (loadA (cW2 w.heap w.strong).heap.words (w.weak.getD i default)).1).2 with
          | true =>
           refine Or.inr (pr.rt.t _ ?_ ht)
           have ho : (cW2 w.heap w.strong).old = (Z07 w.heap).1 := ck.x2.o
           rw [ho]
           have hrf := hr.2
           simp only [Z0l,Bool.and_eq_true,Option.isNone_iff_eq_none] at hrf
           have := List.find?_eq_none.1 hrf.2 i (List.mem_range.2 (by omega))
           simp only [rfsB,decide_eq_true_eq,not_and,Decidable.not_not] at this
           exact this hne
          | false =>
           refine Or.inl ?_
           unfold Z0n at ht ⊢
           split at ht
           ·simp at ht
           ·rename_i hcc; rw [if_neg hcc]
     have p1 := c.p1
     rw [e7] at p1 ⊢
     exact ⟨p1,fun x hx => seen x (r1 x hx),fun x hx => seen x (r2 _ (Nat.le_refl _) x hx)⟩
    ·rw [Z0j,if_pos hp,if_pos hr,if_pos e1,if_neg e2] at e
     exact absurd e e2
   ·rw [Z0j,if_pos hp,if_pos hr,if_neg e1] at e
    exact absurd e e1
  ·rw [Z0j,if_pos hp,if_neg hr] at e
   simp at e
 ·exact h
theorem POk.step {w : WorldM} {n : Nat} (h : POk w) (hm : MOk w n) (hn : n ≤ 1000000) (t : Tape) : POk (w.step t) := by
 unfold WorldM.step
 repeat' split
 ·exact h.put hm.words (Z6i _ _)
 ·exact h.link hm hn _
 ·exact h.pin hm hn _
 ·exact h.drop _
 ·exact h.collect hm
 ·refine ⟨h.p,fun r hr => ?_,h.k⟩
  rcases List.mem_append.1 hr with hr | hr
  ·exact h.s r hr
  ·simp only [List.mem_singleton] at hr
   subst hr
   exact h.pick _
theorem ZeK (x : Int) : bits .and .i64 x 15 = x % 16 := by
 have hm : (BitVec.ofInt 64 15).toNat = 15 := rfl
 have hx : (BitVec.ofInt 64 x).toNat = (x % 18446744073709551616).toNat := by simp [BitVec.toNat_ofInt]
 show IntKind.i64.wrap (((BitVec.ofInt 64 x) &&& (BitVec.ofInt 64 15)).toNat : Int) = x % 16
 rw [BitVec.toNat_and,hm,hx,show (15 : Nat) = 2 ^ 4 - 1 from rfl,Nat.and_two_pow_sub_one_eq_mod,IntKind.wrap_i64]
 omega
def hAwake6 : Heap := (⟨⟨16,8⟩,(List.replicate 128 0).set 0 29,[⟨1,0,2,0⟩,⟨0,0,0,0⟩,⟨0,0,0,0⟩,⟨0,0,0,0⟩,⟨0,0,0,0⟩,⟨0,0,0,0⟩,⟨0,0,0,0⟩,⟨0,0,0,0⟩],0,-1⟩ : Heap)
theorem Z5P : WOk hAwake6.words ∧ Z07 hAwake6 = ([4096],0) ∧ (allW hAwake6).2 = 0 ∧ cntV (cntR hAwake6).1 (cntR hAwake6).2 = .ag [int 1,int 2,int 0,int 0,int 7] := by
 have h1 : (allW hAwake6).2 = 0 := by decide +kernel
 have c1 : (cenN (allW hAwake6).1 (allW hAwake6).1.length).o = 1 := by decide +kernel
 have c2 : (cenN (allW hAwake6).1 (allW hAwake6).1.length).w = 2 := by decide +kernel
 have c3 : (cenN (allW hAwake6).1 (allW hAwake6).1.length).f = 0 := by decide +kernel
 have c4 : (cenN (allW hAwake6).1 (allW hAwake6).1.length).g = 0 := by decide +kernel
 have c5 : (hAwake6.pages.length : Int) - Z1e hAwake6.pages = 7 := by decide +kernel
 refine ⟨?_, ?_,h1, ?_⟩
 ·unfold WOk hAwake6
  decide +kernel
 ·decide +kernel
 ·rw [cntR,if_pos h1,cntV,c1,c2,c3,c4,c5]
theorem Zmq : GSpec Tryz.prog 33 [(⟨⟨16,8⟩,(List.replicate 128 0).set 0 29,[⟨1,0,2,0⟩,⟨0,0,0,0⟩,⟨0,0,0,0⟩,⟨0,0,0,0⟩,⟨0,0,0,0⟩,⟨0,0,0,0⟩,⟨0,0,0,0⟩,⟨0,0,0,0⟩],0,-1⟩ : Heap).av] true (.tu [Z02 [4096],int 0]) [] := by
 obtain ⟨f1,f2,f3,f4⟩ := Z5P
 have := walkObjects hAwake6 f1
 rw [f2] at this
 exact this
theorem cntA : GSpec Tryz.prog 25 [(⟨⟨16,8⟩,(List.replicate 128 0).set 0 29,[⟨1,0,2,0⟩,⟨0,0,0,0⟩,⟨0,0,0,0⟩,⟨0,0,0,0⟩,⟨0,0,0,0⟩,⟨0,0,0,0⟩,⟨0,0,0,0⟩,⟨0,0,0,0⟩],0,-1⟩ : Heap).av] true (.tu [.ag [int 1,int 2,int 0,int 0,int 7],int 0]) [] := by
 obtain ⟨f1,f2,f3,f4⟩ := Z5P
 have := Zfv hAwake6 f1
 rw [f3,f4] at this
 exact this
theorem ZgH : GSpec Tryz.prog 27 [] true (bool true) [] := by
 exact gF [] Tryz.func27 [] (Fh 42 [.el (wdv 4096)] (Fc 9 (@ZhO) (Fa (by simp [*] : (0 :Int)≤0∧Int.toNat 0 < (List.map Page.dv (List.replicate 8 (Page.mk 0 0 0 0))).length) (Fa (by simp [*] : Int.toNat 0 < (List.map Page.dv (List.replicate 8 (Page.mk 0 0 0 0))).length) (Fs 10015 (List.map Page.dv [Page.mk 1 0 2 0,Page.mk 0 0 0 0,Page.mk 0 0 0 0,Page.mk 0 0 0 0,Page.mk 0 0 0 0,Page.mk 0 0 0 0,Page.mk 0 0 0 0,Page.mk 0 0 0 0]) (Fa (by simp [*] : (0 :Int)≤0∧Int.toNat 0 < (List.map wdv (List.replicate 128 0)).length) (Fa (by simp [*] : Int.toNat 0 < (List.map wdv (List.replicate 128 0)).length) (Fs 10018 (List.map wdv ((List.replicate 128 0).set 0 29)) (Fc 21 (@Zmq) (Fc 26 (@cntA) (Fa (by intro hg; (try simp only [bs] at hg); simp [*] : ((0 :Int) == 0&&(0 :Int) == 0&&(↑(List.map wdv [4096]).length : Int) == 1) =true→(0 :Int)≤0∧(List.map wdv [4096])[Int.toNat 0]? = some (wdv 4096)) Fz)))))))))))
theorem Zgb (raw : Heap) (tape odd : List Int) (h1 : tape.length ≤ 140737488355328) (h2 : odd.length ≤ 140737488355328) : GSpec Tryz.prog 24 [raw.av,Z0E tape,Z0E odd] false (.d (.sl 6 ((Z2v raw tape odd).map Heap.dvs))) [] := by
 have hm := ZdQ tape
 have ht : TOk ⟨odd,0⟩ := by simp [TOk]; omega
 have hus : ∀ j,j < (Z1B tape).heap.pages.length → -1099511627776 ≤ ((Z1B tape).heap.pages.getD j default).used ∧ ((Z1B tape).heap.pages.getD j default).used ≤ 1099511627776 := fun j hj => by
  have := hm.us j hj; omega
 by_cases hl : raw.words.length ≤ 5000 ∧ raw.pages.length ≤ 100
 ·have e7 : Z2v raw tape odd = [(Z1B tape).heap,((Z1B tape).spoil ⟨odd,0⟩).heap,raw] := by rw [Z2v,if_pos (by simp only [Zef,decide_eq_true_eq]; exact hl)]; rfl
  rw [e7]
  exact gF [] Tryz.func24 [] (Fh 21 [.call true (Sx.bool (decide (raw.words.length≤5000∧raw.pages.length≤100))) [],.br true] (Fc 10 (@Zdr tape ‹_›) (Fp 17 (@Zb9 (Z1B tape) (Tape.mk odd 0) ‹_› ‹_› (by (simp only [bs]; omega)) ‹_›) (Fa (@ZbK raw) (Fb (decide (raw.words.length≤5000∧raw.pages.length≤100)=true) (Fa (by simp [*] : (((List.replicate 2 [dint 0,dint 0,DV.sl 0 [],DV.sl 0 [],dint 0,dint 0]).set 0 [dint (Z1B tape).heap.conf.pw,dint (Z1B tape).heap.conf.pg,DV.sl 1 (List.map wdv (Z1B tape).heap.words),DV.sl 4 (List.map Page.dv (Z1B tape).heap.pages),dint (Z1B tape).heap.space,dint (Z1B tape).heap.bump]).set 1 [dint ((Z1B tape).spoil (Tape.mk odd 0)).heap.conf.pw,dint ((Z1B tape).spoil (Tape.mk odd 0)).heap.conf.pg,DV.sl 1 (List.map wdv ((Z1B tape).spoil (Tape.mk odd 0)).heap.words),DV.sl 4 (List.map Page.dv ((Z1B tape).spoil (Tape.mk odd 0)).heap.pages),dint ((Z1B tape).spoil (Tape.mk odd 0)).heap.space,dint ((Z1B tape).spoil (Tape.mk odd 0)).heap.bump]).length + ((List.replicate 1 [dint 0,dint 0,DV.sl 0 [],DV.sl 0 [],dint 0,dint 0]).set 0 [dint raw.conf.pw,dint raw.conf.pg,DV.sl 1 (List.map wdv raw.words),DV.sl 4 (List.map Page.dv raw.pages),dint raw.space,dint raw.bump]).length≤2 ^ 30) Fz))))))
 ·have e7 : Z2v raw tape odd = [(Z1B tape).heap,((Z1B tape).spoil ⟨odd,0⟩).heap] := by rw [Z2v,if_neg (by simp only [Zef,decide_eq_true_eq]; exact hl)]; rfl
  rw [e7]
  exact gF [] Tryz.func24 [] (Fh 21 [.call true (Sx.bool (decide (raw.words.length≤5000∧raw.pages.length≤100))) [],.br false] (Fc 10 (@Zdr tape ‹_›) (Fp 17 (@Zb9 (Z1B tape) (Tape.mk odd 0) ‹_› ‹_› (by (simp only [bs]; omega)) ‹_›) (Fa (@ZbK raw) (Fb (decide (raw.words.length≤5000∧raw.pages.length≤100)=false) Fz)))))
theorem ZfN (h : Heap) (a : Int) (hd : Header) : (Z0s h a hd).1.words.length ≤ h.words.length ∧ (Z0s h a hd).1.pages.length ≤ h.pages.length := by
 unfold Z0s
 split
 ·split
  ·refine ⟨?_,Nat.le_refl _⟩
   simp only
   unfold Z0f
   split
   ·rw [Z3Q (by omega)]; exact Nat.le_refl _
   ·simp
  ·simp [noHeap]
 ·simp [noHeap]
theorem Zfm (h : Heap) (a n : Int) : (Z27 h a n).1.words.length ≤ h.words.length ∧ (Z27 h a n).1.pages.length ≤ h.pages.length := by
 unfold Z27
 split
 ·exact ZfN h a _
 ·simp [noHeap]
def wflL (l : List Heap) (a n : Int) (i : Nat) : Tg := ⟨tm 76 [(3,u64 a),(4,int n),(10,bool false),(24,.d (.sl 6 (l.map Heap.dvs))),(25,int l.length),(26,int i)],[],60⟩
def wflJ (l : List Heap) (a n : Int) (i : Nat) (h : Heap) (k : Nat) (y : Int) (m : Nat) : Tg := ⟨tm 76 [(3,u64 a),(4,int n),(10,bool false),(12,.pt 488012 0 0),(14,u64 y),(24,.d (.sl 6 (l.map Heap.dvs))),(25,int l.length),(26,int i),(34,.ow 496034),(35,int 2),(36,int k),(43,.ow 528043),(44,int 2),(45,int m)],[(528043,.arr 3 1 ([n,n % 16].map idv)),(496034,.arr 56 1 ([a,4096 + a % 600].map wdv)),(488012,.box 28 h.cells)],68⟩
theorem ZgT (l : List Heap) (a n : Int) (i : Nat) (h : Heap) (k : Nat) (y : Int) (m : Nat) (hh : HOk h) (hy : 0 ≤ y ∧ y ≤ 18446744073709551615) (hn : -9223372036854775808 ≤ n ∧ n ≤ 9223372036854775807) (hm : m < 2) : CSpec Tryz.prog (rndF Tryz.f7 4) (wflJ l a n i h k y m).st .nrm (wflJ l a n i h k y (m + 1)).st := by
 have hw := hh.w
 have hr : -9223372036854775808 ≤ [n,n % 16].getD m default ∧ [n,n % 16].getD m default ≤ 9223372036854775807 := by
  rcases m with _ | _ | m
  ·exact hn
  ·show -9223372036854775808 ≤ n % 16 ∧ n % 16 ≤ 9223372036854775807
   omega
  ·omega
 have hl2 := hh.pl
 have hl3 := hh.wl
 have hl4 := Zfm h y ([n,n % 16].getD (m : Int).toNat default)
 exact sE [bT 46,(48,[Hint.el (idv ([n,n % 16].getD (↑m : Int).toNat default))]),(53,[Hint.call false (AV.tu [(Z27 h y ([n,n % 16].getD (↑m : Int).toNat default)).fst.av,int (Z27 h y ([n,n % 16].getD (↑m : Int).toNat default)).snd]) []]),(60,[Hint.call false (AV.tu [(Z27 h y ([n,n % 16].getD (↑m : Int).toNat default)).fst.av,int (Z27 h y ([n,n % 16].getD (↑m : Int).toNat default)).snd]) []]),(69,[Hint.call true (Sx.bool (decide ((Z27 h y ([n,n % 16].getD (↑m : Int).toNat default)).fst = (Z27 h y ([n,n % 16].getD (↑m : Int).toNat default)).fst))) []]),bF 71,(72,[Hint.int (↑(m + 1) : Int)])] [] [] [] (an (bo (decide ((↑m : Int) < 2)=true)) (an tt (an (by simp [*] : 0≤(↑m : Int)∧(↑m : Int).toNat < (List.map idv [n,n % 16]).length) (an (by grind [] : (List.map idv [n,n % 16])[(↑m : Int).toNat]? = some (idv ([n,n % 16].getD (↑m : Int).toNat default))) (an (@Zih h y ([n,n % 16].getD (↑m : Int).toNat default) ‹_› ‹_› ‹_›) (an (@ZiY h y ([n,n % 16].getD (↑m : Int).toNat default) ‹_› ‹_› ‹_›) (an ((fun hg => by (try simp only [bs] at hg); exact @Zkc ((Z27 h y ([n,n % 16].getD (↑m : Int).toNat default)).fst) ((Z27 h y ([n,n % 16].getD (↑m : Int).toNat default)).fst) (by (try simp only [bs] at hg); omega) (by (try simp only [bs] at hg); omega)) : (!(Z27 h y ([n,n % 16].getD (↑m : Int).toNat default)).snd != (Z27 h y ([n,n % 16].getD (↑m : Int).toNat default)).snd) = true→GSpec Tryz.prog 39 [(Z27 h y ([n,n % 16].getD (↑m : Int).toNat default)).fst.av,(Z27 h y ([n,n % 16].getD (↑m : Int).toNat default)).fst.av] true (Sx.bool (decide ((Z27 h y ([n,n % 16].getD (↑m : Int).toNat default)).fst = (Z27 h y ([n,n % 16].getD (↑m : Int).toNat default)).fst))) []) (an (by simp only [bs, *,true_or,or_true,true_and,and_true,not_true_eq_false,not_false_eq_true,Bool.true_eq_false,Bool.false_eq_true] : ((Z27 h y ([n,n % 16].getD (↑m : Int).toNat default)).snd != (Z27 h y ([n,n % 16].getD (↑m : Int).toNat default)).snd||!decide ((Z27 h y ([n,n % 16].getD (↑m : Int).toNat default)).fst = (Z27 h y ([n,n % 16].getD (↑m : Int).toNat default)).fst)) = false) (an (rf false) (wI (IntKind.i64.wrap ((↑m : Int) + 1) = (↑(m + 1) : Int))))))))))))
theorem ZkQ (l : List Heap) (a n : Int) (i : Nat) (h : Heap) (k : Nat) (y : Int) : CSpec Tryz.prog (rndF Tryz.f7 4) (wflJ l a n i h k y 2).st (.ext 4) (Tg.st ⟨tm 76 [(3,u64 a),(4,int n),(10,bool false),(12,.pt 488012 0 0),(24,.d (.sl 6 (l.map Heap.dvs))),(25,int l.length),(26,int i),(34,.ow 496034),(35,int 2),(36,int k)],[(496034,.arr 56 1 ([a,4096 + a % 600].map wdv)),(488012,.box 28 h.cells)],68⟩) := by
 exact sF [] [] Fz
theorem Zii (l : List Heap) (a n : Int) (i : Nat) (h : Heap) (k : Nat) (y : Int) (hh : HOk h) (hy : 0 ≤ y ∧ y ≤ 18446744073709551615) (hn : -9223372036854775808 ≤ n ∧ n ≤ 9223372036854775807) : CSpec Tryz.prog (blkF Tryz.f7 4) (Tg.st ⟨tm 76 [(3,u64 a),(4,int n),(10,bool false),(12,.pt 488012 0 0),(14,u64 y),(24,.d (.sl 6 (l.map Heap.dvs))),(25,int l.length),(26,int i),(34,.ow 496034),(35,int 2),(36,int k),(43,.ow 528043),(44,int 2),(45,int 0)],[(528043,.arr 3 1 ([n,n % 16].map idv)),(496034,.arr 56 1 ([a,4096 + a % 600].map wdv)),(488012,.box 28 h.cells)],68⟩) .nrm (Tg.st ⟨tm 76 [(3,u64 a),(4,int n),(10,bool false),(12,.pt 488012 0 0),(24,.d (.sl 6 (l.map Heap.dvs))),(25,int l.length),(26,int i),(34,.ow 496034),(35,int 2),(36,int k)],[(496034,.arr 56 1 ([a,4096 + a % 600].map wdv)),(488012,.box 28 h.cells)],68⟩) :=
 Z08 (S := fun m => (wflJ l a n i h k y m).st) 2 (by kernel_rfl) (fun m hm => ZgT l a n i h k y m hh hy hn hm) (ZkQ l a n i h k y)
def wflI (l : List Heap) (a n : Int) (i : Nat) (h : Heap) (k : Nat) : Tg := ⟨tm 76 [(3,u64 a),(4,int n),(10,bool false),(12,.pt 488012 0 0),(24,.d (.sl 6 (l.map Heap.dvs))),(25,int l.length),(26,int i),(34,.ow 496034),(35,int 2),(36,int k)],[(496034,.arr 56 1 ([a,4096 + a % 600].map wdv)),(488012,.box 28 h.cells)],64⟩
theorem Zht (l : List Heap) (a n : Int) (i : Nat) (h : Heap) (k : Nat) (hh : HOk h) (h0 : 0 ≤ a ∧ a ≤ 18446744073709551615) (hn : -9223372036854775808 ≤ n ∧ n ≤ 9223372036854775807) (hk : k < 2) : CSpec Tryz.prog (rndF Tryz.f7 2) (wflI l a n i h k).st .nrm (wflI l a n i h (k + 1)).st := by
 have hw := hh.w
 have ei3 := ZeK n
 have hr : 0 ≤ [a,4096 + a % 600].getD k default ∧ [a,4096 + a % 600].getD k default ≤ 18446744073709551615 := by
  rcases k with _ | _ | k
  ·exact h0
  ·show 0 ≤ 4096 + a % 600 ∧ 4096 + a % 600 ≤ 18446744073709551615
   omega
  ·omega
 refine stretchE [((37 : Nat),[Hint.br true]),((39 : Nat),[Hint.el (wdv ([a,(4096 : Int) + a % (600 : Int)].getD (↑k : Int).toNat default))]),((42 : Nat),[Hint.int (n % (16 : Int))]),((43 : Nat),[Hint.els (List.map idv [n,n % (16 : Int)])]),((44 : Nat),[Hint.int (↑((0 : Nat) + (1 : Nat) + (1 : Nat)) : Int)]),((73 : Nat),[Hint.int (↑(k + (1 : Nat)) : Int)])] [((4 : Nat),Tg.mk (tm (76 : Nat) [((3 : Nat),u64 a),((4 : Nat),int n),((10 : Nat),Sx.bool false),((12 : Nat),AV.pt (488012 : Nat) (0 : Nat) (0 : Nat)),((14 : Nat),u64 ([a,(4096 : Int) + a % (600 : Int)].getD (↑k : Int).toNat default)),((24 : Nat),AV.d (DV.sl (6 : Nat) (List.map Heap.dvs l))),((25 : Nat),int (↑l.length : Int)),((26 : Nat),int (↑i : Int)),((34 : Nat),AV.ow (496034 : Nat)),((35 : Nat),int (2 : Int)),((36 : Nat),int (↑k : Int)),((43 : Nat),AV.ow (528043 : Nat)),((44 : Nat),int (2 : Int)),((45 : Nat),int (0 : Int))]) [((528043 : Nat),Blk.arr 3 (1 : Nat) (List.map idv [n,n % (16 : Int)])),((496034 : Nat),Blk.arr 56 (1 : Nat) (List.map wdv [a,(4096 : Int) + a % (600 : Int)])),((488012 : Nat),Blk.box 28 h.cells)] (68 : Nat),Ex.nrm,Tg.mk (tm (76 : Nat) [((3 : Nat),u64 a),((4 : Nat),int n),((10 : Nat),Sx.bool false),((12 : Nat),AV.pt (488012 : Nat) (0 : Nat) (0 : Nat)),((24 : Nat),AV.d (DV.sl (6 : Nat) (List.map Heap.dvs l))),((25 : Nat),int (↑l.length : Int)),((26 : Nat),int (↑i : Int)),((34 : Nat),AV.ow (496034 : Nat)),((35 : Nat),int (2 : Int)),((36 : Nat),int (↑k : Int))]) [((496034 : Nat),Blk.arr 56 (1 : Nat) (List.map wdv [a,(4096 : Int) + a % (600 : Int)])),((488012 : Nat),Blk.box 28 h.cells)] (68 : Nat))] [] [] (φ := decide ((↑k : Int) < (2 : Int)) = true ∧ true = true ∧ ((0 : Int) ≤ (↑k : Int) ∧ (↑k : Int).toNat < (List.map wdv [a,(4096 : Int) + a % (600 : Int)]).length) ∧ (List.map wdv [a,(4096 : Int) + a % (600 : Int)])[(↑k : Int).toNat]? = some (wdv ([a,(4096 : Int) + a % (600 : Int)].getD (↑k : Int).toNat default)) ∧ bits BinOp.and IntKind.i64 n (15 : Int) = n % (16 : Int) ∧ ((List.replicate (2 : Nat) [dint (0 : Int)]).set ((0 : Nat),Operand.tmp (40 : Nat)).fst [dint n]).set ((1 : Nat),Operand.tmp (42 : Nat)).fst [dint (n % (16 : Int))] = List.map idv [n,n % (16 : Int)] ∧ (↑(List.map idv [n,n % (16 : Int)]).length : Int) = (2 : Int) ∧ CSpec Tryz.prog (blkF Tryz.f7 (4 : Nat)) (Tg.mk (tm (76 : Nat) [((3 : Nat),u64 a),((4 : Nat),int n),((10 : Nat),Sx.bool false),((12 : Nat),AV.pt (488012 : Nat) (0 : Nat) (0 : Nat)),((14 : Nat),u64 ([a,(4096 : Int) + a % (600 : Int)].getD (↑k : Int).toNat default)),((24 : Nat),AV.d (DV.sl (6 : Nat) (List.map Heap.dvs l))),((25 : Nat),int (↑l.length : Int)),((26 : Nat),int (↑i : Int)),((34 : Nat),AV.ow (496034 : Nat)),((35 : Nat),int (2 : Int)),((36 : Nat),int (↑k : Int)),((43 : Nat),AV.ow (528043 : Nat)),((44 : Nat),int (2 : Int)),((45 : Nat),int (0 : Int))]) [((528043 : Nat),Blk.arr 3 (1 : Nat) (List.map idv [n,n % (16 : Int)])),((496034 : Nat),Blk.arr 56 (1 : Nat) (List.map wdv [a,(4096 : Int) + a % (600 : Int)])),((488012 : Nat),Blk.box 28 h.cells)] (68 : Nat)).st Ex.nrm (Tg.mk (tm (76 : Nat) [((3 : Nat),u64 a),((4 : Nat),int n),((10 : Nat),Sx.bool false),((12 : Nat),AV.pt (488012 : Nat) (0 : Nat) (0 : Nat)),((24 : Nat),AV.d (DV.sl (6 : Nat) (List.map Heap.dvs l))),((25 : Nat),int (↑l.length : Int)),((26 : Nat),int (↑i : Int)),((34 : Nat),AV.ow (496034 : Nat)),((35 : Nat),int (2 : Int)),((36 : Nat),int (↑k : Int))]) [((496034 : Nat),Blk.arr 56 (1 : Nat) (List.map wdv [a,(4096 : Int) + a % (600 : Int)])),((488012 : Nat),Blk.box 28 h.cells)] (68 : Nat)).st ∧ IntKind.i64.wrap ((↑k : Int) + (1 : Int)) = (↑(k + (1 : Nat)) : Int)) ?_ (by kernel_rfl) (by kernel_rfl) (by kernel_rfl)
 exact ⟨(by (simp only [bs]; omega)),rfl,(by simp [*]),(by grind []),‹_›,rfl,rfl,(@Zii (l) (a) (n) (i) (h) (k) ([a,(4096 : Int) + a % (600 : Int)].getD (↑k : Int).toNat default) ‹_› ‹_› ‹_›),(by exact wrapI2 rfl (by omega) (by omega))⟩
theorem ZkY (l : List Heap) (a n : Int) (i : Nat) (h : Heap) : CSpec Tryz.prog (rndF Tryz.f7 2) (wflI l a n i h 2).st (.ext 2) (Tg.st ⟨tm 76 [(3,u64 a),(4,int n),(10,bool false),(24,.d (.sl 6 (l.map Heap.dvs))),(25,int l.length),(26,int i)],[],64⟩) := by
 exact sF [] [] Fz
theorem ZhZ (l : List Heap) (a n : Int) (i : Nat) (h : Heap) (hh : HOk h) (h0 : 0 ≤ a ∧ a ≤ 18446744073709551615) (hn : -9223372036854775808 ≤ n ∧ n ≤ 9223372036854775807) : CSpec Tryz.prog (blkF Tryz.f7 2) (Tg.st ⟨tm 76 [(3,u64 a),(4,int n),(10,bool false),(12,.pt 488012 0 0),(24,.d (.sl 6 (l.map Heap.dvs))),(25,int l.length),(26,int i),(34,.ow 496034),(35,int 2),(36,int 0)],[(496034,.arr 56 1 ([a,4096 + a % 600].map wdv)),(488012,.box 28 h.cells)],64⟩) .nrm (Tg.st ⟨tm 76 [(3,u64 a),(4,int n),(10,bool false),(24,.d (.sl 6 (l.map Heap.dvs))),(25,int l.length),(26,int i)],[],64⟩) :=
 Z08 (S := fun k => (wflI l a n i h k).st) 2 (by kernel_rfl) (fun k hk => Zht l a n i h k hh h0 hn hk) (ZkY l a n i h)
theorem Zjy (l : List Heap) (a n : Int) (i : Nat) (hh : HOk (l.getD i default)) (hl : l.length ≤ 3) (h0 : 0 ≤ a ∧ a ≤ 18446744073709551615) (hn : -9223372036854775808 ≤ n ∧ n ≤ 9223372036854775807) (hi : i < l.length) : CSpec Tryz.prog (rndF Tryz.f7 0) (wflL l a n i).st .nrm (wflL l a n (i + 1)).st := by
 have hw := hh.w
 exact sF [] [] (Fh 28 [.el (l.getD i default).dvs] (Fh 35 [.int (↑(0 + 1 + 1) : Int)] (Ftb 27 (decide ((↑i : Int) < (↑l.length : Int))) (Fa (by exact elI (by omega) (by omega) (by omega) : 0≤(↑i : Int)∧(List.map Heap.dvs l)[(↑i : Int).toNat]? = some (l.getD i default).dvs) (Fg 32 (by exact Int.tmod_eq_emod_of_nonneg (by omega) : a.tmod 600 =a % 600) (Fa (by decide : (600 :Int) ≠ 0) (Fv 33 (4096 + a % 600) (Fs 34 (List.map wdv [a,4096 + a % 600]) (Fr (↑(List.map wdv [a,(4096 : Int) + a % (600 : Int)]).length : Int) (Fu (@ZhZ l a n i (l.getD i default) ‹_› ‹_› ‹_›) (Fx 74 i Fz)))))))))))
theorem ZlC (l : List Heap) (a n : Int) : CSpec Tryz.prog (rndF Tryz.f7 0) (wflL l a n l.length).st (.ext 0) (Tg.st ⟨tm 76 [(10,bool false)],[],60⟩) := by
 exact sF [] [] (Ffb 27 (decide ((↑l.length : Int) < (↑l.length : Int))) Fz)
theorem Zkw (l : List Heap) (a n : Int) (hh : ∀ h ∈ l,HOk h) (hl : l.length ≤ 3) (h0 : 0 ≤ a ∧ a ≤ 18446744073709551615) (hn : -9223372036854775808 ≤ n ∧ n ≤ 9223372036854775807) : CSpec Tryz.prog (blkF Tryz.f7 0) (Tg.st ⟨tm 76 [(3,u64 a),(4,int n),(10,bool false),(24,.d (.sl 6 (l.map Heap.dvs))),(25,int l.length),(26,int 0)],[],60⟩) .nrm (Tg.st ⟨tm 76 [(10,bool false)],[],60⟩) :=
 Z08 (S := fun i => (wflL l a n i).st) l.length (by kernel_rfl) (fun i hi => Zjy l a n i (hh _ (by rw [List.getD_eq_getElem?_getD,List.getElem?_eq_getElem hi]; exact List.getElem_mem hi)) hl h0 hn hi) (ZlC l a n)
theorem Zj1 (raw : Heap) (tape odd : List Int) (a n : Int) (hw : WOk raw.words) (h1 : tape.length ≤ 140737488355328) (h2 : odd.length ≤ 140737488355328) (h0 : 0 ≤ a ∧ a ≤ 18446744073709551615) (hn : -9223372036854775808 ≤ n ∧ n ≤ 9223372036854775807) : GSpec Tryz.prog 7 [raw.av,Z0E tape,Z0E odd,u64 a,int n] true (bool true) [] := by
 obtain ⟨k1,k2⟩ := Zhq raw tape odd hw
 exact gF [] Tryz.func7 [] (Fc 24 (@Zgb raw tape odd ‹_› ‹_›) (Fl 25 Heap.dvs (Z2v raw tape odd) (Fu (@Zkw (Z2v raw tape odd) a n ‹_› ‹_› ‹_› ‹_›) (Fc 75 (@ZgH) Fz))))
end Go.Proofs.YtolnblaadleknaaGreat
namespace Go.Proofs.YtolnblaadleknaaGreat
open Go.Sx Go.RowKit
theorem Z6K (os : Os) (started : os.Started) (H : Type) (enc : TypeId × Value → H) :
  ReturnsInHanded {} Tryz.checked os 7 .any (Rows.walkFillsSpec.pre6 enc Tryz.prog Tryz.f7 Rows.walkFillsRow.domain false) (Rows.walkFillsSpec.post enc Tryz.prog Tryz.f7 false true false false) := by
 refine ZbF (C := Tryz.checked) (tb := 4) 5 own0 started (by kernel_rfl) Tryz.func7
  (ChangeSpec.witness6 (enc := enc) (C := Tryz.checked) false ⟨#[],#[.agg #[.int .i64 0,.int .i64 0,.slice none 0 0,.slice none 0 0,.int .i64 0,.int .i64 0],.slice none 0 0,.slice none 0 0,.int .u64 0,.int .i64 0],[]⟩ 8 (by kernel_rfl) (by kernel_rfl) (by kernel_rfl) (by kernel_rfl))
  ZhN (by kernel_rfl) (by kernel_rfl) (by kernel_rfl) (by kernel_rfl) rfl (fun ds hd => ?_) (fun ls hl h => ?_)
 ·match ds,hd with
  | [a0,a1,a2,a3,a4],_ => rfl
 ·match ls,hl with
  | [l0,l1,l2,l3,l4],_ =>
   obtain ⟨raw,rfl,hraw⟩ := Zi1 (n := 1) (h 0 28 l0 (by kernel_rfl) rfl)
   obtain ⟨tape,rfl,htape⟩ := Ze8 (n := 3) (h 1 22 l1 (by kernel_rfl) rfl)
   obtain ⟨odd,rfl,hodd⟩ := Ze8 (n := 3) (h 2 22 l2 (by kernel_rfl) rfl)
   obtain ⟨a,rfl,ha⟩ := Zho (n := 4) (h 3 56 l3 (by kernel_rfl) rfl)
   obtain ⟨n,rfl,hn⟩ := Z9o (n := 4) (h 4 3 l4 (by kernel_rfl) rfl)
   have e : Z9n Tryz.prog Tryz.f7.params.toList [ZlO raw,[.sl 1 (tape.map idv)],[.sl 1 (odd.map idv)],[du64 a],[dint n]] = [raw.av,Z0E tape,Z0E odd,u64 a,int n] := by kernel_rfl
   exact ⟨true,e ▸ Zj1 raw tape odd a n hraw htape hodd (range_u64 ha) (range_i64 hn)⟩
theorem ZaB : (Rows.walkFillsRow.inPlace == Tryz.prog.inPlace 7) = true := by kernel_rfl
theorem ZaY : (Rows.walkFillsRow.unfollowed == Tryz.prog.unfollowed 7) = true := by kernel_rfl
theorem Zbj : (Rows.walkFillsRow.recurses == Tryz.prog.recurses 7) = true := by kernel_rfl
theorem ZbA : (Rows.walkFillsRow.named == Tryz.prog.varsNamed 7) = true := by kernel_rfl
theorem Z6F : joinedFacts Tryz.prog 7 Tryz.f7 Rows.walkFillsSpec Rows.walkFillsRow = true := by
 unfold joinedFacts
 rw [ZaB,ZaY,Zbj,ZbA]
 kernel_rfl
theorem walkFills_holds : Rows.WalkFillsSaid :=
 OpenClaim.holds_of_wide 7 Tryz.f7 rfl rfl rfl rfl rfl rfl rfl ⟨rfl,rfl,rfl,rfl,rfl⟩ rfl rfl rfl rfl rfl (by kernel_rfl) Tryz.func7 Z6F
  (of_decide_eq_true (by kernel_rfl)) (by unfold Func.isWrapper; first | (rw [if_pos (by decide +kernel)]; kernel_rfl) | (rw [if_neg (by decide +kernel)]; exact ⟨rfl,rfl⟩))
  (fun os started H enc _ => Z6K os started H enc)
end Go.Proofs.YtolnblaadleknaaGreat
