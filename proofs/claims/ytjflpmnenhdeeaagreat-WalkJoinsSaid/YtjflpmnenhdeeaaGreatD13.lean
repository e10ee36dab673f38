/-
 The statement WalkJoins: part 13.
 Conditions: none.
-/
import Derived.Test.YtjflpmnenhdeeaaGreatD12
set_option maxRecDepth 100000
set_option maxHeartbeats 2000000
set_option linter.all false
namespace Go.Proofs.YtjflpmnenhdeeaaGreat
open Go.Sx
def hdA(ws:List Int)(a:Int):Header:=(decodeH (loadA ws a).1).1
def okA(ws:List Int)(a:Int):Prop:=(decodeH (loadA ws a).1).2=true
def kdA(ws:List Int)(a:Int):Int:=(hdA ws a).kind
def kpA(ws:List Int)(a:Int):Int:=if kdA ws a=0 then 1 else hlA ws a+1
def bsP(h:Heap)(i:Nat):Int:=4096+i*h.conf.pw
def tile(ws:List Int):Int→Int→List Int→Prop
 | a,b,[]=>a=b
 | a,b,x::l=>x=a∧okA ws a∧tile ws (a+hlA ws a+1) b l
theorem Z3h(ws:List Int)(a:Int):sizeH (hdA ws a)=hlA ws a+1:=by
 unfold hdA
 rw[sizeH,if_pos (Z2e _)]
 rfl
theorem Zd5{ws:List Int}:∀ {l:List Int} {a b:Int},tile ws a b l→a≤b
 | [],a,b,h=>by simp only[tile]at h;omega
 | x::l,a,b,h=>by
  have:=Zd5 h.2.2
  have:=Z0d ws a
  omega
theorem Z1q{ws:List Int}{x:Int}:∀ {l:List Int} {a b:Int},tile ws a b l→x∈l→okA ws x∧a≤x∧x+hlA ws x<b
 | [],_,_,_,hx=>by simp at hx
 | y::l,a,b,h,hx=>by
  have hr:=Z0d ws a
  rcases List.mem_cons.1 hx with rfl | hx
  ·have:=Zd5 h.2.2
   rw[h.1]
   exact⟨h.2.1,by omega,by omega⟩
  ·have:=Z1q h.2.2 hx
   exact⟨this.1,by omega,this.2.2⟩
theorem Z9L{ws:List Int}{x y:Int}:∀ {l:List Int} {a b:Int},tile ws a b l→x∈l→y∈l→x<y→x+hlA ws x<y
 | [],_,_,_,hx,_,_=>by simp at hx
 | z::l,a,b,h,hx,hy,hxy=>by
  have hr:=Z0d ws a
  have h1:=h.1
  rcases List.mem_cons.1 hx with e | hx'
  ·rcases List.mem_cons.1 hy with e2 | hy'
   ·omega
   ·have:=(Z1q h.2.2 hy').2.1
    rw[e,h1]
    omega
  ·rcases List.mem_cons.1 hy with e2 | hy'
   ·have:=(Z1q h.2.2 hx').2.1
    omega
   ·exact Z9L h.2.2 hx' hy' hxy
theorem Zaz{ws:List Int}{m:List Int}{b c:Int}:∀ {l:List Int} {a:Int},tile ws a b l→tile ws b c m→tile ws a c (l++m)
 | [],a,h,h2=>by simp only[tile]at h;subst h;exact h2
 | _::_,_,h,h2=>⟨h.1,h.2.1,Zaz h.2.2 h2⟩
theorem Z1M{ws ws':List Int}:∀ {l:List Int} {a b:Int},tile ws a b l→(∀ x∈l,okA ws' x∧hlA ws' x=hlA ws x)→tile ws' a b l
 | [],_,_,h,_=>h
 | x::l,a,b,h,hh=>by
  have hx:=hh x (by simp)
  have h1:=h.1
  subst h1
  refine⟨rfl,hx.1, ?_⟩
  rw[hx.2]
  exact Z1M h.2.2 fun y hy=>hh y (List.mem_cons_of_mem _ hy)
theorem Z9k{ws:List Int}{c:Int}:∀ {l:List Int} {a b:Int},tile ws a b l→a≤c→c<b→∃ x∈l,x≤c∧c≤x+hlA ws x
 | [],a,b,h,h1,h2=>by simp only[tile]at h;omega
 | x::l,a,b,h,h1,h2=>by
  by_cases hc:c≤a+hlA ws a
  ·exact⟨a,by rw[h.1];simp,h1,hc⟩
  ·obtain⟨y,hy,h3⟩:=Z9k h.2.2 (show a+hlA ws a+1≤c by omega) h2
   exact⟨y,List.mem_cons_of_mem _ hy,h3⟩
theorem Z1W{ws ws':List Int}{a:Int}(h:(loadA ws' a).1=(loadA ws a).1):(okA ws a→okA ws' a)∧hlA ws' a=hlA ws a∧kdA ws' a=kdA ws a∧hdA ws' a=hdA ws a∧kpA ws' a=kpA ws a:=by
 have e:hdA ws' a=hdA ws a:=by rw[hdA,hdA,h]
 have e2:hlA ws' a=hlA ws a:=by rw[hlA,hlA,h]
 have e3:kdA ws' a=kdA ws a:=by rw[kdA,kdA,e]
 exact⟨fun q=>by rw[okA,h];exact q,e2,e3,e,by rw[kpA,kpA,e2,e3]⟩
structure Gt (h:Heap) (T:Nat→List Int):Prop where
 p:Z03 h=true
 t1:∀ i,i<h.pages.length→(h.pages.getD i default).kind=1→tile h.words (bsP h i) (bsP h i+(h.pages.getD i default).used) (T i)
 t2:∀ i,i<h.pages.length→(h.pages.getD i default).kind=2→T i=[bsP h i]∧okA h.words (bsP h i)∧hlA h.words (bsP h i)+1=(h.pages.getD i default).used
 t0:∀ i x,x∈T i→i<h.pages.length∧((h.pages.getD i default).kind=1∨(h.pages.getD i default).kind=2)
structure Gd (h:Heap) (T:Nat→List Int):Prop where
 p:Z03 h=true
 sp:∀ i,i<h.pages.length→(h.pages.getD i default).kind≠0→(h.pages.getD i default).space=h.space
 t1:∀ i,i<h.pages.length→(h.pages.getD i default).kind=1→tile h.words (bsP h i) (bsP h i+(h.pages.getD i default).used) (T i)∧∀ x∈T i,hlA h.words x+1≤Z00 h.conf
 t2:∀ i,i<h.pages.length→(h.pages.getD i default).kind=2→T i=[bsP h i]∧okA h.words (bsP h i)∧hlA h.words (bsP h i)+1=(h.pages.getD i default).used∧kdA h.words (bsP h i)≠0
 t0:∀ i x,x∈T i→i<h.pages.length∧((h.pages.getD i default).kind=1∨(h.pages.getD i default).kind=2)
 d:∀ a,(loadA h.words a).1≠0→∃ i x,x∈T i∧x≤a∧a<x+kpA h.words x
 q:∀ i x k,x∈T i→kdA h.words x≠0→0≤k→k<hlA h.words x→Z0m (hdA h.words x) k=true→(loadA h.words (x+1+k)).1=0∨∃ j,(loadA h.words (x+1+k)).1∈T j∧kdA h.words (loadA h.words (x+1+k)).1≠0
 cr:(crowd h.pages:Int)≤h.conf.pg/4
def Ob(h:Heap)(T:Nat→List Int)(x:Int):Prop:=∃ j,x∈T j∧kdA h.words x≠0
section
variable {h:Heap} {T:Nat→List Int} (g:Gt h T)
include g
theorem Gt.on{i:Nat}{x:Int}(hx:x∈T i):i<h.pages.length∧((h.pages.getD i default).kind=1∨(h.pages.getD i default).kind=2)∧bsP h i≤x∧x<bsP h i+h.conf.pw∧x+hlA h.words x<bsP h i+(h.pages.getD i default).used∧okA h.words x∧((h.pages.getD i default).kind=2→x=bsP h i∧hlA h.words x+1=(h.pages.getD i default).used):=by
 have t:=g.t0 i x hx
 have po:=Z09 g.p
 have pp:=Z0I g.p t.1
 have hr:=Z0d h.words x
 refine⟨t.1,t.2, ?_⟩
 rcases t.2 with k | k
 ·have m:=Z1q (g.t1 i t.1 k) hx
  exact⟨m.2.1,by omega,m.2.2,m.1,fun q=>by omega⟩
 ·have m:=g.t2 i t.1 k
  rw[m.1]at hx
  have hx:=List.mem_singleton.1 hx
  subst hx
  exact⟨by omega,by omega,by omega,m.2.1,fun _=>⟨rfl,m.2.2⟩⟩
theorem Gt.ofx{i:Nat}{x:Int}(hx:x∈T i):ofA h.conf x=((i:Int),x-bsP h i,0):=by
 have o:=g.on hx
 have po:=Z09 g.p
 have:=Z7s (c:=h.conf) (i:=i) (o:=x-bsP h i) po.1 (by omega) (by omega)
 rw[← this]
 congr 1
 unfold bsP
 omega
theorem Gt.sep{i j:Nat}{x y:Int}(hx:x∈T i)(hy:y∈T j)(hxy:x<y):x+hlA h.words x<y:=by
 have o1:=g.on hx
 have o2:=g.on hy
 have r2:=Z0d h.words y
 have r1:=Z0d h.words x
 unfold bsP at o1 o2
 rcases Nat.lt_trichotomy i j with q | q | q
 ·have:=Z41 g.p q o2.1 o1.2.1 (by omega)
  omega
 ·subst q
  rcases o1.2.1 with k | k
  ·exact Z9L (g.t1 i o1.1 k) hx hy hxy
  ·have:=(o1.2.2.2.2.2.2 k).1
   have:=(o2.2.2.2.2.2.2 k).1
   omega
 ·have:=Z41 g.p q o1.1 o2.2.1 (by omega)
  omega
theorem Gt.free{i j:Nat}{x:Int}(hi:i<h.pages.length)(hk:(h.pages.getD i default).kind=0∨(h.pages.getD i default).kind=1)(hx:x∈T j):x+hlA h.words x<bsP h i+occP (h.pages.getD i default)∨bsP h i+h.conf.pw≤x:=by
 have o:=g.on hx
 have po:=Z09 g.p
 have pp:=Z0I g.p hi
 have hoc:0≤occP (h.pages.getD i default):=by unfold occP;split<;>omega
 unfold bsP at o ⊢
 rcases Nat.lt_trichotomy i j with q | q | q
 ·have:=Z14 (i:=i) (j:=j) (pw:=h.conf.pw) (by omega) (by omega)
  omega
 ·subst q
  rw[occP,if_neg (by omega)]
  omega
 ·have:=Z41 g.p q hi o.2.1 (by omega)
  omega
theorem Gt.at'{i:Nat}{x:Int}(hx:x∈T i):atH h x=(hdA h.words x,0):=by
 have o:=g.on hx
 have r:=Z0d h.words x
 have s:sizeH (decodeH (loadA h.words x).1).1=hlA h.words x+1:=Z3h h.words x
 unfold atH
 rw[if_pos g.p,g.ofx hx]
 simp only[Int.toNat_natCast,s,if_true]
 rw[if_pos ⟨o.2.1,by omega,o.2.2.2.2.2.1⟩,if_neg]
 ·rfl
 ·have:=o.2.2.2.2.2.2
  omega
theorem Zbh{i:Nat}(hi:i<h.pages.length)(hk:(h.pages.getD i default).kind=1):∀ (f:Nat) (o:Int) (l:List Int),tile h.words (bsP h i+o) (bsP h i+(h.pages.getD i default).used) l→(∀ x∈l,x∈T i)→0≤o→(h.pages.getD i default).used-o≤f→Z2O h i f o=some l
 | 0,o,[],ht,hm,h0,hf=>rfl
 | 0,o,x::l,ht,hm,h0,hf=>by
  have:=Zd5 ht.2.2
  have:=Z0d h.words (bsP h i+o)
  omega
 | f+1,o,[],ht,hm,h0,hf=>by
  simp only[tile]at ht
  unfold Z2O
  rw[if_neg]
  show ¬ o<(h.pages.getD (i:Int).toNat default).used
  rw[Int.toNat_natCast]
  omega
 | f+1,o,x::l,ht,hm,h0,hf=>by
  have hx:=hm x (by simp)
  have e:=ht.1
  have on:=g.on hx
  have po:=Z09 g.p
  have hr:=Z0d h.words x
  have hpg:pg h (i:Int)=h.pages.getD i default:=by simp[pg]
  have ea:adr h i o=x:=by
   unfold adr address
   rw[if_pos po.1,if_pos (inB_iff.2 ⟨by omega,by omega,h0,by omega⟩),e]
   unfold bsP
   simp only
   omega
  have t3:=ht.2.2
  rw[← e]at t3
  have ih:=Zbh hi hk f (o+(hlA h.words x+1)) l (by rw[show bsP h i+(o+(hlA h.words x+1))=x+hlA h.words x+1 by omega];exact t3) (fun y hy=>hm y (List.mem_cons_of_mem _ hy)) (by omega) (by omega)
  unfold Z2O
  rw[hpg,if_pos (by omega),ea,g.at' hx]
  simp only[if_true]
  rw[if_neg (by omega),Z3h,ih]
  rfl
theorem Gt.page{i:Nat}(hi:i<h.pages.length):Z0r h i=(T i,0):=by
 have pp:=Z0I g.p hi
 have hpg:pg h (i:Int)=h.pages.getD i default:=by simp[pg]
 unfold Z0r
 rw[if_pos g.p,if_pos (by omega),hpg]
 by_cases hk:(h.pages.getD i default).kind=0∨(h.pages.getD i default).kind=3
 ·rw[if_pos hk]
  have:T i=[]:=List.eq_nil_iff_forall_not_mem.2 fun x hx=>by have:=(g.t0 i x hx).2;omega
  rw[this]
 ·rw[if_neg hk]
  by_cases h1:(h.pages.getD i default).kind=1
  ·have:=Zbh g hi h1 256 0 (T i) (by rw[Int.add_zero];exact(g.t1 i hi h1)) (fun _ q=>q) (by omega) (by omega)
   rw[this]
  ·have h2:(h.pages.getD i default).kind=2:=by omega
   have t:=g.t2 i hi h2
   have hx:bsP h i∈T i:=by rw[t.1];simp
   have on:=g.on hx
   have po:=Z09 g.p
   have hr:=Z0d h.words (bsP h i)
   have ea:adr h i 0=bsP h i:=by
    unfold adr address
    rw[if_pos po.1,if_pos (inB_iff.2 ⟨by omega,by omega,by omega,by omega⟩)]
    unfold bsP
    simp
   have:Z2O h i 256 0=some (T i):=by
    unfold Z2O
    rw[hpg,if_pos (by omega),ea,g.at' hx]
    simp only[if_true]
    rw[if_pos h2,t.1]
   rw[this]
theorem Gt.starts:∀ (f i:Nat),i+f=h.pages.length→(Z0v h f i).2=0∧∀ x,x∈(Z0v h f i).1↔∃ j,i≤j∧x∈T j
 | 0,i,hf=>by
  refine⟨rfl,fun x=>⟨fun hx=>by simp[Z0v]at hx, ?_⟩⟩
  rintro⟨j,hj,hx⟩
  have:=(g.t0 j x hx).1
  omega
 | f+1,i,hf=>by
  obtain⟨i1,i2⟩:=Gt.starts f (i+1) (by omega)
  unfold Z0v
  rw[g.page (show i<h.pages.length by omega)]
  simp only[i1,if_true]
  refine⟨trivial,fun x=>?_⟩
  rw[List.mem_append,i2]
  constructor
  ·rintro(hx | ⟨j,hj,hx⟩)
   ·exact⟨i,Nat.le_refl _,hx⟩
   ·exact⟨j,by omega,hx⟩
  ·rintro⟨j,hj,hx⟩
   by_cases q:j=i
   ·subst q;exact Or.inl hx
   ·exact Or.inr ⟨j,by omega,hx⟩
theorem Gt.objs:(Z08 h).2=0∧∀ x,x∈(Z08 h).1↔Ob h T x:=by
 have s:=g.starts h.pages.length 0 (by omega)
 have e:Z01 h=Z0v h h.pages.length 0:=by rw[Z01,if_pos g.p]
 unfold Z08
 rw[e]
 refine⟨s.1,fun x=>?_⟩
 rw[List.mem_filter,s.2]
 constructor
 ·rintro⟨⟨j,_,hj⟩,hb⟩
  have hb':(atH h x).1.kind≠0:=of_decide_eq_true hb
  rw[g.at' hj]at hb'
  exact⟨j,hj,hb'⟩
 ·rintro⟨j,hj,hb⟩
  refine⟨⟨j,by omega,hj⟩,decide_eq_true ?_⟩
  rw[g.at' hj]
  exact hb
end
section
variable {h:Heap} {T:Nat→List Int} (g:Gd h T)
include g
theorem Gd.gt:Gt h T:=⟨g.p,fun i hi hk=>(g.t1 i hi hk).1,fun i hi hk=>⟨(g.t2 i hi hk).1,(g.t2 i hi hk).2.1,(g.t2 i hi hk).2.2.1⟩,g.t0⟩
theorem Gd.on{i:Nat}{x:Int}(hx:x∈T i):i<h.pages.length∧((h.pages.getD i default).kind=1∨(h.pages.getD i default).kind=2)∧bsP h i≤x∧x<bsP h i+h.conf.pw∧x+hlA h.words x<bsP h i+(h.pages.getD i default).used∧okA h.words x∧((h.pages.getD i default).kind=2→x=bsP h i∧hlA h.words x+1=(h.pages.getD i default).used):=g.gt.on hx
theorem Gd.ofx{i:Nat}{x:Int}(hx:x∈T i):ofA h.conf x=((i:Int),x-bsP h i,0):=g.gt.ofx hx
theorem Gd.sep{i j:Nat}{x y:Int}(hx:x∈T i)(hy:y∈T j)(hxy:x<y):x+hlA h.words x<y:=g.gt.sep hx hy hxy
theorem Gd.free{i j:Nat}{x:Int}(hi:i<h.pages.length)(hk:(h.pages.getD i default).kind=0∨(h.pages.getD i default).kind=1)(hx:x∈T j):x+hlA h.words x<bsP h i+occP (h.pages.getD i default)∨bsP h i+h.conf.pw≤x:=g.gt.free hi hk hx
theorem Gd.at'{i:Nat}{x:Int}(hx:x∈T i):atH h x=(hdA h.words x,0):=g.gt.at' hx
theorem Gd.page{i:Nat}(hi:i<h.pages.length):Z0r h i=(T i,0):=g.gt.page hi
theorem Gd.objs:(Z08 h).2=0∧∀ x,x∈(Z08 h).1↔Ob h T x:=g.gt.objs
end
theorem Zhr{l:List Page}:∀ {i j:Nat},j≤i→(l.getD j default).kind≠3→(∀ m,j<m→m≤i→(l.getD m default).kind=3)→Z1j l i=j
 | 0,j,h,_,_=>by simp[Z1j];omega
 | i+1,j,h,hk,hm=>by
  unfold Z1j
  by_cases q:j=i+1
  ·subst q
   rw[if_neg hk]
  ·rw[if_pos (hm (i+1) (by omega) (Nat.le_refl _))]
   exact Zhr (by omega) hk fun m h1 h2=>hm m h1 (by omega)
theorem ZiH{ws:List Int}{a n:Int}{k:Nat}(hn:0≤n)(ha:4096≤a∧a-4096+n≤ws.length)(hk:(k:Int)<n):(Z1c ws a n).1.getD k default=(loadA ws (a+k)).1:=by
 unfold Z1c loadA
 rw[if_neg (by omega),if_pos ha,if_pos (by omega)]
 simp only[List.getD_eq_getElem?_getD]
 rw[List.getElem?_take_of_lt (by omega),List.getElem?_drop,show(a-4096).toNat+k=(a+k-4096).toNat by omega]
 rfl
section
variable {h:Heap} {T:Nat→List Int} (g:Gd h T)
include g
theorem Gd.inw{i:Nat}{x:Int}(hx:x∈T i):4096≤x∧x+hlA h.words x<4096+h.words.length:=by
 have o:=g.on hx
 have po:=Z09 g.p
 have u:=Za4 g.p o.1 o.2.1
 have h0:0≤(i:Int)*h.conf.pw:=Int.mul_nonneg (by omega) (by omega)
 unfold bsP at o
 omega
theorem Gd.head{i j:Nat}{x a:Int}(hx:x∈T j)(h1:x≤a)(h2:a≤x+hlA h.words x)(hi:i<h.pages.length)(h3:bsP h i≤a)(h4:a<bsP h i+h.conf.pw):Z1j h.pages i=j:=by
 have o:=g.on hx
 have po:=Z09 g.p
 unfold bsP at o h3 h4
 have hji:j≤i:=by
  by_cases q:j≤i
  ·exact q
  ·have:=Z14 (i:=i) (j:=j) (pw:=h.conf.pw) (by omega) (by omega)
   omega
 refine Zhr hji (by omega) fun m m1 m2=>?_
 have hms:=Z14 (i:=j) (j:=m) (pw:=h.conf.pw) (by omega) (by omega)
 have hmi:(m:Int)*h.conf.pw≤i*h.conf.pw:=Int.mul_le_mul_of_nonneg_right (by omega) (by omega)
 rcases o.2.1 with k | k
 ·have pp:=Z0I g.p o.1
  omega
 ·by_cases q:(h.pages.getD m default).kind=3
  ·exact q
  ·have:=Z41 g.p m1 (by omega) (Or.inr k) q
   omega
theorem Gd.badd{i k:Nat}(hi:i<h.pages.length)(hk:(k:Int)<h.conf.pw):badD h i (Z3N h i) k=false:=by
 have po:=Z09 g.p
 unfold badD
 have ew:Z4g h i k=(loadA h.words (bsP h i+k)).1:=by
  unfold Z4g address
  rw[if_pos po.1,if_pos (inB_iff.2 ⟨by omega,by omega,by omega,by omega⟩)]
  unfold bsP
  simp only
  rw[Int.add_assoc]
 rw[ew]
 by_cases h0:(loadA h.words (bsP h i+k)).1=0
 ·rw[h0];simp
 ·obtain⟨j,x,hx,h1,h2⟩:=g.d _ h0
  have hr:=Z0d h.words x
  have hkp:kpA h.words x≤hlA h.words x+1:=by unfold kpA;split<;>omega
  have hh:=g.head hx h1 (by omega) hi (by omega) (by omega)
  have hb:(Z3N h i).getD k default=true:=by
   unfold Z3N Z1A
   rw[hh,g.page (g.on hx).1]
   have hkk:k<h.conf.pw.toNat:=by omega
   simp only[List.getD_eq_getElem?_getD,List.getElem?_map,List.getElem?_range hkk,Option.map_some,Option.getD_some,List.any_eq_true]
   refine⟨x,hx, ?_⟩
   unfold ZaH
   have ek:Z8A h x=kpA h.words x:=by
    unfold Z8A kpA
    rw[g.at' hx]
    rw[Z3h]
    rfl
   rw[ek,Bool.and_eq_true,decide_eq_true_eq,decide_eq_true_eq]
   unfold bsP at h1 h2
   omega
  rw[hb]
  simp
theorem Gd.dirt{i:Nat}(hi:i<h.pages.length):Z3U h i (Z3N h i)=0:=by
 have hl:=Zc0 h i
 unfold Z3U
 have:(List.range (Z3N h i).length).find? (badD h i (Z3N h i))=none:=by
  rw[List.find?_eq_none]
  intro k hk
  have hk:=List.mem_range.1 hk
  rw[g.badd hi (by omega)]
  simp
 rw[this]
theorem Gd.cls{i:Nat}{x:Int}(hx:x∈T i):Z2u h i x=false:=by
 have o:=g.on hx
 unfold Z2u
 rw[g.at' hx,Z3h,Int.toNat_natCast]
 rcases o.2.1 with k | k
 ·have:=(g.t1 i o.1 k).2 x hx
  rw[k]
  simp
  omega
 ·have t:=g.t2 i o.1 k
  have hx2:=(o.2.2.2.2.2.2 k).1
  have:(hdA h.words x).kind≠0:=by rw[hx2];exact t.2.2.2
  rw[k]
  simp
  exact this
theorem Gd.pageF{i:Nat}(hi:i<h.pages.length):(pageF h i).fault=0:=by
 have hs:=g.sp i hi
 have hc:Z2h h i (T i)=0:=by
  unfold Z2h
  have:(T i).find? (Z2u h i)=none:=by
   rw[List.find?_eq_none]
   intro x hx
   rw[g.cls hx]
   simp
  rw[this]
  rfl
 unfold Go.Proofs.YtjflpmnenhdeeaaGreat.pageF
 rw[if_neg (by rintro⟨q1,q2⟩;exact q2 (hs q1)),g.page hi,if_neg (by simp),if_neg (by rw[hc];simp),if_neg (by rw[g.dirt hi];simp)]
theorem Gd.fields{i:Nat}{x:Int}(hx:x∈T i)(hk:kdA h.words x≠0):getH h x=(hdA h.words x,0)∧((Z0W h x).1.length:Int)=hlA h.words x∧∀ k:Nat,(k:Int)<hlA h.words x→(Z0W h x).1.getD k default=(loadA h.words (x+1+k)).1:=by
 have n:=g.inw hx
 have r:=Z0d h.words x
 have eg:getH h x=(hdA h.words x,0):=by
  unfold getH
  rw[if_pos g.p,if_neg (by omega),g.at' hx,if_neg]
  rintro⟨_,q⟩
  exact hk q
 have ef:Z0W h x=Z1c h.words (x+1) (hlA h.words x):=by
  unfold Z0W
  rw[eg,if_pos rfl]
  rfl
 refine⟨eg, ?_, ?_⟩
 ·rw[ef]
  unfold Z1c
  rw[if_neg (by omega),if_pos (by omega)]
  simp only[List.length_take,List.length_drop]
  omega
 ·intro k hk
  rw[ef]
  exact ZiH r.1 (by omega) hk
theorem Gd.good:Z0O h=⟨0,0,0⟩:=by
 have ob:=g.objs
 have h1:Z5t h=none:=by
  unfold Z5t
  rw[List.find?_eq_none]
  intro i hi
  have:=g.pageF (List.mem_range.1 hi)
  simp[this]
 have h2:Z0V h (Z08 h).1=⟨0,0,0⟩:=by
  unfold Z0V
  have:(List.range (Z08 h).1.length).find? (fun i=>(Z23 h (Z08 h).1 i).isSome)=none:=by
   rw[List.find?_eq_none]
   intro i hi
   have hm:(Z08 h).1.getD i default∈(Z08 h).1:=getD_mem_iff.2 ⟨i,List.mem_range.1 hi,rfl⟩
   have:Z23 h (Z08 h).1 i=none:=by
    unfold Z23
    generalize (Z08 h).1.getD i default=x at hm ⊢
    obtain⟨j,hj,hkd⟩:=(ob.2 x).1 hm
    have f:=g.fields hj hkd
    rw[List.find?_eq_none]
    intro k hk
    have hk:=List.mem_range.1 hk
    have hk2:(k:Int)<hlA h.words x:=by omega
    unfold Zc6
    rw[f.1,f.2.2 k hk2]
    intro hc
    simp only[Bool.and_eq_true,Bool.not_eq_true',decide_eq_true_eq,decide_eq_false_iff_not]at hc
    rcases g.q j x k hj hkd (by omega) hk2 hc.1.1 with q | ⟨m,q1,q2⟩
    ·exact hc.1.2 q
    ·exact hc.2 ((ob.2 _).2 ⟨m,q1,q2⟩)
   rw[this]
   simp
  rw[this]
 unfold Z0O
 rw[if_pos g.p,h1]
 simp only[h2,ne_eq,not_true_eq_false,if_false]
 rw[if_neg]
 have:=g.cr
 show ¬ h.conf.pg/4<(crowd h.pages:Int)
 omega
theorem Gd.refers{s:List Int}(hs:∀ r∈s,r=0∨Ob h T r):Z0k h s=true:=by
 unfold Z0k
 rw[Bool.and_eq_true,decide_eq_true_eq]
 refine⟨g.good, ?_⟩
 have:(List.range s.length).find? (rfsB s (Z08 h).1)=none:=by
  rw[List.find?_eq_none]
  intro i hi
  have hm:s.getD i default∈s:=getD_mem_iff.2 ⟨i,List.mem_range.1 hi,rfl⟩
  unfold rfsB
  rw[decide_eq_true_eq]
  rintro⟨q1,q2⟩
  rcases hs _ hm with q | q
  ·exact q1 q
  ·exact q2 ((g.objs.2 _).2 q)
 rw[this]
 rfl
end
theorem decode_encode{hd:Header}(hv:Z0i hd=true)(hm:0≤hd.map∧hd.map≤4294967295):decodeH (Z06 hd).1=(hd,true):=by
 have b:=validH_iff.1 hv
 have e1:Z06 hd=(1+4*hd.kind+16*hd.length+65536*hd.map,0):=by rw[Z06,if_pos hv]
 have e2:Z2f (1+4*hd.kind+16*hd.length+65536*hd.map)=hd:=by
  obtain⟨k,l,m⟩:=hd
  simp only at b hm
  simp only[Z2f,Header.mk.injEq]
  omega
 rw[e1]
 unfold decodeH
 simp only[e2,e1]
 simp
theorem Z7X{l l':List Page}:∀ n:Nat,(∀ i,i<n→(l'.getD i default).kind=1→0<(l'.getD i default).pins→(l.getD i default).kind=1∧0<(l.getD i default).pins)→Z0J l' n≤Z0J l n
 | 0,_=>Nat.le_refl _
 | n+1,hh=>by
  have ih:=Z7X n fun i hi=>hh i (by omega)
  have hn:=hh n (by omega)
  unfold Z0J
  split
  ·rename_i c
   rw[if_pos (hn c.1 c.2)]
   omega
  ·split<;>omega
theorem Z9v{l:List Page}{i:Nat}{p:Page}(hi:i<l.length):∀ n:Nat,Z0J (l.set i p) n≤Z0J l n+1∧(n≤i→Z0J (l.set i p) n≤Z0J l n)
 | 0=>⟨by simp[Z0J],fun _=>Nat.le_refl _⟩
 | n+1=>by
  obtain⟨i1,i2⟩:=Z9v (p:=p) hi n
  unfold Z0J
  rw[Z0q hi]
  by_cases q:i=n
  ·have:=i2 (by omega)
   subst q
   refine⟨?_,fun q=>by omega⟩
   split<;>split<;>omega
  ·rw[if_neg q]
   refine⟨?_,fun q2=>?_⟩
   ·split<;>omega
   ·have:=i2 (by omega)
    split<;>omega
theorem Z62{l l':List Page}(hl:l'.length=l.length)(hh:∀ i,i<l.length→(l'.getD i default).kind=1→0<(l'.getD i default).pins→(l.getD i default).kind=1∧0<(l.getD i default).pins):crowd l'≤crowd l:=by
 unfold crowd
 rw[hl]
 exact Z7X _ hh
theorem Gd.pages{h h':Heap}{T:Nat→List Int}(g:Gd h T)(hp:Z03 h'=true)(hc:h'.conf=h.conf)(hw:h'.words=h.words)(hs:h'.space=h.space)(hl:h'.pages.length=h.pages.length)
  (hh:∀ i,i<h.pages.length→(h'.pages.getD i default).kind=(h.pages.getD i default).kind∧(h'.pages.getD i default).space=(h.pages.getD i default).space∧(h'.pages.getD i default).used=(h.pages.getD i default).used) (hcr:(crowd h'.pages:Int)≤h.conf.pg/4):Gd h' T:=by
 have hb:∀ i,bsP h' i=bsP h i:=fun i=>by rw[bsP,bsP,hc]
 refine⟨hp, ?_, ?_, ?_, ?_,by rw[hw];exact g.d,by rw[hw];exact g.q,by rw[hc];exact hcr⟩
 ·intro i hi hk
  rw[hl]at hi
  rw[(hh i hi).1]at hk
  rw[(hh i hi).2.1,hs]
  exact g.sp i hi hk
 ·intro i hi hk
  rw[hl]at hi
  rw[(hh i hi).1]at hk
  rw[(hh i hi).2.2,hw,hb,hc]
  exact g.t1 i hi hk
 ·intro i hi hk
  rw[hl]at hi
  rw[(hh i hi).1]at hk
  rw[(hh i hi).2.2,hw,hb]
  exact g.t2 i hi hk
 ·intro i x hx
  have t:=g.t0 i x hx
  rw[hl,(hh i t.1).1]
  exact t
theorem Gd.store{h:Heap}{T:Nat→List Int}(g:Gd h T){x k v:Int}(hx:Ob h T x)(hk:0≤k∧k<hlA h.words x)(hv:Z0m (hdA h.words x) k=true→v=0∨Ob h T v) :
  Gd { h with words:=(Z0E h.words (x+1+k) v).1 } T∧(∀ i y,y∈T i→(loadA (Z0E h.words (x+1+k) v).1 y).1=(loadA h.words y).1):=by
 obtain⟨j,hj,hkd⟩:=hx
 have n:=g.inw hj
 have hin:4096≤x+1+k∧x+1+k<4096+h.words.length:=by omega
 have hlen:=Z2s (ws:=h.words) (v:=v) hin
 have key:∀ i y,y∈T i→(loadA (Z0E h.words (x+1+k) v).1 y).1=(loadA h.words y).1:=by
  intro i y hy
  rw[Z0C hin]
  intro e
  have:=g.sep hj hy (by omega)
  omega
 have ky:∀ i y,y∈T i→okA h.words y∧okA (Z0E h.words (x+1+k) v).1 y∧hlA (Z0E h.words (x+1+k) v).1 y=hlA h.words y∧kdA (Z0E h.words (x+1+k) v).1 y=kdA h.words y∧hdA (Z0E h.words (x+1+k) v).1 y=hdA h.words y∧kpA (Z0E h.words (x+1+k) v).1 y=kpA h.words y:=by
  intro i y hy
  have o:=Z1W (key i y hy)
  have:=(g.on hy).2.2.2.2.2.1
  exact⟨this,o.1 this,o.2⟩
 refine⟨⟨?_,g.sp, ?_, ?_,g.t0, ?_, ?_,g.cr⟩,key⟩
 ·have q:=g.p
  rw[Z1d]at q ⊢
  refine⟨q.1, ?_,q.2.2.1,q.2.2.2.1,q.2.2.2.2.1,q.2.2.2.2.2⟩
  simp only[hlen]
  exact q.2.1
 ·intro i hi hk1
  have t:=g.t1 i hi hk1
  exact⟨Z1M t.1 fun y hy=>⟨(ky i y hy).2.1,(ky i y hy).2.2.1⟩,fun y hy=>by rw[(ky i y hy).2.2.1];exact t.2 y hy⟩
 ·intro i hi hk2
  have t:=g.t2 i hi hk2
  have q:=ky i (bsP h i) (by rw[t.1];simp)
  refine⟨t.1,q.2.1, ?_, ?_⟩
  ·exact q.2.2.1▸t.2.2.1
  ·exact q.2.2.2.1▸t.2.2.2
 ·intro a ha
  by_cases e:a=x+1+k
  ·refine⟨j,x,hj,by omega, ?_⟩
   simp only
   rw[(ky j x hj).2.2.2.2.2,kpA,if_neg hkd]
   omega
  ·simp only at ha
   rw[Z0C hin e]at ha
   obtain⟨i,y,hy,h1,h2⟩:=g.d a ha
   refine⟨i,y,hy,h1, ?_⟩
   simp only
   rw[(ky i y hy).2.2.2.2.2]
   exact h2
 ·intro i y m hy hkd2 h0 h1 hp
  simp only at hkd2 h1 hp ⊢
  obtain⟨c0,c1,c2,c3,c4,c5⟩:=ky i y hy
  rw[c3]at hkd2
  rw[c2]at h1
  rw[c4]at hp
  have fin:∀ z,z=0∨Ob h T z→z=0∨∃ j,z∈T j∧kdA (Z0E h.words (x+1+k) v).1 z≠0:=by
   rintro z (q | ⟨b,b1,b2⟩)
   ·exact Or.inl q
   ·exact Or.inr ⟨b,b1,by rw[(ky b z b1).2.2.2.1];exact b2⟩
  by_cases e:y+1+m=x+1+k
  ·have hyx:y=x:=by
    rcases Int.lt_trichotomy y x with q | q | q
    ·have:=g.sep hy hj q;omega
    ·exact q
    ·have:=g.sep hj hy q;omega
   subst hyx
   have hmk:m=k:=by omega
   subst hmk
   rw[Z2x hin]
   exact fin _ (hv hp)
  ·rw[Z0C hin e]
   exact fin _ (g.q i y m hy hkd2 h0 h1 hp)
theorem Gd.add{h h':Heap}{T:Nat→List Int}(g:Gd h T){i:Nat}{a:Int}{hd:Header}(hv:Z0i hd=true)(hm:0≤hd.map∧hd.map≤4294967295)(hk:hd.kind≠0)
  (hp:Z03 h'=true) (hc:h'.conf=h.conf) (hs:h'.space=h.space) (hl:h'.pages.length=h.pages.length) (hw:h'.words=(Z0b h.words a (objW hd)).1)
  (hin:4096≤a∧a+sizeH hd≤4096+h.words.length) (hi:i<h.pages.length)
  (hj:∀ j,j<h.pages.length→j≠i→h'.pages.getD j default=h.pages.getD j default∨((h.pages.getD j default).kind=0∧(h'.pages.getD j default).kind=3∧(h'.pages.getD j default).space=h.space))
  (hI:((h.pages.getD i default).kind=0∨(h.pages.getD i default).kind=1)∧(h'.pages.getD i default).kind=1∧a=bsP h i+occP (h.pages.getD i default)∧(h'.pages.getD i default).used=occP (h.pages.getD i default)+sizeH hd∧sizeH hd≤Z00 h.conf∨(h.pages.getD i default).kind=0∧(h'.pages.getD i default).kind=2∧a=bsP h i∧(h'.pages.getD i default).used=sizeH hd)
  (hsp:(h'.pages.getD i default).space=h.space) (hcr:crowd h'.pages≤crowd h.pages) (hdis:∀ j x,x∈T j→x+hlA h.words x<a∨a+sizeH hd≤x) :
  Gd h' (fun j=>if j=i then T i++[a]else T j)∧kdA h'.words a≠0∧hdA h'.words a=hd∧(∀ k,a<k→k<a+sizeH hd→(loadA h'.words k).1=0)∧(∀ k,k<a∨a+sizeH hd≤k→loadA h'.words k=loadA h.words k):=by
 have ow:=Zdv hv hm
 have hs1:sizeH hd=hd.length+1:=by rw[sizeH,if_pos hv]
 have vb:=validH_iff.1 hv
 have hin':4096≤a∧a-4096+(objW hd).length≤h.words.length:=by omega
 have out:∀ k,k<a∨a+sizeH hd≤k→loadA h'.words k=loadA h.words k:=by
  intro k hk
  rw[hw]
  exact Z1F hin' (by omega)
 have wa:(loadA h'.words a).1=(Z06 hd).1:=by
  rw[hw,Z1B hin' (by omega)]
  simp[objW]
 have z:∀ k,a<k→k<a+sizeH hd→(loadA h'.words k).1=0:=by
  intro k h1 h2
  rw[hw,Z1B hin' (by omega)]
  have:(k-a).toNat=(k-a-1).toNat+1:=by omega
  rw[this,objW]
  simp[List.getD_eq_getElem?_getD,List.getElem?_replicate]
  split<;>rfl
 have de:=decode_encode hv hm
 have ha1:hdA h'.words a=hd:=by rw[hdA,wa,de]
 have ha2:okA h'.words a:=by rw[okA,wa,de]
 have ha3:hlA h'.words a=hd.length:=by rw[hlA,wa,de]
 have ha4:kdA h'.words a≠0:=by rw[kdA,ha1];exact hk
 have hb:∀ j,bsP h' j=bsP h j:=fun j=>by rw[bsP,bsP,hc]
 have ky:∀ j x,x∈T j→okA h'.words x∧hlA h'.words x=hlA h.words x∧kdA h'.words x=kdA h.words x∧hdA h'.words x=hdA h.words x∧kpA h'.words x=kpA h.words x∧∀ m,0≤m→m≤hlA h.words x→loadA h'.words (x+m)=loadA h.words (x+m):=by
  intro j x hx
  have d:=hdis j x hx
  have r:=Z0d h.words x
  have o:=Z1W (ws:=h.words) (ws':=h'.words) (a:=x) (by rw[out x (by omega)])
  refine⟨o.1 (g.on hx).2.2.2.2.2.1,o.2.1,o.2.2.1,o.2.2.2.1,o.2.2.2.2,fun m h1 h2=>out _ (by omega)⟩
 have mem:∀ j x,x∈(if j=i then T i++[a]else T j)→x∈T j∨(j=i∧x=a):=by
  intro j x hx
  split at hx
  ·rename_i q
   subst q
   rcases List.mem_append.1 hx with hx | hx
   ·exact Or.inl hx
   ·exact Or.inr ⟨rfl,List.mem_singleton.1 hx⟩
  ·exact Or.inl hx
 have mem2:∀ j x,x∈T j→x∈(if j=i then T i++[a]else T j):=by
  intro j x hx
  split
  ·rename_i q
   subst q
   exact List.mem_append_left _ hx
  ·exact hx
 have mem3:a∈(if i=i then T i++[a]else T i):=by simp
 have hnil:(h.pages.getD i default).kind=0→T i=[]:=fun q=>List.eq_nil_iff_forall_not_mem.2 fun x hx=>by have:=(g.t0 i x hx).2;omega
 refine⟨⟨hp, ?_, ?_, ?_, ?_, ?_, ?_, ?_⟩,ha4,ha1,z,out⟩
 ·intro j hj1 hk1
  rw[hl]at hj1
  rw[hs]
  by_cases q:j=i
  ·subst q;exact hsp
  ·rcases hj j hj1 q with e | e
   ·rw[e]at hk1 ⊢
    exact g.sp j hj1 hk1
   ·exact e.2.2
 ·intro j hj1 hk1
  rw[hl]at hj1
  rw[hb,hc]
  by_cases q:j=i
  ·subst q
   simp only[if_true]
   rcases hI with⟨c1,c2,c3,c4,c5⟩ | c
   ·refine⟨?_, ?_⟩
    ·have last:tile h'.words a (bsP h j+(h'.pages.getD j default).used) [a]:=⟨rfl,ha2,by rw[ha3];simp only[tile];omega⟩
     refine Zaz (b:=a) ?_ last
     rcases c1 with c1 | c1
     ·rw[hnil c1]
      rw[occP,if_pos c1]at c3
      simp only[tile];omega
     ·have t:=(g.t1 j hi c1).1
      rw[occP,if_neg (by omega)]at c3
      rw[c3]
      exact Z1M t fun x hx=>⟨(ky j x hx).1,(ky j x hx).2.1⟩
    ·intro x hx
     rcases List.mem_append.1 hx with hx | hx
     ·rw[(ky j x hx).2.1]
      rcases c1 with c1 | c1
      ·rw[hnil c1]at hx;simp at hx
      ·exact(g.t1 j hi c1).2 x hx
     ·have:=List.mem_singleton.1 hx
      subst this
      omega
   ·omega
  ·rw[if_neg q]
   rcases hj j hj1 q with e | e
   ·rw[e]at hk1 ⊢
    have t:=g.t1 j hj1 hk1
    exact⟨Z1M t.1 fun x hx=>⟨(ky j x hx).1,(ky j x hx).2.1⟩,fun x hx=>by rw[(ky j x hx).2.1];exact t.2 x hx⟩
   ·omega
 ·intro j hj1 hk2
  rw[hl]at hj1
  rw[hb]
  by_cases q:j=i
  ·subst q
   simp only[if_true]
   rcases hI with c | ⟨c1,c2,c3,c4⟩
   ·omega
   ·rw[hnil c1,← c3,ha3]
    exact⟨rfl,ha2,by omega,ha4⟩
  ·rw[if_neg q]
   rcases hj j hj1 q with e | e
   ·rw[e]at hk2 ⊢
    have t:=g.t2 j hj1 hk2
    have k:=ky j (bsP h j) (by rw[t.1];simp)
    exact⟨t.1,k.1,by rw[k.2.1];exact t.2.2.1,by rw[k.2.2.1];exact t.2.2.2⟩
   ·omega
 ·intro j x hx
  rw[hl]
  rcases mem j x hx with hx | ⟨q,_⟩
  ·have t:=g.t0 j x hx
   refine⟨t.1, ?_⟩
   by_cases q:j=i
   ·subst q
    rcases hI with c | c<;>omega
   ·rcases hj j t.1 q with e | e
    ·rw[e];exact t.2
    ·omega
  ·subst q
   exact⟨hi,by rcases hI with c | c<;>omega⟩
 ·intro k hk0
  by_cases hr:k<a∨a+sizeH hd≤k
  ·rw[out k hr]at hk0
   obtain⟨j,x,hx,h1,h2⟩:=g.d k hk0
   exact⟨j,x,mem2 j x hx,h1,by rw[(ky j x hx).2.2.2.2.1];exact h2⟩
  ·refine⟨i,a,mem3,by omega, ?_⟩
   rw[kpA,if_neg ha4,ha3]
   omega
 ·intro j x k hx hkd h0 h1 hpt
  rcases mem j x hx with hx | ⟨_,q⟩
  ·have c:=ky j x hx
   rw[c.2.2.1]at hkd
   rw[c.2.1]at h1
   rw[c.2.2.2.1]at hpt
   have e:=c.2.2.2.2.2 (1+k) (by omega) (by omega)
   rw[← Int.add_assoc]at e
   rw[e]
   rcases g.q j x k hx hkd h0 h1 hpt with q | ⟨b,b1,b2⟩
   ·exact Or.inl q
   ·exact Or.inr ⟨b,mem2 b _ b1,by rw[(ky b _ b1).2.2.1];exact b2⟩
  ·subst q
   rw[ha3]at h1
   exact Or.inl (z _ (by omega) (by omega))
 ·rw[hc]
  have:=g.cr
  omega
structure NewOk (h h':Heap) (T:Nat→List Int) (hd:Header) (i:Nat) (a:Int):Prop where
 g:Gd h' (fun j=>if j=i then T i++[a]else T j)
 k:kdA h'.words a≠0
 e:hdA h'.words a=hd
 z:∀ k,a<k→k<a+sizeH hd→(loadA h'.words k).1=0
 o:∀ k,k<a∨a+sizeH hd≤k→loadA h'.words k=loadA h.words k
 d:∀ j x,x∈T j→x+hlA h.words x<a∨a+sizeH hd≤x
 c:h'.conf=h.conf
theorem Zfh{c:Conf}{n:Int}(hn:¬ 0<need c n)(h0:0≤need c n):n≤Z00 c:=by
 unfold need at hn h0
 split at h0
 ·rename_i hc
  rw[if_pos hc]at hn
  have hb:=validB_iff.1 hc.1
  rw[Z00,if_pos hc.1,Int.tdiv_eq_ediv_of_nonneg (by omega)]
  split at h0
  ·rename_i hd;exact hd
  ·rename_i hd
   rw[if_neg hd]at hn
   have e:=Int.mul_ediv_add_emod (n+c.pw-1) c.pw
   have:=Int.emod_lt_of_pos (n+c.pw-1) (b:=c.pw) (by omega)
   have hz:(n+c.pw-1)/c.pw=0:=by omega
   rw[hz]at e
   omega
 ·omega
theorem Gd.newOk{h:Heap}{T:Nat→List Int}(g:Gd h T){hd:Header}(hw:WOk h.words)(hm:0≤hd.map∧hd.map≤4294967295)(e:(new7 h hd).2.2=0):∃ i,NewOk h (new7 h hd).1 T hd i (new7 h hd).2.1:=by
 obtain⟨k1,k2,k3,k4,k5,k6,k7,k8⟩:=Zdl hw hm e
 obtain⟨a1,a2,a3,a4,a5⟩:=Z4Y k2
 have po:=Z09 g.p
 have hpt:=g.p
 rw[Z1d]at hpt
 obtain⟨p1,p2,p3,p4,p5,p6⟩:=hpt
 have hin:4096≤(put7 h hd).2.1∧(put7 h hd).2.1+sizeH hd≤4096+h.words.length:=⟨k3.lo,k3.hi⟩
 have e1:(new7 h hd).1.conf=h.conf:=by rw[k6];exact k3.c
 have e2:(new7 h hd).1.space=h.space:=by rw[k6];exact k3.sp
 have e3:(new7 h hd).1.pages.length=h.pages.length:=by rw[k6];exact k3.l
 have e4:(new7 h hd).1.words=(Z0b h.words (put7 h hd).2.1 (objW hd)).1:=by rw[k6]
 have e5:(new7 h hd).1.pages=(put7 h hd).1.pages:=by rw[k6]
 rw[k5]
 have fin:∀ i:Nat,i<h.pages.length→(∀ j,j<h.pages.length→j≠i→(new7 h hd).1.pages.getD j default=h.pages.getD j default∨((h.pages.getD j default).kind=0∧((new7 h hd).1.pages.getD j default).kind=3∧((new7 h hd).1.pages.getD j default).space=h.space)) →
   ((h.pages.getD i default).kind=0∨(h.pages.getD i default).kind=1)∧((new7 h hd).1.pages.getD i default).kind=1∧(put7 h hd).2.1=bsP h i+occP (h.pages.getD i default)∧((new7 h hd).1.pages.getD i default).used=occP (h.pages.getD i default)+sizeH hd∧sizeH hd≤Z00 h.conf∨(h.pages.getD i default).kind=0∧((new7 h hd).1.pages.getD i default).kind=2∧(put7 h hd).2.1=bsP h i∧((new7 h hd).1.pages.getD i default).used=sizeH hd →
   ((new7 h hd).1.pages.getD i default).space=h.space→crowd (new7 h hd).1.pages≤crowd h.pages→(∀ j x,x∈T j→x+hlA h.words x<(put7 h hd).2.1∨(put7 h hd).2.1+sizeH hd≤x)→∃ i,NewOk h (new7 h hd).1 T hd i (put7 h hd).2.1:=by
  intro i hi hj hI hsp hcr hdis
  obtain⟨q1,q2,q3,q4,q5⟩:=g.add a1 hm a5 k7 e1 e2 e3 e4 hin hi hj hI hsp hcr hdis
  exact⟨i,q1,q2,q3,q4,q5,hdis,e1⟩
 rw[e5]at fin
 by_cases hn:0<need h.conf (sizeH hd)
 ·have e7:put7 h hd=Z0n h (sizeH hd) (need h.conf (sizeH hd)):=by rw[put7,if_pos hn]
  rw[e7]at k4 fin ⊢
  by_cases hg:0≤first h.pages (need h.conf (sizeH hd))∧Z1e h.pages+need h.conf (sizeH hd)≤Z22 h.conf
  ·obtain⟨g1,g2,g3⟩:=Z1z hg.1
   have el:(Z28 h.conf h.pages (first h.pages (need h.conf (sizeH hd))) h.space (sizeH hd)).1=tookP h.pages (first h.pages (need h.conf (sizeH hd))).toNat (need h.conf (sizeH hd)).toNat ⟨2,h.space,sizeH hd,0⟩ ⟨3,h.space,0,0⟩:=by
    rw[Z28,if_pos ⟨g1,by omega⟩,Z2l,if_pos (by omega),if_pos g3]
   have e8:Z0n h (sizeH hd) (need h.conf (sizeH hd))=(⟨h.conf,h.words,tookP h.pages (first h.pages (need h.conf (sizeH hd))).toNat (need h.conf (sizeH hd)).toNat ⟨2,h.space,sizeH hd,0⟩ ⟨3,h.space,0,0⟩,h.space,h.bump⟩,4096+first h.pages (need h.conf (sizeH hd))*h.conf.pw,true):=by rw[Z0n,if_pos hg,el]
   have hf:∀ j,j<(need h.conf (sizeH hd)).toNat→(h.pages.getD ((first h.pages (need h.conf (sizeH hd))).toNat+j) default).kind=0:=freeK_iff.1 g3
   have hu:=Z4q g1
   rw[e8]at fin ⊢
   simp only at fin ⊢
   generalize hk:need h.conf (sizeH hd)=k at *
   generalize hfi:first h.pages k=f at *
   have hge:∀ j,(tookP h.pages f.toNat k.toNat ⟨2,h.space,sizeH hd,0⟩ ⟨3,h.space,0,0⟩).getD j default=if j=f.toNat then⟨2,h.space,sizeH hd,0⟩else if f.toNat<j∧j<f.toNat+k.toNat then⟨3,h.space,0,0⟩else h.pages.getD j default:=Z6f (by omega) (by omega)
   have h0:=hf 0 (by omega)
   rw[Nat.add_zero]at h0
   refine fin f.toNat (by omega) ?_ ?_ ?_ ?_ ?_
   ·intro j hj1 hj2
    rw[hge,if_neg hj2]
    split
    ·rename_i q
     have:=hf (j-f.toNat) (by omega)
     rw[show f.toNat+(j-f.toNat)=j by omega]at this
     exact Or.inr ⟨this,rfl,rfl⟩
    ·exact Or.inl rfl
   ·rw[hge,if_pos rfl]
    refine Or.inr ⟨h0,rfl, ?_,rfl⟩
    rw[bsP,Int.toNat_of_nonneg (by omega)]
   ·rw[hge,if_pos rfl]
   ·refine Z62 (Z5T (by omega)) fun j hj1 q1 q2=>?_
    rw[hge]at q1 q2
    split at q1
    ·simp at q1
    ·rename_i c1
     rw[if_neg c1]at q2
     split at q1
     ·simp at q1
     ·rename_i c2
      rw[if_neg c2]at q2
      exact⟨q1,q2⟩
   ·intro j x hx
    have o:=g.on hx
    have hr:=Z0d h.words x
    unfold bsP at o
    have hfe:((f.toNat:Nat):Int)=f:=by omega
    by_cases q:j<f.toNat
    ·have:=Z41 g.p q (by omega) o.2.1 (by omega)
     rw[hfe]at this
     omega
    ·have hjk:f.toNat+k.toNat≤j:=by
      by_cases q2:f.toNat+k.toNat≤j
      ·exact q2
      ·have:=hf (j-f.toNat) (by omega)
       rw[show f.toNat+(j-f.toNat)=j by omega]at this
       omega
     have:=Int.mul_le_mul_of_nonneg_right (show f+k≤(j:Int) by omega) (show 0≤h.conf.pw by omega)
     rw[Int.add_mul]at this
     omega
  ·rw[Z0n,if_neg hg]at k4
   simp at k4
 ·have e7:put7 h hd=Z0e h (sizeH hd):=by rw[put7,if_neg hn]
  have hsm:=Zfh hn a4
  have hsw:Z00 h.conf≤h.conf.pw:=by
   rw[Z00,if_pos p1,Int.tdiv_eq_ediv_of_nonneg (by omega)]
   omega
  rw[e7]at k4 fin ⊢
  by_cases hf:Z5X h (sizeH hd)
  ·have e8:Z0e h (sizeH hd)=(⟨h.conf,h.words,Z21 h.pages h.bump.toNat (sizeH hd),h.space,h.bump⟩,4096+h.bump*h.conf.pw+(h.pages.getD h.bump.toNat default).used,true):=by rw[Z0e,if_pos hf]
   unfold Z5X at hf
   have hbi:h.bump.toNat<h.pages.length:=by omega
   have hk:(h.pages.getD h.bump.toNat default).kind=1:=by omega
   have hbe:((h.bump.toNat:Nat):Int)=h.bump:=by omega
   have hoc:occP (h.pages.getD h.bump.toNat default)=(h.pages.getD h.bump.toNat default).used:=by rw[occP,if_neg (by omega)]
   rw[e8,Z3x]at fin
   rw[e8]
   simp only at fin ⊢
   refine fin h.bump.toNat hbi ?_ ?_ ?_ ?_ ?_
   ·intro j hj1 hj2
    rw[Z0q hbi,if_neg (fun q=>hj2 q.symm)]
    exact Or.inl rfl
   ·rw[Z0q hbi,if_pos rfl,hoc]
    refine Or.inl ⟨Or.inr hk,hk, ?_,rfl,hsm⟩
    rw[bsP,hbe]
   ·rw[Z0q hbi,if_pos rfl]
    exact hf.2.1
   ·refine Z62 (by rw[List.length_set]) fun j hj1 q1 q2=>?_
    rw[Z0q hbi]at q1 q2
    split at q1
    ·rename_i c
     rw[if_pos c]at q2
     subst c
     exact⟨q1,q2⟩
    ·rename_i c
     rw[if_neg c]at q2
     exact⟨q1,q2⟩
   ·intro j x hx
    have:=g.free hbi (Or.inr hk) hx
    rw[hoc,bsP,hbe]at this
    omega
  ·by_cases hg:0≤first h.pages 1∧(Z1e h.pages:Int)<Z22 h.conf
   ·have e8:Z0e h (sizeH hd)=(⟨h.conf,h.words,Z21 (Z2D h) (first h.pages 1).toNat (sizeH hd),h.space,first h.pages 1⟩,4096+first h.pages 1*h.conf.pw+((Z2D h).getD (first h.pages 1).toNat default).used,true):=by rw[Z0e,if_neg hf,if_pos hg]
    obtain⟨g1,g2,g3⟩:=Z3b p4 hg.1 (sizeH hd)
    have g4:=congrArg Page.used (Z2y p4 hg.1).2.2.2
    simp only at g4
    have hbe:(((first h.pages 1).toNat:Nat):Int)=first h.pages 1:=by omega
    have hoc:occP (h.pages.getD (first h.pages 1).toNat default)=0:=by rw[occP,if_pos g2]
    rw[e8,g1,g4]at fin
    rw[e8,g4]
    simp only at fin ⊢
    refine fin (first h.pages 1).toNat g3 ?_ ?_ ?_ ?_ ?_
    ·intro j hj1 hj2
     rw[Z0q g3,if_neg (fun q=>hj2 q.symm)]
     exact Or.inl rfl
    ·rw[Z0q g3,if_pos rfl,hoc]
     refine Or.inl ⟨Or.inl g2,rfl, ?_,by simp,hsm⟩
     rw[bsP,hbe]
    ·rw[Z0q g3,if_pos rfl]
    ·refine Z62 (by rw[List.length_set]) fun j hj1 q1 q2=>?_
     rw[Z0q g3]at q1 q2
     split at q1
     ·rename_i c
      rw[if_pos c]at q2
      simp at q2
     ·rename_i c
      rw[if_neg c]at q2
      exact⟨q1,q2⟩
    ·intro j x hx
     have:=g.free g3 (Or.inl g2) hx
     rw[hoc,bsP,hbe]at this
     omega
   ·rw[Z0e,if_neg hf,if_neg hg]at k4
    simp at k4
def RtOb(h:Heap)(T:Nat→List Int)(l:List Int):Prop:=∀ r∈l,r=0∨Ob h T r
def WG(w:WorldM):Prop:=∃ T,Gd w.heap T∧RtOb w.heap T w.strong∧RtOb w.heap T w.weak
theorem NewOk.ob{h h':Heap}{T:Nat→List Int}{hd:Header}{i:Nat}{a:Int}(n:NewOk h h' T hd i a){x:Int}(hx:Ob h T x):Ob h' (fun j=>if j=i then T i++[a]else T j) x:=by
 obtain⟨j,hj,hk⟩:=hx
 have r:=Z0d h.words x
 have o:=Z1W (ws:=h.words) (ws':=h'.words) (a:=x) (by rw[n.o x (by have:=n.d j x hj;omega)])
 refine⟨j, ?_,by rw[o.2.2.1];exact hk⟩
 show x∈(if j=i then T i++[a]else T j)
 split
 ·rename_i q;subst q;exact List.mem_append_left _ hj
 ·exact hj
theorem NewOk.ob0{h h':Heap}{T:Nat→List Int}{hd:Header}{i:Nat}{a:Int}(n:NewOk h h' T hd i a):Ob h' (fun j=>if j=i then T i++[a]else T j) a :=
 ⟨i,by simp,n.k⟩
theorem WG.put{w:WorldM}(h:WG w)(hw:WOk w.heap.words){hd:Header}(hm:0≤hd.map∧hd.map≤4294967295):WG (w.put hd):=by
 unfold WorldM.put
 split
 ·rename_i e
  obtain⟨T,g,g1,g2⟩:=h
  obtain⟨i,n⟩:=g.newOk hw hm e
  refine⟨_,n.g,fun r hr=>?_,fun r hr=>?_⟩
  ·rcases List.mem_append.1 hr with hr | hr
   ·rcases g1 r hr with q | q
    ·exact Or.inl q
    ·exact Or.inr (n.ob q)
   ·have:=List.mem_singleton.1 hr
    subst this
    exact Or.inr n.ob0
  ·rcases g2 r hr with q | q
   ·exact Or.inl q
   ·exact Or.inr (n.ob q)
 ·exact h
theorem WG.pick{w:WorldM}{T:Nat→List Int}(g1:RtOb w.heap T w.strong)(g2:RtOb w.heap T w.weak)(t:Tape):w.pick t=0∨Ob w.heap T (w.pick t):=by
 rcases Zea w t with e | e | e
 ·exact Or.inl e
 ·exact g1 _ e
 ·exact g2 _ e
theorem Gd.setf{h:Heap}{T:Nat→List Int}(g:Gd h T)(hw:WOk h.words){a i v:Int}(hv:0≤v∧v≤18446744073709551615)(ha:Ob h T a)(hi:0≤i∧i<(getH h a).1.length)(hp:Z0m (getH h a).1 i=true→v=0∨Ob h T v):Gd (Z0f h a i v).1 T∧∀ x,Ob h T x→Ob (Z0f h a i v).1 T x:=by
 obtain⟨j,hj,hk⟩:=ha
 have f:=g.fields hj hk
 obtain⟨s1,s2,s3⟩:=Z5J hw hv (a:=a) (i:=i) (by rw[f.1]) hi
 rw[f.1]at hi hp
 have q:=g.store (v:=v) ⟨j,hj,hk⟩ hi hp
 rw[s1]
 refine⟨q.1, ?_⟩
 rintro x ⟨m,m1,m2⟩
 refine⟨m,m1, ?_⟩
 have:=(Z1W (q.2 m x m1)).2.2.1
 simp only
 rw[this]
 exact m2
theorem WG.link{w:WorldM}{n:Nat}(h:WG w)(hm:MOk w n)(hn:n≤1000000)(t:Tape):WG (w.link t):=by
 unfold WorldM.link
 split
 ·rename_i hc
  obtain⟨T,g,g1,g2⟩:=h
  have hw:=hm.wm hn
  have gg:=Z3Y hc.1
  have n1:=Z0G (w.pickT (w.pickT t)) (n:=8) (by decide)
  have hi:0≤Z1J w t∧Z1J w t<(getH w.heap (w.pick t)).1.length:=by
   unfold Z1J
   rw[Int.tmod_eq_emod_of_nonneg n1.1]
   exact⟨Int.emod_nonneg _ (by omega),Int.emod_lt_of_pos _ (by omega)⟩
  have hv:0≤Z1L w t∧Z1L w t≤18446744073709551615:=by
   unfold Z1L
   split
   ·exact Z2P hw _
   ·have:=Z0G ((w.pickT (w.pickT t)).step 8) (n:=1048576) (by decide)
    omega
  have ho:Ob w.heap T (w.pick t):=by
   rcases WG.pick g1 g2 t with q | q
   ·omega
   ·exact q
  have s:=g.setf hm.words hv ho hi (fun q=>by
   unfold Z1L
   rw[if_pos q]
   exact WG.pick g1 g2 _)
  exact⟨T,s.1,fun r hr=>(g1 r hr).imp id (s.2 r),fun r hr=>(g2 r hr).imp id (s.2 r)⟩
 ·exact h
theorem WG.pinned{w:WorldM}(h:WG w){i:Nat}{d:Int}(hp:Z03 (pinB w i d).heap=true)(hi:i<w.heap.pages.length)(hd:d=-1∨0<(w.heap.pages.getD i default).pins∨(w.heap.pages.getD i default).kind=2∨(crowd w.heap.pages:Int)<w.heap.conf.pg/4):WG (pinB w i d):=by
 obtain⟨T,g,g1,g2⟩:=h
 have pp:=Z0I g.p hi
 have ks:∀ j,j<w.heap.pages.length→((pinB w i d).heap.pages.getD j default).kind=(w.heap.pages.getD j default).kind∧((pinB w i d).heap.pages.getD j default).space=(w.heap.pages.getD j default).space∧((pinB w i d).heap.pages.getD j default).used=(w.heap.pages.getD j default).used:=by
  intro j hj
  simp only[pinB]
  rw[Z0q hi]
  split
  ·rename_i q;subst q;exact⟨rfl,rfl,rfl⟩
  ·exact⟨rfl,rfl,rfl⟩
 have hcr:(crowd (pinB w i d).heap.pages:Int)≤w.heap.conf.pg/4:=by
  have c0:=g.cr
  have mono:(0<(w.heap.pages.getD i default).pins+d→(w.heap.pages.getD i default).kind=1→0<(w.heap.pages.getD i default).pins)→(crowd (pinB w i d).heap.pages:Int)≤w.heap.conf.pg/4:=by
   intro hh
   have:crowd (pinB w i d).heap.pages≤crowd w.heap.pages:=by
    refine Z62 (by simp[pinB]) fun j hj q1 q2=>?_
    simp only[pinB]at q1 q2
    rw[Z0q hi]at q1 q2
    split at q1
    ·rename_i c
     rw[if_pos c]at q2
     subst c
     exact⟨q1,hh q2 q1⟩
    ·rename_i c
     rw[if_neg c]at q2
     exact⟨q1,q2⟩
   omega
  rcases hd with q | q | q | q
  ·exact mono (by omega)
  ·exact mono (by omega)
  ·exact mono (by omega)
  ·have:=(Z9v (p:=⟨(w.heap.pages.getD i default).kind,(w.heap.pages.getD i default).space,(w.heap.pages.getD i default).used,(w.heap.pages.getD i default).pins+d⟩) hi w.heap.pages.length).1
   have e:crowd (pinB w i d).heap.pages=Z0J (w.heap.pages.set i ⟨(w.heap.pages.getD i default).kind,(w.heap.pages.getD i default).space,(w.heap.pages.getD i default).used,(w.heap.pages.getD i default).pins+d⟩) w.heap.pages.length:=by
    simp only[crowd,pinB,List.length_set]
   have e2:crowd w.heap.pages=Z0J w.heap.pages w.heap.pages.length:=rfl
   omega
 exact⟨T,g.pages hp rfl rfl rfl (by simp[pinB]) ks hcr,g1,g2⟩
theorem WG.pin{w:WorldM}{n:Nat}(h:WG w)(hp:POk w)(hm:MOk w n)(hn:n≤1000000)(t:Tape):WG (w.pin t):=by
 have p1:=(hp.pin hm hn t).p
 unfold WorldM.pin at p1 ⊢
 split
 ·rename_i e
  rw[if_pos e]at p1
  have o:=Z3w hm.hv e
  have hpl:=hm.pl
  have hi:pinI w t<w.heap.pages.length:=by unfold pinI;omega
  split
  ·rename_i c
   rw[if_pos c]at p1
   exact h.pinned p1 hi (Or.inl rfl)
  ·rename_i c
   rw[if_neg c]at p1
   split
   ·rename_i c2
    rw[if_pos c2]at p1
    exact h.pinned p1 hi (Or.inr c2)
   ·exact h
 ·exact h
theorem WG.drop{w:WorldM}(h:WG w)(t:Tape):WG (w.drop t):=by
 unfold WorldM.drop
 split
 ·rename_i hl
  obtain⟨T,g,g1,g2⟩:=h
  have n1:=Z0G t (n:=(w.strong.length:Int)) (by omega)
  refine⟨T,g,fun r hr=>?_,fun r hr=>?_⟩
  ·rcases List.mem_append.1 hr with hr | hr
   ·exact g1 r (List.mem_of_mem_take hr)
   ·exact g1 r (List.mem_of_mem_drop hr)
  ·simp only at hr
   split at hr
   ·rcases List.mem_append.1 hr with hr | hr
    ·exact g2 r hr
    ·simp only[List.mem_singleton]at hr
     subst hr
     refine g1 _ (getD_mem_iff.2 ⟨_, ?_,rfl⟩)
     unfold ZfT
     omega
   ·exact g2 r hr
 ·exact h
theorem WG.dup{w:WorldM}(h:WG w)(t:Tape):WG (w.dup t):=by
 obtain⟨T,g,g1,g2⟩:=h
 refine⟨T,g,fun r hr=>?_,g2⟩
 rcases List.mem_append.1 hr with hr | hr
 ·exact g1 r hr
 ·simp only[List.mem_singleton]at hr
  subst hr
  exact WG.pick g1 g2 _
theorem Zjr(t:Tape):WG t.empty:=by
 have hpr:=(Zbn t).p
 have hv:=Z2B t
 have hb:=validB_iff.1 hv
 have hz:∀ j,(t.empty.heap.pages.getD j default).kind=0∧(t.empty.heap.pages.getD j default).pins=0:=by
  intro j
  simp only[Tape.empty,Z2S,List.getD_eq_getElem?_getD,List.getElem?_replicate]
  split
  ·exact⟨rfl,rfl⟩
  ·exact⟨rfl,rfl⟩
 refine⟨fun _=>[],⟨hpr, ?_, ?_, ?_,by simp, ?_,by simp, ?_⟩,by simp[RtOb,Tape.empty],by simp[RtOb,Tape.empty]⟩
 ·intro i _ hk
  exact absurd (hz i).1 hk
 ·intro i _ hk
  rw[(hz i).1]at hk
  omega
 ·intro i _ hk
  rw[(hz i).1]at hk
  omega
 ·intro a ha
  exfalso
  apply ha
  show(loadA (List.replicate (t.conf.pw*t.conf.pg).toNat 0) a).1=0
  unfold loadA
  by_cases c:4096≤a∧a<4096+((List.replicate (t.conf.pw*t.conf.pg).toNat (0:Int)).length:Int)
  ·rw[if_pos c]
   simp only[List.getD_eq_getElem?_getD,List.getElem?_replicate]
   split<;>rfl
  ·rw[if_neg c]
 ·have:crowd t.empty.heap.pages=0:=by
   have h0:∀ n,Z0J t.empty.heap.pages n=0:=by
    intro n
    induction n with
    | zero=>rfl
    | succ n ih =>
     unfold Z0J
     rw[ih,if_neg (by rw[(hz n).1];omega)]
   exact h0 _
  rw[this]
  show(0:Int)≤t.conf.pg/4
  omega
theorem Z8R{w:Work}{n:Int}(hw:WkOk w)(hn:1≤n∧n≤w.heap.conf.pw)(h:(w.place n).2.2=true) :
  ∃ (i:Nat) (p:Page) (t:List Int),i<w.heap.pages.length∧((w.heap.pages.getD i default).kind=0∧t=w.taken++[(i:Int)]∧p.pins=0∨(i:Int)∈w.taken∧(w.heap.pages.getD i default).kind=1∧t=w.taken∧p.pins=(w.heap.pages.getD i default).pins)∧p.kind=1∧p.used=occP (w.heap.pages.getD i default)+n∧occP (w.heap.pages.getD i default)+n≤w.heap.conf.pw∧0≤occP (w.heap.pages.getD i default)∧(w.place n).2.1=4096+i*w.heap.conf.pw+occP (w.heap.pages.getD i default) ∧
  (w.place n).1=⟨⟨w.heap.conf,w.heap.words,w.heap.pages.set i p,w.heap.space,w.heap.bump⟩,w.old,t,w.queue,w.scanned,w.rep⟩:=by
 by_cases hf:Z4r w n
 ·have e:w.place n=(⟨⟨w.heap.conf,w.heap.words,Z21 w.heap.pages (Z0R w).toNat n,w.heap.space,w.heap.bump⟩,w.old,w.taken,w.queue,w.scanned,w.rep⟩,4096+Z0R w*w.heap.conf.pw+(w.heap.pages.getD (Z0R w).toNat default).used,true):=by rw[Work.place,if_pos hf]
  unfold Z4r at hf
  have hm:=hw.tk _ (Z1x hf.1)
  have hu:=hw.us (Z0R w).toNat (by omega)
  have hoc:occP (w.heap.pages.getD (Z0R w).toNat default)=(w.heap.pages.getD (Z0R w).toNat default).used:=by rw[occP,if_neg (by omega)]
  have hle:(((Z0R w).toNat:Nat):Int)=Z0R w:=by omega
  refine⟨(Z0R w).toNat,⟨(w.heap.pages.getD (Z0R w).toNat default).kind,(w.heap.pages.getD (Z0R w).toNat default).space,(w.heap.pages.getD (Z0R w).toNat default).used+n,(w.heap.pages.getD (Z0R w).toNat default).pins⟩,w.taken,by omega,Or.inr ⟨by rw[hle];exact Z1x hf.1,hm.2.2,rfl,rfl⟩,hm.2.2, ?_,by rw[hoc];omega,by rw[hoc];omega, ?_, ?_⟩
  ·rw[hoc]
  ·rw[e,hoc,hle]
  ·rw[e,Z3x]
 ·by_cases hg:0≤Z0t w
  ·have e:w.place n=(⟨⟨w.heap.conf,w.heap.words,Z21 (Z2w w) (Z0t w).toNat n,w.heap.space,w.heap.bump⟩,w.old,w.taken++[Z0t w],w.queue,w.scanned,w.rep⟩,4096+Z0t w*w.heap.conf.pw,true):=by rw[Work.place,if_neg hf,if_pos hg]
   obtain⟨g1,g2,g3⟩:=Z3b (h:=⟨w.heap.conf,w.heap.words,w.heap.pages,1-w.heap.space,w.heap.bump⟩) (by have:=hw.sp;simp only;omega) hg n
   have g1':Z21 (Z2w w) (Z0t w).toNat n=w.heap.pages.set (Z0t w).toNat ⟨1,1-w.heap.space,n,0⟩:=g1
   have g2':(w.heap.pages.getD (Z0t w).toNat default).kind=0:=g2
   have g3':(Z0t w).toNat<w.heap.pages.length:=g3
   have hoc:occP (w.heap.pages.getD (Z0t w).toNat default)=0:=by rw[occP,if_pos g2']
   have hle:(((Z0t w).toNat:Nat):Int)=Z0t w:=by omega
   refine⟨(Z0t w).toNat,⟨1,1-w.heap.space,n,0⟩,w.taken++[Z0t w],g3',Or.inl ⟨g2',by rw[hle],rfl⟩,rfl,by rw[hoc];simp,by rw[hoc];omega,by rw[hoc];omega, ?_, ?_⟩
   ·rw[e,hoc,hle];simp
   ·rw[e,g1']
  ·rw[Work.place,if_neg hf,if_neg hg]at h
   simp at h
structure KI (h:Heap) (T tq:Nat→List Int) (w:Work):Prop where
 c:w.heap.conf=h.conf
 sp:w.heap.space=h.space
 old:∀ x,x∈w.old↔Ob h T x
 pl:w.heap.pages.length=h.pages.length
 wl:w.heap.words.length=h.words.length
 pg:∀ i:Nat,(i:Int)∉w.taken→(w.heap.pages.getD i default).kind=(h.pages.getD i default).kind∧(w.heap.pages.getD i default).used=(h.pages.getD i default).used∧(w.heap.pages.getD i default).pins=(h.pages.getD i default).pins
 tk:∀ i:Nat,(i:Int)∈w.taken→i<h.pages.length∧(h.pages.getD i default).kind=0∧(w.heap.pages.getD i default).kind=1∧(w.heap.pages.getD i default).pins=0∧(w.heap.pages.getD i default).used≤h.conf.pw∧tile w.heap.words (bsP h i) (bsP h i+(w.heap.pages.getD i default).used) (tq i)∧∀ x∈tq i,x∈w.queue∧kdA w.heap.words x≠0∧hlA w.heap.words x+1≤Z00 h.conf
 tk0:∀ i:Nat,(i:Int)∉w.taken→tq i=[]
 q:∀ x∈w.queue,(∃ i:Nat,(i:Int)∉w.taken∧x∈T i∧kdA h.words x≠0∧(w.heap.pages.getD i default).space≠w.heap.space)∨(∃ i:Nat,(i:Int)∈w.taken∧x∈tq i)
 hd:∀ i x,x∈T i→(loadA w.heap.words x).1=(loadA h.words x).1∨((Z0p (loadA w.heap.words x).1).2=true∧(w.heap.pages.getD i default).kind=1∧(w.heap.pages.getD i default).space=w.heap.space)
 dt:∀ a,(loadA w.heap.words a).1≠0→(∃ i x,x∈T i∧x≤a∧a<x+kpA h.words x)∨(∃ i:Nat,(i:Int)∈w.taken∧bsP h i≤a∧a<bsP h i+(w.heap.pages.getD i default).used)
 lg:∀ i:Nat,(h.pages.getD i default).kind=2→(w.heap.pages.getD i default).space≠w.heap.space→bsP h i∈w.queue
section
variable {h:Heap} {T:Nat→List Int} (g:Gd h T)
include g
theorem KI.nt{tq:Nat→List Int}{w:Work}(k:KI h T tq w){i:Nat}{x:Int}(hx:x∈T i):(i:Int)∉w.taken:=by
 intro q
 have:=(k.tk i q).2.1
 have:=(g.t0 i x hx).2
 omega
theorem KI.sepT{tq:Nat→List Int}{w:Work}(k:KI h T tq w){i j:Nat}{x y:Int}(hi:(i:Int)∈w.taken)(hx:x∈tq i)(hy:y∈T j):bsP h i≤x∧x+hlA w.heap.words x<bsP h i+h.conf.pw∧(y+hlA h.words y<bsP h i∨bsP h i+h.conf.pw≤y):=by
 have t:=k.tk i hi
 have m:=Z1q t.2.2.2.2.2.1 hx
 have f:=g.free t.1 (Or.inl t.2.1) hy
 rw[occP,if_pos t.2.1]at f
 exact⟨m.2.1,by omega,by omega⟩
omit g in
theorem KI.sepQ(g:Gd h T){tq:Nat→List Int}{w:Work}(k:KI h T tq w){i j:Nat}{x y:Int}(hi:(i:Int)∈w.taken)(hx:x∈tq i)(hj:(j:Int)∈w.taken)(hy:y∈tq j)(hxy:x<y):x+hlA w.heap.words x<y:=by
 have t:=k.tk i hi
 have u:=k.tk j hj
 have m:=Z1q t.2.2.2.2.2.1 hx
 have n:=Z1q u.2.2.2.2.2.1 hy
 have po:=Z09 g.p
 have r:=Z0d w.heap.words y
 unfold bsP at m n
 rcases Nat.lt_trichotomy i j with q | q | q
 ·have:=Z14 (i:=i) (j:=j) (pw:=h.conf.pw) (by omega) (by omega)
  omega
 ·subst q
  exact Z9L t.2.2.2.2.2.1 hx hy hxy
 ·have:=Z14 (i:=j) (j:=i) (pw:=h.conf.pw) (by omega) (by omega)
  omega
theorem KI.withWords{tq:Nat→List Int}{w:Work}(k:KI h T tq w){l:List Int}(hl:l.length=w.heap.words.length)(h1:∀ i x,x∈T i→(loadA l x).1=(loadA w.heap.words x).1)(h2:∀ (i:Nat) x,(i:Int)∈w.taken→x∈tq i→(loadA l x).1=(loadA w.heap.words x).1)
  (h3:∀ a,(loadA l a).1≠0→(loadA w.heap.words a).1≠0∨(∃ i x,x∈T i∧x≤a∧a<x+kpA h.words x)∨(∃ i:Nat,(i:Int)∈w.taken∧bsP h i≤a∧a<bsP h i+(w.heap.pages.getD i default).used)) :
  KI h T tq ⟨⟨w.heap.conf,l,w.heap.pages,w.heap.space,w.heap.bump⟩,w.old,w.taken,w.queue,w.scanned,w.rep⟩:=by
 refine⟨k.c,k.sp,k.old,k.pl,hl.trans k.wl,k.pg, ?_,k.tk0,k.q, ?_, ?_,k.lg⟩
 ·intro i hi
  obtain⟨t1,t2,t3,t4,t5,t6,t7⟩:=k.tk i hi
  have ky:=fun x hx=>Z1W (h2 i x hi hx)
  refine⟨t1,t2,t3,t4,t5,Z1M t6 fun x hx=>⟨(ky x hx).1 (Z1q t6 hx).1,(ky x hx).2.1⟩,fun x hx=>?_⟩
  have:=t7 x hx
  simp only
  rw[(ky x hx).2.2.1,(ky x hx).2.1]
  exact this
 ·intro i x hx
  simp only
  rw[h1 i x hx]
  exact k.hd i x hx
 ·intro a ha
  rcases h3 a ha with q | q
  ·exact k.dt a q
  ·exact q
theorem KI.keep{tq:Nat→List Int}{w:Work}(k:KI h T tq w){r:Int}{i:Nat}(hi:r∈T i)(hk:kdA h.words r≠0)(hs:(w.heap.pages.getD i default).space≠w.heap.space):KI h T tq (w.keep r):=by
 refine⟨k.c,k.sp,k.old,k.pl,k.wl,k.pg, ?_,k.tk0, ?_,k.hd,k.dt, ?_⟩
 ·intro j hj
  obtain⟨t1,t2,t3,t4,t5,t6,t7⟩:=k.tk j hj
  exact⟨t1,t2,t3,t4,t5,t6,fun x hx=>⟨List.mem_append_left _ (t7 x hx).1,(t7 x hx).2⟩⟩
 ·intro x hx
  simp only[Work.keep,List.mem_append,List.mem_singleton]at hx
  rcases hx with hx | rfl
  ·exact k.q x hx
  ·exact Or.inl ⟨i,k.nt g hi,hi,hk,hs⟩
 ·intro j h1 h2
  exact List.mem_append_left _ (k.lg j h1 h2)
theorem KI.flip{tq:Nat→List Int}{w:Work}(k:KI h T tq w)(hw:WkOk w){r:Int}{i:Nat}(hi:r∈T i)(hk:kdA h.words r≠0)(h2:(w.heap.pages.getD i default).kind=2):KI h T tq ((w.flip i).keep r):=by
 have hil:=(g.t0 i r hi).1
 have hpl:=k.pl
 have hsp:=hw.sp
 have hu:∀ j,((Z0F w.heap.pages i (Z0w w.heap.pages i) (1-w.heap.space)).getD j default).kind=(w.heap.pages.getD j default).kind∧((Z0F w.heap.pages i (Z0w w.heap.pages i) (1-w.heap.space)).getD j default).used=(w.heap.pages.getD j default).used∧((Z0F w.heap.pages i (Z0w w.heap.pages i) (1-w.heap.space)).getD j default).pins=(w.heap.pages.getD j default).pins:=by
  intro j
  by_cases hj:j<w.heap.pages.length
  ·rw[Z1w hj]
   split
   ·exact⟨rfl,rfl,rfl⟩
   ·exact⟨rfl,rfl,rfl⟩
  ·rw[List.getD_eq_getElem?_getD,List.getD_eq_getElem?_getD,List.getElem?_eq_none (by rw[Z1v];omega),List.getElem?_eq_none (by omega)]
   exact⟨rfl,rfl,rfl⟩
 have hs1:∀ j,(w.heap.pages.getD j default).kind=1→((Z0F w.heap.pages i (Z0w w.heap.pages i) (1-w.heap.space)).getD j default).space=(w.heap.pages.getD j default).space:=by
  intro j hj
  by_cases hjl:j<w.heap.pages.length
  ·rw[Z1w hjl]
   split
   ·rename_i c
    exfalso
    by_cases q:j=i
    ·subst q;omega
    ·have:=(Z7w (l:=w.heap.pages) (i:=i) (m:=j-i-1) (by omega)).2
     rw[show i+1+(j-i-1)=j by omega]at this
     omega
   ·rfl
  ·rw[List.getD_eq_getElem?_getD,List.getD_eq_getElem?_getD,List.getElem?_eq_none (by rw[Z1v];omega),List.getElem?_eq_none (by omega)]
 have hs2:∀ j,(w.heap.pages.getD j default).space≠w.heap.space→((Z0F w.heap.pages i (Z0w w.heap.pages i) (1-w.heap.space)).getD j default).space≠w.heap.space:=by
  intro j hj
  by_cases hjl:j<w.heap.pages.length
  ·rw[Z1w hjl]
   split
   ·simp only[Zbf];omega
   ·exact hj
  ·rw[List.getD_eq_getElem?_getD,List.getElem?_eq_none (by rw[Z1v];omega)]
   rw[List.getD_eq_getElem?_getD,List.getElem?_eq_none (by omega)]at hj
   exact hj
 have hs3:∀ j,(w.heap.pages.getD j default).kind=2→j≠i→((Z0F w.heap.pages i (Z0w w.heap.pages i) (1-w.heap.space)).getD j default).space=(w.heap.pages.getD j default).space:=by
  intro j hj hne
  by_cases hjl:j<w.heap.pages.length
  ·rw[Z1w hjl]
   split
   ·rename_i c
    exfalso
    have:=(Z7w (l:=w.heap.pages) (i:=i) (m:=j-i-1) (by omega)).2
    rw[show i+1+(j-i-1)=j by omega]at this
    omega
   ·rfl
  ·rw[List.getD_eq_getElem?_getD,List.getElem?_eq_none (by omega)]at hj
   have d:(default:Page).kind=0:=rfl
   simp only[Option.getD_none]at hj
   omega
 have hsi:((Z0F w.heap.pages i (Z0w w.heap.pages i) (1-w.heap.space)).getD i default).space≠w.heap.space:=by
  rw[Z1w (by omega),if_pos ⟨Nat.le_refl _,Nat.le_add_right _ _⟩]
  simp only[Zbf]
  omega
 have kf:KI h T tq ⟨⟨w.heap.conf,w.heap.words,Z0F w.heap.pages i (Z0w w.heap.pages i) (1-w.heap.space),w.heap.space,w.heap.bump⟩,w.old,w.taken,w.queue++[r],w.scanned,w.rep⟩:=by
  refine⟨k.c,k.sp,k.old,by simp only[Z1v];exact k.pl,k.wl, ?_, ?_,k.tk0, ?_, ?_, ?_, ?_⟩
  ·intro j hj
   simp only[hu]
   exact k.pg j hj
  ·intro j hj
   simp only[hu]
   obtain⟨t1,t2,t3,t4,t5,t6,t7⟩:=k.tk j hj
   exact⟨t1,t2,t3,t4,t5,t6,fun x hx=>⟨List.mem_append_left _ (t7 x hx).1,(t7 x hx).2⟩⟩
  ·intro x hx
   simp only[List.mem_append,List.mem_singleton]at hx
   rcases hx with hx | rfl
   ·rcases k.q x hx with⟨j,j1,j2,j3,j4⟩ | q
    ·exact Or.inl ⟨j,j1,j2,j3,hs2 j j4⟩
    ·exact Or.inr q
   ·exact Or.inl ⟨i,k.nt g hi,hi,hk,hsi⟩
  ·intro j x hx
   rcases k.hd j x hx with q | q
   ·exact Or.inl q
   ·refine Or.inr ⟨q.1, ?_, ?_⟩
    ·simp only[hu];exact q.2.1
    ·simp only;rw[hs1 j q.2.1];exact q.2.2
  ·intro a ha
   simp only[hu]
   exact k.dt a ha
  ·intro j h1 h2'
   simp only at h2' ⊢
   by_cases q:j=i
   ·subst q
    have:=(g.on hi).2.2.2.2.2.2 h1
    rw[← this.1]
    simp
   ·have hjt:(j:Int)∉w.taken:=fun q=>by have:=(k.tk j q).2.1;omega
    rw[hs3 j (by rw[(k.pg j hjt).1];exact h1) q]at h2'
    exact List.mem_append_left _ (k.lg j h1 h2')
 exact⟨kf.c,kf.sp,kf.old,kf.pl,kf.wl,kf.pg,kf.tk,kf.tk0,kf.q,kf.hd,kf.dt,kf.lg⟩
end
section
variable {h:Heap} {T:Nat→List Int} (g:Gd h T)
include g
theorem KI.copy{tq:Nat→List Int}{w:Work}(k:KI h T tq w)(hw:WkOk w){r n:Int}{i0:Nat}(hr:r∈T i0)(hkd:kdA h.words r≠0)(h1:(h.pages.getD i0 default).kind=1)(hs:(w.heap.pages.getD i0 default).space=w.heap.space)(he:(loadA w.heap.words r).1=(loadA h.words r).1)
  (hn:n=hlA w.heap.words r+1) (hp:n≤w.heap.conf.pw) (hc:(w.place n).2.2=true):∃ tq',KI h T tq' ((w.place n).1.copy r (w.place n).2.1 n):=by
 have hlr:=Z0d w.heap.words r
 have ey:=Z1W he
 obtain⟨i,p,t,p1,p2,p3,p4,p5,p6,p7,e⟩:=Z8R hw ⟨by omega,hp⟩ hc
 have hcc:=k.c
 have hpl:=k.pl
 have hwl:=k.wl
 have po:=Z09 g.p
 have hin:=g.inw hr
 have hki:(h.pages.getD i default).kind=0:=by
  rcases p2 with q | q
  ·by_cases c:(i:Int)∈w.taken
   ·exact(k.tk i c).2.1
   ·rw[← (k.pg i c).1];exact q.1
  ·exact(k.tk i q.1).2.1
 have hio:=Z14 (i:=i) (j:=h.conf.pg) (pw:=h.conf.pw) (by omega) (by omega)
 rw[Int.mul_comm h.conf.pg]at hio
 have hi0:0≤(i:Int)*h.conf.pw:=Int.mul_nonneg (by omega) (by omega)
 rw[hcc]at p5 p7 hp
 have hbp:4096+(i:Int)*h.conf.pw=bsP h i:=rfl
 rw[e,p7,hbp]
 generalize hu:occP (w.heap.pages.getD i default)=u at *
 generalize ha:bsP h i+u=a
 have hbl:4096≤a∧a+n≤4096+w.heap.words.length:=by omega
 have far:∀ j x,x∈T j→x+hlA h.words x<bsP h i∨bsP h i+h.conf.pw≤x:=by
  intro j x hx
  have:=g.free (show i<h.pages.length by omega) (Or.inl hki) hx
  rw[occP,if_pos hki]at this
  omega
 have farr:=far i0 r hr
 obtain⟨m1,m2,m3⟩:=Z7N (ws:=w.heap.words) (a:=a) (b:=r) (n:=n) (by omega) (by omega) (by omega)
 have hsr:4096≤r∧r<4096+(moveA w.heap.words a r n).1.length:=by omega
 have w1:∀ x,x≠r→(x<a∨a+n≤x)→loadA (Z0E (moveA w.heap.words a r n).1 r (4*a+2)).1 x=loadA w.heap.words x:=fun x q1 q2=>by rw[Z0C hsr q1,m3 x q2]
 have w2:(loadA (Z0E (moveA w.heap.words a r n).1 r (4*a+2)).1 r).1=4*a+2:=by rw[Z2x hsr]
 have w3:(loadA (Z0E (moveA w.heap.words a r n).1 r (4*a+2)).1 a).1=(loadA w.heap.words r).1:=by rw[Z0C hsr (by omega),m2]
 have hlen:(Z0E (moveA w.heap.words a r n).1 r (4*a+2)).1.length=w.heap.words.length:=by rw[Z2s hsr,m1]
 have hit:(i:Int)∈t:=by rcases p2 with q | q;(rw[q.2.1];simp);(rw[q.2.2.1];exact q.1)
 have htt:∀ x,x∈t↔x∈w.taken∨x=(i:Int):=by
  intro x
  rcases p2 with q | q
  ·rw[q.2.1];simp
  ·rw[q.2.2.1]
   exact⟨Or.inl,fun c=>c.elim id fun c=>c▸q.1⟩
 have w4:∀ (j:Nat) x,(j:Int)∈w.taken→x∈tq j→x≠r∧(x<a∨a+n≤x)∧(j=i→x+hlA w.heap.words x<a):=by
  intro j x hj hx
  have s:=k.sepT g hj hx hr
  have rx:=Z0d w.heap.words x
  have t:=k.tk j hj
  have m:=Z1q t.2.2.2.2.2.1 hx
  refine⟨by omega, ?_⟩
  rcases Nat.lt_trichotomy j i with q | q | q
  ·have:=Z14 (i:=j) (j:=i) (pw:=h.conf.pw) (by omega) (by omega)
   unfold bsP at s
   rw[← hbp]at ha
   exact⟨Or.inl (by omega),fun q2=>by omega⟩
  ·subst q
   have:u=(w.heap.pages.getD j default).used:=by rw[← hu,occP,if_neg (by omega)]
   exact⟨Or.inl (by omega),fun _=>by omega⟩
  ·have:=Z14 (i:=i) (j:=j) (pw:=h.conf.pw) (by omega) (by omega)
   unfold bsP at s
   rw[← hbp]at ha
   exact⟨Or.inr (by omega),fun q2=>by omega⟩
 have kq:∀ (j:Nat) x,(j:Int)∈w.taken→x∈tq j→(loadA (Z0E (moveA w.heap.words a r n).1 r (4*a+2)).1 x).1=(loadA w.heap.words x).1:=fun j x hj hx=>by
  have:=w4 j x hj hx
  rw[w1 x this.1 this.2.1]
 refine⟨fun j=>if j=i then tq i++[a]else tq j,k.c,k.sp,k.old, ?_, ?_, ?_, ?_, ?_, ?_, ?_, ?_, ?_⟩
 ·simp only[Work.copy,List.length_set];exact k.pl
 ·simp only[Work.copy,hlen];exact k.wl
 ·intro j hj
  simp only[Work.copy]at hj ⊢
  have hj':=fun q=>hj ((htt _).2 (Or.inl q))
  have hne:¬ i=j:=fun q=>hj (q▸hit)
  rw[Z0q p1,if_neg hne]
  exact k.pg j hj'
 ·intro j hj
  simp only[Work.copy]at hj ⊢
  rw[Z0q p1]
  by_cases q:i=j
  ·subst q
   rw[if_pos rfl]
   simp only[if_true]
   have ka:=Z1W (ws:=w.heap.words) (ws':=(Z0E (moveA w.heap.words a r n).1 r (4*a+2)).1) (a:=a)
   have ke:hdA (Z0E (moveA w.heap.words a r n).1 r (4*a+2)).1 a=hdA h.words r:=by rw[hdA,hdA,w3,he]
   have kl:hlA (Z0E (moveA w.heap.words a r n).1 r (4*a+2)).1 a=n-1:=by
    have:hlA (Z0E (moveA w.heap.words a r n).1 r (4*a+2)).1 a=hlA w.heap.words r:=by rw[hlA,hlA,w3]
    omega
   have kk:okA (Z0E (moveA w.heap.words a r n).1 r (4*a+2)).1 a:=by
    have:=(g.on hr).2.2.2.2.2.1
    rw[okA]at this ⊢
    rw[w3,he]
    exact this
   refine⟨by omega,hki,p3, ?_,by omega, ?_, ?_⟩
   ·rcases p2 with q | q
    ·exact q.2.2
    ·rw[q.2.2.2];exact(k.tk i q.1).2.2.2.1
   ·refine Zaz (b:=a) ?_ ⟨rfl,kk,by rw[kl];simp only[tile];omega⟩
    by_cases c:(i:Int)∈w.taken
    ·have t:=k.tk i c
     have hue:u=(w.heap.pages.getD i default).used:=by rw[← hu,occP,if_neg (by omega)]
     have t6:=t.2.2.2.2.2.1
     rw[← hue,ha]at t6
     exact Z1M t6 fun x hx=>⟨(Z1W (kq i x c hx)).1 (Z1q t6 hx).1,(Z1W (kq i x c hx)).2.1⟩
    ·rw[k.tk0 i c]
     have hue:u=0:=by
      rcases p2 with q | q
      ·rw[← hu,occP,if_pos q.1]
      ·exact absurd q.1 c
     simp only[tile];omega
   ·intro x hx
    rcases List.mem_append.1 hx with hx | hx
    ·by_cases c:(i:Int)∈w.taken
     ·have t:=(k.tk i c).2.2.2.2.2.2 x hx
      have o:=Z1W (kq i x c hx)
      rw[o.2.2.1,o.2.1]
      exact⟨List.mem_append_left _ t.1,t.2⟩
     ·rw[k.tk0 i c]at hx;simp at hx
    ·have:=List.mem_singleton.1 hx
     subst this
     refine⟨by simp,by rw[kdA,ke];exact hkd, ?_⟩
     have:=(g.t1 i0 (g.t0 i0 r hr).1 h1).2 r hr
     rw[kl]
     have:=ey.2.1
     omega
  ·rw[if_neg q]
   have hj':(j:Int)∈w.taken:=by
    rcases(htt _).1 hj with c | c
    ·exact c
    ·omega
   obtain⟨t1,t2,t3,t4,t5,t6,t7⟩:=k.tk j hj'
   simp only[show ¬ j=i from fun c=>q c.symm,if_false]
   refine⟨t1,t2,t3,t4,t5,Z1M t6 fun x hx=>⟨(Z1W (kq j x hj' hx)).1 (Z1q t6 hx).1,(Z1W (kq j x hj' hx)).2.1⟩,fun x hx=>?_⟩
   have o:=Z1W (kq j x hj' hx)
   rw[o.2.2.1,o.2.1]
   exact⟨List.mem_append_left _ (t7 x hx).1,(t7 x hx).2⟩
 ·intro j hj
  simp only[Work.copy]at hj
  have hne:¬ j=i:=fun q=>hj (q▸hit)
  simp only[hne,if_false]
  exact k.tk0 j fun q=>hj ((htt _).2 (Or.inl q))
 ·intro x hx
  simp only[Work.copy,List.mem_append,List.mem_singleton]at hx ⊢
  rcases hx with hx | rfl
  ·rcases k.q x hx with⟨j,j1,j2,j3,j4⟩ | ⟨j,j1,j2⟩
   ·have hne:¬ i=j:=by
     rintro rfl
     have:=(g.t0 i x j2).2
     omega
    refine Or.inl ⟨j,fun c=>?_,j2,j3,by rw[Z0q p1,if_neg hne];exact j4⟩
    rcases(htt _).1 c with c | c
    ·exact j1 c
    ·omega
   ·refine Or.inr ⟨j,(htt _).2 (Or.inl j1), ?_⟩
    split
    ·rename_i q;subst q;exact List.mem_append_left _ j2
    ·exact j2
  ·exact Or.inr ⟨i,hit,by simp⟩
 ·intro j x hx
  simp only[Work.copy]
  have hne:¬ i=j:=by
   rintro rfl
   have:=(g.t0 i x hx).2
   omega
  rw[Z0q p1,if_neg hne]
  by_cases q:x=r
  ·subst q
   refine Or.inr ⟨by rw[w2,Z9C (by omega) (by omega)], ?_, ?_⟩
   ·have e1:=g.ofx hx
    have e2:=g.ofx hr
    rw[e1]at e2
    have:j=i0:=by simp only[Prod.mk.injEq]at e2;omega
    subst this
    rw[(k.pg j (k.nt g hx)).1]
    exact h1
   ·have e1:=g.ofx hx
    have e2:=g.ofx hr
    rw[e1]at e2
    have:j=i0:=by simp only[Prod.mk.injEq]at e2;omega
    subst this
    exact hs
  ·have f:=far j x hx
   have rx:=Z0d h.words x
   rw[w1 x q (by omega)]
   exact k.hd j x hx
 ·intro b hb
  simp only[Work.copy]at hb ⊢
  by_cases q:a≤b∧b<a+n
  ·exact Or.inr ⟨i,hit,by omega,by rw[Z0q p1,if_pos rfl];omega⟩
  ·by_cases q2:b=r
   ·refine Or.inl ⟨i0,r,hr,by omega, ?_⟩
    rw[kpA,if_neg hkd]
    have:=Z0d h.words r
    omega
   ·rw[w1 b q2 (by omega)]at hb
    rcases k.dt b hb with c | ⟨j,j1,j2,j3⟩
    ·exact Or.inl c
    ·refine Or.inr ⟨j,(htt _).2 (Or.inl j1),j2, ?_⟩
     rw[Z0q p1]
     split
     ·rename_i c
      subst c
      have:=(k.tk i j1).2.2.1
      have:u=(w.heap.pages.getD i default).used:=by rw[← hu,occP,if_neg (by omega)]
      omega
     ·exact j3
 ·intro j h2 hsj
  simp only[Work.copy]at hsj ⊢
  have hne:¬ i=j:=by rintro rfl;omega
  rw[Z0q p1,if_neg hne]at hsj
  exact List.mem_append_left _ (k.lg j h2 hsj)
theorem KI.fwd{tq:Nat→List Int}{w:Work}(k:KI h T tq w)(hw:WkOk w)(hi:Inv w)(r:Int)(e:(w.fwd r).2.2=0):∃ tq',KI h T tq' (w.fwd r).1:=by
 unfold Work.fwd at e ⊢
 split at e
 ·rename_i c1
  rw[if_pos c1]
  exact⟨tq,k⟩
 ·rename_i c1
  rw[if_neg c1]
  split at e
  ·simp at e
  ·rename_i c2
   rw[if_neg c2]
   have c2':r∈w.old:=Decidable.not_not.1 c2
   obtain⟨i0,hr,hkd⟩:=(k.old r).1 c2'
   have ofr:ofA w.heap.conf r=((i0:Int),r-bsP h i0,0):=by rw[k.c];exact g.ofx hr
   have nt:=k.nt g hr
   have pgi:=k.pg i0 nt
   have hil:=(g.t0 i0 r hr).1
   have hki:=(g.t0 i0 r hr).2
   have hpl:=k.pl
   split at e
   ·rename_i c3
    rw[if_pos c3]
    exact⟨tq,k⟩
   ·rename_i c3
    rw[if_neg c3]
    split at e
    ·simp at e
    ·rename_i c4
     rw[if_neg c4]
     split at e
     ·rename_i c5
      rw[if_pos c5]
      simp only[Z1h,decide_eq_true_eq]at c5
      rw[ofr]at c5
      simp only[Int.toNat_natCast]at c5
      exact⟨tq,k.keep g hr hkd c5.2.2.2.1⟩
     ·rename_i c5
      rw[if_neg c5]
      have epw:Z1b w r=i0:=by rw[Z1b,ofr];simp
      split at e
      ·rename_i c6
       rw[if_pos c6]
       rw[epw]at c6 ⊢
       exact⟨tq,k.flip g hw hr hkd c6⟩
      ·rename_i c6
       rw[if_neg c6]
       split at e
       ·simp at e
       ·rename_i c7
        rw[if_neg c7]
        have c7':(w.place (sizeH (hdW w r))).2.2=true:=by simpa using c7
        rw[epw]at c6
        have k1:(h.pages.getD i0 default).kind=1:=by omega
        have hs:(w.heap.pages.getD i0 default).space=w.heap.space:=by
         by_cases q:(w.heap.pages.getD i0 default).space=w.heap.space
         ·exact q
         ·exfalso
          apply c5
          simp only[Z1h,decide_eq_true_eq]
          rw[ofr]
          simp only[Int.toNat_natCast]
          exact⟨by omega,by omega,by omega,q,nt⟩
        have he:(loadA w.heap.words r).1=(loadA h.words r).1:=by
         rcases k.hd i0 r hr with q | q
         ·exact q
         ·exact absurd q.1 c3
        have hz:=hi.z r c2'
        have hp:sizeH (hdW w r)≤w.heap.conf.pw:=by
         rw[Z3f]
         rw[ofr]at hz
         simp only[Int.toNat_natCast]at hz
         rcases hz with hz | hz
         ·exact absurd hz c6
         ·exact hz
        exact k.copy g hw hr hkd k1 hs he (Z3f w r) hp c7'
theorem KI.field{tq:Nat→List Int}{w:Work}(k:KI h T tq w){q j:Int}(hq:q∈w.queue)(hj:0≤j∧j<hlA w.heap.words q) :
  (∀ i x,x∈T i→x≠q+1+j)∧(∀ (i:Nat) x,(i:Int)∈w.taken→x∈tq i→x≠q+1+j)∧((∃ i x,x∈T i∧x≤q+1+j∧q+1+j<x+kpA h.words x)∨(∃ i:Nat,(i:Int)∈w.taken∧bsP h i≤q+1+j∧q+1+j<bsP h i+(w.heap.pages.getD i default).used)):=by
 rcases k.q q hq with⟨i,i1,i2,i3,i4⟩ | ⟨i,i1,i2⟩
 ·have he:(loadA w.heap.words q).1=(loadA h.words q).1:=by
   rcases k.hd i q i2 with c | c
   ·exact c
   ·exact absurd c.2.2 i4
  have o:=Z1W he
  rw[o.2.1]at hj
  refine⟨fun m x hx c=>?_,fun m x hm hx c=>?_,Or.inl ⟨i,q,i2,by omega,by rw[kpA,if_neg i3];omega⟩⟩
  ·have:=g.sep i2 hx (by omega)
   omega
  ·have:=k.sepT g hm hx i2
   have:=Z0d w.heap.words x
   omega
 ·have t:=k.tk i i1
  have m:=Z1q t.2.2.2.2.2.1 i2
  refine⟨fun m x hx c=>?_,fun m x hm hx c=>?_,Or.inr ⟨i,i1,by omega,by omega⟩⟩
  ·have:=k.sepT g i1 i2 hx
   have:=Z0d h.words x
   omega
  ·have:=k.sepQ g i1 i2 hm hx (by omega)
   omega
theorem KI.in1{tq:Nat→List Int}{w:Work}(k:KI h T tq w)(hw:WkOk w)(hi:Inv w){q j:Int}(hq:q∈w.queue)(hj:0≤j∧j<hlA w.heap.words q)(e:(w.fwd (loadA w.heap.words (q+1+j)).1).2.2=0):∃ tq',KI h T tq' (w.in1 (q+1+j)):=by
 obtain⟨tq',k'⟩:=k.fwd g hw hi _ e
 obtain⟨i1,x1⟩:=Z6q hw hi _ e
 have hq1:=x1.q q hq
 have hl1:=x1.l q hq
 have hr:=i1.r q (List.mem_append_right _ hq1)
 have hin:4096≤q+1+j∧q+1+j<4096+(w.fwd (loadA w.heap.words (q+1+j)).1).1.heap.words.length:=by omega
 obtain⟨f1,f2,f3⟩:=k'.field g hq1 (j:=j) (by omega)
 refine⟨tq',k'.withWords g (Z2s hin) (fun i x hx=>?_) (fun i x hm hx=>?_) (fun a ha=>?_)⟩
 ·rw[Z0C hin (f1 i x hx)]
 ·rw[Z0C hin (f2 i x hm hx)]
 ·by_cases c:a=q+1+j
  ·subst c
   exact Or.inr f3
  ·rw[Z0C hin c]at ha
   exact Or.inl ha
theorem KI.begin:KI h T (fun _=>[]) (beginW h):=by
 have hq:∀ j,((h.pages.map (begQ (1-h.space))).getD j default).kind=(h.pages.getD j default).kind∧((h.pages.map (begQ (1-h.space))).getD j default).used=(h.pages.getD j default).used∧((h.pages.map (begQ (1-h.space))).getD j default).pins=(h.pages.getD j default).pins∧((h.pages.getD j default).kind=2→((h.pages.map (begQ (1-h.space))).getD j default).space=(h.pages.getD j default).space):=by
  intro j
  by_cases hj:j<h.pages.length
  ·have:(h.pages.map (begQ (1-h.space))).getD j default=begQ (1-h.space) (h.pages.getD j default):=by simp[List.getD_eq_getElem?_getD,hj]
   rw[this,begQ]
   split
   ·rename_i c
    exact⟨rfl,rfl,rfl,fun q=>by omega⟩
   ·exact⟨rfl,rfl,rfl,fun _=>rfl⟩
  ·rw[List.getD_eq_getElem?_getD,List.getD_eq_getElem?_getD,List.getElem?_eq_none (by simp;omega),List.getElem?_eq_none (by omega)]
   exact⟨rfl,rfl,rfl,fun _=>rfl⟩
 refine⟨rfl,rfl,g.objs.2,by simp[beginW],rfl,fun i _=>⟨(hq i).1,(hq i).2.1,(hq i).2.2.1⟩,by simp[beginW],fun _ _=>rfl,by simp[beginW],fun _ _ _=>Or.inl rfl,fun a ha=>Or.inl (g.d a ha), ?_⟩
 intro i h2 hs
 exfalso
 simp only[beginW]at hs
 rw[(hq i).2.2.2 h2]at hs
 by_cases hi:i<h.pages.length
 ·exact hs (g.sp i hi (by omega))
 ·rw[List.getD_eq_getElem?_getD,List.getElem?_eq_none (by omega)]at h2
  have d:(default:Page).kind=0:=rfl
  simp only[Option.getD_none]at h2
  omega
theorem Zm4{s:List Int}(hw:WOk h.words)(e:(rootsF (beginW h) s).2.2=0)(e2:(allF (rootsF (beginW h) s).1).2=0):∃ tq,KI h T tq (cW2 h s) :=
 Zl0 (fun w=>∃ tq,KI h T tq w) (fun w r hw hi ⟨_,k⟩ e=>k.fwd g hw hi r e) (fun w q j hw hi ⟨_,k⟩ hq h0 h1 e=>k.in1 g hw hi hq ⟨h0,h1⟩ e) (fun w n ⟨tq,k⟩=>⟨tq,k.c,k.sp,k.old,k.pl,k.wl,k.pg,k.tk,k.tk0,k.q,k.hd,k.dt,k.lg⟩) hw g.p ⟨_,KI.begin g⟩ e e2
end
theorem Zgq{w:Work}(hw:WkOk w)(h:Inv w){r n:Int}(hr:r∈w.old)(hq:r∉w.queue)(hn:n=hlA w.heap.words r+1)(hp:n≤w.heap.conf.pw)(hc:(w.place n).2.2=true):∀ x∈w.queue,∀ m,0≤m→m≤hlA w.heap.words x→loadA ((w.place n).1.copy r (w.place n).2.1 n).heap.words (x+m)=loadA w.heap.words (x+m):=by
 have hlr:=Z0d w.heap.words r
 obtain⟨i,p,t,h1,h2,h3,h4,h5,h6,h7,h8,e⟩:=Z52 hw ⟨by omega,hp⟩ hc
 have hb:=validB_iff.1 hw.conf
 have hpl:=hw.pl
 have hL:=h.L
 have hio:(i:Int)*w.heap.conf.pw+w.heap.conf.pw≤w.heap.conf.pw*w.heap.conf.pg:=by
  have:=Z14 (i:=i) (j:=w.heap.conf.pg) (pw:=w.heap.conf.pw) (by omega) (by omega)
  rw[Int.mul_comm w.heap.conf.pw];exact this
 have hi0:0≤(i:Int)*w.heap.conf.pw:=Int.mul_nonneg (by omega) (by omega)
 rw[e,h8]
 generalize hu:occP (w.heap.pages.getD i default)=u at *
 generalize ha:4096+(i:Int)*w.heap.conf.pw+u=at'
 have hrr:=h.r r (List.mem_append_left _ hr)
 have hf:=h.f i h1 (by rcases h2 with h2 | h2;exact Or.inl h2;exact Or.inr h2.1)
 rw[hu]at hf
 obtain⟨m1,m2,m3⟩:=Z7N (ws:=w.heap.words) (a:=at') (b:=r) (n:=n) (by omega) (by omega) (by omega)
 have hsr:4096≤r∧r<4096+(moveA w.heap.words at' r n).1.length:=by omega
 intro x hx m hm0 hm1
 have hfx:=hf x (List.mem_append_right _ hx)
 simp only[Work.copy]
 rw[Z0C hsr ?_,m3 _ (by omega)]
 intro c
 by_cases q:x=r
 ·exact hq (q▸hx)
 ·have:=h.s x (List.mem_append_right _ hx) r (List.mem_append_left _ hr) (by omega)
  omega
theorem Z74{w:Work}(hw:WkOk w)(h:Inv w)(r:Int)(e:(w.fwd r).2.2=0):(∃ m,(w.fwd r).1.queue=w.queue++m)∧(w.fwd r).1.scanned=w.scanned∧∀ x∈w.queue,∀ m,0≤m→m≤hlA w.heap.words x→loadA (w.fwd r).1.heap.words (x+m)=loadA w.heap.words (x+m):=by
 unfold Work.fwd at e ⊢
 split at e
 ·rename_i c1
  rw[if_pos c1]
  exact⟨⟨[],by simp⟩,rfl,fun _ _ _ _ _=>rfl⟩
 ·rename_i c1
  rw[if_neg c1]
  have c1':r∉w.queue:=fun h=>c1 (Or.inr h)
  split at e
  ·simp at e
  ·rename_i c2
   rw[if_neg c2]
   have c2':r∈w.old:=Decidable.not_not.1 c2
   split at e
   ·rename_i c3
    rw[if_pos c3]
    exact⟨⟨[],by simp⟩,rfl,fun _ _ _ _ _=>rfl⟩
   ·rename_i c3
    rw[if_neg c3]
    split at e
    ·simp at e
    ·rename_i c4
     rw[if_neg c4]
     split at e
     ·rename_i c5
      rw[if_pos c5]
      exact⟨⟨[r],rfl⟩,rfl,fun _ _ _ _ _=>rfl⟩
     ·rename_i c5
      rw[if_neg c5]
      split at e
      ·rename_i c6
       rw[if_pos c6]
       exact⟨⟨[r],rfl⟩,rfl,fun _ _ _ _ _=>rfl⟩
      ·rename_i c6
       rw[if_neg c6]
       split at e
       ·simp at e
       ·rename_i c7
        rw[if_neg c7]
        have c7':(w.place (sizeH (hdW w r))).2.2=true:=by simpa using c7
        have hz:=h.z r c2'
        have hp:sizeH (hdW w r)≤w.heap.conf.pw:=by
         rw[Z3f]
         rcases hz with hz | hz
         ·exact absurd hz c6
         ·exact hz
        have hlr:=Z0d w.heap.words r
        obtain⟨i,p,t,p1,p2,p3,p4,p5,p6,p7,e8⟩:=Z8R hw ⟨by rw[Z3f];omega,hp⟩ c7'
        refine⟨⟨[(w.place (sizeH (hdW w r))).2.1], ?_⟩, ?_,Zgq hw h c2' c1' (Z3f w r) hp c7'⟩
        ·rw[e8];rfl
        ·rw[e8];rfl
def FD(w:Work)(F:Int→Prop):Prop:=∀ z,F z→(∃ q j,q∈w.queue∧0≤j∧j<hlA w.heap.words q∧z=q+1+j)∧ToOk w (loadA w.heap.words z).1
structure Sm (w v:Work):Prop where
 q:∃ m,v.queue=w.queue++m
 h:∀ x∈w.queue,hdA v.heap.words x=hdA w.heap.words x
theorem Sm.trans{u v w:Work}(a:Sm u v)(b:Sm v w):Sm u w:=by
 obtain⟨m,em⟩:=a.q
 obtain⟨n,en⟩:=b.q
 exact⟨⟨m++n,by rw[en,em,List.append_assoc]⟩,fun x hx=>(b.h x (by rw[em];exact List.mem_append_left _ hx)).trans (a.h x hx)⟩
theorem Sm.mem{w v:Work}(a:Sm w v){x:Int}(hx:x∈w.queue):x∈v.queue:=by
 obtain⟨m,em⟩:=a.q
 rw[em]
 exact List.mem_append_left _ hx
theorem Sm.len{w v:Work}(a:Sm w v){x:Int}(hx:x∈w.queue):hlA v.heap.words x=hlA w.heap.words x:=congrArg Header.length (a.h x hx)
theorem Sm.to{w v:Work}(a:Sm w v){x:Int}(hx:ToOk w x):ToOk v x:=hx.imp id a.mem
theorem Zk3{w:Work}(hw:WkOk w)(h:Inv w)(r:Int)(e:(w.fwd r).2.2=0):Sm w (w.fwd r).1:=by
 have s:=Z74 hw h r e
 refine⟨s.1,fun x hx=>?_⟩
 have:=s.2.2 x hx 0 (by omega) (Z0d _ _).1
 rw[Int.add_zero]at this
 rw[hdA,hdA,this]
theorem FD.fwd{w:Work}{F:Int→Prop}(f:FD w F)(hw:WkOk w)(h:Inv w)(r:Int)(e:(w.fwd r).2.2=0):FD (w.fwd r).1 F:=by
 have s:=Z74 hw h r e
 have m:=Zk3 hw h r e
 intro z hz
 obtain⟨⟨q,j,hq,h0,h1,rfl⟩,t⟩:=f z hz
 refine⟨⟨q,j,m.mem hq,h0,by rw[m.len hq];exact h1,rfl⟩, ?_⟩
 have:=s.2.2 q hq (1+j) (by omega) (by omega)
 rw[← Int.add_assoc]at this
 rw[this]
 exact m.to t
theorem ZlS{B:Int}{w:Work}(hw:WkOk w)(h:Inv w)(hp:PR B w){F:Int→Prop}(f:FD w F){q j:Int}(hq:q∈w.queue)(hj:0≤j∧j<hlA w.heap.words q)(e:(w.fwd (loadA w.heap.words (q+1+j)).1).2.2=0):Sm w (w.in1 (q+1+j))∧(w.in1 (q+1+j)).scanned=w.scanned∧FD (w.in1 (q+1+j)) (fun z=>F z∨z=q+1+j):=by
 have s:=Z74 hw h _ e
 have m:=Zk3 hw h _ e
 have ff:=f.fwd hw h _ e
 have to:=ZjU w _ hp e
 obtain⟨i1,x1⟩:=Z6q hw h _ e
 have hq1:=x1.q q hq
 have hl1:=x1.l q hq
 have hr:=i1.r q (List.mem_append_right _ hq1)
 have hin:4096≤q+1+j∧q+1+j<4096+(w.fwd (loadA w.heap.words (q+1+j)).1).1.heap.words.length:=by omega
 have hne:∀ x∈(w.fwd (loadA w.heap.words (q+1+j)).1).1.queue,x≠q+1+j:=by
  intro x hx c
  have:=i1.s q (List.mem_append_right _ hq1) x (List.mem_append_right _ hx) (by omega)
  omega
 have hh:∀ x∈(w.fwd (loadA w.heap.words (q+1+j)).1).1.queue,hdA (w.in1 (q+1+j)).heap.words x=hdA (w.fwd (loadA w.heap.words (q+1+j)).1).1.heap.words x:=by
  intro x hx
  simp only[Work.in1]
  rw[hdA,hdA,Z0C hin (hne x hx)]
 have m2:Sm (w.fwd (loadA w.heap.words (q+1+j)).1).1 (w.in1 (q+1+j)):=⟨⟨[],by simp[Work.in1]⟩,hh⟩
 refine⟨m.trans m2,s.2.1, ?_⟩
 intro z hz
 have key:(∃ q' j',q'∈w.queue∧0≤j'∧j'<hlA w.heap.words q'∧z=q'+1+j'):=by
  rcases hz with hz | rfl
  ·exact(f z hz).1
  ·exact⟨q,j,hq,hj.1,hj.2,rfl⟩
 obtain⟨q',j',k1,k2,k3,k4⟩:=key
 refine⟨⟨q',j',(m.trans m2).mem k1,k2,by rw[(m.trans m2).len k1];exact k3,k4⟩, ?_⟩
 by_cases c:z=q+1+j
 ·subst c
  have:(loadA (w.in1 (q+1+j)).heap.words (q+1+j)).1=(w.fwd (loadA w.heap.words (q+1+j)).1).2.1:=by
   simp only[Work.in1]
   rw[Z2x hin]
  rw[this]
  exact m2.to to
 ·have:loadA (w.in1 (q+1+j)).heap.words z=loadA (w.fwd (loadA w.heap.words (q+1+j)).1).1.heap.words z:=by
   simp only[Work.in1]
   rw[Z0C hin c]
  rw[this]
  rcases hz with hz | hz
  ·exact m2.to (ff z hz).2
  ·exact absurd hz c
section
variable {B:Int} (hB:0≤B)
include hB
theorem Zhv{w:Work}(hw:WkOk w)(h:Inv w)(hp:PR B w){F:Int→Prop}(f:FD w F){q:Int}(hq:q∈w.queue){l:List Int}(hl:∀ x∈l,0≤x∧x<hlA w.heap.words q):∀ k,k≤l.length→(∀ j,j<k→innE w q l j=0)→Sm w (innN w q l k)∧(innN w q l k).scanned=w.scanned∧FD (innN w q l k) (fun z=>F z∨∃ i,i<k∧z=q+1+l.getD i default)
 | 0,_,_=>⟨⟨⟨[],by simp[innN]⟩,fun _ _=>rfl⟩,rfl,fun z hz=>f z (hz.resolve_right (by rintro⟨i,hi,_⟩;omega))⟩
 | k+1,hk,he=>by
  obtain⟨a,b,c⟩:=Zhv hw h hp f hq hl k (by omega) (fun j hj=>he j (by omega))
  have ok:=(Z3Z hw q l k (fun j hj=>he j (by omega))).1
  have iv:=Z7f hw h hq hl k (by omega) (fun j hj=>he j (by omega))
  have pr:=Zgx (PR B) (fun w q j hw hi h hq h0 h1 e=>PR.in1 hB w q j hw hi h hq h0 h1 e) hw h hp hq hl k (by omega) (fun j hj=>he j (by omega))
  have hx:=hl _ (getD_mem_iff.2 ⟨k,by omega,rfl⟩)
  obtain⟨d1,d2,d3⟩:=ZlS ok iv.1 pr c (a.mem hq) (j:=l.getD k default) ⟨hx.1,by rw[a.len hq];exact hx.2⟩ (he k (by omega))
  refine⟨a.trans d1,d2.trans b,fun z hz=>d3 z ?_⟩
  rcases hz with hz | ⟨i,hi,hz⟩
  ·exact Or.inl (Or.inl hz)
  ·by_cases q2:i=k
   ·subst q2;exact Or.inr hz
   ·exact Or.inl (Or.inr ⟨i,by omega,hz⟩)
def SD(w:Work):Prop:=FD w (fun z=>∃ i j,i<w.scanned.toNat∧j∈Z0g (hdA w.heap.words (w.queue.getD i default))∧z=w.queue.getD i default+1+j)
omit hB in
theorem Sm.get{w v:Work}(a:Sm w v){i:Nat}(hi:i<w.queue.length):v.queue.getD i default=w.queue.getD i default:=by
 obtain⟨m,em⟩:=a.q
 rw[em,List.getD_eq_getElem?_getD,List.getD_eq_getElem?_getD,List.getElem?_append_left hi]
theorem ZdW{w:Work}(hw:WkOk w)(h:Inv w)(hp:PR B w)(f:SD w)(e:(Z0H w).2.2=0):SD (Z0H w).1:=by
 by_cases hs:w.scanned<w.queue.length
 ·have hsc:=hw.sc
  have hq:Z2Z w∈w.queue:=getD_mem_iff.2 ⟨w.scanned.toNat,by omega,rfl⟩
  unfold Z0H at e ⊢
  rw[if_pos hs]at e ⊢
  cases hb:(List.range (Z1N w).length).find? (fun k=>decide (innE w (Z2Z w) (Z1N w) k≠0))with
  | none =>
   have h0:∀ j,j<(Z1N w).length→innE w (Z2Z w) (Z1N w) j=0:=fun j hj=>by
    have:=List.find?_eq_none.1 hb j (List.mem_range.2 hj)
    simpa using this
   obtain⟨a,b,c⟩:=Zhv hB hw h hp f hq (l:=Z1N w) (Z4K (hdW w (Z2Z w))) (Z1N w).length (Nat.le_refl _) h0
   intro z hz
   obtain⟨i,j,hi,hj,rfl⟩:=hz
   simp only[ZcO]at hi hj ⊢
   rw[b]at hi
   have hg:=a.get (show i<w.queue.length by omega)
   have hm:w.queue.getD i default∈w.queue:=getD_mem_iff.2 ⟨i,by omega,rfl⟩
   rw[hg,a.h _ hm]at hj
   rw[hg]
   refine c _ ?_
   by_cases q:i=w.scanned.toNat
   ·subst q
    obtain⟨n,n1,n2⟩:=getD_mem_iff.1 hj
    exact Or.inr ⟨n,n1,by rw[← n2];rfl⟩
   ·exact Or.inl ⟨i,j,by omega,hj,rfl⟩
  | some k =>
   simp only[hb]at e
   have:=(List.find?_range_eq_some.1 hb).1
   simp[e]at this
 ·have e:Z0H w=(w,false,0):=by rw[Z0H,if_neg hs]
  rw[e]
  exact f
theorem Zk0{w:Work}(hw:WkOk w)(h:Inv w)(hp:PR B w)(f:SD w):∀ k,(∀ j,j<k→Z37 w j=false)→SD (itW w k)
 | 0,_=>f
 | k+1,hh=>by
  have ih:=Zk0 hw h hp f k (fun j hj=>hh j (by omega))
  have ok:=(Z3L hw k (fun j hj=>hh j (by omega))).1
  have iv:=(Z6B hw h k (fun j hj=>hh j (by omega))).1
  have pr:=ZiS (PR B) (fun w q j hw hi h hq h0 h1 e=>PR.in1 hB w q j hw hi h hq h0 h1 e) (fun w n h=>⟨⟨h.tab.pt,h.tab.tk,h.tab.pin⟩,h.rt.q,h.rt.t⟩) hw h hp k (fun j hj=>hh j (by omega))
  have hk:=hh k (by omega)
  simp only[Z37,decide_eq_false_iff_not,not_or,Decidable.not_not]at hk
  exact ZdW hB ok iv pr ih hk.1
theorem Zlq{w:Work}(hw:WkOk w)(h:Inv w)(hp:PR B w)(f:SD w)(e:(allF w).2=0):SD (allF w).1∧(allF w).1.scanned=(allF w).1.queue.length:=by
 obtain⟨k,hb⟩:=Z4I hw
 obtain⟨h1,h2,h3⟩:=List.find?_range_eq_some.1 hb
 have h0:∀ j,j<k→Z37 w j=false:=fun j hj=>by simpa using h3 j hj
 unfold allF at e ⊢
 rw[hb]at e ⊢
 simp only at e ⊢
 split at e
 ·rename_i c
  rw[if_pos c]
  have ok:=(Z3L hw k h0).1
  have iv:=(Z6B hw h k h0).1
  have pr:=ZiS (PR B) (fun w q j hw hi h hq h0 h1 e=>PR.in1 hB w q j hw hi h hq h0 h1 e) (fun w n h=>⟨⟨h.tab.pt,h.tab.tk,h.tab.pin⟩,h.rt.q,h.rt.t⟩) hw h hp k h0
  refine⟨ZdW hB ok iv pr (Zk0 hB hw h hp f k h0) c, ?_⟩
  simp only[Z37,decide_eq_true_eq]at h1
  have hf:(Z0H (itW w k)).2.1=false:=h1.resolve_left (fun q=>q c)
  have hsc:=ok.sc
  by_cases hs:(itW w k).scanned<(itW w k).queue.length
  ·exfalso
   unfold Z0H at hf c
   rw[if_pos hs]at hf c
   cases hb2:(List.range (Z1N (itW w k)).length).find? (fun m=>decide (innE (itW w k) (Z2Z (itW w k)) (Z1N (itW w k)) m≠0))with
   | none =>
    rw[hb2]at hf
    simp at hf
   | some m =>
    simp only[hb2]at c
    have:=(List.find?_range_eq_some.1 hb2).1
    simp[c]at this
  ·have e3:Z0H (itW w k)=(itW w k,false,0):=by rw[Z0H,if_neg hs]
   rw[e3]
   simp only
   omega
 ·rename_i c
  exact absurd e c
theorem ZlX{h:Heap}{s:List Int}(hw:WOk h.words)(hp:Z03 h=true)(hb:∀ p∈h.pages,p.pins≤B)(e:(rootsF (beginW h) s).2.2=0)(e2:(allF (rootsF (beginW h) s).1).2=0):SD (cW2 h s)∧(cW2 h s).scanned=(cW2 h s).queue.length:=by
 have wb:=Z36 hw hp
 have hi:=Z2X hp
 have ho:=Z2W (roots:=s) wb hi e
 have pr:=Zab (PR B) (fun w r hw hi h e=>PR.fwd hB w r hw hi h e) (roots:=s) wb hi ⟨Z4s hp hb,Z75 hp⟩ e
 have s0:=Zab (fun w=>w.scanned=0) (fun w r hw hi h e=>(Z74 hw hi r e).2.1.trans h) (roots:=s) wb hi rfl e
 exact Zlq hB ho.1 ho.2.1 pr (fun z hz=>by obtain⟨i,j,q,_⟩:=hz;rw[s0]at q;simp at q) e2
end
def Z5s(w:Work)(x:Int):Prop:=Z1h w (ofA w.heap.conf x).1=true∧x∉w.queue
def Z8I(n:Int)(a x:Int):Int:=if a=x then 1+16*n else 0
theorem Zg2{n:Int}(h:0≤n∧n≤255):decodeH (1+16*n)=(⟨0,n,0⟩,true):=by
 have hv:Z0i ⟨0,n,0⟩=true:=validH_iff.2 ⟨by simp,by simp,h.1,h.2,by simp⟩
 have:=decode_encode hv (by simp)
 rw[Z4W h]at this
 exact this
theorem ZgC{n:Int}(h:0≤n∧n≤255){ws:List Int}{a x:Int}(hx:4096≤x∧x+n<4096+ws.length)(ha:x≤a∧a≤x+n):(loadA (Z0b ws x (objW ⟨0,n,0⟩)).1 a).1=Z8I n a x:=by
 have hl:(objW ⟨0,n,0⟩).length=n.toNat+1:=by simp[objW]
 rw[Z1B (by omega) (by omega)]
 unfold Z8I
 by_cases c:a=x
 ·subst c
  simp[objW,Z4W h]
 ·rw[if_neg c,objW,show(a-x).toNat=(a-x-1).toNat+1 by omega]
  simp[List.getD_eq_getElem?_getD,List.getElem?_replicate]
  split<;>rfl
structure FL (v:Work) (ws:List Int) (k:Nat):Prop where
 l:ws.length=v.heap.words.length
 h:∀ x∈v.old,hlA ws x=hlA v.heap.words x
 s:∀ a,loadA ws a=loadA v.heap.words a∨∃ x∈v.old,Z5s v x∧x≤a∧a≤x+hlA v.heap.words x∧(loadA ws a).1=Z8I (hlA v.heap.words x) a x
 f:∀ j,j<k→Z5s v (v.old.getD j default)→∀ a,v.old.getD j default≤a→a≤v.old.getD j default+hlA v.heap.words (v.old.getD j default)→(loadA ws a).1=Z8I (hlA v.heap.words (v.old.getD j default)) a (v.old.getD j default)
theorem ZeF{v:Work}(hw:FOk v)(hi:Inv v):∀ k,k≤v.old.length→FL v (fillN v k).heap.words k
 | 0,_=>⟨rfl,fun _ _=>rfl,fun _=>Or.inl rfl,fun j hj=>by omega⟩
 | k+1,hk=>by
  have ih:=ZeF hw hi k (by omega)
  obtain⟨i0,i1,i2,i3,i4,i5,i6,i7,i8,i9,i10,i11⟩:=Z58 v hw k
  have hm:v.old.getD k default∈v.old:=getD_mem_iff.2 ⟨k,by omega,rfl⟩
  have hr:=hi.r _ (List.mem_append_left _ hm)
  have hn:=Z0d v.heap.words (v.old.getD k default)
  have hprom:Z1h (fillN v k) (ofA (fillN v k).heap.conf (v.old.getD k default)).1=Z1h v (ofA v.heap.conf (v.old.getD k default)).1:=by
   unfold Z1h
   rw[i1,i2,i3,i6]
  by_cases c:Z5s v (v.old.getD k default)
  ·have e:(fillN v (k+1)).heap.words=(Z0b (fillN v k).heap.words (v.old.getD k default) (objW ⟨0,hlA v.heap.words (v.old.getD k default),0⟩)).1:=by
    show(Z5g (fillN v k) (v.old.getD k default)).heap.words=_
    rw[Z5g,hprom,i7,if_pos (show Z1h v (ofA v.heap.conf (v.old.getD k default)).1=true∧v.old.getD k default∉v.queue from c)]
    simp only
    rw[← ih.h _ hm]
    rfl
   rw[e]
   have hl:=ih.l
   generalize hx:v.old.getD k default=x at *
   have hin:4096≤x∧x+hlA v.heap.words x<4096+(fillN v k).heap.words.length:=by omega
   have ho:(objW ⟨0,hlA v.heap.words x,0⟩).length=(hlA v.heap.words x).toNat+1:=by simp[objW]
   have win:=fun a ha=>ZgC hn (ws:=(fillN v k).heap.words) (a:=a) hin ha
   have wout:∀ a,a<x∨x+hlA v.heap.words x<a→loadA (Z0b (fillN v k).heap.words x (objW ⟨0,hlA v.heap.words x,0⟩)).1 a=loadA (fillN v k).heap.words a:=fun a ha=>Z1F (by omega) (by omega)
   have sep:=fun y hy=>hi.s x (List.mem_append_left _ hm) y (List.mem_append_left _ hy)
   have sep2:=fun y hy=>hi.s y (List.mem_append_left _ hy) x (List.mem_append_left _ hm)
   refine⟨?_, ?_, ?_, ?_⟩
   ·unfold Z0b
    rw[if_pos (by omega)]
    exact(Z3e (by omega)).trans hl
   ·intro y hy
    by_cases q:y=x
    ·subst q
     have:=win y (by omega)
     rw[hlA,this,Z8I,if_pos rfl,Zg2 hn]
    ·have s1:=sep y hy
     have s2:=sep2 y hy
     have:=Z0d v.heap.words y
     rw[hlA,wout y (by omega)]
     exact ih.h y hy
   ·intro a
    by_cases q:x≤a∧a≤x+hlA v.heap.words x
    ·exact Or.inr ⟨x,hm,c,q.1,q.2,win a q⟩
    ·rw[wout a (by omega)]
     exact ih.s a
   ·intro j hj hf a h1 h2
    by_cases q:v.old.getD j default=x
    ·rw[q]at h1 h2 ⊢
     exact win a ⟨h1,h2⟩
    ·have hjk:j<k:=by
      by_cases q2:j=k
      ·subst q2;exact absurd hx q
      ·omega
     have hmj:v.old.getD j default∈v.old:=getD_mem_iff.2 ⟨j,by omega,rfl⟩
     have s1:=sep _ hmj
     have s2:=sep2 _ hmj
     have:=Z0d v.heap.words (v.old.getD j default)
     rw[wout a (by omega)]
     exact ih.f j hjk hf a h1 h2
  ·have e:fillN v (k+1)=fillN v k:=by
    show Z5g (fillN v k) (v.old.getD k default)=_
    rw[Z5g,hprom,i7,if_neg (show ¬ (Z1h v (ofA v.heap.conf (v.old.getD k default)).1=true∧v.old.getD k default∉v.queue)from c)]
   rw[e]
   refine⟨ih.l,ih.h,ih.s,fun j hj hf=>?_⟩
   by_cases q:j=k
   ·subst q;exact absurd hf c
   ·exact ih.f j (by omega) hf
theorem Zch{c:Conf}{s:Int}{l:List Page}{ws:List Int}(hp:0≤c.pw)(hl:(ws.length:Int)=c.pw*l.length):∀ k,k≤l.length→(Z25 c.pw s l ws k).length=ws.length∧∀ (i:Nat) (o:Int),i<l.length→0≤o→o<c.pw→loadA (Z25 c.pw s l ws k) (4096+i*c.pw+o)=if i<k∧Z32 s (l.getD i default)then(0,0)else loadA ws (4096+i*c.pw+o)
 | 0,_=>⟨rfl,fun i o _ _ _=>by rw[if_neg (by omega)];rfl⟩
 | k+1,hk=>by
  obtain⟨h1,h2⟩:=Zch (s:=s) hp hl k (by omega)
  unfold Z25
  by_cases c':Z32 s (l.getD k default)
  ·rw[if_pos c']
   have hk2:=Z14 (i:=k) (j:=l.length) (pw:=c.pw) (by omega) hp
   have hk0:0≤(k:Int)*c.pw:=Int.mul_nonneg (by omega) hp
   rw[Int.mul_comm (l.length:Int)]at hk2
   have hlen:(List.replicate c.pw.toNat (0:Int)).length=c.pw.toNat:=List.length_replicate
   have en:((k*c.pw.toNat:Nat):Int)=k*c.pw:=by rw[Int.natCast_mul,Int.toNat_of_nonneg hp]
   have e:spl (Z25 c.pw s l ws k) (k*c.pw.toNat) (List.replicate c.pw.toNat 0)=(Z0b (Z25 c.pw s l ws k) (4096+k*c.pw) (List.replicate c.pw.toNat 0)).1:=by
    unfold Z0b
    rw[if_pos (by omega)]
    simp only
    congr 1
    omega
   refine⟨?_, ?_⟩
   ·rw[Z3e (by omega)]
    exact h1
   ·intro i o hi h0 ho
    rw[e]
    by_cases q:i=k
    ·subst q
     rw[Z1B (by omega) (by omega),if_pos ⟨by omega,c'⟩]
     simp[List.getD_eq_getElem?_getD,List.getElem?_replicate]
     split<;>rfl
    ·have hne:4096+(i:Int)*c.pw+o<4096+k*c.pw∨4096+k*c.pw+c.pw≤4096+(i:Int)*c.pw+o:=by
      rcases Nat.lt_or_gt_of_ne q with q | q
      ·have:=Z14 (i:=i) (j:=k) (pw:=c.pw) (by omega) hp
       omega
      ·have:=Z14 (i:=k) (j:=i) (pw:=c.pw) (by omega) hp
       omega
     rw[Z1F (by omega) (by omega),h2 i o hi h0 ho]
     by_cases q2:i<k∧Z32 s (l.getD i default)
     ·rw[if_pos q2,if_pos ⟨by omega,q2.2⟩]
     ·rw[if_neg q2,if_neg (fun q3=>q2 ⟨by omega,q3.2⟩)]
  ·rw[if_neg c']
   refine⟨h1,fun i o hi h0 ho=>?_⟩
   rw[h2 i o hi h0 ho]
   by_cases q2:i<k∧Z32 s (l.getD i default)
   ·rw[if_pos q2,if_pos ⟨by omega,q2.2⟩]
   ·rw[if_neg q2,if_neg]
    rintro⟨q3,q4⟩
    by_cases q5:i=k
    ·subst q5;exact c' q4
    ·exact q2 ⟨by omega,q4⟩
theorem Z9j(hd:Header){k:Int}(h0:0≤k)(hp:Z0m hd k=true):∀ n:Nat,k<n→k∈Z1P hd n
 | 0,h=>by omega
 | n+1,h=>by
  unfold Z1P
  by_cases q:k=n
  ·subst q
   rw[if_pos hp]
   simp
  ·have ih:=Z9j hd h0 hp n (by omega)
   split
   ·exact List.mem_append_left _ ih
   ·exact ih
theorem Zae{hd:Header}{k:Int}(h0:0≤k)(h1:k<hd.length)(hp:Z0m hd k=true):k∈Z0g hd:=by
 have hv:Z0i hd=true:=by
  unfold Z0m at hp
  simp only[Bool.and_eq_true]at hp
  exact hp.1.1.1
 unfold Z0g
 rw[if_pos hv]
 exact Z9j hd h0 hp _ (by omega)
structure CE (h:Heap) (T tq:Nat→List Int) (w:Work) (l4 l5:List Int):Prop where
 g:Gd h T
 k:KI h T tq w
 i:Inv w
 s:w.heap.space=0∨w.heap.space=1
 pt:PT w.heap.conf w.heap.pages
 ts:∀ x∈w.taken,(w.heap.pages.getD x.toNat default).space=1-w.heap.space
 sd:SD w
 sc:w.scanned=w.queue.length
 f3:∀ a,loadA l4 a=loadA w.heap.words a∨∃ x∈w.old,Z5s w x∧x≤a∧a≤x+hlA w.heap.words x∧(loadA l4 a).1=Z8I (hlA w.heap.words x) a x
 f4:∀ x∈w.old,Z5s w x→∀ a,x≤a→a≤x+hlA w.heap.words x→(loadA l4 a).1=Z8I (hlA w.heap.words x) a x
 n4:l4.length=w.heap.words.length
 n5:l5.length=w.heap.words.length
 fr:∀ (i:Nat) (o:Int),i<h.pages.length→0≤o→o<h.conf.pw→loadA l5 (bsP h i+o)=if Z32 w.heap.space (w.heap.pages.getD i default)then(0,0)else loadA l4 (bsP h i+o)
def tE(T tq:Nat→List Int)(w:Work)(i:Nat):List Int:=if(i:Int)∈w.taken then tq i else if(w.heap.pages.getD i default).space≠w.heap.space then T i else []
section
variable {h:Heap} {T tq:Nat→List Int} {w:Work} {l4 l5:List Int} (c:CE h T tq w l4 l5)
include c
theorem CE.mem{i:Nat}{x:Int}(hx:x∈tE T tq w i):(i:Int)∈w.taken∧x∈tq i∨(i:Int)∉w.taken∧(w.heap.pages.getD i default).space≠w.heap.space∧x∈T i:=by
 unfold tE at hx
 split at hx
 ·rename_i q;exact Or.inl ⟨q,hx⟩
 ·rename_i q
  split at hx
  ·rename_i q2;exact Or.inr ⟨q,q2,hx⟩
  ·simp at hx
theorem CE.gone0{i:Nat}(hi:(i:Int)∈w.taken):¬ Z32 w.heap.space (w.heap.pages.getD i default):=by
 have:=c.ts _ hi
 rw[Int.toNat_natCast]at this
 have:=c.s
 unfold Z32
 omega
theorem CE.pgof{i:Nat}{x a:Int}(hx:x∈T i)(h1:x≤a)(h2:a≤x+hlA h.words x):∃ (j:Nat) (o:Int),j<h.pages.length∧0≤o∧o<h.conf.pw∧a=bsP h j+o∧(w.heap.pages.getD j default).kind≠0∧(w.heap.pages.getD j default).space=(w.heap.pages.getD i default).space:=by
 have g:=c.g
 have o:=g.on hx
 have po:=Z09 g.p
 have pg:=c.k.pg i (c.k.nt g hx)
 have hcc:=c.k.c
 have hpl:=c.k.pl
 rcases o.2.1 with k | k
 ·have pp:=Z0I g.p o.1
  exact⟨i,a-bsP h i,o.1,by omega,by omega,by omega,by omega,rfl⟩
 ·have hx2:=o.2.2.2.2.2.2 k
  have lg:=c.pt.lg i (by omega) (by omega)
  rw[pg.2.1,hcc]at lg
  have nu:=Z4q lg.1
  have h0:0≤(a-bsP h i)/h.conf.pw:=Int.ediv_nonneg (by omega) (by omega)
  have h3:=Int.mul_ediv_add_emod (a-bsP h i) h.conf.pw
  have h4:=Int.emod_nonneg (a-bsP h i) (b:=h.conf.pw) (by omega)
  have h5:=Int.emod_lt_of_pos (a-bsP h i) (b:=h.conf.pw) (by omega)
  have h6:(a-bsP h i)/h.conf.pw<need h.conf (h.pages.getD i default).used:=Int.ediv_lt_of_lt_mul (by omega) (by omega)
  rw[Int.mul_comm]at h3
  generalize hm:(a-bsP h i)/h.conf.pw=m at *
  have hmn:((m.toNat:Nat):Int)=m:=by omega
  refine⟨i+m.toNat,(a-bsP h i)%h.conf.pw, ?_,h4,h5, ?_, ?_⟩
  ·by_cases q:m.toNat=0
   ·omega
   ·have:=(lg.2 m.toNat (by omega) (by omega)).1
    omega
  ·unfold bsP at h3 ⊢
   rw[Int.natCast_add,hmn,Int.add_mul]
   omega
  ·by_cases q:m.toNat=0
   ·rw[q,Nat.add_zero]
    exact⟨by omega,rfl⟩
   ·have:=(lg.2 m.toNat (by omega) (by omega)).2
    exact⟨by omega,this.2⟩
theorem CE.keptw{i:Nat}{x a:Int}(hx:x∈T i)(hs:(w.heap.pages.getD i default).space≠w.heap.space)(h1:x≤a)(h2:a≤x+hlA h.words x):loadA l5 a=loadA l4 a:=by
 obtain⟨j,o,j1,o1,o2,e,k0,k1⟩:=c.pgof hx h1 h2
 rw[e,c.fr j o j1 o1 o2,if_neg]
 unfold Z32
 rw[k1]
 exact fun q=>hs q.2
theorem CE.gonew{i:Nat}{x a:Int}(hx:x∈T i)(hs:(w.heap.pages.getD i default).space=w.heap.space)(h1:x≤a)(h2:a≤x+hlA h.words x):(loadA l5 a).1=0:=by
 obtain⟨j,o,j1,o1,o2,e,k0,k1⟩:=c.pgof hx h1 h2
 rw[e,c.fr j o j1 o1 o2,if_pos ⟨k0,k1.trans hs⟩]
theorem CE.seen4{x a:Int}(hx:x∈w.queue)(h1:x≤a)(h2:a≤x+hlA w.heap.words x):loadA l4 a=loadA w.heap.words a:=by
 rcases c.f3 a with q | ⟨y,hy,q1,q2,q3,q4⟩
 ·exact q
 ·exfalso
  have hne:x≠y:=fun e=>q1.2 (e▸hx)
  have s1:=c.i.s x (List.mem_append_right _ hx) y (List.mem_append_left _ hy)
  have s2:=c.i.s y (List.mem_append_left _ hy) x (List.mem_append_right _ hx)
  have r1:=Z0d w.heap.words x
  have r2:=Z0d w.heap.words y
  rcases Int.lt_or_gt_of_ne hne with q | q
  ·have:=s1 q;omega
  ·have:=s2 q;omega
theorem CE.takenw{i:Nat}{a:Int}(hi:(i:Int)∈w.taken)(h1:bsP h i≤a)(h2:a<bsP h i+h.conf.pw):loadA l5 a=loadA l4 a:=by
 have t:=c.k.tk i hi
 have:=c.fr i (a-bsP h i) t.1 (by omega) (by omega)
 rw[show bsP h i+(a-bsP h i)=a by omega,if_neg (c.gone0 hi)]at this
 exact this
theorem CE.seen{x a:Int}(hx:x∈w.queue)(h1:x≤a)(h2:a≤x+hlA w.heap.words x):loadA l5 a=loadA w.heap.words a:=by
 rw[← c.seen4 hx h1 h2]
 rcases c.k.q x hx with⟨i,i1,i2,i3,i4⟩ | ⟨i,i1,i2⟩
 ·have he:(loadA w.heap.words x).1=(loadA h.words x).1:=by
   rcases c.k.hd i x i2 with q | q
   ·exact q
   ·exact absurd q.2.2 i4
  rw[(Z1W he).2.1]at h2
  exact c.keptw i2 i4 h1 h2
 ·have t:=c.k.tk i i1
  have m:=Z1q t.2.2.2.2.2.1 i2
  exact c.takenw i1 (by omega) (by omega)
theorem CE.where'{x:Int}(hx:x∈w.queue):∃ i,x∈tE T tq w i:=by
 rcases c.k.q x hx with⟨i,i1,i2,i3,i4⟩ | ⟨i,i1,i2⟩
 ·exact⟨i,by rw[tE,if_neg i1,if_pos i4];exact i2⟩
 ·exact⟨i,by rw[tE,if_pos i1];exact i2⟩
theorem CE.seenK{x:Int}(hx:x∈w.queue):kdA w.heap.words x≠0∧okA w.heap.words x:=by
 rcases c.k.q x hx with⟨i,i1,i2,i3,i4⟩ | ⟨i,i1,i2⟩
 ·have he:(loadA w.heap.words x).1=(loadA h.words x).1:=by
   rcases c.k.hd i x i2 with q | q
   ·exact q
   ·exact absurd q.2.2 i4
  have o:=Z1W he
  exact⟨by rw[o.2.2.1];exact i3,o.1 (c.g.on i2).2.2.2.2.2.1⟩
 ·have t:=c.k.tk i i1
  exact⟨(t.2.2.2.2.2.2 x i2).2.1,(Z1q t.2.2.2.2.2.1 i2).1⟩
theorem CE.kept{i:Nat}{x:Int}(hx:x∈T i)(hn:(i:Int)∉w.taken)(hs:(w.heap.pages.getD i default).space≠w.heap.space):(loadA w.heap.words x).1=(loadA h.words x).1∧okA l5 x∧hlA l5 x=hlA h.words x∧(x∉w.queue→kdA l5 x=0∧(h.pages.getD i default).kind=1∧(kdA h.words x≠0→x∈w.old∧Z5s w x)):=by
 have he:(loadA w.heap.words x).1=(loadA h.words x).1:=by
  rcases c.k.hd i x hx with q | q
  ·exact q
  ·exact absurd q.2.2 hs
 have on:=c.g.on hx
 have oh:=Z1W he
 have rx:=Z0d h.words x
 refine⟨he, ?_⟩
 by_cases hq:x∈w.queue
 ·have e:=Z1W (congrArg Prod.fst (c.seen hq (Int.le_refl _) (by have:=Z0d w.heap.words x;omega)))
  exact⟨e.1 (oh.1 on.2.2.2.2.2.1),by rw[e.2.1,oh.2.1],fun q=>absurd hq q⟩
 ·have k1:(h.pages.getD i default).kind=1:=by
   rcases on.2.1 with q | q
   ·exact q
   ·have:=c.k.lg i q hs
    rw[← (on.2.2.2.2.2.2 q).1]at this
    exact absurd this hq
  have e5:loadA l5 x=loadA l4 x:=c.keptw hx hs (Int.le_refl _) (by omega)
  by_cases hk:kdA h.words x=0
  ·have e4:loadA l4 x=loadA w.heap.words x:=by
    rcases c.f3 x with q | ⟨y,hy,q1,q2,q3,q4⟩
    ·exact q
    ·exfalso
     obtain⟨j,hj,hjk⟩:=(c.k.old y).1 hy
     by_cases e:y=x
     ·subst e;exact hjk hk
     ·have sj:(loadA w.heap.words y).1=(loadA h.words y).1:=by
       rcases c.k.hd j y hj with q | q
       ·exact q
       ·exfalso
        have o2:=q1.1
        unfold Z1h at o2
        rw[c.k.c,c.g.ofx hj]at o2
        simp only[decide_eq_true_eq,Int.toNat_natCast]at o2
        exact o2.2.2.2.1 q.2.2
      rw[(Z1W sj).2.1]at q3
      have:=c.g.sep hj hx (by omega)
      omega
   have e:=Z1W (ws:=h.words) (ws':=l5) (a:=x) (by rw[e5,e4,he])
   exact⟨e.1 on.2.2.2.2.2.1,e.2.1,fun _=>⟨by rw[e.2.2.1];exact hk,k1,fun q=>absurd hk q⟩⟩
  ·have ho:x∈w.old:=(c.k.old x).2 ⟨i,hx,hk⟩
   have hf:Z5s w x:=by
    refine⟨?_,hq⟩
    have pg:=c.k.pg i hn
    have pl:=c.k.pl
    unfold Z1h
    rw[c.k.c,c.g.ofx hx]
    simp only[decide_eq_true_eq,Int.toNat_natCast]
    exact⟨by omega,by omega,by omega,hs,hn⟩
   have v:=c.f4 x ho hf x (Int.le_refl _) (by have:=Z0d w.heap.words x;omega)
   rw[Z8I,if_pos rfl,oh.2.1]at v
   rw[← e5]at v
   have d:=Zg2 rx
   exact⟨by rw[okA,v,d],by rw[hlA,v,d],fun _=>⟨by rw[kdA,hdA,v,d],k1,fun _=>⟨ho,hf⟩⟩⟩
theorem CE.start{i:Nat}{x:Int}(hx:x∈tE T tq w i):okA l5 x∧(kdA l5 x≠0↔x∈w.queue):=by
 have sq:x∈w.queue→okA l5 x∧kdA l5 x≠0:=fun hq=>by
  have e:=Z1W (congrArg Prod.fst (c.seen hq (Int.le_refl _) (by have:=Z0d w.heap.words x;omega)))
  have s:=c.seenK hq
  exact⟨e.1 s.2,by rw[e.2.2.1];exact s.1⟩
 rcases c.mem hx with⟨q1,q2⟩ | ⟨q1,q2,q3⟩
 ·have hq:=((c.k.tk i q1).2.2.2.2.2.2 x q2).1
  exact⟨(sq hq).1,fun _=>hq,fun _=>(sq hq).2⟩
 ·have kk:=c.kept q3 q1 q2
  refine⟨kk.2.1,fun hk=>?_,fun hq=>(sq hq).2⟩
  by_cases hq:x∈w.queue
  ·exact hq
  ·exact absurd (kk.2.2.2 hq).1 hk
theorem CE.good{b:Int}(hp:Z03 ⟨w.heap.conf,l5,w.heap.pages.map (Z1i w.heap.space),1-w.heap.space,b⟩=true):Gd ⟨w.heap.conf,l5,w.heap.pages.map (Z1i w.heap.space),1-w.heap.space,b⟩ (tE T tq w):=by
 have g:=c.g
 have hcc:=c.k.c
 have hpl:=c.k.pl
 have hs:=c.s
 have po:=Z09 g.p
 have hgt:∀ i,i<h.pages.length→(w.heap.pages.map (Z1i w.heap.space)).getD i default=Z1i w.heap.space (w.heap.pages.getD i default):=fun i hi=>by
  have:i<w.heap.pages.length:=by omega
  simp[List.getD_eq_getElem?_getD,this]
 have hng:∀ i,i<h.pages.length→((w.heap.pages.map (Z1i w.heap.space)).getD i default).kind≠0→¬ Z32 w.heap.space (w.heap.pages.getD i default)∧(w.heap.pages.map (Z1i w.heap.space)).getD i default=w.heap.pages.getD i default:=by
  intro i hi hk
  rw[hgt i hi]at hk ⊢
  unfold Z1i at hk ⊢
  split at hk
  ·simp at hk
  ·rename_i q
   rw[if_neg q]
   exact⟨q,rfl⟩
 have hb:∀ i,bsP ⟨w.heap.conf,l5,w.heap.pages.map (Z1i w.heap.space),1-w.heap.space,b⟩ i=bsP h i:=fun i=>by simp only[bsP,hcc]
 have hk5:∀ x,x∈w.queue→okA w.heap.words x→okA l5 x∧hlA l5 x=hlA w.heap.words x∧kdA l5 x=kdA w.heap.words x∧hdA l5 x=hdA w.heap.words x:=fun x hq ho=>by
  have e:=Z1W (congrArg Prod.fst (c.seen hq (Int.le_refl _) (by have:=Z0d w.heap.words x;omega)))
  exact⟨e.1 ho,e.2.1,e.2.2.1,e.2.2.2.1⟩
 have hkept:∀ i,i<h.pages.length→(i:Int)∉w.taken→((w.heap.pages.map (Z1i w.heap.space)).getD i default).kind≠0→(w.heap.pages.getD i default).space≠w.heap.space∧(h.pages.getD i default).kind=((w.heap.pages.map (Z1i w.heap.space)).getD i default).kind∧(h.pages.getD i default).used=((w.heap.pages.map (Z1i w.heap.space)).getD i default).used∧(h.pages.getD i default).pins=((w.heap.pages.map (Z1i w.heap.space)).getD i default).pins:=by
  intro i hi hn hk
  have n:=hng i hi hk
  have pg:=c.k.pg i hn
  rw[n.2]at hk ⊢
  refine⟨fun q=>n.1 ⟨hk,q⟩,pg.1.symm,pg.2.1.symm,pg.2.2.symm⟩
 refine⟨hp, ?_, ?_, ?_, ?_, ?_, ?_, ?_⟩
 ·intro i hi hk
  simp only[List.length_map]at hi hk ⊢
  have n:=hng i (by omega) hk
  rw[n.2]at hk ⊢
  have:=(c.pt.b i hi).s
  have n1:=n.1
  unfold Z32 at n1
  omega
 ·intro i hi hk
  simp only[List.length_map]at hi hk ⊢
  rw[hb]
  have n:=hng i (by omega) (by omega)
  by_cases q:(i:Int)∈w.taken
  ·have t:=c.k.tk i q
   rw[tE,if_pos q,n.2,hcc]
   refine⟨Z1M t.2.2.2.2.2.1 fun x hx=>?_,fun x hx=>?_⟩
   ·have e:=hk5 x (t.2.2.2.2.2.2 x hx).1 (Z1q t.2.2.2.2.2.1 hx).1
    exact⟨e.1,e.2.1⟩
   ·have e:=hk5 x (t.2.2.2.2.2.2 x hx).1 (Z1q t.2.2.2.2.2.1 hx).1
    rw[e.2.1]
    exact(t.2.2.2.2.2.2 x hx).2.2
  ·have kp:=hkept i (by omega) q (by omega)
   rw[tE,if_neg q,if_pos kp.1,← kp.2.2.1,hcc]
   have t:=g.t1 i (by omega) (by omega)
   refine⟨Z1M t.1 fun x hx=>?_,fun x hx=>?_⟩
   ·have e:=c.kept hx q kp.1
    exact⟨e.2.1,e.2.2.1⟩
   ·rw[(c.kept hx q kp.1).2.2.1]
    exact t.2 x hx
 ·intro i hi hk
  simp only[List.length_map]at hi hk ⊢
  rw[hb]
  have n:=hng i (by omega) (by omega)
  by_cases q:(i:Int)∈w.taken
  ·have t:=c.k.tk i q
   rw[n.2]at hk
   omega
  ·have kp:=hkept i (by omega) q (by omega)
   have t:=g.t2 i (by omega) (by omega)
   have hx:bsP h i∈T i:=by rw[t.1];simp
   have e:=c.kept hx q kp.1
   have hq:=c.k.lg i (by omega) kp.1
   have st:=c.start (i:=i) (x:=bsP h i) (by rw[tE,if_neg q,if_pos kp.1];exact hx)
   rw[tE,if_neg q,if_pos kp.1,← kp.2.2.1]
   exact⟨t.1,e.2.1,by rw[e.2.2.1];exact t.2.2.1,st.2.2 hq⟩
 ·intro i x hx
  simp only[List.length_map]
  rcases c.mem hx with⟨q1,q2⟩ | ⟨q1,q2,q3⟩
  ·have t:=c.k.tk i q1
   have:Z1i w.heap.space (w.heap.pages.getD i default)=w.heap.pages.getD i default:=by rw[Z1i,if_neg (c.gone0 q1)]
   rw[hgt i t.1,this]
   exact⟨by omega,Or.inl t.2.2.1⟩
  ·have t:=g.t0 i x q3
   have pg:=c.k.pg i q1
   have:Z1i w.heap.space (w.heap.pages.getD i default)=w.heap.pages.getD i default:=by rw[Z1i,if_neg (fun q=>q2 q.2)]
   rw[hgt i t.1,this]
   exact⟨by omega,by rw[pg.1];exact t.2⟩
 ·intro a ha
  simp only at ha ⊢
  have h4:(loadA l4 a).1≠0:=by
   have hr:4096≤a∧a<4096+l5.length:=by
    unfold loadA at ha
    by_cases q:4096≤a∧a<4096+l5.length
    ·exact q
    ·rw[if_neg q]at ha
     simp at ha
   have hl5:=c.n5
   have hL:=c.i.L
   rw[hcc]at hL
   have h0:0≤(a-4096)/h.conf.pw:=Int.ediv_nonneg (by omega) (by omega)
   have h3:=Int.mul_ediv_add_emod (a-4096) h.conf.pw
   have h5:=Int.emod_nonneg (a-4096) (b:=h.conf.pw) (by omega)
   have h6:=Int.emod_lt_of_pos (a-4096) (b:=h.conf.pw) (by omega)
   have h7:(a-4096)/h.conf.pw<h.conf.pg:=Int.ediv_lt_of_lt_mul (by omega) (by rw[Int.mul_comm];omega)
   rw[Int.mul_comm]at h3
   have f:=c.fr ((a-4096)/h.conf.pw).toNat ((a-4096)%h.conf.pw) (by omega) h5 h6
   have ea:bsP h ((a-4096)/h.conf.pw).toNat+(a-4096)%h.conf.pw=a:=by
    unfold bsP
    rw[Int.toNat_of_nonneg h0]
    omega
   rw[ea]at f
   rw[f]at ha
   split at ha
   ·simp at ha
   ·exact ha
  have hks:∀ i x,x∈T i→x≤a→a≤x+hlA h.words x→(i:Int)∉w.taken∧(w.heap.pages.getD i default).space≠w.heap.space:=fun i x hx h1 h2 =>
   ⟨c.k.nt g hx,fun q=>ha (c.gonew hx q h1 h2)⟩
  have cov:∀ i x,x∈T i→x≤a→a≤x+hlA h.words x→(x∉w.queue→a=x)→∃ i x,x∈tE T tq w i∧x≤a∧a<x+kpA l5 x:=by
   intro i x hx h1 h2 h3
   obtain⟨n1,n2⟩:=hks i x hx h1 h2
   have hm:x∈tE T tq w i:=by rw[tE,if_neg n1,if_pos n2];exact hx
   have kk:=c.kept hx n1 n2
   have r:=Z0d l5 x
   refine⟨i,x,hm,h1, ?_⟩
   by_cases q:x∈w.queue
   ·rw[kpA,if_neg ((c.start hm).2.2 q),kk.2.2.1]
    omega
   ·have:=h3 q
    unfold kpA
    split<;>omega
  rcases c.f3 a with q | ⟨x,hx,q1,q2,q3,q4⟩
  ·rw[q]at h4
   rcases c.k.dt a h4 with⟨i,x,hx,h1,h2⟩ | ⟨i,i1,i2,i3⟩
   ·have hkp:kpA h.words x≤hlA h.words x+1:=by
     have:=Z0d h.words x
     unfold kpA;split<;>omega
    have hh:=hks i x hx h1 (by omega)
    refine cov i x hx h1 (by omega) fun hq=>?_
    have kk:=(c.kept hx hh.1 hh.2).2.2.2 hq
    by_cases hk:kdA h.words x=0
    ·rw[kpA,if_pos hk]at h2
     omega
    ·have fl:=kk.2.2 hk
     have oh:=Z1W (c.kept hx hh.1 hh.2).1
     have v:=c.f4 x fl.1 fl.2 a h1 (by rw[oh.2.1];omega)
     rw[← q]at h4
     rw[v,Z8I]at h4
     split at h4
     ·rename_i e;exact e
     ·exact absurd rfl h4
   ·have t:=c.k.tk i i1
    obtain⟨x,hx,x1,x2⟩:=Z9k t.2.2.2.2.2.1 i2 i3
    have hm:x∈tE T tq w i:=by rw[tE,if_pos i1];exact hx
    have hq:=(t.2.2.2.2.2.2 x hx).1
    have e:=hk5 x hq (Z1q t.2.2.2.2.2.1 hx).1
    refine⟨i,x,hm,x1, ?_⟩
    rw[kpA,if_neg ((c.start hm).2.2 hq),e.2.1]
    omega
  ·obtain⟨i,hi,hk⟩:=(c.k.old x).1 hx
   have sj:(loadA w.heap.words x).1=(loadA h.words x).1:=by
    rcases c.k.hd i x hi with q | q
    ·exact q
    ·exfalso
     have o2:=q1.1
     unfold Z1h at o2
     rw[hcc,g.ofx hi]at o2
     simp only[decide_eq_true_eq,Int.toNat_natCast]at o2
     exact o2.2.2.2.1 q.2.2
   rw[(Z1W sj).2.1]at q3
   refine cov i x hi q2 q3 fun _=>?_
   rw[q4,Z8I]at h4
   split at h4
   ·rename_i e;exact e
   ·exact absurd rfl h4
 ·intro i x m hx hk h0 h1 hpt
  simp only at hk h1 hpt ⊢
  have hq:=(c.start hx).2.1 hk
  have sk:=c.seenK hq
  have e:=hk5 x hq sk.2
  rw[e.2.1]at h1
  rw[e.2.2.2]at hpt
  rw[c.seen hq (a:=x+1+m) (by omega) (by omega)]
  obtain⟨n,n1,n2⟩:=getD_mem_iff.1 hq
  have sd:=(c.sd (x+1+m) ⟨n,m,by rw[c.sc];simpa using n1,by rw[n2];exact Zae h0 h1 hpt,by rw[n2]⟩).2
  rcases sd with q | q
  ·exact Or.inl q
  ·obtain⟨j,hj⟩:=c.where' q
   exact Or.inr ⟨j,hj,(c.start hj).2.2 q⟩
 ·have:crowd (w.heap.pages.map (Z1i w.heap.space))≤crowd h.pages:=by
   refine Z62 (by simp;omega) fun i hi k1 k2=>?_
   by_cases q:(i:Int)∈w.taken
   ·have t:=c.k.tk i q
    have n:=hng i hi (by omega)
    rw[n.2]at k2
    omega
   ·have kp:=hkept i hi q (by omega)
    omega
  have g2:=g.cr
  simp only[hcc]
  omega
end
theorem Zft{B:Int}(hB:0≤B){h:Heap}{T:Nat→List Int}(g:Gd h T){s k:List Int}(hw:WOk h.words)(hb:∀ p∈h.pages,p.pins≤B)(hs:RtOb h T s)(hk:RtOb h T k)(e:(Z0h h s k).2.2.2.2=0) :
  ∃ T',Gd (Z0h h s k).1 T'∧RtOb (Z0h h s k).1 T' (Z0h h s k).2.1∧RtOb (Z0h h s k).1 T' (Z0h h s k).2.2.1:=by
 have hp:=g.p
 have hr:=g.refers hs
 have hr':=g.refers hk
 have pr1:=(Z6t hB hw hb e).p1
 by_cases e1:(rootsF (beginW h) s).2.2=0
 ·by_cases e2:(allF (rootsF (beginW h) s).1).2=0
  ·have e7:Z0h h s k=(endH (cW5 h s k),(rootsF (beginW h) s).2.1,Z2I (cW2 h s) k k.length,(cW5 h s k).rep,0):=by rw[Z0h,if_pos hp,if_pos ⟨hr,hr'⟩,if_pos e1,if_pos e2]
   rw[e7]at pr1 ⊢
   have ck:=cOk h s k hw hp e1 e2
   have c5:=cOk5 h s k hw hp e1 e2
   have pr:=Zk6 hB hw hp hb e1 e2
   have sd:=ZlX hB hw hp hb e1 e2
   obtain⟨tq,ki⟩:=Zm4 g hw e1 e2
   obtain⟨g1,g2,g3,g4,g5⟩:=ck.h4
   have po:=Z09 hp
   obtain⟨a1,a2,a3,a4,a5,a6,a7,a8⟩:=Z3R (cW2 h s) k k.length
   have a1:(cW3 h s k).heap=(cW2 h s).heap:=a1
   have a2:(cW3 h s k).old=(cW2 h s).old:=a2
   have a3:(cW3 h s k).taken=(cW2 h s).taken:=a3
   have a4:(cW3 h s k).queue=(cW2 h s).queue:=a4
   have fl:FL (cW3 h s k) (cW4 h s k).heap.words (cW3 h s k).old.length:=ZeF ck.f3 ck.i3 (cW3 h s k).old.length (Nat.le_refl _)
   have tf:∀ x,Z5s (cW3 h s k) x↔Z5s (cW2 h s) x:=fun x=>by
    unfold Z5s Z1h
    rw[a1,a3,a4]
   have hcc:=ki.c
   have hpl:=ki.pl
   have hwl:=ki.wl
   have w4:(cW4 h s k).heap.words.length=h.words.length:=by
    have:=fl.l
    rw[a1]at this
    exact this.trans hwl
   have fw:=Zch (c:=h.conf) (s:=(cW2 h s).heap.space) (l:=(cW2 h s).heap.pages) (ws:=(cW4 h s k).heap.words) (by omega) (by rw[w4,hpl,po.2.2.2.2.2.2.2.1];exact po.2.2.2.2.2.1) (cW2 h s).heap.pages.length (Nat.le_refl _)
   have e5:(Z0Y (cW4 h s k)).heap.words=Z25 h.conf.pw (cW2 h s).heap.space (cW2 h s).heap.pages (cW4 h s k).heap.words (cW2 h s).heap.pages.length:=by
    simp only[Z0Y,g1,g2,g3]
   have ce:CE h T tq (cW2 h s) (cW4 h s k).heap.words (Z0Y (cW4 h s k)).heap.words:=by
    refine⟨g,ki,ck.i2,ck.w2.sp,pr.tab.pt,pr.tab.tk,sd.1,sd.2, ?_, ?_, ?_, ?_, ?_⟩
    ·intro a
     rcases fl.s a with q | ⟨x,hx,q1,q2,q3,q4⟩
     ·refine Or.inl ?_
      rw[a1]at q
      exact q
     ·refine Or.inr ⟨x,a2▸hx,(tf x).1 q1,q2, ?_, ?_⟩
      ·rw[a1]at q3;exact q3
      ·rw[a1]at q4;exact q4
    ·intro x hx hf a h1 h2
     obtain⟨j,j1,j2⟩:=getD_mem_iff.1 hx
     have:=fl.f j (by rw[a2];exact j1)
     rw[a2,a1,j2]at this
     exact this ((tf x).2 hf) a h1 h2
    ·rw[w4,hwl]
    ·rw[e5,fw.1,w4,hwl]
    ·intro i o hi h0 ho
     have:=fw.2 i o (by omega) h0 ho
     rw[e5]
     show loadA _ (4096+(i:Int)*h.conf.pw+o)=_
     rw[this]
     by_cases q:Z32 (cW2 h s).heap.space ((cW2 h s).heap.pages.getD i default)
     ·rw[if_pos ⟨by omega,q⟩,if_pos q]
     ·rw[if_neg (fun c=>q c.2),if_neg q]
      rfl
   have eh:endH (cW5 h s k)=⟨(cW2 h s).heap.conf,(Z0Y (cW4 h s k)).heap.words,(cW2 h s).heap.pages.map (Z1i (cW2 h s).heap.space),1-(cW2 h s).heap.space,(endH (cW5 h s k)).bump⟩:=by
    unfold endH cW5
    simp only[Z0Y,g1,g2,g3,hcc]
   rw[eh]at pr1 ⊢
   have gd:=ce.good pr1
   have seen:∀ x,ToOk (cW2 h s) x→x=0∨Ob ⟨(cW2 h s).heap.conf,(Z0Y (cW4 h s k)).heap.words,(cW2 h s).heap.pages.map (Z1i (cW2 h s).heap.space),1-(cW2 h s).heap.space,(endH (cW5 h s k)).bump⟩ (tE T tq (cW2 h s)) x:=by
    intro x hx
    rcases hx with q | q
    ·exact Or.inl q
    ·obtain⟨i,hi⟩:=ce.where' q
     exact Or.inr ⟨i,hi,(ce.start hi).2.2 q⟩
   refine⟨tE T tq (cW2 h s),gd,fun x hx=>seen x ?_,fun x hx=>seen x ?_⟩
   ·have hbg:=Z36 hw hp
    have hib:=Z2X hp
    have pr0:PR B (beginW h):=⟨Z4s hp hb,Z75 hp⟩
    have hall:=Z2W (roots:=s) hbg hib e1
    have ax:=Zaa hall.1 hall.2.1 e2
    have:ToOk (rootsF (beginW h) s).1 x:=by
     unfold rootsF at e1 hx ⊢
     cases hbb:(List.range s.length).find? (fun k=>decide (Z29 (beginW h) s k≠0))with
     | none =>
      rw[hbb]at hx
      have h0:∀ j,j<s.length→Z29 (beginW h) s j=0:=fun j hj=>by
       have:=List.find?_eq_none.1 hbb j (List.mem_range.2 hj)
       simpa using this
      exact Z8s hB hbg hib pr0 s.length h0 x hx
     | some k =>
      rw[hbb]at e1
      simp only at e1
      have:=(List.find?_range_eq_some.1 hbb).1
      simp[e1]at this
    rcases this with q | q
    ·exact Or.inl q
    ·exact Or.inr (ax.2.q x q)
   ·have:∀ i,i≤k.length→∀ x∈Z2I (cW2 h s) k i,ToOk (cW2 h s) x:=by
     intro i
     induction i with
     | zero=>intro _ x hx;simp[Z2I]at hx
     | succ i ih =>
      intro hi' x hx
      simp only[Z2I,List.mem_append,List.mem_singleton]at hx
      rcases hx with hx | rfl
      ·exact ih (by omega) x hx
      ·have hsi:=Z3R (cW2 h s) k i
       unfold Z6h
       split
       ·exact Or.inl rfl
       ·rename_i hne
        unfold Z1s
        rw[hsi.2.2.2.1,hsi.1]
        split
        ·rename_i hq;exact Or.inr hq
        ·cases ht:(Z0p (loadA (cW2 h s).heap.words (k.getD i default)).1).2 with
         | true =>
          refine Or.inr (pr.rt.t _ ?_ ht)
          rw[ki.old]
          rcases hk _ (getD_mem_iff.2 ⟨i,by omega,rfl⟩)with q | q
          ·exact absurd q hne
          ·exact q
         | false =>
          refine Or.inl ?_
          unfold Z0p at ht ⊢
          split at ht
          ·simp at ht
          ·rename_i hcc2;rw[if_neg hcc2]
    exact this k.length (Nat.le_refl _) x hx
  ·rw[Z0h,if_pos hp,if_pos ⟨hr,hr'⟩,if_pos e1,if_neg e2]at e
   exact absurd e e2
 ·rw[Z0h,if_pos hp,if_pos ⟨hr,hr'⟩,if_neg e1]at e
  exact absurd e e1
theorem WG.collect{w:WorldM}{n:Nat}(h:WG w)(hm:MOk w n):WG w.collect:=by
 unfold WorldM.collect
 split
 ·rename_i e
  obtain⟨T,g,g1,g2⟩:=h
  exact Zft (B:=n) (by omega) g hm.words (fun p hp=>(hm.pin_mem p hp).2) g1 g2 e
 ·exact h
theorem WG.step{w:WorldM}{n:Nat}(h:WG w)(hp:POk w)(hm:MOk w n)(hn:n≤1000000)(t:Tape):WG (w.step t):=by
 unfold WorldM.step
 repeat' split
 ·exact h.put hm.words (Z51 _ _)
 ·exact h.link hm hn _
 ·exact h.pin hp hm hn _
 ·exact h.drop _
 ·exact h.collect hm
 ·exact h.dup _
theorem Zk2{w:WorldM}{n:Nat}(h:WG w)(hp:POk w)(hm:MOk w n)(t:Tape):∀ k,n+k≤1000000→WG (mkS w t k).1
 | 0,_=>h
 | k+1,hk=>(Zk2 h hp hm t k (by omega)).step (ZfX hp hm t k (by omega)) (Z90 hm t k (by omega)) (by omega) _
theorem Zik(l:List Int):WG (Z04 l):=by
 have e:=Z6u l
 have hl:(((Z3k l).step 4).step 5).l.length≤300:=by rw[e.1];simp;omega
 have hk:=Ze0 (Z3k l).empty (((Z3k l).step 4).step 5) (by omega)
 exact Zk2 (Zjr (Z3k l)) (Zbn (Z3k l)) (Z9T (Z3k l)) _ _ (by omega)
theorem Zcb{ws ws':List Int}{x y:Int}(hy:y=x+hlA ws x+1)(hx':okA ws' x∧hlA ws' x=hlA ws x+hlA ws y+1):∀ {l:List Int} {a b:Int},tile ws a b l→x∈l→y∈l→(∀ z∈l,z≠x→z≠y→okA ws' z∧hlA ws' z=hlA ws z)→tile ws' a b (l.filter fun z=>decide (z≠y))
 | [],_,_,_,hx,_,_=>by simp at hx
 | z::l,a,b,t,hx,hym,hh=>by
  have rx:=Z0d ws x
  have ry:=Z0d ws y
  have t1:=t.1
  subst t1
  by_cases q:z=x
  ·subst q
   have hyl:y∈l:=by
    rcases List.mem_cons.1 hym with e | e
    ·omega
    ·exact e
   cases l with
   | nil=>simp at hyl
   | cons u l =>
    have t2:=t.2.2
    have u1:=t2.1
    have eu:u=y:=by omega
    rw[← hy]at t2
    have t3:=t2.2.2
    have all:∀ v∈l,y<v:=fun v hv=>by
     have:=(Z1q t3 hv).2.1
     omega
    have ef:l.filter (fun z=>decide (z≠y))=l:=by
     rw[List.filter_eq_self]
     intro v hv
     have:=all v hv
     simp only[decide_eq_true_eq]
     omega
    rw[List.filter_cons,if_pos (by simp only[decide_eq_true_eq];omega),List.filter_cons,if_neg (by simp[eu]),ef]
    refine⟨rfl,hx'.1, ?_⟩
    rw[hx'.2,show z+(hlA ws z+hlA ws y+1)+1=y+hlA ws y+1 by omega]
    exact Z1M t3 fun v hv=>hh v (List.mem_cons_of_mem _ (List.mem_cons_of_mem _ hv)) (by have:=all v hv;omega) (by have:=all v hv;omega)
  ·have hxl:x∈l:=by
    rcases List.mem_cons.1 hx with e | e
    ·exact absurd e.symm q
    ·exact e
   have:=(Z1q t.2.2 hxl).2.1
   have rz:=Z0d ws z
   have hzy:z≠y:=by omega
   have hyl:y∈l:=by
    rcases List.mem_cons.1 hym with e | e
    ·exact absurd e.symm hzy
    ·exact e
   have hz:=hh z (by simp) q hzy
   rw[List.filter_cons,if_pos (by simpa using hzy)]
   refine⟨rfl,hz.1, ?_⟩
   rw[hz.2]
   exact Zcb hy hx' t.2.2 hxl hyl fun v hv=>hh v (List.mem_cons_of_mem _ hv)
theorem Zb9{n:Int}(hn:1≤n∧n≤256):Z0i ⟨0,n-1,0⟩=true:=validH_iff.2 ⟨by simp,by simp,by simp only;omega,by simp only;omega,by simp⟩
structure Nb (h:Heap) (T:Nat→List Int) (p:Nat) (x y:Int):Prop where
 mx:x∈T p
 my:y∈T p
 n:y=x+hlA h.words x+1
section
variable {h:Heap} {T:Nat→List Int} (g:Gd h T) {p:Nat} {x y:Int} (b:Nb h T p x y)
include g b
theorem Nb.kind:(h.pages.getD p default).kind=1:=by
 rcases(g.t0 p x b.mx).2 with k | k
 ·exact k
 ·have h1:=((g.on b.mx).2.2.2.2.2.2 k).1
  have h2:=((g.on b.my).2.2.2.2.2.2 k).1
  have:=b.n
  have:=Z0d h.words x
  omega
theorem Nb.fill:1≤hlA h.words x+hlA h.words y+2∧hlA h.words x+hlA h.words y+2≤256∧4096≤x∧x+(hlA h.words x+hlA h.words y+2)≤4096+h.words.length∧Z2t h x (hlA h.words x+hlA h.words y+2)=(⟨h.conf,(Z0b h.words x (objW ⟨0,hlA h.words x+hlA h.words y+1,0⟩)).1,h.pages,h.space,h.bump⟩,0):=by
 have k:=b.kind g
 have rx:=Z0d h.words x
 have ry:=Z0d h.words y
 have ox:=g.on b.mx
 have oy:=g.on b.my
 have iy:=g.inw b.my
 have ix:=g.inw b.mx
 have pp:=Z0I g.p ox.1
 have hn:=b.n
 have hb:hlA h.words x+hlA h.words y+2≤256:=by omega
 have hl:(objW ⟨0,hlA h.words x+hlA h.words y+1,0⟩).length=(hlA h.words x+hlA h.words y+1).toNat+1:=by simp[objW]
 refine⟨by omega,hb,ix.1,by omega, ?_⟩
 have hv:=Zb9 (n:=hlA h.words x+hlA h.words y+2) ⟨by omega,hb⟩
 rw[show hlA h.words x+hlA h.words y+2-1=hlA h.words x+hlA h.words y+1 by omega]at hv
 unfold Z2t
 rw[if_pos ⟨g.p,by omega,hb⟩,show hlA h.words x+hlA h.words y+2-1=hlA h.words x+hlA h.words y+1 by omega]
 unfold Z0y
 have hw:(Z0b h.words x (objW ⟨0,hlA h.words x+hlA h.words y+1,0⟩)).2=0:=by
  unfold Z0b
  rw[if_pos (by omega)]
 rw[if_pos ⟨g.p,hv⟩,if_pos hw]
theorem Nb.join:Gt ⟨h.conf,(Z0b h.words x (objW ⟨0,hlA h.words x+hlA h.words y+1,0⟩)).1,h.pages,h.space,h.bump⟩ (fun j=>(T j).filter fun z=>decide (z≠y)):=by
 obtain⟨f1,f2,f3,f4,f5⟩:=b.fill g
 have rx:=Z0d h.words x
 have ry:=Z0d h.words y
 have hn:=b.n
 have hl:(objW ⟨0,hlA h.words x+hlA h.words y+1,0⟩).length=(hlA h.words x+hlA h.words y+1).toNat+1:=by simp[objW]
 have hv:=Zb9 (n:=hlA h.words x+hlA h.words y+2) ⟨by omega,f2⟩
 rw[show hlA h.words x+hlA h.words y+2-1=hlA h.words x+hlA h.words y+1 by omega]at hv
 have out:∀ a,a<x∨x+(hlA h.words x+hlA h.words y+2)≤a→loadA (Z0b h.words x (objW ⟨0,hlA h.words x+hlA h.words y+1,0⟩)).1 a=loadA h.words a:=fun a ha=>Z1F (by omega) (by omega)
 have wx:(loadA (Z0b h.words x (objW ⟨0,hlA h.words x+hlA h.words y+1,0⟩)).1 x).1=(Z06 ⟨0,hlA h.words x+hlA h.words y+1,0⟩).1:=by
  rw[Z1B (by omega) (by omega)]
  simp[objW]
 have de:=decode_encode hv (by simp)
 have hx':okA (Z0b h.words x (objW ⟨0,hlA h.words x+hlA h.words y+1,0⟩)).1 x∧hlA (Z0b h.words x (objW ⟨0,hlA h.words x+hlA h.words y+1,0⟩)).1 x=hlA h.words x+hlA h.words y+1:=by
  refine⟨by rw[okA,wx,de],by rw[hlA,wx,de]⟩
 have oth:∀ j z,z∈T j→z≠x→z≠y→okA (Z0b h.words x (objW ⟨0,hlA h.words x+hlA h.words y+1,0⟩)).1 z∧hlA (Z0b h.words x (objW ⟨0,hlA h.words x+hlA h.words y+1,0⟩)).1 z=hlA h.words z:=by
  intro j z hz n1 n2
  have:z<x∨x+(hlA h.words x+hlA h.words y+2)≤z:=by
   rcases Int.lt_or_gt_of_ne n1 with q | q
   ·exact Or.inl q
   ·have s1:=g.sep b.mx hz q
    have s2:=g.sep b.my hz (by omega)
    omega
  have o:=Z1W (ws:=h.words) (ws':=(Z0b h.words x (objW ⟨0,hlA h.words x+hlA h.words y+1,0⟩)).1) (a:=z) (by rw[out z this])
  exact⟨o.1 (g.on hz).2.2.2.2.2.1,o.2.1⟩
 have page:∀ j z,z∈T j→z∈T p→j=p:=by
  intro j z h1 h2
  have e1:=g.ofx h1
  have e2:=g.ofx h2
  rw[e1]at e2
  simp only[Prod.mk.injEq]at e2
  omega
 have fl:∀ j,j≠p→(T j).filter (fun z=>decide (z≠y))=T j:=by
  intro j hj
  rw[List.filter_eq_self]
  intro z hz
  simp only[decide_eq_true_eq]
  rintro rfl
  exact hj (page j z hz b.my)
 have hb:∀ j,bsP ⟨h.conf,(Z0b h.words x (objW ⟨0,hlA h.words x+hlA h.words y+1,0⟩)).1,h.pages,h.space,h.bump⟩ j=bsP h j:=fun _=>rfl
 refine⟨?_, ?_, ?_, ?_⟩
 ·have q:=g.p
  rw[Z1d]at q ⊢
  refine⟨q.1, ?_,q.2.2.1,q.2.2.2.1,q.2.2.2.2.1,q.2.2.2.2.2⟩
  have:(Z0b h.words x (objW ⟨0,hlA h.words x+hlA h.words y+1,0⟩)).1.length=h.words.length:=by
   unfold Z0b
   rw[if_pos (by omega)]
   exact Z3e (by omega)
  simp only[this]
  exact q.2.1
 ·intro j hj hk
  rw[hb]
  have t:=(g.t1 j hj hk).1
  by_cases q:j=p
  ·subst q
   exact Zcb hn hx' t b.mx b.my fun z hz=>oth j z hz
  ·rw[fl j q]
   refine Z1M t fun z hz=>oth j z hz ?_ ?_
   ·rintro rfl;exact q (page j z hz b.mx)
   ·rintro rfl;exact q (page j z hz b.my)
 ·intro j hj hk
  rw[hb]
  have q:j≠p:=by
   rintro rfl
   have:=b.kind g
   simp only at hk
   omega
  have t:=g.t2 j hj hk
  have hm:bsP h j∈T j:=by rw[t.1];simp
  have o:=oth j _ hm (fun e=>q (page j _ hm (e▸b.mx))) (fun e=>q (page j _ hm (e▸b.my)))
  rw[fl j q]
  exact⟨t.1,o.1,by rw[o.2];exact t.2.2.1⟩
 ·intro j z hz
  exact g.t0 j z (List.mem_filter.1 hz).1
end
theorem Z5N{h h':Heap}{T:Nat→List Int}{y:Int}(g:Gt h T)(g':Gt h' (fun j=>(T j).filter fun z=>decide (z≠y)))(hl:h'.pages.length=h.pages.length):∀ (f i:Nat),i+f=h.pages.length→(Z0v h' f i).1=(Z0v h f i).1.filter fun z=>decide (z≠y)
 | 0,_,_=>rfl
 | f+1,i,hf=>by
  have ih:=Z5N g g' hl f (i+1) (by omega)
  have s1:=g.starts f (i+1) (by omega)
  have s2:=g'.starts f (i+1) (by omega)
  rw[Z0v,Z0v,g.page (by omega),g'.page (by omega)]
  simp only[s1.1,s2.1,if_true,ih,List.filter_append]
theorem Z9d:∀ {l:List Int} {k:Nat},l.Pairwise (fun a b=>a≠b)→k<l.length→l.filter (fun z=>decide (z≠l.getD k default))=l.take k++l.drop (k+1)
 | [],_,_,hk=>by simp at hk
 | a::l,0,hp,_=>by
  have h1:=(List.pairwise_cons.1 hp).1
  simp only[List.getD_cons_zero,List.take_zero,List.nil_append,List.drop_succ_cons,List.drop_zero]
  rw[List.filter_cons,if_neg (by simp),List.filter_eq_self]
  intro z hz
  simp only[decide_eq_true_eq]
  exact fun e=>h1 z hz e.symm
 | a::l,k+1,hp,hk=>by
  have h1:=List.pairwise_cons.1 hp
  have hk':k<l.length:=by simpa using hk
  have hm:l.getD k default∈l:=getD_mem_iff.2 ⟨k,hk',rfl⟩
  simp only[List.getD_cons_succ,List.take_succ_cons,List.drop_succ_cons,List.cons_append]
  rw[List.filter_cons,if_pos (by simp only[decide_eq_true_eq];exact h1.1 _ hm),Z9d h1.2 hk']
theorem Zd1{h:Heap}{T:Nat→List Int}(g:Gd h T){i:Nat}{x y n:Int}(hi:i+1<(Z01 h).1.length)(ex:x=(Z01 h).1.getD i default)(ey:y=(Z01 h).1.getD (i+1) default)(hn:x+sizeH (atH h x).1=y)(hp:(x-4096)/h.conf.pw=(y-4096)/h.conf.pw)(en:n=sizeH (atH h x).1+sizeH (atH h y).1) :
  (Z2t h x n).2=0∧Z01 (Z2t h x n).1=((Z01 h).1.take (i+1)++(Z01 h).1.drop (i+2),0):=by
 have po:=Z09 g.p
 have st:=g.gt.starts h.pages.length 0 (by omega)
 have e1:Z01 h=Z0v h h.pages.length 0:=by rw[Z01,if_pos g.p]
 rw[← e1]at st
 obtain⟨p,_,hx⟩:=(st.2 x).1 (getD_mem_iff.2 ⟨i,by omega,ex.symm⟩)
 obtain⟨p',_,hy⟩:=(st.2 y).1 (getD_mem_iff.2 ⟨i+1,hi,ey.symm⟩)
 have pgn:∀ j z,z∈T j→(z-4096)/h.conf.pw=j:=by
  intro j z hz
  have o:=g.ofx hz
  have n:=g.inw hz
  have r:=Z0d h.words z
  unfold ofA at o
  rw[if_pos po.1,if_pos (by omega)]at o
  simp only[Prod.mk.injEq]at o
  exact o.1
 have hpp:p'=p:=by
  have:=pgn p x hx
  have:=pgn p' y hy
  omega
 subst hpp
 have sx:sizeH (atH h x).1=hlA h.words x+1:=by rw[g.at' hx];exact Z3h _ _
 have sy:sizeH (atH h y).1=hlA h.words y+1:=by rw[g.at' hy];exact Z3h _ _
 have b:Nb h T p' x y:=⟨hx,hy,by omega⟩
 have f:=b.fill g
 have j:=b.join g
 have e2:n=hlA h.words x+hlA h.words y+2:=by omega
 rw[e2,f.2.2.2.2]
 refine⟨rfl, ?_⟩
 have s2:=j.starts h.pages.length 0 (by simp)
 have fs:=Z5N g.gt j rfl h.pages.length 0 (by omega)
 have e3:Z01 ⟨h.conf,(Z0b h.words x (objW ⟨0,hlA h.words x+hlA h.words y+1,0⟩)).1,h.pages,h.space,h.bump⟩=Z0v ⟨h.conf,(Z0b h.words x (objW ⟨0,hlA h.words x+hlA h.words y+1,0⟩)).1,h.pages,h.space,h.bump⟩ h.pages.length 0:=by rw[Z01,if_pos j.p]
 have pw:(Z01 h).1.Pairwise (fun a b=>a≠b):=by
  have:=(Z6H g.p h.pages.length 0 (by omega)).1
  rw[← e1]at this
  refine this.imp fun {a b} q=>?_
  have:=Z0d h.words a
  omega
 have key:(Z0v ⟨h.conf,(Z0b h.words x (objW ⟨0,hlA h.words x+hlA h.words y+1,0⟩)).1,h.pages,h.space,h.bump⟩ h.pages.length 0).1=(Z01 h).1.take (i+1)++(Z01 h).1.drop (i+2):=by
  rw[fs,← e1,ey]
  exact Z9d pw hi
 rw[e3]
 exact Prod.ext key s2.1
theorem Z7V{h:Heap}{T:Nat→List Int}(g:Gd h T){i:Nat}(hi:i<(Z01 h).1.length):4096≤(Z01 h).1.getD i default∧(Z01 h).1.getD i default≤10000∧1≤sizeH (atH h ((Z01 h).1.getD i default)).1∧sizeH (atH h ((Z01 h).1.getD i default)).1≤10000:=by
 have po:=Z09 g.p
 have ar:=area po.1
 have st:=g.gt.starts h.pages.length 0 (by omega)
 have e1:Z01 h=Z0v h h.pages.length 0:=by rw[Z01,if_pos g.p]
 rw[← e1]at st
 obtain⟨p,_,hx⟩:=(st.2 _).1 (getD_mem_iff.2 ⟨i,hi,rfl⟩)
 have w:=g.inw hx
 have r:=Z0d h.words ((Z01 h).1.getD i default)
 rw[g.at' hx,Z3h]
 omega
theorem Zis{h:Heap}{a n:Int}(hw:WOk h.words):WOk (Z2t h a n).1.words:=by
 have z:WOk noHeap.words:=by intro x hx;simp[noHeap]at hx
 unfold Z2t
 split
 ·rename_i q
  unfold Z0y
  split
  ·rename_i q2
   split
   ·exact Z4j hw (Zdv q2.2 (by simp)).1 a
   ·exact z
  ·exact z
 ·exact z
theorem ZfU(l m:List Int)(h:l=m)(hl:l.length≤1048576):GSpec Tryz.prog 17 [Z02 l,Z02 m] true (bool true) []:=by
 subst h
 exact Zgk l hl
theorem Zj8(tape:List Int)(which:Int)(h1:tape.length≤140737488355328)(h2:-9223372036854775808≤which∧which≤9223372036854775807):GSpec Tryz.prog 5 [Z0T tape,int which] true (bool true) []:=by
 have hm:=Zjx tape
 have hw:=hm.words
 obtain⟨T,g,_,_⟩:=Zik tape
 have po:=Z09 g.p
 have st:=g.gt.starts (Z04 tape).heap.pages.length 0 (by omega)
 have e1:Z01 (Z04 tape).heap=Z0v (Z04 tape).heap (Z04 tape).heap.pages.length 0:=by rw[Z01,if_pos g.p]
 rw[← e1]at st
 have s0:=st.1
 have sl:=Z45 (Z04 tape).heap
 have ar:=area po.1
 by_cases h3:(Z01 (Z04 tape).heap).1.length<2
 ·exact gF [] Tryz.func5 [] (Fc 20 (@Za5 tape ‹_›) (Fc 24 (@Z5c ((Z04 tape).heap) ‹_›) (Ffb 28 ((Z01 (Z04 tape).heap).snd != 0) (Fl 30 wdv (Z01 (Z04 tape).heap).fst (Ftb 31 (decide ((↑(Z01 (Z04 tape).heap).fst.length:Int)<2)) (Fc 32 (@Z7A) Fz))))))
 ·have r1:=Z6s which (n:=(Z01 (Z04 tape).heap).1.length-1) (by omega)
  have ei0:IntKind.i64.wrap ((Z01 (Z04 tape).heap).1.length-1)=(Z01 (Z04 tape).heap).1.length-1:=wrapI' (by omega) (by omega)
  have ei1:IntKind.i64.wrap (which.tmod ((Z01 (Z04 tape).heap).1.length-1)+(Z01 (Z04 tape).heap).1.length)=which.tmod ((Z01 (Z04 tape).heap).1.length-1)+(Z01 (Z04 tape).heap).1.length:=wrapI' (by omega) (by omega)
  have ei2:IntKind.i64.wrap (which.tmod ((Z01 (Z04 tape).heap).1.length-1)+(Z01 (Z04 tape).heap).1.length-1)=which.tmod ((Z01 (Z04 tape).heap).1.length-1)+(Z01 (Z04 tape).heap).1.length-1:=wrapI' (by omega) (by omega)
  have ej:=Zc3 which (n:=(Z01 (Z04 tape).heap).1.length-1) (by omega)
  have q1:=Int.emod_nonneg which (b:=(Z01 (Z04 tape).heap).1.length-1) (by omega)
  have q2:=Int.emod_lt_of_pos which (b:=(Z01 (Z04 tape).heap).1.length-1) (by omega)
  obtain⟨k,hk⟩:∃ k:Nat,which%((Z01 (Z04 tape).heap).1.length-1)=k:=⟨_,(Int.toNat_of_nonneg q1).symm⟩
  rw[hk]at ej q1 q2
  have ei3:(which.tmod ((Z01 (Z04 tape).heap).1.length-1)+(Z01 (Z04 tape).heap).1.length-1).tmod ((Z01 (Z04 tape).heap).1.length-1)=k:=by rw[← ej,Int.add_sub_assoc]
  have ei4:(which.tmod ((Z01 (Z04 tape).heap).1.length-1)+(Z01 (Z04 tape).heap).1.length-1)%((Z01 (Z04 tape).heap).1.length-1)=k:=by rw[← Zlr (by omega),ei3]
  have f1:=Z7V g (i:=k) (by omega)
  have f2:=Z7V g (i:=k+1) (by omega)
  have en:((k:Int)+1).toNat=k+1:=by omega
  have en2:((k:Int)+2).toNat=k+2:=by omega
  have am:=Z3A hw ((Z01 (Z04 tape).heap).1.getD k default)
  have am2:=Z3A hw ((Z01 (Z04 tape).heap).1.getD (k+1) default)
  have ei5:IntKind.u64.wrap (sizeH (atH (Z04 tape).heap ((Z01 (Z04 tape).heap).1.getD k default)).1)=sizeH (atH (Z04 tape).heap ((Z01 (Z04 tape).heap).1.getD k default)).1:=wrapU' (by omega) (by omega)
  have ei6:IntKind.u64.wrap ((Z01 (Z04 tape).heap).1.getD k default+sizeH (atH (Z04 tape).heap ((Z01 (Z04 tape).heap).1.getD k default)).1)=(Z01 (Z04 tape).heap).1.getD k default+sizeH (atH (Z04 tape).heap ((Z01 (Z04 tape).heap).1.getD k default)).1:=wrapU' (by omega) (by omega)
  have ei7:IntKind.u64.wrap ((Z01 (Z04 tape).heap).1.getD k default-4096)=(Z01 (Z04 tape).heap).1.getD k default-4096:=wrapU' (by omega) (by omega)
  have ei8:IntKind.u64.wrap ((Z01 (Z04 tape).heap).1.getD (k+1) default-4096)=(Z01 (Z04 tape).heap).1.getD (k+1) default-4096:=wrapU' (by omega) (by omega)
  have ei9:IntKind.u64.wrap (Z04 tape).heap.conf.pw=(Z04 tape).heap.conf.pw:=wrapU' (by omega) (by omega)
  have eia:IntKind.i64.wrap (sizeH (atH (Z04 tape).heap ((Z01 (Z04 tape).heap).1.getD k default)).1+sizeH (atH (Z04 tape).heap ((Z01 (Z04 tape).heap).1.getD (k+1) default)).1)=sizeH (atH (Z04 tape).heap ((Z01 (Z04 tape).heap).1.getD k default)).1+sizeH (atH (Z04 tape).heap ((Z01 (Z04 tape).heap).1.getD (k+1) default)).1:=wrapI' (by omega) (by omega)
  have eib:IntKind.u64.wrap (((Z01 (Z04 tape).heap).1.getD k default-4096).tdiv (Z04 tape).heap.conf.pw)=((Z01 (Z04 tape).heap).1.getD k default-4096)/(Z04 tape).heap.conf.pw:=by
   rw[Int.tdiv_eq_ediv_of_nonneg (by omega)]
   have:=Int.ediv_nonneg (a:=(Z01 (Z04 tape).heap).1.getD k default-4096) (b:=(Z04 tape).heap.conf.pw) (by omega) (by omega)
   have:=Int.ediv_le_self (Z04 tape).heap.conf.pw (a:=(Z01 (Z04 tape).heap).1.getD k default-4096) (by omega)
   exact wrapU' (by omega) (by omega)
  have eic:IntKind.u64.wrap (((Z01 (Z04 tape).heap).1.getD (k+1) default-4096).tdiv (Z04 tape).heap.conf.pw)=((Z01 (Z04 tape).heap).1.getD (k+1) default-4096)/(Z04 tape).heap.conf.pw:=by
   rw[Int.tdiv_eq_ediv_of_nonneg (by omega)]
   have:=Int.ediv_nonneg (a:=(Z01 (Z04 tape).heap).1.getD (k+1) default-4096) (b:=(Z04 tape).heap.conf.pw) (by omega) (by omega)
   have:=Int.ediv_le_self (Z04 tape).heap.conf.pw (a:=(Z01 (Z04 tape).heap).1.getD (k+1) default-4096) (by omega)
   exact wrapU' (by omega) (by omega)
  by_cases hj:(Z01 (Z04 tape).heap).1.getD k default+sizeH (atH (Z04 tape).heap ((Z01 (Z04 tape).heap).1.getD k default)).1=(Z01 (Z04 tape).heap).1.getD (k+1) default∧((Z01 (Z04 tape).heap).1.getD k default-4096)/(Z04 tape).heap.conf.pw=((Z01 (Z04 tape).heap).1.getD (k+1) default-4096)/(Z04 tape).heap.conf.pw
  ·obtain⟨j1,j2⟩:=Zd1 g (i:=k) (by omega) rfl rfl hj.1 hj.2 rfl
   have jw:=Zis (a:=(Z01 (Z04 tape).heap).1.getD k default) (n:=sizeH (atH (Z04 tape).heap ((Z01 (Z04 tape).heap).1.getD k default)).1+sizeH (atH (Z04 tape).heap ((Z01 (Z04 tape).heap).1.getD (k+1) default)).1) hw
   have jl:=Z45 (Z2t (Z04 tape).heap ((Z01 (Z04 tape).heap).1.getD k default) (sizeH (atH (Z04 tape).heap ((Z01 (Z04 tape).heap).1.getD k default)).1+sizeH (atH (Z04 tape).heap ((Z01 (Z04 tape).heap).1.getD (k+1) default)).1)).1
   have j3:(Z01 (Z2t (Z04 tape).heap ((Z01 (Z04 tape).heap).1.getD k default) (sizeH (atH (Z04 tape).heap ((Z01 (Z04 tape).heap).1.getD k default)).1+sizeH (atH (Z04 tape).heap ((Z01 (Z04 tape).heap).1.getD (k+1) default)).1)).1).1=(Z01 (Z04 tape).heap).1.take (k+1)++(Z01 (Z04 tape).heap).1.drop (k+2):=by rw[j2]
   have j4:(Z01 (Z2t (Z04 tape).heap ((Z01 (Z04 tape).heap).1.getD k default) (sizeH (atH (Z04 tape).heap ((Z01 (Z04 tape).heap).1.getD k default)).1+sizeH (atH (Z04 tape).heap ((Z01 (Z04 tape).heap).1.getD (k+1) default)).1)).1).2=0:=by rw[j2]
   exact gF [] Tryz.func5 [false,false,false,false,false,false,false,false,false,false,false,false,false,false,false,false,false,false,false,false,false,false,false,false,false,false,false,false,false,true] (Fh 127 [.int (↑(k+1):Int)] (Fh 129 [.els (List.map wdv (List.take (↑(k+1):Int).toNat (Z01 (Z04 tape).heap).fst))] (Fh 133 [.els (List.map wdv (List.drop (↑(k+2):Int).toNat (Z01 (Z04 tape).heap).fst))] (Fh 134 [.els (List.map wdv (List.take (↑(k+1):Int).toNat (Z01 (Z04 tape).heap).fst++List.drop (↑(k+2):Int).toNat (Z01 (Z04 tape).heap).fst))] (Fc 20 (@Za5 tape ‹_›) (Fc 24 (@Z5c ((Z04 tape).heap) ‹_›) (Ffb 28 ((Z01 (Z04 tape).heap).snd != 0) (Fg 30 (by simpa using j3:(↑(List.map wdv (Z01 (Z04 tape).heap).fst).length:Int)=(↑(Z01 (Z04 tape).heap).fst.length:Int)) (Ffb 31 (decide ((↑(Z01 (Z04 tape).heap).fst.length:Int)<2)) (Fg 35 (by simpa using j3:(↑(List.map wdv (Z01 (Z04 tape).heap).fst).length:Int)=(↑(Z01 (Z04 tape).heap).fst.length:Int)) (Fi 36 ((↑(Z01 (Z04 tape).heap).fst.length:Int)-1) (Fo ((↑(Z01 (Z04 tape).heap).fst.length:Int)-(1:Int)≠0) (Fg 39 (by simpa using j3:(↑(List.map wdv (Z01 (Z04 tape).heap).fst).length:Int)=(↑(Z01 (Z04 tape).heap).fst.length:Int)) (Fi 40 (which.tmod ((↑(Z01 (Z04 tape).heap).fst.length:Int)-1)+(↑(Z01 (Z04 tape).heap).fst.length:Int)) (Fi 41 (which.tmod ((↑(Z01 (Z04 tape).heap).fst.length:Int)-1)+(↑(Z01 (Z04 tape).heap).fst.length:Int)-1) (Fg 43 (by simpa using j3:(↑(List.map wdv (Z01 (Z04 tape).heap).fst).length:Int)=(↑(Z01 (Z04 tape).heap).fst.length:Int)) (Fi 44 ((↑(Z01 (Z04 tape).heap).fst.length:Int)-1) (Fgo 45 ((which.tmod ((↑(Z01 (Z04 tape).heap).fst.length:Int)-1)+(↑(Z01 (Z04 tape).heap).fst.length:Int)-1).tmod ((↑(Z01 (Z04 tape).heap).fst.length:Int)-1)) (↑k) (Fo ((↑(Z01 (Z04 tape).heap).fst.length:Int)-(1:Int)≠0) (Fek 50 wdv ((Z01 (Z04 tape).heap).fst) (↑k) k (Fc 52 (@Z3d ((Z04 tape).heap) ((Z01 (Z04 tape).heap).fst.getD k default) ‹_› (by omega)) (Fx 59 k (Fek 60 wdv ((Z01 (Z04 tape).heap).fst) (↑(k+1):Int) (k+1) (Fc 62 (@Z3d ((Z04 tape).heap) ((Z01 (Z04 tape).heap).fst.getD (k+1) default) ‹_› (by omega)) (Fc 66 (@Z1l ((atH (Z04 tape).heap ((Z01 (Z04 tape).heap).fst.getD k default)).fst) ‹_›) (Fc 68 (@Z1l ((atH (Z04 tape).heap ((Z01 (Z04 tape).heap).fst.getD (k+1) default)).fst) ‹_›) (Fi 69 (sizeH (atH (Z04 tape).heap ((Z01 (Z04 tape).heap).fst.getD k default)).fst+sizeH (atH (Z04 tape).heap ((Z01 (Z04 tape).heap).fst.getD (k+1) default)).fst) (Fek 72 wdv ((Z01 (Z04 tape).heap).fst) (↑k) k (Fc 75 (@Z1l ((atH (Z04 tape).heap ((Z01 (Z04 tape).heap).fst.getD k default)).fst) ‹_›) (Fv 76 (sizeH (atH (Z04 tape).heap ((Z01 (Z04 tape).heap).fst.getD k default)).fst) (Fv 77 ((Z01 (Z04 tape).heap).fst.getD k default+sizeH (atH (Z04 tape).heap ((Z01 (Z04 tape).heap).fst.getD k default)).fst) (Fx 80 k (Fek 81 wdv ((Z01 (Z04 tape).heap).fst) (↑(k+1):Int) (k+1) (FeG 87 (!(Z01 (Z04 tape).heap).fst.getD k default+sizeH (atH (Z04 tape).heap ((Z01 (Z04 tape).heap).fst.getD k default)).fst != (Z01 (Z04 tape).heap).fst.getD (k+1) default) wdv ((Z01 (Z04 tape).heap).fst) (↑k) k (FvG 89 (!(Z01 (Z04 tape).heap).fst.getD k default+sizeH (atH (Z04 tape).heap ((Z01 (Z04 tape).heap).fst.getD k default)).fst != (Z01 (Z04 tape).heap).fst.getD (k+1) default) ((Z01 (Z04 tape).heap).fst.getD k default-4096) (FvG 93 (!(Z01 (Z04 tape).heap).fst.getD k default+sizeH (atH (Z04 tape).heap ((Z01 (Z04 tape).heap).fst.getD k default)).fst != (Z01 (Z04 tape).heap).fst.getD (k+1) default) ((Z04 tape).heap.conf.pw) (Fa (by intro hg;(try simp only[bs]at hg);omega:(!(Z01 (Z04 tape).heap).fst.getD k default+sizeH (atH (Z04 tape).heap ((Z01 (Z04 tape).heap).fst.getD k default)).fst != (Z01 (Z04 tape).heap).fst.getD (k+1) default)=true→(Z04 tape).heap.conf.pw=0→False) (Fa (by intro hg;(try simp only[bs]at hg);exact wrapI2 rfl (by omega) (by omega):(!(Z01 (Z04 tape).heap).fst.getD k default+sizeH (atH (Z04 tape).heap ((Z01 (Z04 tape).heap).fst.getD k default)).fst != (Z01 (Z04 tape).heap).fst.getD (k+1) default)=true→IntKind.i64.wrap ((↑k:Int)+1)=(↑(k+1):Int)) (FeG 98 (!(Z01 (Z04 tape).heap).fst.getD k default+sizeH (atH (Z04 tape).heap ((Z01 (Z04 tape).heap).fst.getD k default)).fst != (Z01 (Z04 tape).heap).fst.getD (k+1) default) wdv ((Z01 (Z04 tape).heap).fst) (↑(k+1):Int) (k+1) (FvG 100 (!(Z01 (Z04 tape).heap).fst.getD k default+sizeH (atH (Z04 tape).heap ((Z01 (Z04 tape).heap).fst.getD k default)).fst != (Z01 (Z04 tape).heap).fst.getD (k+1) default) ((Z01 (Z04 tape).heap).fst.getD (k+1) default-4096) (FvG 104 (!(Z01 (Z04 tape).heap).fst.getD k default+sizeH (atH (Z04 tape).heap ((Z01 (Z04 tape).heap).fst.getD k default)).fst != (Z01 (Z04 tape).heap).fst.getD (k+1) default) ((Z04 tape).heap.conf.pw) (Fa (by intro hg;(try simp only[bs]at hg);omega:(!(Z01 (Z04 tape).heap).fst.getD k default+sizeH (atH (Z04 tape).heap ((Z01 (Z04 tape).heap).fst.getD k default)).fst != (Z01 (Z04 tape).heap).fst.getD (k+1) default)=true→(Z04 tape).heap.conf.pw=0→False) (Ffb 107 ((Z01 (Z04 tape).heap).fst.getD k default+sizeH (atH (Z04 tape).heap ((Z01 (Z04 tape).heap).fst.getD k default)).fst != (Z01 (Z04 tape).heap).fst.getD (k+1) default||IntKind.u64.wrap (((Z01 (Z04 tape).heap).fst.getD k default-4096).tdiv (Z04 tape).heap.conf.pw) != IntKind.u64.wrap (((Z01 (Z04 tape).heap).fst.getD (k+1) default-4096).tdiv (Z04 tape).heap.conf.pw)) (Fek 113 wdv ((Z01 (Z04 tape).heap).fst) (↑k) k (Fc 116 (@ZjL ((Z04 tape).heap) ((Z01 (Z04 tape).heap).fst.getD k default) (sizeH (atH (Z04 tape).heap ((Z01 (Z04 tape).heap).fst.getD k default)).fst+sizeH (atH (Z04 tape).heap ((Z01 (Z04 tape).heap).fst.getD (k+1) default)).fst) ‹_› (by omega) (by omega)) (Fc 121 (@Z5c ((Z2t (Z04 tape).heap ((Z01 (Z04 tape).heap).fst.getD k default) (sizeH (atH (Z04 tape).heap ((Z01 (Z04 tape).heap).fst.getD k default)).fst+sizeH (atH (Z04 tape).heap ((Z01 (Z04 tape).heap).fst.getD (k+1) default)).fst)).fst) ‹_›) (Fs 124 (List.map wdv []) (Fx 97 k (Fa (by(simp only[List.length_map,List.length_take,List.length_drop];omega):0≤(↑(k+1):Int)∧(↑(k+1):Int)≤(↑(List.map wdv (Z01 (Z04 tape).heap).fst).length:Int)) (Fa (by simpa using j3:List.take (↑(k+1):Int).toNat (List.map wdv (Z01 (Z04 tape).heap).fst)=List.map wdv (List.take (↑(k+1):Int).toNat (Z01 (Z04 tape).heap).fst)) (Fa (by(simp[en,en2,j1,j4, *];omega):(List.map wdv []).length+(List.map wdv (List.take (↑(k+1):Int).toNat (Z01 (Z04 tape).heap).fst)).length≤2^30) (Fs 128 (List.map wdv (List.take (↑(k+1):Int).toNat (Z01 (Z04 tape).heap).fst)) (Fw 132 ((↑k:Int)+2) (↑(k+2):Int) (Fa (by(simp only[List.length_map,List.length_take,List.length_drop];omega):0≤(↑(k+2):Int)∧(↑(k+2):Int)≤(↑(List.map wdv (Z01 (Z04 tape).heap).fst).length:Int)) (Fa (by simpa using j3:List.drop (↑(k+2):Int).toNat (List.map wdv (Z01 (Z04 tape).heap).fst)=List.map wdv (List.drop (↑(k+2):Int).toNat (Z01 (Z04 tape).heap).fst)) (Fa (by(simp only[List.length_map,List.length_take,List.length_drop];omega):(List.map wdv (List.take (↑(k+1):Int).toNat (Z01 (Z04 tape).heap).fst)).length+(List.map wdv (List.drop (↑(k+2):Int).toNat (Z01 (Z04 tape).heap).fst)).length≤2^30) (Fa (by simpa using j3:List.map wdv (List.take (↑(k+1):Int).toNat (Z01 (Z04 tape).heap).fst)++List.map wdv (List.drop (↑(k+2):Int).toNat (Z01 (Z04 tape).heap).fst)=List.map wdv (List.take (↑(k+1):Int).toNat (Z01 (Z04 tape).heap).fst++List.drop (↑(k+2):Int).toNat (Z01 (Z04 tape).heap).fst)) (Fc 135 (@Z7A) (FcG 147 (true&&(Z2t (Z04 tape).heap ((Z01 (Z04 tape).heap).fst.getD k default) (sizeH (atH (Z04 tape).heap ((Z01 (Z04 tape).heap).fst.getD k default)).fst+sizeH (atH (Z04 tape).heap ((Z01 (Z04 tape).heap).fst.getD (k+1) default)).fst)).snd==0&&(Z01 (Z2t (Z04 tape).heap ((Z01 (Z04 tape).heap).fst.getD k default) (sizeH (atH (Z04 tape).heap ((Z01 (Z04 tape).heap).fst.getD k default)).fst+sizeH (atH (Z04 tape).heap ((Z01 (Z04 tape).heap).fst.getD (k+1) default)).fst)).fst).snd==0) (fun hg=>by(try simp only[bs]at hg);exact @ZfU ((Z01 (Z2t (Z04 tape).heap ((Z01 (Z04 tape).heap).fst.getD k default) (sizeH (atH (Z04 tape).heap ((Z01 (Z04 tape).heap).fst.getD k default)).fst+sizeH (atH (Z04 tape).heap ((Z01 (Z04 tape).heap).fst.getD (k+1) default)).fst)).fst).fst) (List.take (↑(k+1):Int).toNat (Z01 (Z04 tape).heap).fst++List.drop (↑(k+2):Int).toNat (Z01 (Z04 tape).heap).fst) (by(try simp only[bs]at hg);assumption) (by(try simp only[bs]at hg);omega)) (Fa (by(simp only[en,en2,j1,j4];(repeat' split)<;>first | rfl | omega | (exfalso;omega) | simp_all):((Z2t (Z04 tape).heap ((Z01 (Z04 tape).heap).fst.getD k default) (sizeH (atH (Z04 tape).heap ((Z01 (Z04 tape).heap).fst.getD k default)).fst+sizeH (atH (Z04 tape).heap ((Z01 (Z04 tape).heap).fst.getD (k+1) default)).fst)).snd==0&&(Z01 (Z2t (Z04 tape).heap ((Z01 (Z04 tape).heap).fst.getD k default) (sizeH (atH (Z04 tape).heap ((Z01 (Z04 tape).heap).fst.getD k default)).fst+sizeH (atH (Z04 tape).heap ((Z01 (Z04 tape).heap).fst.getD (k+1) default)).fst)).fst).snd==0&&true)=true) Fz))))))))))))))))))))))))))))))))))))))))))))))))))))))))))))
  ·exact gF [] Tryz.func5 [] (Fh 97 [.int (↑(k+1):Int)] (Fc 20 (@Za5 tape ‹_›) (Fc 24 (@Z5c ((Z04 tape).heap) ‹_›) (Ffb 28 ((Z01 (Z04 tape).heap).snd != 0) (Fl 30 wdv (Z01 (Z04 tape).heap).fst (Ffb 31 (decide ((↑(Z01 (Z04 tape).heap).fst.length:Int)<2)) (Fl 35 wdv (Z01 (Z04 tape).heap).fst (Fi 36 ((↑(Z01 (Z04 tape).heap).fst.length:Int)-1) (Fo ((↑(Z01 (Z04 tape).heap).fst.length:Int)-(1:Int)≠0) (Fl 39 wdv (Z01 (Z04 tape).heap).fst (Fi 40 (which.tmod ((↑(Z01 (Z04 tape).heap).fst.length:Int)-1)+(↑(Z01 (Z04 tape).heap).fst.length:Int)) (Fi 41 (which.tmod ((↑(Z01 (Z04 tape).heap).fst.length:Int)-1)+(↑(Z01 (Z04 tape).heap).fst.length:Int)-1) (Fl 43 wdv (Z01 (Z04 tape).heap).fst (Fi 44 ((↑(Z01 (Z04 tape).heap).fst.length:Int)-1) (Fgo 45 ((which.tmod ((↑(Z01 (Z04 tape).heap).fst.length:Int)-1)+(↑(Z01 (Z04 tape).heap).fst.length:Int)-1).tmod ((↑(Z01 (Z04 tape).heap).fst.length:Int)-1)) (↑k) (Fo ((↑(Z01 (Z04 tape).heap).fst.length:Int)-(1:Int)≠0) (Fek 50 wdv ((Z01 (Z04 tape).heap).fst) (↑k) k (Fc 52 (@Z3d ((Z04 tape).heap) ((Z01 (Z04 tape).heap).fst.getD k default) ‹_› (by omega)) (Fx 59 k (Fek 60 wdv ((Z01 (Z04 tape).heap).fst) (↑(k+1):Int) (k+1) (Fc 62 (@Z3d ((Z04 tape).heap) ((Z01 (Z04 tape).heap).fst.getD (k+1) default) ‹_› (by omega)) (Fc 66 (@Z1l ((atH (Z04 tape).heap ((Z01 (Z04 tape).heap).fst.getD k default)).fst) ‹_›) (Fc 68 (@Z1l ((atH (Z04 tape).heap ((Z01 (Z04 tape).heap).fst.getD (k+1) default)).fst) ‹_›) (Fi 69 (sizeH (atH (Z04 tape).heap ((Z01 (Z04 tape).heap).fst.getD k default)).fst+sizeH (atH (Z04 tape).heap ((Z01 (Z04 tape).heap).fst.getD (k+1) default)).fst) (Fek 72 wdv ((Z01 (Z04 tape).heap).fst) (↑k) k (Fc 75 (@Z1l ((atH (Z04 tape).heap ((Z01 (Z04 tape).heap).fst.getD k default)).fst) ‹_›) (Fv 76 (sizeH (atH (Z04 tape).heap ((Z01 (Z04 tape).heap).fst.getD k default)).fst) (Fv 77 ((Z01 (Z04 tape).heap).fst.getD k default+sizeH (atH (Z04 tape).heap ((Z01 (Z04 tape).heap).fst.getD k default)).fst) (Fx 80 k (Fek 81 wdv ((Z01 (Z04 tape).heap).fst) (↑(k+1):Int) (k+1) (FeG 87 (!(Z01 (Z04 tape).heap).fst.getD k default+sizeH (atH (Z04 tape).heap ((Z01 (Z04 tape).heap).fst.getD k default)).fst != (Z01 (Z04 tape).heap).fst.getD (k+1) default) wdv ((Z01 (Z04 tape).heap).fst) (↑k) k (FvG 89 (!(Z01 (Z04 tape).heap).fst.getD k default+sizeH (atH (Z04 tape).heap ((Z01 (Z04 tape).heap).fst.getD k default)).fst != (Z01 (Z04 tape).heap).fst.getD (k+1) default) ((Z01 (Z04 tape).heap).fst.getD k default-4096) (FvG 93 (!(Z01 (Z04 tape).heap).fst.getD k default+sizeH (atH (Z04 tape).heap ((Z01 (Z04 tape).heap).fst.getD k default)).fst != (Z01 (Z04 tape).heap).fst.getD (k+1) default) ((Z04 tape).heap.conf.pw) (Fa (by intro hg;(try simp only[bs]at hg);omega:(!(Z01 (Z04 tape).heap).fst.getD k default+sizeH (atH (Z04 tape).heap ((Z01 (Z04 tape).heap).fst.getD k default)).fst != (Z01 (Z04 tape).heap).fst.getD (k+1) default)=true→(Z04 tape).heap.conf.pw=0→False) (Fa (by intro hg;(try simp only[bs]at hg);exact wrapI2 rfl (by omega) (by omega):(!(Z01 (Z04 tape).heap).fst.getD k default+sizeH (atH (Z04 tape).heap ((Z01 (Z04 tape).heap).fst.getD k default)).fst != (Z01 (Z04 tape).heap).fst.getD (k+1) default)=true→IntKind.i64.wrap ((↑k:Int)+1)=(↑(k+1):Int)) (FeG 98 (!(Z01 (Z04 tape).heap).fst.getD k default+sizeH (atH (Z04 tape).heap ((Z01 (Z04 tape).heap).fst.getD k default)).fst != (Z01 (Z04 tape).heap).fst.getD (k+1) default) wdv ((Z01 (Z04 tape).heap).fst) (↑(k+1):Int) (k+1) (FvG 100 (!(Z01 (Z04 tape).heap).fst.getD k default+sizeH (atH (Z04 tape).heap ((Z01 (Z04 tape).heap).fst.getD k default)).fst != (Z01 (Z04 tape).heap).fst.getD (k+1) default) ((Z01 (Z04 tape).heap).fst.getD (k+1) default-4096) (FvG 104 (!(Z01 (Z04 tape).heap).fst.getD k default+sizeH (atH (Z04 tape).heap ((Z01 (Z04 tape).heap).fst.getD k default)).fst != (Z01 (Z04 tape).heap).fst.getD (k+1) default) ((Z04 tape).heap.conf.pw) (Fa (by intro hg;(try simp only[bs]at hg);omega:(!(Z01 (Z04 tape).heap).fst.getD k default+sizeH (atH (Z04 tape).heap ((Z01 (Z04 tape).heap).fst.getD k default)).fst != (Z01 (Z04 tape).heap).fst.getD (k+1) default)=true→(Z04 tape).heap.conf.pw=0→False) (Ftb 107 ((Z01 (Z04 tape).heap).fst.getD k default+sizeH (atH (Z04 tape).heap ((Z01 (Z04 tape).heap).fst.getD k default)).fst != (Z01 (Z04 tape).heap).fst.getD (k+1) default||IntKind.u64.wrap (((Z01 (Z04 tape).heap).fst.getD k default-4096).tdiv (Z04 tape).heap.conf.pw) != IntKind.u64.wrap (((Z01 (Z04 tape).heap).fst.getD (k+1) default-4096).tdiv (Z04 tape).heap.conf.pw)) (Fc 108 (@Z7A) Fz)))))))))))))))))))))))))))))))))))))))))
end Go.Proofs.YtjflpmnenhdeeaaGreat
namespace Go.Proofs.YtjflpmnenhdeeaaGreat
open Go.Sx Go.RowKit
theorem Z6Y(os:Os)(started:os.Started)(H:Type)(enc:TypeId×Value→H) :
  ReturnsInHanded {} Tryz.checked os 5 .any (Rows.walkJoinsSpec.pre6 enc Tryz.prog Tryz.f5 Rows.walkJoinsRow.domain false) (Rows.walkJoinsSpec.post enc Tryz.prog Tryz.f5 false true false false):=by
 refine ZbY (C:=Tryz.checked) (tb:=4) 5 own0 started (by kernel_rfl) Tryz.func5
  (ChangeSpec.witness6 (enc:=enc) (C:=Tryz.checked) false ⟨#[],#[.slice none 0 0,.int .i64 0],[]⟩ 8 (by kernel_rfl) (by kernel_rfl) (by kernel_rfl) (by kernel_rfl))
  ZiI (by kernel_rfl) (by kernel_rfl) (by kernel_rfl) (by kernel_rfl) rfl (fun ds hd=>?_) (fun ls hl h=>?_)
 ·match ds,hd with
  | [a0,a1],_=>rfl
 ·match ls,hl with
  | [l0,l1],_ =>
   obtain⟨tape,rfl,htape⟩:=Zi9 (n:=3) (h 0 22 l0 (by kernel_rfl) rfl)
   obtain⟨which,rfl,hwhich⟩:=ZgR (n:=4) (h 1 3 l1 (by kernel_rfl) rfl)
   have e:Zag Tryz.prog Tryz.f5.params.toList [[.sl 1 (tape.map idv)],[dint which]]=[Z0T tape,int which]:=by kernel_rfl
   exact⟨true,e▸Zj8 tape which htape (range_i64 hwhich)⟩
theorem ZbL:(Rows.walkJoinsRow.inPlace==Tryz.prog.inPlace 5)=true:=by kernel_rfl
theorem ZbZ:(Rows.walkJoinsRow.unfollowed==Tryz.prog.unfollowed 5)=true:=by kernel_rfl
theorem Zcp:(Rows.walkJoinsRow.recurses==Tryz.prog.recurses 5)=true:=by kernel_rfl
theorem Zc5:(Rows.walkJoinsRow.named==Tryz.prog.varsNamed 5)=true:=by kernel_rfl
theorem Z70:joinedFacts Tryz.prog 5 Tryz.f5 Rows.walkJoinsSpec Rows.walkJoinsRow=true:=by
 unfold joinedFacts
 rw[ZbL,ZbZ,Zcp,Zc5]
 kernel_rfl
theorem walkJoins_holds:Rows.WalkJoinsSaid :=
 OpenClaim.holds_of_wide 5 Tryz.f5 rfl rfl rfl rfl rfl rfl rfl ⟨rfl,rfl,rfl,rfl,rfl⟩ rfl rfl rfl rfl rfl (by kernel_rfl) Tryz.func5 Z70
  (of_decide_eq_true (by kernel_rfl)) (by unfold Func.isWrapper;first | (rw[if_pos (by decide+kernel)];kernel_rfl) | (rw[if_neg (by decide+kernel)];exact⟨rfl,rfl⟩))
  (fun os started H enc _=>Z6Y os started H enc)
end Go.Proofs.YtjflpmnenhdeeaaGreat
