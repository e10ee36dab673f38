/-
 The statement EvacuateForwards: part 8.
 Conditions: none.
-/
import Derived.Test.YtdhchmlalchgeaaGreatI7
set_option maxRecDepth 100000
set_option maxHeartbeats 2000000
set_option linter.all false
namespace Go.Proofs.YtdhchmlalchgeaaGreat
open Go.Sx
def Z3b(c:Conf)(hd:Header):Bool:=Z0g hd&&decide (hd.K≠0)&&decide (need c (sizeH hd)≠-1)
theorem Z5x(c:Conf)(hd:Header)(hm:0≤hd.map∧hd.map≤4294967295):GP 158 [c.av,hd.av] true (bool (Z3b c hd)) []:=by
 refine gspec_ofE [((6:Nat),[Hint.call true (Sx.bool (Z0g hd)) []]),((15:Nat),[Hint.call true (int (sizeH hd)) []]),((16:Nat),[Hint.call true (int (need c (sizeH hd))) []])] [] [] dd Tryz.func158 [false,false,false,false,false,false,false,false,true] (φ:=GP 102 [hd.av] true (Sx.bool (Z0g hd)) []∧((Z0g hd&&hd.K != (0:Int))=true→GP 75 [hd.av] true (int (sizeH hd)) [])∧((Z0g hd&&hd.K != (0:Int))=true→GP 123 [c.av,int (sizeH hd)] true (int (need c (sizeH hd))) [])∧(Z0g hd&&hd.K != (0:Int)&&need c (sizeH hd) != (-1:Int))=Z3b c hd) ?_ kr kr;exact⟨(@Z2g (hd) aa),(fun hg=>by(try simp only[bs]at hg);exact @Z29 (hd) (by(try simp only[bs]at hg);assumption)),(fun hg=>by(try simp only[bs]at hg);exact @Z4e (c) (sizeH hd)),(by grind[Z3b])⟩
def Z1P(l:List Page)(i:Nat)(n:Int):List Page:=l.set i ⟨(l.getD i default).K,(l.getD i default).S,(l.getD i default).U+n,(l.getD i default).N⟩
def Z9E(h:Heap)(n:Int):Prop:=0≤h.B∧(h.P.getD h.B.toNat default).S=h.S∧(h.P.getD h.B.toNat default).U+n≤h.C.pw∧(Z1G h.P:Int)≤Z2H h.C
instance (h:Heap) (n:Int):Decidable (Z9E h n):=by unfold Z9E;infer_instance
def Z3H(h:Heap):List Page:=(ZmN h.P (first h.P 1) h.S).1
def Z0q(h:Heap)(n:Int):Heap×Int×Bool :=
 if Z9E h n then(⟨h.C,h.W,Z1P h.P h.B.toNat n,h.S,h.B⟩,4096+h.B*h.C.pw+(h.P.getD h.B.toNat default).U,true)
 else if 0≤first h.P 1∧(Z1G h.P:Int)<Z2H h.C then
  (⟨h.C,h.W,Z1P (Z3H h) (first h.P 1).toNat n,h.S,first h.P 1⟩,4096+first h.P 1*h.C.pw+((Z3H h).getD (first h.P 1).toNat default).U,true)
 else(noHeap,0,false)
theorem Z92{l:List Page}{i k:Nat}{p q:Page}(h:i+k≤l.length):(tookP l i k p q).length=l.length:=by
 rw[tookP,List.length_set];exact Z4Y (by simpa using h) pq
theorem Z2J{h:Heap}(hs:h.S=0∨h.S=1)(hf:0≤first h.P 1):Z3H h=tookP h.P (first h.P 1).toNat 1 ⟨1,h.S,0,0⟩ ⟨0,0,0,0⟩∧(Z3H h).length=h.P.length∧(first h.P 1)<h.P.length ∧
  ((Z3H h).getD (first h.P 1).toNat default)=⟨1,h.S,0,0⟩:=by
 obtain⟨_,h1,h2⟩:=Z1x hf;have e:Z3H h=tookP h.P (first h.P 1).toNat 1 ⟨1,h.S,0,0⟩ ⟨0,0,0,0⟩:=by
  rw[Z3H,ZmN,if_pos oq,Z2T,if_pos oq,if_pos h2];rfl
 have hl:(Z3H h).length=h.P.length:=by rw[e];exact Z92 oq
 refine⟨e,hl,by omega, ?_⟩;rw[e,tookP,List.getD_eq_getElem?_getD,List.getElem?_set,if_pos rfl,if_pos (by rw[Z4Y qo pq];omega)];rfl
theorem ZfE{c:Conf}(hv:Z05 c=true):2≤Z2H c∧Z2H c≤16:=by
 have:=validB_iff.1 hv;rw[Z2H,if_pos hv,Z51 oq];omega
theorem Z2B{c:Conf}{i:Int}(hv:Z05 c=true)(h0:0≤i)(h1:i<c.pg):0≤i*c.pw∧i*c.pw+c.pw≤4096:=by
 have hb:=validB_iff.1 hv;have ha:=area hv;have h2:0≤i*c.pw:=Int.mul_nonneg h0 oq;have h3:(i+1)*c.pw≤c.pg*c.pw:=Int.mul_le_mul_of_nonneg_right oq oq;rw[Int.add_mul,Int.one_mul,Int.mul_comm c.pg]at h3;omega
theorem Z6U(h:Heap)(n:Int)(hp:Z02 h=true)(hn:1≤n∧n≤256):GP 159 [h.av,int n] false (.tu [(Z0q h n).1.av,u64 (Z0q h n).2.1,bool (Z0q h n).2.2]) []:=by
 have po:=Z07 hp;obtain⟨o1,o2,o3,o4,o5,o6,o7,o8,o9⟩:=po;have hb:=(properB_iff.1 hp).2.2.2.2.1;have hpg:=fun hj=>Z0M hp (j:=h.B.toNat) hj;have hr:=Z60 h.P 1;have hfo:=fun hf=>Z2J (h:=h) o9 hf;have hiu:=Z7w h.P;have hli:=ZfE o1;have hm1:0≤h.B→0≤h.B*h.C.pw∧h.B*h.C.pw+h.C.pw≤4096:=fun h0=>Z2B o1 h0 oq;have hm2:0≤first h.P 1→0≤first h.P 1*h.C.pw∧first h.P 1*h.C.pw+h.C.pw≤4096:=fun h0=>Z2B o1 h0 (by have:=hfo h0;omega)
 by_cases hf:Z9E h n
 ·have e7:Z0q h n=(⟨h.C,h.W,Z1P h.P h.B.toNat n,h.S,h.B⟩,4096+h.B*h.C.pw+(h.P.getD h.B.toNat default).U,true):=by rw[Z0q,if_pos hf]
  unfold Z9E at hf;rw[show Z0q h n=(Heap.mk h.C h.W (h.P.set h.B.toNat (Page.mk (h.P.getD h.B.toNat default).K (h.P.getD h.B.toNat default).S ((h.P.getD h.B.toNat default).U+n) (h.P.getD h.B.toNat default).N)) h.S h.B,(4096:Int)+h.B*h.C.pw+(h.P.getD h.B.toNat default).U,true)from by rw[e7];rfl];let y0:=h.P.getD h.B.toNat default;exact gF [] Tryz.func159 [] (FA 11 14 Page.dv h.P (Fc 18 (@Z6p h.C) (Fc 21 (@Z6Y h.P oq) (FmGq 32 (!decide (h.B<0)) Page.dv h.P h.B (FmGq 43 (!(decide (h.B<0)||y0.S != h.S)) Page.dv h.P h.B (FiG 45 (!(decide (h.B<0)||y0.S != h.S)) (y0.U+n) (Ffb 55 (decide (h.B<0)||y0.S != h.S||decide (h.C.pw<y0.U+n)||decide (Z2H h.C<(↑(Z1G h.P):Int))) (Fi 83 (h.B*h.C.pw) (Fi 84 (4096+h.B*h.C.pw) (Fmq 90 Page.dv h.P h.B (Fi 91 (4096+h.B*h.C.pw+y0.U) (Fv 92 (4096+h.B*h.C.pw+y0.U) (Fmq 101 Page.dv h.P h.B (Fi 103 (y0.U+n) (Fm0q Page.dv h.P h.B (FS 10105 Page.dv h.P h.B.toNat (Page.mk y0.K y0.S (y0.U+n) y0.N) (y0.dv) Fz))))))))))))))))
 ·by_cases hg:0≤first h.P 1∧(Z1G h.P:Int)<Z2H h.C
  ·have e7:Z0q h n=(⟨h.C,h.W,Z1P (Z3H h) (first h.P 1).toNat n,h.S,first h.P 1⟩,4096+first h.P 1*h.C.pw+((Z3H h).getD (first h.P 1).toNat default).U,true):=by rw[Z0q,if_neg hf,if_pos hg]
   obtain⟨q1,q2,q3,q4⟩:=hfo hg.1;obtain⟨r1,r2,r3⟩:=Z1x hg.1;have r4:Z5S h.P (first h.P 1).toNat 1=true:=r3;rw[q1]at e7 q2 q4;have q6:=congrArg Page.U q4;simp only at q6;unfold Z9E at hf;rw[show Z0q h n=(Heap.mk h.C h.W ((tookP h.P (first h.P (1:Int)).toNat (1:Nat) (Page.mk (1:Int) h.S (0:Int) (0:Int)) (Page.mk (0:Int) (0:Int) (0:Int) (0:Int))).set (first h.P (1:Int)).toNat (Page.mk ((tookP h.P (first h.P (1:Int)).toNat (1:Nat) (Page.mk (1:Int) h.S (0:Int) (0:Int)) (Page.mk (0:Int) (0:Int) (0:Int) (0:Int))).getD (first h.P (1:Int)).toNat default).K ((tookP h.P (first h.P (1:Int)).toNat (1:Nat) (Page.mk (1:Int) h.S (0:Int) (0:Int)) (Page.mk (0:Int) (0:Int) (0:Int) (0:Int))).getD (first h.P (1:Int)).toNat default).S (((tookP h.P (first h.P (1:Int)).toNat (1:Nat) (Page.mk (1:Int) h.S (0:Int) (0:Int)) (Page.mk (0:Int) (0:Int) (0:Int) (0:Int))).getD (first h.P (1:Int)).toNat default).U+n) ((tookP h.P (first h.P (1:Int)).toNat (1:Nat) (Page.mk (1:Int) h.S (0:Int) (0:Int)) (Page.mk (0:Int) (0:Int) (0:Int) (0:Int))).getD (first h.P (1:Int)).toNat default).N)) h.S (first h.P (1:Int)),(4096:Int)+first h.P (1:Int)*h.C.pw+((tookP h.P (first h.P (1:Int)).toNat (1:Nat) (Page.mk (1:Int) h.S (0:Int) (0:Int)) (Page.mk (0:Int) (0:Int) (0:Int) (0:Int))).getD (first h.P (1:Int)).toNat default).U,true)from by rw[e7];rfl];let y1:=tookP h.P (first h.P 1).toNat 1 (Page.mk 1 h.S 0 0) (Page.mk 0 0 0 0);let y2:=y1.getD (first h.P 1).toNat default;let y3:=h.P.getD h.B.toNat default;exact gF [] Tryz.func159 [] (FA 11 14 Page.dv h.P (Fc 18 (@Z6p h.C) (Fc 21 (@Z6Y h.P oq) (FmGq 32 (!decide (h.B<0)) Page.dv h.P h.B (FmGq 43 (!(decide (h.B<0)||y3.S != h.S)) Page.dv h.P h.B (FiG 45 (!(decide (h.B<0)||y3.S != h.S)) (y3.U+n) (Ftb 55 (decide (h.B<0)||y3.S != h.S||decide (h.C.pw<y3.U+n)||decide (Z2H h.C<(↑(Z1G h.P):Int))) (Fc 58 (@Z5p h.P (1) oq) (Ffb 65 (decide (first h.P (1:Int)<0)||decide (Z2H h.C≤(↑(Z1G h.P):Int))) (Fc 73 (@Zao h.P (first h.P 1) h.S oq oq oq aa) (Fi 83 (first h.P 1*h.C.pw) (Fi 84 (4096+first h.P 1*h.C.pw) (Fmq 90 Page.dv y1 (first h.P 1) (Fi 91 (4096+first h.P 1*h.C.pw+y2.U) (Fv 92 (4096+first h.P 1*h.C.pw+y2.U) (Fmq 101 Page.dv y1 (first h.P 1) (Fi 103 (y2.U+n) (Fm0q Page.dv y1 (first h.P 1) (FS 10105 Page.dv y1 ((first h.P 1).toNat) (Page.mk y2.K y2.S (y2.U+n) y2.N) (y2.dv) Fz)))))))))))))))))))
  ·have e7:Z0q h n=(noHeap,0,false):=by rw[Z0q,if_neg hf,if_neg hg]
   unfold Z9E at hf;rw[e7];let y4:=h.P.getD h.B.toNat default;exact gF [] Tryz.func159 [] (FAx 11 14 Page.dv h.P (by(simp[noHeap, *];omega)) (Fc 18 (@Z6p h.C) (Fc 21 (@Z6Y h.P oq) (FmGq 32 (!decide (h.B<0)) Page.dv h.P h.B (FmGq 43 (!(decide (h.B<0)||y4.S != h.S)) Page.dv h.P h.B (FiG 45 (!(decide (h.B<0)||y4.S != h.S)) (y4.U+n) (Ftb 55 (decide (h.B<0)||y4.S != h.S||decide (h.C.pw<y4.U+n)||decide (Z2H h.C<(↑(Z1G h.P):Int))) (Fc 58 (@Z5p h.P (1) oq) (Ftb 65 (decide (first h.P (1:Int)<0)||decide (Z2H h.C≤(↑(Z1G h.P):Int))) (Fnl (Fnl Fz)))))))))))
def Z0D(h:Heap)(n k:Int):Heap×Int×Bool :=
 if 0≤first h.P k∧Z1G h.P+k≤Z2H h.C then(⟨h.C,h.W,(Z38 h.C h.P (first h.P k) h.S n).1,h.S,h.B⟩,4096+first h.P k*h.C.pw,true)else(noHeap,0,false)
theorem Zd1(h:Heap)(n k:Int)(hp:Z02 h=true)(hk:k=need h.C n)(hk1:1≤k):GP 160 [h.av,int n,int k] false (.tu [(Z0D h n k).1.av,u64 (Z0D h n k).2.1,bool (Z0D h n k).2.2]) []:=by
 have po:=Z07 hp;obtain⟨o1,o2,o3,o4,o5,o6,o7,o8,o9⟩:=po;have hr:=Z60 h.P k;have hff:0≤first h.P k→first h.P k+k≤h.P.length:=fun hf=>(Z1x hf).2.1
 have hiu:=Z7w h.P;have hli:=ZfE o1;have hnr:=Z3q h.C n;have hm2:0≤first h.P k→0≤first h.P k*h.C.pw∧first h.P k*h.C.pw+h.C.pw≤4096:=fun h0=>Z2B o1 h0 (by have:=hff h0;omega)
 by_cases hg:0≤first h.P k∧Z1G h.P+k≤Z2H h.C
 ·have e7:Z0D h n k=(⟨h.C,h.W,(Z38 h.C h.P (first h.P k) h.S n).1,h.S,h.B⟩,4096+first h.P k*h.C.pw,true):=by rw[Z0D,if_pos hg]
  rw[show Z0D h n k=(Heap.mk h.C h.W (Z38 h.C h.P (first h.P k) h.S n).fst h.S h.B,(4096:Int)+first h.P k*h.C.pw,true)from by rw[e7]];let y0:=!decide (first h.P k<0);exact gF [] Tryz.func160 [] (Fc 13 (@Z5p h.P k oq) (FcG 19 y0 (fun hg=>by(try simp only[bs]at hg);exact @Z6Y h.P oq) (FiG 21 y0 ((↑(Z1G h.P):Int)+k) (FcG 24 y0 (fun hg=>by(try simp only[bs]at hg);exact @Z6p h.C) (Ffb 26 (decide (first h.P k<0)||decide (Z2H h.C<(↑(Z1G h.P):Int)+k)) (Fc 37 (@Zi3 h.C h.P (first h.P k) h.S n oq) (Fi 46 (first h.P k*h.C.pw) (Fi 47 (4096+first h.P k*h.C.pw) (Fv 48 (4096+first h.P k*h.C.pw) Fz)))))))))
 ·have e7:Z0D h n k=(noHeap,0,false):=by rw[Z0D,if_neg hg]
  rw[e7];let y1:=!decide (first h.P k<0);exact gF [] Tryz.func160 [] (Fc 13 (@Z5p h.P k oq) (FcG 19 y1 (fun hg=>by(try simp only[bs]at hg);exact @Z6Y h.P oq) (FiG 21 y1 ((↑(Z1G h.P):Int)+k) (FcG 24 y1 (fun hg=>by(try simp only[bs]at hg);exact @Z6p h.C) (Ftb 26 (decide (first h.P k<0)||decide (Z2H h.C<(↑(Z1G h.P):Int)+k)) (Fnl (Fnl Fz)))))))
theorem Zcy{h:Heap}{n:Int}(hp:Z02 h=true)(hn:1≤n∧n≤256):0≤(Z0q h n).2.1∧(Z0q h n).2.1≤8192∧((Z0q h n).2.2=true→(Z0q h n).1.W=h.W∧4096≤(Z0q h n).2.1)∧((Z0q h n).2.2=false→(Z0q h n).1=noHeap):=by
 obtain⟨o1,o2,o3,o4,o5,o6,o7,o8,o9⟩:=Z07 hp;have hb:=(properB_iff.1 hp).2.2.2.2.1;have hpg:=fun hj=>Z0M hp (j:=h.B.toNat) hj;have hfo:=fun hf=>Z2J (h:=h) o9 hf;have hm1:0≤h.B→0≤h.B*h.C.pw∧h.B*h.C.pw+h.C.pw≤4096:=fun h0=>Z2B o1 h0 oq;have hm2:0≤first h.P 1→0≤first h.P 1*h.C.pw∧first h.P 1*h.C.pw+h.C.pw≤4096:=fun h0=>Z2B o1 h0 (by have:=hfo h0;omega)
 unfold Z0q;split
 ·rename_i hf;unfold Z9E at hf;have h1:=hm1 hf.1;have h2:=hpg oq;refine⟨by simp only;omega,by simp only;omega,fun _=>⟨rfl,by simp only;omega⟩,fun e=>by cases e⟩
 ·split
  ·rename_i hg;have h1:=hm2 hg.1;have h2:=congrArg Page.U (hfo hg.1).2.2.2;simp only at h2;refine⟨by simp only;omega,by simp only;omega,fun _=>⟨rfl,by simp only;omega⟩,fun e=>by cases e⟩
  ·exact⟨by simp,by simp,(fun e=>nomatch e),fun _=>rfl⟩
theorem Zc9{h:Heap}{n k:Int}(hp:Z02 h=true):0≤(Z0D h n k).2.1∧(Z0D h n k).2.1≤8192∧((Z0D h n k).2.2=true→(Z0D h n k).1.W=h.W∧4096≤(Z0D h n k).2.1)∧((Z0D h n k).2.2=false→(Z0D h n k).1=noHeap):=by
 obtain⟨o1,o2,o3,o4,o5,o6,o7,o8,o9⟩:=Z07 hp;unfold Z0D;split
 ·rename_i hg;have h3:=(Z1x hg.1)
  have h1:=Z2B (c:=h.C) (i:=first h.P k) o1 hg.1 oq;exact⟨by simp only;omega,by simp only;omega,fun _=>⟨rfl,by simp only;omega⟩,fun e=>by cases e⟩
 ·exact⟨by simp,by simp,(fun e=>nomatch e),fun _=>rfl⟩
def put7(h:Heap)(hd:Header):Heap×Int×Bool:=if 0<need h.C (sizeH hd)then Z0D h (sizeH hd) (need h.C (sizeH hd))else Z0q h (sizeH hd)
def new7(h:Heap)(hd:Header):Heap×Int×Int :=
 if Z02 h=true∧Z3b h.C hd=true then(if(put7 h hd).2.2=true then((Z1m (put7 h hd).1 (put7 h hd).2.1 hd).1,(put7 h hd).2.1,0)else(noHeap,0,3))else(noHeap,0,1)
theorem Z7c:WOk []:=fun w h=>by simp at h
theorem ZbL{c:Conf}{hd:Header}(h:Z3b c hd=true):Z0g hd=true∧1≤sizeH hd∧sizeH hd≤256∧0≤need c (sizeH hd)∧hd.K≠0:=by
 simp only[Z3b,Bool.and_eq_true,decide_eq_true_eq]at h;have hv:=validH_iff.1 h.1.1;have hn:=Z3q c (sizeH hd);have hs:sizeH hd=hd.length+1:=by rw[sizeH,if_pos h.1.1]
 exact⟨h.1.1,by omega,by omega,by omega,h.1.2⟩
theorem ZhX(h:Heap)(hd:Header)(hw:WOk h.W)(hm:0≤hd.map∧hd.map≤4294967295):GP 115 [h.av,hd.av] false (.tu [(new7 h hd).1.av,u64 (new7 h hd).2.1,int (new7 h hd).2.2]) []:=by
 by_cases hp:Z02 h=true
 ·cases ha:Z3b h.C hd with
  | false =>
   have e7:new7 h hd=(noHeap,0,1):=by rw[new7,if_neg (by rw[ha];simp)]
   rw[e7];exact gF [] Tryz.func115 [] (Fc 13 (@Z0i h) (FcG 19 (!!Z02 h) (fun hg=>by(try simp only[bs]at hg);exact @Z5x h.C hd aa) (Fts 21 (!Z02 h||!Z3b h.C hd) (Fnl (Fnl Fz)))))
  | true =>
   obtain⟨a1,a2,a3,a4,a5⟩:=ZbL ha;have f1:=Zcy hp ⟨a2,a3⟩;have f2:=Zc9 (n:=sizeH hd) (k:=need h.C (sizeH hd)) hp;have w1:WOk (Z0q h (sizeH hd)).1.W:=by
    cases e:(Z0q h (sizeH hd)).2.2 with
    | true=>rw[(f1.2.2.1 e).1];exact hw
    | false=>rw[f1.2.2.2 e];exact Z7c
   have w2:WOk (Z0D h (sizeH hd) (need h.C (sizeH hd))).1.W:=by
    cases e:(Z0D h (sizeH hd) (need h.C (sizeH hd))).2.2 with
    | true=>rw[(f2.2.2.1 e).1];exact hw
    | false=>rw[f2.2.2.2 e];exact Z7c
   by_cases hn:0<need h.C (sizeH hd)
   ·have e7:put7 h hd=Z0D h (sizeH hd) (need h.C (sizeH hd)):=by rw[put7,if_pos hn]
    have Q0 {h_ c_ p_} (r_:Fq h_ c_ p_):=Fc 13 (@Z0i h) (FcG 19 (!!Z02 h) (fun hg=>by(try simp only[bs]at hg);exact @Z5x h.C hd aa) (Ffs 21 (!Z02 h||!Z3b h.C hd) (Fc 24 (@Z29 hd aa) (Fc 28 (@Z4e h.C (sizeH hd)) (Fc 32 (@Z6U h (sizeH hd) aa oq) (Ftb 37 (decide (0<need h.C (sizeH hd))) (Fc 42 (@Zd1 h (sizeH hd) (need h.C (sizeH hd)) aa (by rfl) aa) r_)))))));rcases bb (!(Z0D h (sizeH hd) (need h.C (sizeH hd))).snd.snd)with hc0 | hc0<;>have hc0p:=hc0<;>simp only[bs]at hc0p
    ·exact gF [] Tryz.func115 (fO 5) (Q0 (Ft 47 hc0 (Fnl (Fnl (Fa (by simp[new7,e7,noHeap, *]:0=(new7 h hd).fst.C.pw) (Fa (by simp[new7,e7,noHeap, *]:0=(new7 h hd).fst.C.pg) (Fa (by simp[new7,e7,noHeap, *]:[]=List.map wdv (new7 h hd).fst.W) (Fa (by simp[new7,e7,noHeap, *]:[]=List.map Page.dv (new7 h hd).fst.P) (Fa (by simp[new7,e7,noHeap, *]:0=(new7 h hd).fst.S) (Fa (by simp[new7,e7,noHeap, *]:0=(new7 h hd).fst.B) (Fa (by simp[new7,e7,noHeap, *]:0=(new7 h hd).snd.fst) (Fa (by simp[new7,e7,noHeap, *]:3=(new7 h hd).snd.snd) Fz))))))))))))
    ·rw[show new7 h hd=((Z1m (Z0D h (sizeH hd) (need h.C (sizeH hd))).fst (Z0D h (sizeH hd) (need h.C (sizeH hd))).snd.fst hd).fst,(Z0D h (sizeH hd) (need h.C (sizeH hd))).snd.fst,(0:Int))from by simp[new7,e7,noHeap, *]];exact gF [] Tryz.func115 [] (Q0 (Ff 47 hc0 (Fc 53 (@ZeY ((Z0D h (sizeH hd) (need h.C (sizeH hd))).fst) ((Z0D h (sizeH hd) (need h.C (sizeH hd))).snd.fst) hd aa oq aa) Fz)))
   ·have e7:put7 h hd=Z0q h (sizeH hd):=by rw[put7,if_neg hn]
    have Q1 {h_ c_ p_} (r_:Fq h_ c_ p_):=Fc 13 (@Z0i h) (FcG 19 (!!Z02 h) (fun hg=>by(try simp only[bs]at hg);exact @Z5x h.C hd aa) (Ffs 21 (!Z02 h||!Z3b h.C hd) (Fc 24 (@Z29 hd aa) (Fc 28 (@Z4e h.C (sizeH hd)) (Fc 32 (@Z6U h (sizeH hd) aa oq) (Ffb 37 (decide (0<need h.C (sizeH hd))) r_))))));rcases bb (!(Z0q h (sizeH hd)).snd.snd)with hc0 | hc0<;>have hc0p:=hc0<;>simp only[bs]at hc0p
    ·exact gF [] Tryz.func115 (fO 5) (Q1 (Ft 47 hc0 (Fnl (Fnl (Fa (by simp[new7,e7,noHeap, *]:0=(new7 h hd).fst.C.pw) (Fa (by simp[new7,e7,noHeap, *]:0=(new7 h hd).fst.C.pg) (Fa (by simp[new7,e7,noHeap, *]:[]=List.map wdv (new7 h hd).fst.W) (Fa (by simp[new7,e7,noHeap, *]:[]=List.map Page.dv (new7 h hd).fst.P) (Fa (by simp[new7,e7,noHeap, *]:0=(new7 h hd).fst.S) (Fa (by simp[new7,e7,noHeap, *]:0=(new7 h hd).fst.B) (Fa (by simp[new7,e7,noHeap, *]:0=(new7 h hd).snd.fst) (Fa (by simp[new7,e7,noHeap, *]:3=(new7 h hd).snd.snd) Fz))))))))))))
    ·rw[show new7 h hd=((Z1m (Z0q h (sizeH hd)).fst (Z0q h (sizeH hd)).snd.fst hd).fst,(Z0q h (sizeH hd)).snd.fst,(0:Int))from by simp[new7,e7,noHeap, *]];exact gF [] Tryz.func115 [] (Q1 (Ff 47 hc0 (Fc 53 (@ZeY ((Z0q h (sizeH hd)).fst) ((Z0q h (sizeH hd)).snd.fst) hd aa oq aa) Fz)))
 ·have hf:Z02 h=false:=by simpa using hp
  have e7:new7 h hd=(noHeap,0,1):=by rw[new7,if_neg (by rw[hf];simp)]
  rw[e7];exact gF [] Tryz.func115 [] (Fc 13 (@Z0i h) (FcG 19 (!!Z02 h) (fun hg=>by(try simp only[bs]at hg);exact @Z5x h.C hd aa) (Fts 21 (!Z02 h||!Z3b h.C hd) (Fnl (Fnl Fz)))))
theorem Z2U(h:Header)(hm:0≤h.map∧h.map≤4294967295):GP 125 [h.av] true (bool (Z0g h)) []:=by
 have hs:=fun q=>ZpI (n:=h.length) q;have ho:0≤h.length→h.length≤32→ones h.length=2^h.length.toNat-1:=fun h0 h1=>by rw[ones,Nat.min_eq_left oq]
 rcases Bool.eq_false_or_eq_true (decide (h.K<(0:Int))||decide ((3:Int)<h.K)||decide (h.length<(0:Int))||decide ((255:Int)<h.length))with hc0 | hc0
 ·have hc0p:=hc0;simp only[bs]at hc0p;refine gspec_ofE [((20:Nat),[Hint.br true])] [] [] dd Tryz.func125 [false,false,false,false,false,false,false,false,false,true] (φ:=(decide (h.K<(0:Int))||decide ((3:Int)<h.K)||decide (h.length<(0:Int))||decide ((255:Int)<h.length))=true∧true=true∧false=Z0g h) ?_ kr kr;exact⟨aa,rfl,(by(simp[Z0g, *];omega))⟩
 ·have hc0p:=hc0;simp only[bs]at hc0p;obtain⟨⟨⟨hc0paaa,hc0paab⟩,hc0pab⟩,hc0pb⟩:=hc0p;rcases Bool.eq_false_or_eq_true (h.K==(1:Int))with hc1 | hc1
  ·have hc1p:=hc1;simp only[bs]at hc1p;refine gspec_ofE [((20:Nat),[Hint.br false]),((23:Nat),[Hint.br true]),((30:Nat),[Hint.int h.map]),((33:Nat),[Hint.call true (u64 (ones h.length)) []])] [] [] dd Tryz.func125 [false,false,false,false,false,false,false,false,false,false,false,false,false,false,false,false,true] (φ:=(decide (h.K<(0:Int))||decide ((3:Int)<h.K)||decide (h.length<(0:Int))||decide ((255:Int)<h.length))=false∧false=false∧(h.K==(1:Int))=true∧true=true∧(decide (h.length≤(32:Int))=true→IntKind.u64.wrap h.map=h.map)∧(decide (h.length≤(32:Int))=true→GP 163 [int h.length] true (u64 (ones h.length)) [])∧(decide (h.length≤(32:Int))&&decide (h.map≤ones h.length))=Z0g h) ?_ kr kr;exact⟨aa,rfl,aa,rfl,(by intro hg;(try simp only[bs]at hg);exact wrapU2 rfl oq oq),(fun hg=>by(try simp only[bs]at hg);exact @Z3k (h.length)),(by grind[Z0g])⟩
  ·have hc1p:=hc1;simp only[bs]at hc1p;refine gspec_ofE [((20:Nat),[Hint.br false]),((23:Nat),[Hint.br false])] [] [] dd Tryz.func125 [false,false,false,false,false,false,false,false,false,true] (φ:=(decide (h.K<(0:Int))||decide ((3:Int)<h.K)||decide (h.length<(0:Int))||decide ((255:Int)<h.length))=false∧false=false∧(h.K==(1:Int))=false∧false=false∧(h.K==h.K&&(h.length==h.length&&h.map==(0:Int)))=Z0g h) ?_ kr kr;exact⟨aa,rfl,aa,rfl,(by grind[Z0g])⟩
theorem Z0O(h:Header)(hm:0≤h.map∧h.map≤4294967295):GP 74 [h.av] true (int (sizeH h)) []:=by
 rcases Bool.eq_false_or_eq_true (!Z0g h)with hc0 | hc0
 ·have hc0p:=hc0;simp only[bs]at hc0p;refine gspec_ofE [((4:Nat),[Hint.call true (Sx.bool (Z0g h)) []]),((5:Nat),[Hint.br true])] [] [] dd Tryz.func74 [true] (φ:=GP 125 [h.av] true (Sx.bool (Z0g h)) []∧(!Z0g h)=true∧true=true∧(0:Int)=sizeH h) ?_ kr kr;exact⟨(@Z2U (h) aa),aa,rfl,(by simp[sizeH, *])⟩
 ·have hc0p:=hc0;simp only[bs]at hc0p;have hf3:=validH_iff.1 hc0p;obtain⟨hf3a,⟨hf3ba,⟨hf3bba,⟨hf3bbba,hf3bbbb⟩⟩⟩⟩:=hf3;refine gspec_ofE [((4:Nat),[Hint.call true (Sx.bool (Z0g h)) []]),((5:Nat),[Hint.br false]),((8:Nat),[Hint.int (h.length+(1:Int))])] [] [] dd Tryz.func74 [true] (φ:=GP 125 [h.av] true (Sx.bool (Z0g h)) []∧(!Z0g h)=false∧false=false∧IntKind.i64.wrap (h.length+(1:Int))=h.length+(1:Int)∧h.length+(1:Int)=sizeH h) ?_ kr kr;exact⟨(@Z2U (h) aa),aa,rfl,(by exact wrapI2 rfl oq oq),(by simp[sizeH, *])⟩
theorem Z7l(ws:List Int)(a n:Int)(hw:ws.length≤1048576)(h0:0≤a∧a≤18446744073709551615):GP 162 [Z01 ws,u64 a,int n] true (.tu [int (Z0b ws a n).1,bool (Z0b ws a n).2]) []:=by
 have Q0 {h_ c_ p_} (r_:Fq h_ c_ p_):=FvG 13 (!decide (a<4096)) (a-4096) (FlG 15 (!decide (a<4096)) wdv ws (FvG 16 (!decide (a<4096)) (↑ws.length) r_));rcases bb (decide (a<4096)||decide ((↑ws.length:Int)<a-4096))with hc0 | hc0<;>have hc0p:=hc0<;>simp only[bs]at hc0p
 ·rw[show Z0b ws a n=((0:Int),false)from by(simp[Z0b, *];omega)];exact gF [] Tryz.func162 [] (Q0 (Ft 18 hc0 Fz))
 ·obtain⟨hc0pa,hc0pb⟩:=hc0p;rw[show Z0b ws a n=(a-(4096:Int),decide (n≤(↑ws.length:Int)-(a-(4096:Int))))from by(simp[Z0b, *];omega)];exact gF [] Tryz.func162 [] (Q0 (Ff 18 hc0 (Fv 20 (a-4096) (Fi 21 (a-4096) (Fl 25 wdv ws (Fi 27 ((↑ws.length:Int)-(a-4096)) Fz))))))
theorem Zal(ws:List Int)(a:Int)(hw:ws.length≤1048576)(h0:0≤a∧a≤18446744073709551615):GP 156 [Z01 ws,u64 a] true (.tu [int (Z0V ws a).1,int (Z0V ws a).2]) []:=by
 have Q0 {h_ c_ p_} (r_:Fq h_ c_ p_):=Fc 11 (@Z7l ws a (1) aa aa) r_;rcases bb (!(Z0b ws a 1).snd)with hc0 | hc0<;>have hc0p:=hc0<;>simp only[bs]at hc0p
 ·rw[show Z0V ws a=((0:Int),(2:Int))from by grind[Z0b,Z0V]];exact gF [] Tryz.func156 [] (Q0 (Ft 15 hc0 Fz))
 ·rw[show Z0V ws a=((Z0b ws a (1:Int)).fst,(0:Int))from by grind[Z0b,Z0V]];exact gF [] Tryz.func156 [] (Q0 (Ff 15 hc0 Fz))
theorem Z6I(ws:List Int)(a:Int)(hw:ws.length≤1048576)(h0:0≤a∧a≤18446744073709551615):GP 113 [Z01 ws,u64 a] true (.tu [u64 (loadA ws a).1,int (loadA ws a).2]) []:=by
 rcases bb ((Z0V ws a).snd != 0)with hc0 | hc0<;>have hc0p:=hc0<;>simp only[bs]at hc0p
 ·have hf3:=Zd3 hc0p;obtain⟨hf3a,hf3b⟩:=hf3;rw[show loadA ws a=((0:Int),(Z0V ws a).snd)from by simp[loadA, *]];exact gF [] Tryz.func113 [] (Fc 11 (@Zal ws a aa aa) (Ft 15 hc0 Fz))
 ·have hf5:=ZdB hc0p;obtain⟨hf5a,⟨hf5ba,hf5bb⟩⟩:=hf5;rw[show loadA ws a=(ws.getD (Z0V ws a).fst.toNat default,(0:Int))from by simp[loadA, *]];refine gspec_ofE [((11:Nat),[Hint.call true (AV.tu [int (Z0V ws a).fst,int (Z0V ws a).snd]) []]),((15:Nat),[Hint.br false]),((19:Nat),[Hint.el (wdv (ws.getD (Z0V ws a).fst.toNat default))])] [] [] dd Tryz.func113 [] (φ:=GP 156 [Z01 ws,u64 a] true (AV.tu [int (Z0V ws a).fst,int (Z0V ws a).snd]) []∧((Z0V ws a).snd != (0:Int))=false∧false=false∧(0:Int)≤(Z0V ws a).fst∧(List.map wdv ws)[(Z0V ws a).fst.toNat]? = some (wdv (ws.getD (Z0V ws a).fst.toNat default))) ?_ kr kr;exact⟨(@Zal (ws) (a) aa aa),aa,rfl,(by exact elI oq oq oq)⟩
def upS(w:Int):Nat→Int
 | 0=>w
 | 1=>w/4
 | 2=>w/16
 | 3=>w/65536
 | _=>w/281474976710656
def upO(w:Int):List Int:=[w%4,w/4%4,w/16%4096,w/65536%4294967296]
def upL1(w:Int)(i:Nat):Tg:=⟨tm 49 [(0,u64 w),(1,Z0j [2,2,12,32]),(4,.d (.sl 0 [])),(5,int 0),(6,int ([64,62,60,48,16].getD i 0)),(12,Z0j [2,2,12,32]),(13,int 4),(14,int i)],[],20⟩
theorem Zm6(w:Int)(i:Nat)(hi:i<4):CP (rndF Tryz.f174 0) (upL1 w i).st .nrm (upL1 w (i+1)).st:=by
 have h:i=0∨i=1∨i=2∨i=3:=by omega
 rcases h with rfl | rfl | rfl | rfl
 ·refine stretchE [((16:Nat),[Hint.el (idv (2:Int))])] [] [] [] (φ:=(0:Int)≤(↑(0:Nat):Int)∧(List.map idv [(2:Int),(2:Int),(12:Int),(32:Int)])[(↑(0:Nat):Int).toNat]? = some (idv (2:Int))) ?_ kr kr kr;exact(by simp[*])
 ·refine stretchE [((16:Nat),[Hint.el (idv (2:Int))])] [] [] [] (φ:=(0:Int)≤(↑(1:Nat):Int)∧(List.map idv [(2:Int),(2:Int),(12:Int),(32:Int)])[(↑(1:Nat):Int).toNat]? = some (idv (2:Int))) ?_ kr kr kr;exact(by simp[*])
 ·refine stretchE [((16:Nat),[Hint.el (idv (12:Int))])] [] [] [] (φ:=(0:Int)≤(↑(2:Nat):Int)∧(List.map idv [(2:Int),(2:Int),(12:Int),(32:Int)])[(↑(2:Nat):Int).toNat]? = some (idv (12:Int))) ?_ kr kr kr;exact(by simp[*])
 ·refine stretchE [((16:Nat),[Hint.el (idv (32:Int))])] [] [] [] (φ:=(0:Int)≤(↑(3:Nat):Int)∧(List.map idv [(2:Int),(2:Int),(12:Int),(32:Int)])[(↑(3:Nat):Int).toNat]? = some (idv (32:Int))) ?_ kr kr kr;exact(by simp[*])
theorem Zp9(w:Int):CP (rndF Tryz.f174 0) (upL1 w 4).st (.ext 0) (Tg.st ⟨tm 49 [(0,u64 w),(1,Z0j [2,2,12,32]),(4,.d (.sl 0 [])),(5,int 0)],[],60⟩):=by
 exact sF [] [] Fz
def Zin(w:Int)  := Z08 (S:=fun i=>(upL1 w i).st) 4 (by kernel_rfl) (fun i hi=>Zm6 w i hi) (Zp9 w)
def upL2(w:Int)(i:Nat):Tg:=⟨tm 49 [(0,u64 (upS w i)),(4,.d (.sl 0 [])),(5,int 0),(9,.ow 480009),(29,Z0j [2,2,12,32]),(30,int 4),(31,int i)],[(480009,.arr 35 1 (((upO w).take i).map wdv))],60⟩
theorem Zli(w:Int)(i:Nat)(h0:0≤w)(h1:w≤18446744073709551615)(hi:i<4):CP (rndF Tryz.f174 2) (upL2 w i).st .nrm (upL2 w (i+1)).st:=by
 have o1:ones 2=3:=by decide
 have o2:ones 12=4095:=by decide
 have o3:ones 32=4294967295:=by decide
 have a0:bits .and .u64 w (ones 2)=w%4:=by rw[o1];exact Z35 2 dd dd oq oq
 have a1:bits .and .u64 (w/4) (ones 2)=w/4%4:=by rw[o1];exact Z35 2 dd dd oq oq
 have a2:bits .and .u64 (w/16) (ones 12)=w/16%4096:=by rw[o2];exact Z35 12 dd dd oq oq
 have a3:bits .and .u64 (w/65536) (ones 32)=w/65536%4294967296:=by rw[o3];exact Z35 32 dd dd oq oq
 have f1:(w/4).fdiv 4=w/16:=by rw[Int.fdiv_eq_ediv_of_nonneg _ dd];omega
 have f2:(w/16).fdiv 4096=w/65536:=by rw[Int.fdiv_eq_ediv_of_nonneg _ dd];omega
 have f3:(w/65536).fdiv 4294967296=w/281474976710656:=by rw[Int.fdiv_eq_ediv_of_nonneg _ dd];omega
 have h:i=0∨i=1∨i=2∨i=3:=by omega
 rcases h with rfl | rfl | rfl | rfl
 ·exact sF [(496041,480009)] [] (Fh 33 [.el (idv 2)] (Fa (by simp[upS,upO, *]:0≤(↑(0:Nat):Int)∧(List.map idv [2,2,12,32])[(↑(0:Nat):Int).toNat]? = some (idv 2)) (Fc 38 (@Z3k (2)) (Fg 39 (by assumption:bits BinOp.and IntKind.u64 (upS w 0) (ones (2:Int))=upS w 0%4) (Fs 40 (List.map wdv [upS w 0%4]) (Fa (by simp[upS,upO, *]:(List.map wdv (List.take 0 (upO w))).length+(List.map wdv [upS w 0%4]).length≤2^30) (Fs 41 (List.map wdv [upS w 0%4]) (Fg 44 (by exact Z4S rfl dd:(upS w 0).fdiv (2^min (Int.toNat 2) 64)=upS w 0/4) (Fo ((0:Int)≤2) Fz)))))))))
 ·exact sF [(496041,480009)] [true] (Fh 33 [.el (idv 2)] (Fa (by simp[upS,upO, *]:0≤(↑(1:Nat):Int)∧(List.map idv [2,2,12,32])[(↑(1:Nat):Int).toNat]? = some (idv 2)) (Fc 38 (@Z3k (2)) (Fg 39 (by assumption:bits BinOp.and IntKind.u64 (upS w 1) (ones (2:Int))=upS w 1%4) (Fs 40 (List.map wdv [upS w 1%4]) (Fa (by simp[upS,upO, *]:(List.map wdv (List.take 1 (upO w))).length+(List.map wdv [upS w 1%4]).length≤2^30) (Fs 41 (List.map wdv [w%4,upS w 1%4]) (Fg 44 (by exact Z4S rfl dd:(upS w 1).fdiv (2^min (Int.toNat 2) 64)=upS w 1/4) (Fo ((0:Int)≤2) (Fa (by(simp[upS,upO, *];omega):upS w 1/4=upS w (1+1)) Fz))))))))))
 ·exact sF [(496041,480009)] [true] (Fh 33 [.el (idv 12)] (Fa (by simp[upS,upO, *]:0≤(↑(2:Nat):Int)∧(List.map idv [2,2,12,32])[(↑(2:Nat):Int).toNat]? = some (idv 12)) (Fc 38 (@Z3k (12)) (Fg 39 (by assumption:bits BinOp.and IntKind.u64 (upS w 2) (ones (12:Int))=upS w 2%4096) (Fs 40 (List.map wdv [upS w 2%4096]) (Fa (by simp[upS,upO, *]:(List.map wdv (List.take 2 (upO w))).length+(List.map wdv [upS w 2%4096]).length≤2^30) (Fs 41 (List.map wdv [w%4,w/4%4,upS w 2%4096]) (Fg 44 (by exact Z4S rfl dd:(upS w 2).fdiv (2^min (Int.toNat 12) 64)=upS w 2/4096) (Fo ((0:Int)≤12) (Fa (by(simp[upS,upO, *];omega):upS w 2/4096=upS w (2+1)) Fz))))))))))
 ·exact sF [(496041,480009)] [true] (Fh 33 [.el (idv 32)] (Fa (by simp[upS,upO, *]:0≤(↑(3:Nat):Int)∧(List.map idv [2,2,12,32])[(↑(3:Nat):Int).toNat]? = some (idv 32)) (Fc 38 (@Z3k (32)) (Fg 39 (by assumption:bits BinOp.and IntKind.u64 (upS w 3) (ones (32:Int))=upS w 3%4294967296) (Fs 40 (List.map wdv [upS w 3%4294967296]) (Fa (by simp[upS,upO, *]:(List.map wdv (List.take 3 (upO w))).length+(List.map wdv [upS w 3%4294967296]).length≤2^30) (Fs 41 (List.map wdv [w%4,w/4%4,w/16%4096,upS w 3%4294967296]) (Fg 44 (by exact Z4S rfl dd:(upS w 3).fdiv (2^min (Int.toNat 32) 64)=upS w 3/4294967296) (Fo ((0:Int)≤32) (Fa (by(simp[upS,upO, *];omega):upS w 3/4294967296=upS w (3+1)) Fz))))))))))
theorem ZpA(w:Int):CP (rndF Tryz.f174 2) (upL2 w 4).st (.ext 2) (Tg.st ⟨tm 49 [(0,u64 (w/281474976710656)),(4,.d (.sl 0 [])),(5,int 0),(9,.ow 480009)],[(480009,.arr 35 1 ((upO w).map wdv))],60⟩):=by
 exact sF [] [] Fz
def ZhD(w:Int)(h0:0≤w)(h1:w≤18446744073709551615)  := Z08 (S:=fun i=>(upL2 w i).st) 4 (by kernel_rfl) (fun i hi=>Zli w i h0 h1 hi) (ZpA w)
theorem Ze6(w:Int)(h0:0≤w)(h1:w≤18446744073709551615)(h:w<281474976710656):GP 174 [u64 w,Z0j [2,2,12,32]] true (.tu [Z01 (upO w),int 0]) []:=by
 exact gF [] Tryz.func174 [] (Fh 9 [.own] (Fu (@Zin w) (Fu (@ZhD w aa aa) (Ffb 47 (w/(281474976710656:Int) != 0) (Fa (by exact Z1T _:Z0J (List.map wdv (upO w))) Fz)))))
theorem ZkN(w:Int)(h0:0≤w)(h1:w≤18446744073709551615)(h:¬ w<281474976710656):GP 174 [u64 w,Z0j [2,2,12,32]] true (.tu [Z01 [],int 2]) []:=by
 exact gF [] Tryz.func174 [] (Fh 9 [.own] (Fu (@Zin w) (Fu (@ZhD w aa aa) (Ftb 47 (w/(281474976710656:Int) != 0) (Fnl Fz)))))
theorem Zcv(w:Int)(h0:0≤w):decodeH w=if w<281474976710656∧w%4=1∧Z0g (Z39 w)=true then(Z39 w,true)else(Z25,false):=by
 have k1:(Z39 w).K=w/4%4:=rfl;have k2:(Z39 w).length=w/16%4096:=rfl;have k3:(Z39 w).map=w/65536%4294967296:=rfl;by_cases hv:Z0g (Z39 w)=true
 ·have e:Z0c (Z39 w)=(1+4*(Z39 w).K+16*(Z39 w).length+65536*(Z39 w).map,0):=by rw[Z0c,if_pos hv]
  by_cases hc:w<281474976710656∧w%4=1
  ·rw[decodeH,e,if_pos ⟨rfl,by simp only;omega⟩,if_pos ⟨hc.1,hc.2,hv⟩]
  ·rw[decodeH,e,if_neg (by simp only;omega),if_neg (fun q=>hc ⟨q.1,q.2.1⟩)]
 ·have e:Z0c (Z39 w)=(0,1):=by rw[Z0c,if_neg hv]
  rw[decodeH,e,if_neg pq,if_neg (fun q=>hv q.2.2)]
theorem Z0N(w:Int)(h0:0≤w)(h1:w≤18446744073709551615):GP 141 [u64 w] true (.tu [(decodeH w).1.av,bool (decodeH w).2]) []:=by
 have hm:=Z9c w h0;rw[Zcv w h0];have u0:(upO w).getD 0 default=w%4:=rfl;have u1:(upO w).getD 1 default=w/4%4:=rfl;have u2:(upO w).getD 2 default=w/16%4096:=rfl;have u3:(upO w).getD 3 default=w/65536%4294967296:=rfl;have uL:(upO w).length=4:=rfl;have k1:(Z39 w).K=w/4%4:=rfl;have k2:(Z39 w).length=w/16%4096:=rfl;have k3:(Z39 w).map=w/65536%4294967296:=rfl;by_cases ha:w<281474976710656
 ·by_cases hb:w%4=1
  ·by_cases hv:Z0g (Z39 w)=true
   ·rw[if_pos ⟨ha,hb,hv⟩];have hv2:Z0g ⟨w/4%4,w/16%4096,w/65536%4294967296⟩=true:=hv;exact gF [] Tryz.func141 [] (Fh 17 [.el (wdv ((upO w).getD 0 default))] (Fh 23 [.el (wdv ((upO w).getD 1 default))] (Fh 27 [.el (wdv ((upO w).getD 2 default))] (Fh 31 [.el (wdv ((upO w).getD 3 default))] (Fs 9 (List.map idv [2,2,12,32]) (Fc 10 (@Ze6 w aa aa aa) (Fa (by intro hg;(try simp only[bs]at hg);exact elI oq oq oq:(!(0:Int) != 0)=true→(0:Int)≤0∧(List.map wdv (upO w))[Int.toNat 0]? = some (wdv ((upO w).getD 0 default))) (Ffb 20 ((upO w).getD 0 default != 1) (Fa (by exact elI oq oq oq:(0:Int)≤1∧(List.map wdv (upO w))[Int.toNat 1]? = some (wdv ((upO w).getD 1 default))) (Fi 25 ((upO w).getD 1 default) (Fa (by exact elI oq oq oq:(0:Int)≤2∧(List.map wdv (upO w))[Int.toNat 2]? = some (wdv ((upO w).getD 2 default))) (Fi 29 ((upO w).getD 2 default) (Fa (by exact elI oq oq oq:(0:Int)≤3∧(List.map wdv (upO w))[Int.toNat 3]? = some (wdv ((upO w).getD 3 default))) (Fg 33 (by exact ZbI oq oq:IntKind.u32.wrap ((upO w).getD 3 default)=(upO w).getD 3 default) (Fc 36 (@Z2U (Header.mk ((upO w).getD 1 default) ((upO w).getD 2 default) ((upO w).getD 3 default)) aa) (Ffs 37 (!Z0g (Header.mk ((upO w).getD 1 default) ((upO w).getD 2 default) ((upO w).getD 3 default))) Fz))))))))))))))))
   ·rw[if_neg (by simp[hv])];have hv':Z0g ⟨w/4%4,w/16%4096,w/65536%4294967296⟩=false:=eq_false_of_ne_true hv;exact gF [] Tryz.func141 [] (Fh 17 [.el (wdv ((upO w).getD 0 default))] (Fh 23 [.el (wdv ((upO w).getD 1 default))] (Fh 27 [.el (wdv ((upO w).getD 2 default))] (Fh 31 [.el (wdv ((upO w).getD 3 default))] (Fs 9 (List.map idv [2,2,12,32]) (Fc 10 (@Ze6 w aa aa aa) (Fa (by intro hg;(try simp only[bs]at hg);exact elI oq oq oq:(!(0:Int) != 0)=true→(0:Int)≤0∧(List.map wdv (upO w))[Int.toNat 0]? = some (wdv ((upO w).getD 0 default))) (Ffb 20 ((upO w).getD 0 default != 1) (Fa (by exact elI oq oq oq:(0:Int)≤1∧(List.map wdv (upO w))[Int.toNat 1]? = some (wdv ((upO w).getD 1 default))) (Fi 25 ((upO w).getD 1 default) (Fa (by exact elI oq oq oq:(0:Int)≤2∧(List.map wdv (upO w))[Int.toNat 2]? = some (wdv ((upO w).getD 2 default))) (Fi 29 ((upO w).getD 2 default) (Fa (by exact elI oq oq oq:(0:Int)≤3∧(List.map wdv (upO w))[Int.toNat 3]? = some (wdv ((upO w).getD 3 default))) (Fg 33 (by exact ZbI oq oq:IntKind.u32.wrap ((upO w).getD 3 default)=(upO w).getD 3 default) (Fc 36 (@Z2U (Header.mk ((upO w).getD 1 default) ((upO w).getD 2 default) ((upO w).getD 3 default)) aa) (Fts 37 (!Z0g (Header.mk ((upO w).getD 1 default) ((upO w).getD 2 default) ((upO w).getD 3 default))) Fz))))))))))))))))
  ·rw[if_neg (by simp[hb])];exact gF [] Tryz.func141 [] (Fh 17 [.el (wdv ((upO w).getD 0 default))] (Fs 9 (List.map idv [2,2,12,32]) (Fc 10 (@Ze6 w aa aa aa) (Fa (by intro hg;(try simp only[bs]at hg);exact elI oq oq oq:(!(0:Int) != 0)=true→(0:Int)≤0∧(List.map wdv (upO w))[Int.toNat 0]? = some (wdv ((upO w).getD 0 default))) (Ftb 20 ((upO w).getD 0 default != 1) Fz)))))
 ·rw[if_neg (by simp[ha])];exact gF [] Tryz.func141 [] (Fh 17 [.el (wdv ([].getD 0 default))] (Fs 9 (List.map idv [2,2,12,32]) (Fc 10 (@ZkN w aa aa aa) (Fa (by intro hg;(try simp only[bs]at hg);exact elI oq oq oq:(!(2:Int) != 0)=true→(0:Int)≤0∧(List.map wdv [])[Int.toNat 0]? = some (wdv ([].getD 0 default))) Fz))))
end Go.Proofs.YtdhchmlalchgeaaGreat
namespace Go.Sx
def Z9I(H:Heap)(x:AV):Option AV:=match x with
 | .d x=>some (.d x)
 | .rp e o=>some (.rp e o)
 | .ow b=>match Nat.ble 8000 b with
  | true=>match H b with | some (.arr _ s els)=>some (.d (.sl s els)) | _=>none
  | false=>none
 | .os b o n=>match Nat.ble 8000 b with
  | true=>match H b with | some (.arr _ s els)=>some (.d (.sl s ((els.drop o).take n))) | _=>none
  | false=>none
 | _=>none
def ZeO(f:AV→Option AV):List AV→Option (List AV)
 | []=>some []
 | a::l=>match f a,ZeO f l with
  | some x,some r=>some (x::r)
  | _,_=>none
def Zmc(H:Heap)(a:AV):Option AV:=match a with
 | .ag l=>match ZeO (Z9I H) l with | some r=>some (.ag r) | none=>none
 | .ic t x=>match Z9I H x with | some r=>some (.ic t r) | none=>none
 | x=>Z9I H x
def Zob(H:Heap)(a:AV):Option AV:=match a with
 | .tu l=>match ZeO (Zmc H) l with | some r=>some (.tu r) | none=>none
 | x=>Zmc H x
def Zpr(x:AV):Bool:=match x with
 | .pt 0 0 0=>true
 | x=>Z6q x
def runL(P:Program)(hints:List (Nat×List Hint))(cuts:List (Nat×Tg×Ex×Tg))(fn:Func)(args:List AV)(pre:Blk)(res:AV)(post:Blk):Option Run :=
 match fn.body with
 | none=>none
 | some c=>match args.all Zpr with
  | false=>none
  | true=>match runC P hints cuts c ⟨args++List.replicate (fn.ntmps-args.length) .any,hOf [(0,pre)],1⟩with
   | none=>none
   | some r=>match r.e with
    | .ext _=>none
    | _=>match Z7B P r.s.tmps r.s.H fn.results.toList with
     | none=>none
     | some l=>match Zob r.s.H (resV l),r.s.H 0,pre,post with
      | some x,some (.box ty cells),.box _ cells0,.box ty1 cells1=>match ZeO (Z9I r.s.H) cells with
       | some cs=>match Nat.beq cells.length cells0.length with
        | true=>some ⟨r.e,r.s,r.ph++((coeT x res).2++(coeL coe1 cs cells1).2),r.eq++[((coeT x res).1,res),(encB (.box ty (coeL coe1 cs cells1).1),encB (.box ty1 cells1))]⟩
        | false=>none
       | none=>none
      | _,_,_,_=>none
def ImL(Im:Nat→Prop)(ρ:Rho)(H:Heap):Nat→Prop:=fun g=>Im g∨∃ b β,8000≤b∧live H b∧ρ b=some β∧β.g=some g
section
variable {Ow:Own} {Im0:Nat→Prop} {w0:World} {ρ:Rho} {w:World} {Im:Nat→Prop} {H:Heap} {clk:Nat}
theorem Z7O{x:AV}{v:Value}{s:Nat}{els:List (List DV)}{b:Nat}(I:Inv Ow Im0 w0 ρ w Im H clk)(hx:Rel ρ w Im x v)(h:Z15 H x=some (s,els))(hb:8000≤b)(hlive:live H b)
  (hblk:∀ a n c,v = .slice (some a) n c→n≠0→∃ β,ρ b=some β∧β.g=some a.block):RelD w (ImL Im ρ H) (.sl s els) v:=by
 obtain⟨p,c,rfl,hbg,hc,hl,hcell⟩:=Z1u I hx h;by_cases he:els=[]
 ·subst he;exact .slNil _ _ _
 rcases hcell with hcell | ⟨q,rfl,hq,hcell⟩
 ·exact absurd hcell he
 have hn:els.length≠0:=by simpa using he
 obtain⟨β,hβ,hg⟩:=hblk q _ c rfl hn;refine .sl s els q els.length c (fun i o=>(w.cell? ⟨q.block,q.off+(i*s+o),none⟩).getD undef) rfl hc hbg (hl he) hq (.inr ⟨b,β,hb,hlive,hβ,hg⟩) ?_ ?_
 ·intro i e o y hi ho;obtain⟨u,k1,_⟩:=hcell i e o y hi ho;rw[k1];rfl
 ·intro i e o y hi ho;obtain⟨u,k1,k2⟩:=hcell i e o y hi ho;rw[k1];exact k2.mono (Ext.refl _ _) (fun g hg=>.inl hg)
theorem Z82(I:Inv Ow Im0 w0 ρ w Im H clk){x y:AV}{v:Value}(hx:Rel ρ w Im x v)(h:Z9I H x=some y):Rel (fun _=>none) w (ImL Im ρ H) y v:=by
 unfold Z9I at h;split at h
 ·cases h;cases hx with
  | d hx=>exact .d (hx.mono (Ext.refl _ _) (fun g hg=>.inl hg))
 ·cases h;cases hx with
  | rp h1 h2 h3=>exact .rp h1 (.inl h2) (fun j x hx=>let ⟨v,k1,k2⟩:=h3 j x hx;⟨v,k1,k2.mono (Ext.refl _ _) (fun g hg=>.inl hg)⟩)
 ·rename_i b;split at h;rotate_left
  ·cases h
  rename_i hb8;split at h;rotate_left
  ·cases h
  rename_i ty s els hb;cases h;refine .d (Z7O (b:=b) I hx (by simp[Z15,hb]) (Nat.le_of_ble_eq_true hb8) ⟨_,hb,by simp⟩ fun a n c hv hn=>?_);subst hv;generalize hvv:Value.slice (some a) n c=vv at hx;cases hx with
  | ow h1 h2 h3 h4 =>
   injection hvv with e1 e2 e3;rcases h4 with h4 | ⟨g,hg,e,_⟩
   ·omega
   ·rw[← e1]at e;cases e;exact⟨_,h1,hg⟩
 ·rename_i b oo m;split at h;rotate_left
  ·cases h
  rename_i hb8;split at h;rotate_left
  ·cases h
  rename_i ty s els hb;cases h;refine .d (Z7O (b:=b) I hx (by simp[Z15,hb]) (Nat.le_of_ble_eq_true hb8) ⟨_,hb,by simp⟩ fun a n c hv hn=>?_);subst hv;generalize hvv:Value.slice (some a) n c=vv at hx;cases hx with
  | os h1 h2 h3 h4 h5 =>
   injection hvv with e1 e2 e3;rcases h5 with h5 | ⟨g,hg,e,_⟩
   ·omega
   ·rw[← e1]at e;cases e;exact⟨_,h1,hg⟩
 ·cases h
theorem Z5n{f:AV→Option AV}:∀ {l r:List AV},ZeO f l=some r→r.length=l.length∧∀ (i:Nat) (y:AV),r[i]? = some y→∃ x,l[i]? = some x∧f x=some y
 | [],r,h=>by simp[ZeO]at h;subst h;simp
 | a::l,r,h=>by
  simp only[ZeO]at h;split at h;rotate_left
  ·cases h
  rename_i x m hx hm;cases h;obtain⟨h1,h2⟩:=Z5n hm;refine⟨by simp[h1],fun i y hy=>?_⟩;cases i with
  | zero=>simp at hy;subst hy;exact⟨a,rfl,hx⟩
  | succ i=>exact h2 i y (by simpa using hy)
theorem ZfX(I:Inv Ow Im0 w0 ρ w Im H clk){x y:AV}{v:Value}(hx:Rel ρ w Im x v)(h:Zmc H x=some y):Rel (fun _=>none) w (ImL Im ρ H) y v:=by
 unfold Zmc at h;split at h
 ·split at h;rotate_left
  ·cases h
  rename_i r hr;cases h;obtain⟨h1,h2⟩:=Z5n hr;obtain⟨cs,rfl,k1,k2,k3⟩:=Z2R hx;refine .ag _ cs oq k2 fun i a u ha hu=>?_;obtain⟨z,m1,m2⟩:=h2 i a ha;exact Z82 I (k3 i z u m1 hu) m2
 ·split at h;rotate_left
  ·cases h
  rename_i r hr;cases h;cases hx with
  | ic hx=>exact .ic (Z82 I hx hr)
 ·exact Z82 I hx h
theorem ZlG(I:Inv Ow Im0 w0 ρ w Im H clk){x y:AV}{v:Value}(hx:Rel ρ w Im x v)(h:Zob H x=some y):Rel (fun _=>none) w (ImL Im ρ H) y v:=by
 unfold Zob at h;split at h
 ·split at h;rotate_left
  ·cases h
  rename_i r hr;cases h;obtain⟨h1,h2⟩:=Z5n hr;cases hx with
  | tu _ cs k1 k3 =>
   refine .tu _ cs oq fun i a u ha hu=>?_;obtain⟨z,m1,m2⟩:=h2 i a ha;exact ZfX I (k3 i z u m1 hu) m2
 ·exact ZfX I hx h
end
theorem lent_of{P:Program}{f:Nat}{fn:Func}{args:List AV}{pre:Blk}{res:AV}{post:Blk}(hints:List (Nat×List Hint))(cuts:List (Nat×Tg×Ex×Tg))
  (hf:P.funcs[f]? = some fn) (fl:List Bool) {φ:Prop} (hφ:φ) (h1:oblE fl (runL P hints cuts fn args pre res post)=φ) (h2:lefE fl (runL P hints cuts fn args pre res post)=rigE fl (runL P hints cuts fn args pre res post)):LentSpec P f args [pre] res [post]:=by
 rw[← h1]at hφ;obtain⟨hφ,h2⟩:=Z4a hφ h2;clear h1;cases hr:runL P hints cuts fn args pre res post with
 | none=>rw[hr]at hφ;exact hφ.elim
 | some r =>
  rw[hr]at hφ h2;have heq:EqP r.eq:=Z7K h2;have hph:allP r.ph:=hφ;clear h2 hφ;unfold runL at hr;split at hr
  ·cases hr
  rename_i c hb;split at hr
  ·cases hr
  rename_i hpure;split at hr
  ·cases hr
  rename_i q hq;split at hr
  ·cases hr
  rename_i hne;split at hr
  ·cases hr
  rename_i l hl;split at hr;rotate_left
  ·cases hr
  rename_i x ty cells ty0 cells0 ty1 cells1 hx hH0;split at hr;rotate_left
  ·cases hr
  rename_i cs hcs;split at hr;rotate_left
  ·cases hr
  rename_i hlen;have hlen:=Nat.eq_of_beq_eq_true hlen;cases hr;obtain⟨hph1,hph'⟩:=allP_append.1 hph;obtain⟨hph2,hph3⟩:=allP_append.1 hph';have heq1:=heq.left;have hxe:(coeT x res).1=res:=heq.right ((coeT x res).1,res) pq;have hbe0:encB (.box ty (coeL coe1 cs cells1).1)=encB (.box ty1 cells1):=heq.right (encB (.box ty (coeL coe1 cs cells1).1),encB (.box ty1 cells1)) pq;have hbe:=Z8f hbe0;intro w Im ρ vs hIm hsz hρ hinj hbnd hpre hargs;refine calls_of_wp hf hb ?_;have hlow:∀ b β,ρ b=some β→b=0:=by intro b β h;have:=hρ b β h;simp at this;exact this
  have hS:Sys (ownR ρ) Im w (args++List.replicate (fn.ntmps-args.length) .any) (hOf [(0,.box ty0 cells0)]) 1 { tmps:=vs++Array.replicate (fn.ntmps-vs.size) undef,defers:=[] } w:=by
   refine⟨ρ,Im,⟨Kept.refl _ _,(fun b b' β β' g _ _=>hinj b b' β β' g),(fun b β g _ h h'=>(hbnd b β g h h').2),(fun b β g h h'=>(hbnd b β g h h').1),(fun b β g h h'=>.inr ⟨b,β,h,h'⟩),hIm,(fun g h=>.inl h),(fun b B h=>?_),(fun b hb _=>?_),Nat.le_refl 1,fun b β _ h=>h⟩,⟨by simp[hsz],fun i y v hy hv=>?_,rfl⟩⟩
   ·simp only[hOf]at h;split at h
    ·rename_i e;cases h;rw[e];exact hpre 0 _ rfl
    ·cases h
   ·cases hc:ρ b with
    | none=>rfl
    | some β=>have:=hlow b β hc;omega
   ·rw[List.getElem?_append]at hy;simp only[Array.getElem?_append]at hv;rw[hsz]at hv;split at hy
    ·rename_i hi;rw[if_pos hi]at hv;exact hargs i y v hy hv
    ·have:=List.mem_of_getElem? hy;rw[(List.mem_replicate.1 this).2];exact .any _
  refine wp_mono (Z7p hq hph1 heq1 _ _ _ _ _ hS) ?_;rintro e a' w' ⟨rfl,hS'⟩;have post:a'.defers=[]∧∃ v,(results fn a'.tmps).run P w' = .ok v w'∧∃ u,Ending.returned v = .returned u∧Kept (fun g=>∃ b β,ρ b=some β∧β.g=some g) w w'∧∃ Im':Nat→Prop,(∀ g,Im' g→Im g∨w.heap.size≤g)∧(∀ g,Im' g→g<w'.heap.size) ∧
    (∀ (k:Nat) (B:Blk),[Blk.box ty1 cells1][k]? = some B→∃ β,ρ k=some β∧RelB ρ w' Im' β B)∧Rel ρ w' Im' res u:=by
   obtain⟨ρ',Im',I,T⟩:=hS';have own':∀ b β g,ρ' b=some β→β.g=some g→(w.heap.size≤g∧8000≤b)∨∃ b κ,ρ b=some κ∧κ.g=some g:=fun b β g h h'=>(I.own b β g h h').imp id fun⟨b,β,h⟩=>⟨b,β,h⟩
   obtain⟨v,h1,h2⟩:=Z5u I T hl;have hzero:∀ g κ,ρ 0=some κ→κ.g=some g→∃ β',ρ' 0=some β'∧β'.g=some g:=by
    intro g κ n1 n2;obtain⟨β',k1,k2,k3,g1,ca,k4,_⟩:=I.blk 0 _ hH0;rcases own' 0 β' g1 k1 k4 with⟨_,h⟩ | ⟨b,κ2,m1,m2⟩
    ·omega
    ·have:=hlow b κ2 m1;subst this;rw[n1]at m1;cases m1;rw[n2]at m2;cases m2;exact⟨β',k1,k4⟩
   have hlent:∀ g,(∃ b β,ρ b=some β∧β.g=some g)→¬ Im' g:=by
    rintro g ⟨b,κ,n1,n2⟩;have:=hlow b κ n1;subst this;obtain⟨β',k1,k4⟩:=hzero g κ n1 n2;exact I.notIm 0 β' g ⟨_,hH0,by simp⟩ k1 k4
   refine⟨T.defers,v,h1,v,rfl,I.kept,ImL Im' ρ' q.s.H, ?_, ?_, ?_, ?_⟩
   ·rintro g (hg | ⟨b,β,h8,_,hb,hg⟩)
    ·rcases I.im0 g hg with h | h | h
     ·exact .inl h
     ·exact .inr h
     ·exact absurd hg (hlent g h)
    ·rcases own' b β g hb hg with⟨h,_⟩ | ⟨b2,κ,n1,n2⟩
     ·exact .inr h
     ·have:=hlow b2 κ n1;subst this;obtain⟨β',k1,k4⟩:=hzero g κ n1 n2;have:=I.inj b 0 β β' g aa ⟨_,hH0,by simp⟩ hb k1 hg k4;omega
   ·rintro g (hg | ⟨b,β,_,_,hb,hg⟩)
    ·exact I.imb g hg
    ·exact I.bnd b β g hb hg
   ·intro k B hB;cases k with
    | succ k=>simp at hB
    | zero =>
     simp at hB;subst hB;obtain⟨β',k1,k2,k3,g,ca,k4,k5,k6,k7,k8⟩:=I.blk 0 _ hH0;obtain⟨β,m1,m2,m3,g2,ca2,m4,m5,m6,m7,m8⟩:=hpre 0 _ rfl;have hg:g=g2:=by
      rcases own' 0 β' g k1 k4 with⟨_,h⟩ | ⟨b,κ,n1,n2⟩
      ·omega
      ·have:=hlow b κ n1;subst this;rw[m1]at n1;cases n1;rw[m4]at n2;cases n2;rfl
     refine⟨β,m1, ?_⟩;rw[← hbe];obtain⟨f1,f2⟩:=Z5n hcs;obtain⟨c1,c2⟩:=Z4T hph3;refine⟨by rw[c1,f1,m2,hlen],m3,g,ca,by rw[m4,hg],k5,by rw[c1,f1];exact k6,k7,fun o y u hy hu=>?_⟩;obtain⟨z,z1,z2⟩:=c2 o y hy;obtain⟨z',e1,e2⟩:=f2 o z z1;have hz:=Z82 I (k8 o z' u e1 hu) e2;have hz':Rel ρ w' (ImL Im' ρ' q.s.H) z u:=hz.mono (Ext.refl _ _) (fun _ h=>h) (fun b β h=>by cases h) (fun b β g h=>by cases h);rcases z2 with rfl | ⟨r,rfl,hr⟩
     ·exact hz'
     ·exact Z7Z hz' hr
   ·have hz:=ZlG I h2 hx;have hz':Rel ρ w' (ImL Im' ρ' q.s.H) x v:=hz.mono (Ext.refl _ _) (fun _ h=>h) (fun b β h=>by cases h) (fun b β g h=>by cases h);have:=ZbW (r:=res) hz' hph2;rwa [hxe]at this
  cases hqe:q.e with
  | nrm=>exact post
  | ret=>exact post
  | ext n=>exact absurd hqe (hne n)
theorem Fp{hs:List (Nat×List Hint)}{cs:List (Nat×Tg×Ex×Tg)}{φ:Prop}(n:Nat){P:Program}{f:Nat}{args:List AV}{pre:List Blk}{res:AV}{post:List Blk}(h:LentSpec P f args pre res post)(r:Fq hs cs φ):Fq ((n,[.lent res post])::hs) cs (LentSpec P f args pre res post∧φ):=⟨h,r.p⟩
theorem lF{hs:List (Nat×List Hint)}{cs:List (Nat×Tg×Ex×Tg)}{φ0:Prop}{P:Program}{f:Nat}{fn:Func}{args:List AV}{pre:Blk}{res:AV}{post:Blk}
  (hf:P.funcs[f]? = some fn) (fl:List Bool) (h:Fq hs cs φ0) (h1:oblF fl (runL P hs cs fn args pre res post)=φ0:=by kernel_rfl) (h2:lefE fl (runL P hs cs fn args pre res post)=rigE fl (runL P hs cs fn args pre res post):=by kernel_rfl):LentSpec P f args [pre] res [post] :=
 lent_of hs cs hf fl (oblF_E (Eq.mpr h1 h.p)) rfl h2
theorem lE{P:Program}{f:Nat}{fn:Func}{args:List AV}{pre:Blk}{res:AV}{post:Blk}(hints:List (Nat×List Hint))(cuts:List (Nat×Tg×Ex×Tg))
  (hf:P.funcs[f]? = some fn) (fl:List Bool) {φ:Prop} (hφ:φ) (h1:oblE fl (runL P hints cuts fn args pre res post)=φ:=by kernel_rfl) (h2:lefE fl (runL P hints cuts fn args pre res post)=rigE fl (runL P hints cuts fn args pre res post):=by kernel_rfl):LentSpec P f args [pre] res [post] :=
 lent_of hints cuts hf fl hφ h1 h2
theorem ZlR{P:Program}{f:Nat}{e0 e1:List DV}{t0 t1:Nat}{x:Value}(hx:x.oneCell'=true)(h:GSpec P f [.rp e0 0,.rp e1 0] true (.d (.sc x)) []) :
  LentSpec P f [.pt 0 0 0,.pt 1 0 0] [.box t0 (e0.map .d),.box t1 (e1.map .d)] (.d (.sc x)) [.box t0 (e0.map .d),.box t1 (e1.map .d)]:=by
 intro w Im ρ vs hIm hsz hρ hinj hbnd hpre hargs;have box:∀ (k:Nat) (e:List DV) (t:Nat) (v:Value) (Im2:Nat→Prop),(∀ g,Im g→Im2 g)→(∀ β g,ρ k=some β→β.g=some g→Im2 g)→(∃ β,ρ k=some β∧RelB ρ w Im β (.box t (e.map .d)))→Rel ρ w Im (.pt k 0 0) v→Rel (fun _=>none) w Im2 (.rp e 0) v:=by
  intro k e t v Im2 hi hg hb hv;obtain⟨β,hβ,r⟩:=hb;obtain⟨g,s,n,k1,rfl⟩:=Z2n hv;rw[hβ]at k1;cases k1;obtain⟨r1,r2,g2,cs,r3,r4,r5,r6,r7⟩:=r;cases r3;have:=@Rel.rp (fun _=>none) w Im2 e 0 ⟨g,0,none⟩ rfl (hg _ _ hβ rfl) (fun j y hy=>by
   have hj:j<e.length:=(List.getElem?_eq_some_iff.1 hy).1;have hc:j<cs.size:=by rw[r5];simpa using hj
   have h1:cs[j]? = some cs[j]:=Array.getElem?_eq_getElem hc;have h2:=r7 j (.d y) cs[j] (by simp[hy]) h1;refine⟨cs[j], ?_, ?_⟩
   ·simp only[World.cell?,r4];simpa using h1
   ·cases h2 with
    | d h2=>exact h2.mono (Ext.refl _ _) hi)
  simpa using this
 refine(h w (fun g=>Im g∨∃ k β,ρ k=some β∧β.g=some g) vs ?_ hsz ?_).mono ?_
 ·rintro g (hg | ⟨k,β,h1,h2⟩)
  ·exact hIm g hg
  ·exact(hbnd k β g h1 h2).1
 ·intro i y v hy hv;cases i with
  | zero =>
   simp at hy;subst hy;exact box 0 e0 t0 v _ (fun g hg=>.inl hg) (fun β g h1 h2=>.inr ⟨0,β,h1,h2⟩) (hpre 0 _ rfl) (hargs 0 _ v rfl hv)
  | succ i=>cases i with
   | zero =>
    simp at hy;subst hy;exact box 1 e1 t1 v _ (fun g hg=>.inl hg) (fun β g h1 h2=>.inr ⟨1,β,h1,h2⟩) (hpre 1 _ rfl) (hargs 1 _ v rfl hv)
   | succ i=>simp at hy
 ·rintro e w' ⟨v,rfl,hk,ρ',Im',_,_,_,_,_,_,hr⟩;have hv:=Z0L hr;subst hv;have ext:Ext Im w w':=⟨hk.size,fun g hg=>hk.block g (hIm g hg) (fun q=>q),hk.rows⟩
  refine⟨_,rfl,⟨hk.os,hk.tape,hk.output,hk.size,fun k h1 _=>hk.block k h1 (fun q=>q),hk.rows⟩,Im,fun g hg=>.inl hg,fun g hg=>Nat.lt_of_lt_of_le (hIm g hg) hk.size, ?_,.d (.sc _ hx)⟩;intro k B hB;obtain⟨β,b1,b2⟩:=hpre k B hB;exact⟨β,b1,b2.mono ext (fun _ h=>h) (fun _ _ h=>h) (fun b β g h1 h2=>(hbnd b β g h1 h2).1) (fun g hg=>hk.block g (hbnd k β g b1 hg).1 (fun q=>q))⟩
theorem Z68{P:Program}{f s:Nat}{fr:Bool}{res:AV}{news:List Blk}(h:∀ (p:Option Addr) (c:Nat),GSpec P f [.d (.sc (.slice p 0 c))] fr res news):GSpec P f [.d (.sl s [])] fr res news:=by
 intro w Im vs hI hn hr;have h0:vs.size=1:=hn;obtain⟨v,hv⟩:∃ v,vs[0]? = some v:=⟨vs[0]' oq,by simp⟩
 have key:∀ (p:Option Addr) (c:Nat),v = .slice p 0 c→Calls P f vs w fun e w'=>∃ v,e = .returned v∧Zee w Im fr res news v w':=fun p c e=>by
  refine h p c w Im vs hI hn fun i x u hx hu=>?_
  match i with
  | 0 =>
   simp only[List.getElem?_cons_zero,Option.some.injEq]at hx;rw[hv]at hu;cases hu;subst hx;subst e;exact .d (.sc _ rfl)
  | i+1=>simp at hx
 have h1:=hr 0 _ v rfl hv;cases h1 with
 | d h1 =>
  generalize he:([]:List (List DV))=l at h1;cases h1 with
  | slNil s p c=>exact key p c rfl
  | sl s els p n c fn hn=>subst he;simp at hn;subst hn;exact key _ c rfl
end Go.Sx
namespace Go.Proofs.YtdhchmlalchgeaaGreat
open Go.Sx
def Heap.dvs(h:Heap):List DV:=[.sc (.int .i64 h.C.pw),.sc (.int .i64 h.C.pg),.sl 1 (h.W.map wdv),.sl 4 (h.P.map Page.dv),.sc (.int .i64 h.S),.sc (.int .i64 h.B)]
theorem Zh7(h:Heap)(a:Int)(hl:h.W.length≤1048576)(h0:0≤a∧a≤18446744073709551615):GP 154 [.rp [.sc (.int .i64 h.C.pw),.sc (.int .i64 h.C.pg),.sl 1 (h.W.map wdv),.sl 4 (h.P.map Page.dv),.sc (.int .i64 h.S),.sc (.int .i64 h.B)] 0,.rp [.sc (.int .u64 a)] 0] true (u64 (loadA h.W a).1) []:=by
 exact gF [] Tryz.func154 [] (Fc 9 (@Z6I h.W a aa aa) Fz)
theorem Z1X(h:Heap)(a:Int)(hl:h.W.length≤1048576)(h0:0≤a∧a≤18446744073709551615):LP 154 [.pt 0 0 0,.pt 1 0 0] [.box 28 h.cells,.box 35 [u64 a]] (u64 (loadA h.W a).1) [.box 28 h.cells,.box 35 [u64 a]] :=
 ZlR (e0:=h.dvs) (e1:=[.sc (.int .u64 a)]) rfl (Zh7 h a hl h0)
theorem Z3D(h:Heap)(a:Int)(hw:WOk h.W)(h0:0≤a∧a≤18446744073709551615):GP 111 [h.av,u64 a] true (.tu [(atH h a).1.av,int (atH h a).2]) []:=by
 have hv:=Z0C hw a;have hm:=Z1y (loadA h.W a).1 hv.1;by_cases hp:Z02 h=true
 ·have po:=Z07 hp;by_cases ho:(ofA h.C a).2.2=0
  ·have oo:=Z2S po.1 ho;have hz:(decodeH (loadA h.W a).1).2=true→sizeH (decodeH (loadA h.W a).1).1=(decodeH (loadA h.W a).1).1.length+1∧0≤(decodeH (loadA h.W a).1).1.length∧(decodeH (loadA h.W a).1).1.length≤255:=fun e=>by
    have hv:=Z78 e;have:=validH_iff.1 hv;rw[sizeH,if_pos hv];omega
   have pp:=Z0M hp (j:=(ofA h.C a).1.toNat) oq;by_cases c3:((h.P.getD (ofA h.C a).1.toNat default).K=1∨(h.P.getD (ofA h.C a).1.toNat default).K=2)∧(ofA h.C a).2.1<(h.P.getD (ofA h.C a).1.toNat default).U∧(decodeH (loadA h.W a).1).2=true
   ·have hz':=hz c3.2.2;by_cases c4:((h.P.getD (ofA h.C a).1.toNat default).K=1∧(h.P.getD (ofA h.C a).1.toNat default).U<(ofA h.C a).2.1+sizeH (decodeH (loadA h.W a).1).1)∨((h.P.getD (ofA h.C a).1.toNat default).K=2∧((ofA h.C a).2.1≠0∨sizeH (decodeH (loadA h.W a).1).1≠(h.P.getD (ofA h.C a).1.toNat default).U))
    ·have e7:atH h a=(Z25,19):=by rw[atH,if_pos hp,if_pos ho,if_pos c3,if_pos c4]
     rw[e7];have Q0 {h_ c_ p_} (r_:Fq h_ c_ p_):=Fc 15 (@Z0y h) (Ffb 16 (!Z02 h) (Fc 22 (@Z2a h.C a oq oq) (Ffb 27 ((ofA h.C a).snd.snd != 0) (Fe 34 Page.dv h.P ((ofA h.C a).fst) (Fp 38 (@Z1X h a oq aa) (Fc 39 (@Z0N ((loadA h.W a).fst) oq oq) (Fc 43 (@Z0O ((decodeH (loadA h.W a).fst).fst) aa) r_)))))));rcases bb (!(decodeH (loadA h.W a).fst).snd||decide ((h.P.getD (ofA h.C a).fst.toNat default).U≤(ofA h.C a).snd.fst))with hc0 | hc0<;>have hc0p:=hc0<;>simp only[bs]at hc0p
     ·exact gF [] Tryz.func111 [] (Fh 44 [.br true] (Q0 (Fa hc0 Fz)))
     ·obtain⟨hc0pa,hc0pb⟩:=hc0p;rcases bb ((h.P.getD (ofA h.C a).fst.toNat default).K==1)with hc1 | hc1<;>have hc1p:=hc1<;>simp only[bs]at hc1p
      ·let y0:=h.P.getD (ofA h.C a).fst.toNat default;exact gF [] Tryz.func111 [] (Fh 44 [.br false] (Fh 76 [.br true] (Q0 (Fa hc0 (Fa hc1 (Fi 61 (y0.U-(ofA h.C a).snd.fst) (Ftb 53 (!decide (sizeH (decodeH (loadA h.W a).fst).fst≤y0.U-(ofA h.C a).snd.fst)) Fz)))))))
      ·let y1:=h.P.getD (ofA h.C a).fst.toNat default;exact gF [] Tryz.func111 [] (Fh 44 [.br false] (Fh 53 [.br false] (Fh 76 [.br true] (Q0 (Fa hc0 (Fa hc1 (Fb ((y1.K==2)=true) (Ftb 63 (!((ofA h.C a).snd.fst==0&&sizeH (decodeH (loadA h.W a).fst).fst==y1.U)) Fz))))))))
    ·have e7:atH h a=((decodeH (loadA h.W a).1).1,0):=by rw[atH,if_pos hp,if_pos ho,if_pos c3,if_neg c4]
     rw[e7];have Q1 {h_ c_ p_} (r_:Fq h_ c_ p_):=Fc 15 (@Z0y h) (Ffb 16 (!Z02 h) (Fc 22 (@Z2a h.C a oq oq) (Ffb 27 ((ofA h.C a).snd.snd != 0) (Fe 34 Page.dv h.P ((ofA h.C a).fst) (Fp 38 (@Z1X h a oq aa) (Fc 39 (@Z0N ((loadA h.W a).fst) oq oq) (Fc 43 (@Z0O ((decodeH (loadA h.W a).fst).fst) aa) r_)))))));rcases bb (!(decodeH (loadA h.W a).fst).snd||decide ((h.P.getD (ofA h.C a).fst.toNat default).U≤(ofA h.C a).snd.fst))with hc0 | hc0<;>have hc0p:=hc0<;>simp only[bs]at hc0p
     ·let y2:=decodeH (loadA h.W a).fst;exact gF [] Tryz.func111 (fO 4) (Fh 44 [.br true] (Q1 (Fa hc0 (Fa (by grind[Z25]:0=y2.fst.K) (Fa (by grind[Z25]:0=y2.fst.length) (Fa (by grind[Z25]:0=y2.fst.map) (Fa (by grind[Z25]:(19:Int)=0) Fz)))))))
     ·obtain⟨hc0pa,hc0pb⟩:=hc0p;rcases bb ((h.P.getD (ofA h.C a).fst.toNat default).K==1)with hc1 | hc1<;>have hc1p:=hc1<;>simp only[bs]at hc1p
      ·let y3:=h.P.getD (ofA h.C a).fst.toNat default;exact gF [] Tryz.func111 [] (Fh 53 [.br true] (Fh 76 [.br false] (Q1 (Fa hc0 (Fa hc1 (Fi 61 (y3.U-(ofA h.C a).snd.fst) (Ffb 44 (!decide (sizeH (decodeH (loadA h.W a).fst).fst≤y3.U-(ofA h.C a).snd.fst)) Fz)))))))
      ·let y4:=h.P.getD (ofA h.C a).fst.toNat default;exact gF [] Tryz.func111 [] (Fh 53 [.br false] (Fh 63 [.br true] (Fh 76 [.br false] (Q1 (Fa hc0 (Fa hc1 (Fb ((y4.K==2)=true) (Ffb 44 (!((ofA h.C a).snd.fst==0&&sizeH (decodeH (loadA h.W a).fst).fst==y4.U)) Fz))))))))
   ·have e7:atH h a=(Z25,19):=by rw[atH,if_pos hp,if_pos ho,if_neg c3]
    rw[e7];have Q2 {h_ c_ p_} (r_:Fq h_ c_ p_):=Fc 15 (@Z0y h) (Ffb 16 (!Z02 h) (Fc 22 (@Z2a h.C a oq oq) (Ffb 27 ((ofA h.C a).snd.snd != 0) (Fe 34 Page.dv h.P ((ofA h.C a).fst) (Fp 38 (@Z1X h a oq aa) (Fc 39 (@Z0N ((loadA h.W a).fst) oq oq) (Fc 43 (@Z0O ((decodeH (loadA h.W a).fst).fst) aa) r_)))))));rcases bb (!(decodeH (loadA h.W a).fst).snd||decide ((h.P.getD (ofA h.C a).fst.toNat default).U≤(ofA h.C a).snd.fst))with hc0 | hc0<;>have hc0p:=hc0<;>simp only[bs]at hc0p
    ·exact gF [] Tryz.func111 [] (Fh 44 [.br true] (Q2 (Fa hc0 Fz)))
    ·obtain⟨hc0pa,hc0pb⟩:=hc0p;rcases bb ((h.P.getD (ofA h.C a).fst.toNat default).K==1)with hc1 | hc1<;>have hc1p:=hc1<;>simp only[bs]at hc1p
     ·have Q3 {h_ c_ p_} (r_:Fq h_ c_ p_):=Q2 (Fa hc0 (Fa hc1 (Fi 61 ((h.P.getD (ofA h.C a).fst.toNat default).U-(ofA h.C a).snd.fst) r_)));rcases bb (!decide (sizeH (decodeH (loadA h.W a).fst).fst≤(h.P.getD (ofA h.C a).fst.toNat default).U-(ofA h.C a).snd.fst))with hc2 | hc2<;>have hc2p:=hc2<;>simp only[bs]at hc2p
      ·exact gF [] Tryz.func111 [] (Fh 44 [.br false] (Fh 76 [.br true] (Q3 (Ft 53 hc2 Fz))))
      ·rw[show Z25=(decodeH (loadA h.W a).fst).fst from by grind[Z25]];let y5:=decodeH (loadA h.W a).fst;exact gF [] Tryz.func111 (fO 4) (Fh 53 [.br true] (Fh 76 [.br false] (Q3 (Ff 44 hc2 (Fr (y5.fst.K) (Fr (y5.fst.length) (Fr (y5.fst.map) (Fa (by grind[Z25]:(0:Int)=19) Fz))))))))
     ·rcases bb ((h.P.getD (ofA h.C a).fst.toNat default).K==2)with hc3 | hc3<;>have hc3p:=hc3<;>simp only[bs]at hc3p
      ·rcases bb (!((ofA h.C a).snd.fst==0&&sizeH (decodeH (loadA h.W a).fst).fst==(h.P.getD (ofA h.C a).fst.toNat default).U))with hc4 | hc4<;>have hc4p:=hc4<;>simp only[bs]at hc4p
       ·exact gF [] Tryz.func111 [] (Fh 44 [.br false] (Fh 53 [.br false] (Fh 76 [.br true] (Q2 (Fa hc0 (Fa hc1 (Fa hc3 (Ft 63 hc4 Fz))))))))
       ·obtain⟨hc4pa,hc4pb⟩:=hc4p;rw[show Z25=(decodeH (loadA h.W a).fst).fst from by grind[Z25]];let y6:=decodeH (loadA h.W a).fst;exact gF [] Tryz.func111 (fO 8) (Fh 53 [.br false] (Fh 63 [.br true] (Fh 76 [.br false] (Q2 (Fa hc0 (Fa hc1 (Fa hc3 (Ff 44 hc4 (Fr (y6.fst.K) (Fr (y6.fst.length) (Fr (y6.fst.map) (Fa (by grind[Z25]:(0:Int)=19) Fz))))))))))))
      ·exact gF [] Tryz.func111 [] (Fh 44 [.br false] (Fh 53 [.br false] (Fh 63 [.br false] (Q2 (Fa hc0 (Fa hc1 (Fa hc3 Fz)))))))
  ·have e7:atH h a=(Z25,2):=by rw[atH,if_pos hp,if_neg ho]
   have e2:(ofA h.C a).2.2=2:=by
    unfold ofA at ho ⊢;rw[if_pos po.1]at ho ⊢;split at ho
    ·simp at ho
    ·rename_i q;rw[if_neg q]
   rw[e7];exact gF [] Tryz.func111 [true] (Fc 15 (@Z0y h) (Ffb 16 (!Z02 h) (Fc 22 (@Z2a h.C a oq oq) (Ftb 27 ((ofA h.C a).snd.snd != 0) (Fr (0:Int) (Fr (0:Int) (Fr (0:Int) (Fa ‹(ofA h.C a).snd.snd=2› Fz))))))))
 ·have e7:atH h a=(Z25,1):=by rw[atH,if_neg hp]
  have hp':Z02 h=false:=by simpa using hp
  rw[e7];exact gF [] Tryz.func111 [] (Fc 15 (@Z0y h) (Ftb 16 (!Z02 h) Fz))
theorem Zg7{α β:Type}{f:α→β}{l:List α}(h:l≠[]):l.map f≠[]:=by simpa using h
theorem ZdP(ws:List Int)(hw:ws.length≤1048576)(hne:ws≠[]):GP 80 [Z01 ws] true (.ow 0) [.arr 35 1 (ws.map wdv)]:=by
 exact gF [24007] Tryz.func80 [] (Fa (by exact Zg7 hne:List.map wdv ws≠[]) (FA 5 7 wdv ws (Fa (by exact Z1T _:Z0J (List.map wdv ws)) Fz)))
theorem Z96{α:Type}{l:List α}(h:0<l.length):l≠[]:=by
 rintro rfl;simp at h
def pg(h:Heap)(i:Int):Page:=h.P.getD i.toNat default
def adr(h:Heap)(i o:Int):Int:=(address h.C i o).1
theorem Z44{h:Heap}(hv:Z05 h.C=true)(i o:Int):0≤adr h i o∧adr h i o≤8192:=by
 have ha:=area hv;unfold adr address;rw[if_pos hv];split
 ·rename_i hb;have hb:=inB_iff.1 hb;have:=Zge hv hb.1 hb.2.1 hb.2.2.1 hb.2.2.2;simp only;omega
 ·simp
def Z2t(h:Heap)(i:Int):Nat→Int→Option (List Int)
 | 0,_=>some []
 | f+1,o=>if o<(pg h i).U then(if(atH h (adr h i o)).2=0 then(if(pg h i).K=2 then some [adr h i o]else(Z2t h i f (o+sizeH (atH h (adr h i o)).1)).map (adr h i o :: ·))else none)else some []
def Z9r(h:Heap)(i o:Int)(acc:List Int):Tg:=⟨tm 70 [(1,int i),(2,.pt 8002 0 0),(4,.d (.sl 0 [])),(5,int 0),(6,.pt 32006 0 0),(7,.ow 48007),(8,int o)],
 [(48007,.arr 35 1 (acc.map wdv)),(32006,.box 84 [int (pg h i).K,int (pg h i).S,int (pg h i).U,int (pg h i).N]),(8002,.box 28 h.cells)],60⟩
def Zac(acc:List Int):Tg:=⟨tm 70 [(7,.ow 48007)],[(48007,.arr 35 1 (acc.map wdv))],60⟩
section
variable (h:Heap) (i o:Int) (acc:List Int) (hw:WOk h.W) (hp:Z02 h=true) (hl:acc.length≤1048576) (ho:0≤o∧o≤1000)
include hw hp hl ho
theorem ZhB(h1:o<(pg h i).U)(h2:(atH h (adr h i o)).2=0)(h3:(pg h i).K≠2):CP (rndF Tryz.f134 0) (Z9r h i o acc).st .nrm (Z9r h i (o+sizeH (atH h (adr h i o)).1) (acc++[adr h i o])).st:=by
 have po:=Z07 hp;have ar:=Z44 po.1 i o;have sz:=Z19 (atH h (adr h i o)).1;have hm:=Z3i hw (adr h i o);unfold adr at ar sz hm h2;let y0:=address h.C i o;exact sF [(512061,48007)] [] (Fh 61 [.els (List.map wdv (acc++[y0.fst]))] (Ftb 41 (decide (o<(pg h i).U)) (Fc 47 (@Z5s h.C i o) (Fc 53 (@Z4X h (y0.fst) aa oq) (Ffb 57 ((atH h y0.fst).snd != 0) (Fs 60 (List.map wdv [y0.fst]) (Fa (by(simp[adr, *];omega):(List.map wdv acc).length+(List.map wdv [y0.fst]).length≤2^30) (Fa (by simp[adr,List.map_take,List.map_drop,List.map_set,List.map_append,wdv,idv]:List.map wdv acc++List.map wdv [y0.fst]=List.map wdv (acc++[y0.fst])) (Ffb 64 ((pg h i).K==2) (Fc 67 (@Z29 ((atH h y0.fst).fst) aa) (Fi 68 (o+sizeH (atH h y0.fst).fst) Fz)))))))))))
theorem Zht(h1:o<(pg h i).U)(h2:(atH h (adr h i o)).2=0)(h3:(pg h i).K=2):CP (rndF Tryz.f134 0) (Z9r h i o acc).st (.ext 0) (Zac (acc++[adr h i o])).st:=by
 have po:=Z07 hp;have ar:=Z44 po.1 i o;have hm:=Z3i hw (adr h i o);unfold adr at ar hm h2;let y0:=address h.C i o;exact sF [(512061,48007)] [] (Fh 61 [.els (List.map wdv (acc++[y0.fst]))] (Ftb 41 (decide (o<(pg h i).U)) (Fc 47 (@Z5s h.C i o) (Fc 53 (@Z4X h (y0.fst) aa oq) (Ffb 57 ((atH h y0.fst).snd != 0) (Fs 60 (List.map wdv [y0.fst]) (Fa (by(simp[adr, *];omega):(List.map wdv acc).length+(List.map wdv [y0.fst]).length≤2^30) (Fa (by simp[adr,List.map_take,List.map_drop,List.map_set,List.map_append,wdv,idv]:List.map wdv acc++List.map wdv [y0.fst]=List.map wdv (acc++[y0.fst])) (Ftb 64 ((pg h i).K==2) Fz)))))))))
theorem Zl7(h1:o<(pg h i).U)(h2:¬ (atH h (adr h i o)).2=0):CP (rndF Tryz.f134 0) (Z9r h i o acc).st .ret (Tg.st ⟨tm 70 [(4,.d (.sl 0 [])),(5,int 19)],[],60⟩):=by
 have po:=Z07 hp;have ar:=Z44 po.1 i o;unfold adr at ar h2;exact sF [] [] (Ftb 41 (decide (o<(pg h i).U)) (Fc 47 (@Z5s h.C i o) (Fc 53 (@Z4X h ((address h.C i o).fst) aa oq) (Ftb 57 ((atH h (address h.C i o).fst).snd != 0) Fz))))
omit hw hp hl ho in
theorem Zfs(h1:(pg h i).U≤o):CP (rndF Tryz.f134 0) (Z9r h i o acc).st (.ext 0) (Zac acc).st:=by
 exact sF [] [] (Ffb 41 (decide (o<(pg h i).U)) Fz)
end
theorem Z97{h:Heap}{a:Int}(e:(atH h a).2=0):1≤sizeH (atH h a).1:=by
 have:=Zf0 e;rw[sizeH,if_pos this.2.2.2.2.1];omega
theorem Zi7(h:Heap)(i:Int)(hw:WOk h.W)(hp:Z02 h=true)(hu:(pg h i).U≤256):∀ (f:Nat) (o:Int) (acc:List Int),(pg h i).U-o≤f→0≤o→o≤1000→(acc.length:Int)+f≤1000 →
  (∀ l,Z2t h i f o=some l→LSpec Tryz.prog Tryz.f134 0 (Z9r h i o acc).st (.ext 0) (Zac (acc++l)).st) ∧
  (Z2t h i f o=none→LSpec Tryz.prog Tryz.f134 0 (Z9r h i o acc).st .ret (Tg.st ⟨tm 70 [(4,.d (.sl 0 [])),(5,int 19)],[],60⟩)):=by
 intro f;induction f with
 | zero =>
  intro o acc h1 h2 h3 h4;refine⟨fun l hl=>?_,fun hl=>by cases hl⟩;simp only[Z2t,Option.some.injEq]at hl;subst hl;rw[List.append_nil];exact .endx (Zfs h i o acc oq)
 | succ f ih =>
  intro o acc h1 h2 h3 h4;unfold Z2t;by_cases ho:o<(pg h i).U
  ·rw[if_pos ho];by_cases ha:(atH h (adr h i o)).2=0
   ·rw[if_pos ha];by_cases hk:(pg h i).K=2
    ·rw[if_pos hk];refine⟨fun l hl=>?_,fun hl=>by cases hl⟩;cases hl;exact .endx (Zht h i o acc hw hp oq ⟨h2,by omega⟩ ho ha hk)
    ·rw[if_neg hk];have hs:=Z97 ha;have hb:=Z19 (atH h (adr h i o)).1;have hr:=ZhB h i o acc hw hp oq ⟨h2,by omega⟩ ho ha hk;obtain⟨i1,i2⟩:=ih (o+sizeH (atH h (adr h i o)).1) (acc++[adr h i o]) oq oq oq qo;refine⟨fun l hl=>?_,fun hl=>?_⟩
     ·rw[Option.map_eq_some_iff]at hl;obtain⟨m,hm,rfl⟩:=hl;have:=i1 m hm;rw[List.append_assoc]at this;exact .next hr this
     ·rw[Option.map_eq_none_iff]at hl;exact .next hr (i2 hl)
   ·rw[if_neg ha];exact⟨fun l hl=>(by cases hl),fun _=>.endr (Zl7 h i o acc hw hp oq ⟨h2,by omega⟩ ho ha)⟩
  ·rw[if_neg ho];refine⟨fun l hl=>?_,fun hl=>by cases hl⟩;cases hl;rw[List.append_nil];exact .endx (Zfs h i o acc oq)
theorem Zi1(h:Heap)(i:Int)(l:List Int)(hw:WOk h.W)(hp:Z02 h=true)(hu:(pg h i).U≤256)(hl:Z2t h i 256 0=some l):CP (blkF Tryz.f134 0) (Tg.st ⟨tm 70 [(1,int i),(2,.pt 8002 0 0),(4,.d (.sl 0 [])),(5,int 0),(6,.pt 32006 0 0),(7,.ow 48007),(8,int 0)],
 [(48007,.arr 35 1 []),(32006,.box 84 [int (h.P.getD i.toNat default).K,int (h.P.getD i.toNat default).S,int (h.P.getD i.toNat default).U,int (h.P.getD i.toNat default).N]),(8002,.box 28 h.cells)],60⟩) .nrm (Zac l).st :=
 ((Zi7 h i hw hp hu 256 0 [] oq oq oq pq).1 l hl).ext kr
theorem ZdD(h:Heap)(i:Int)(hw:WOk h.W)(hp:Z02 h=true)(hu:(pg h i).U≤256)(hl:Z2t h i 256 0=none):CP (blkF Tryz.f134 0) (Tg.st ⟨tm 70 [(1,int i),(2,.pt 8002 0 0),(4,.d (.sl 0 [])),(5,int 0),(6,.pt 32006 0 0),(7,.ow 48007),(8,int 0)],
 [(48007,.arr 35 1 []),(32006,.box 84 [int (h.P.getD i.toNat default).K,int (h.P.getD i.toNat default).S,int (h.P.getD i.toNat default).U,int (h.P.getD i.toNat default).N]),(8002,.box 28 h.cells)],60⟩) .ret (Tg.st ⟨tm 70 [(4,.d (.sl 0 [])),(5,int 19)],[],60⟩) :=
 ((Zi7 h i hw hp hu 256 0 [] oq oq oq pq).2 hl).ret kr
def Z06(h:Heap)(i:Int):List Int×Int :=
 if Z02 h=true then(if 0≤i∧i<h.P.length then(if(pg h i).K=0∨(pg h i).K=3 then([],0)else(match Z2t h i 256 0 with | some l=>(l,0) | none=>([],19)))else([],2))else([],1)
theorem Z3F(h:Heap)(i:Int)(hw:WOk h.W):GP 134 [h.av,int i] false (.tu [Z01 (Z06 h i).1,int (Z06 h i).2]) []:=by
 cases hp:Z02 h with
 | false =>
  have e7:Z06 h i=([],1):=by rw[Z06,if_neg (by rw[hp];simp)]
  rw[e7];exact gF [] Tryz.func134 [] (Fc 14 (@Z0i h) (Ftb 15 (!Z02 h) (Fnl Fz)))
 | true =>
  have po:=Z07 hp;by_cases hi:0≤i∧i<h.P.length
  ·have pp:=Z0M hp (j:=i.toNat) oq;have hu:(pg h i).U≤256:=pp.2.2.2.2.2.2.2.1;cases hwk:Z2t h i 256 0 with
   | none =>
    have e7:Z06 h i=if(h.P.getD i.toNat default).K=0∨(h.P.getD i.toNat default).K=3 then([],0)else([],19):=by rw[Z06,if_pos hp,if_pos hi,hwk];rfl
    have Q0 {h_ c_ p_} (r_:Fq h_ c_ p_):=Fc 14 (@Z0i h) (Ffb 15 (!Z02 h) (FlG 22 (!decide (i<0)) Page.dv h.P (Ffb 24 (decide (i<0)||decide ((↑h.P.length:Int)≤i)) (Fe 28 Page.dv h.P i r_))));rcases bb ((h.P.getD i.toNat default).K==0||(h.P.getD i.toNat default).K==3)with hc0 | hc0<;>have hc0p:=hc0<;>simp only[bs]at hc0p
    ·exact gF [] Tryz.func134 (fO 8) (Q0 (Ft 37 hc0 (Fnl (Fa (by rw[e7,if_pos oq];rfl:[]=List.map wdv (Z06 h i).fst) (Fa (by rw[e7,if_pos oq]:0=(Z06 h i).snd) Fz)))))
    ·obtain⟨hc0pa,hc0pb⟩:=hc0p;exact gF [] Tryz.func134 (fO 18) (Fh 7 [.own] (Q0 (Ff 37 hc0 (Fu (@ZdD h i aa aa aa aa) (Fnl (Fa (by rw[e7,if_neg oq];rfl:[]=List.map wdv (Z06 h i).fst) (Fa (by rw[e7,if_neg oq]:19=(Z06 h i).snd) Fz)))))))
   | some l =>
    have e7:Z06 h i=if(h.P.getD i.toNat default).K=0∨(h.P.getD i.toNat default).K=3 then([],0)else(l,0):=by rw[Z06,if_pos hp,if_pos hi,hwk];rfl
    have Q1 {h_ c_ p_} (r_:Fq h_ c_ p_):=Fc 14 (@Z0i h) (Ffb 15 (!Z02 h) (FlG 22 (!decide (i<0)) Page.dv h.P (Ffb 24 (decide (i<0)||decide ((↑h.P.length:Int)≤i)) (Fe 28 Page.dv h.P i r_))));rcases bb ((h.P.getD i.toNat default).K==0||(h.P.getD i.toNat default).K==3)with hc0 | hc0<;>have hc0p:=hc0<;>simp only[bs]at hc0p
    ·exact gF [] Tryz.func134 (fO 8) (Q1 (Ft 37 hc0 (Fnl (Fa (by rw[e7,if_pos oq];rfl:[]=List.map wdv (Z06 h i).fst) (Fa (by rw[e7,if_pos oq]:0=(Z06 h i).snd) Fz)))))
    ·obtain⟨hc0pa,hc0pb⟩:=hc0p;exact gF [] Tryz.func134 (fO 18) (Fh 7 [.own] (Q1 (Ff 37 hc0 (Fu (@Zi1 h i l aa aa aa aa) (Fa (by refine congrArg _ ?_;rw[e7,if_neg oq]:List.map wdv l=List.map wdv (Z06 h i).fst) (Fa (by rw[e7,if_neg oq]:0=(Z06 h i).snd) Fz))))))
  ·have e7:Z06 h i=([],2):=by rw[Z06,if_pos hp,if_neg hi]
   rw[e7];exact gF [] Tryz.func134 [] (Fc 14 (@Z0i h) (Ffb 15 (!Z02 h) (FlG 22 (!decide (i<0)) Page.dv h.P (Ftb 24 (decide (i<0)||decide ((↑h.P.length:Int)≤i)) (Fnl Fz)))))
def hasL(l:List Int)(v:Int)(i:Nat):Tg:=⟨tm 18 [(0,Z01 l),(1,u64 v),(4,bool false),(5,int i)],[],60⟩
theorem Zg1(l:List Int)(v:Int)(i:Nat)(hl:l.length≤1048576)(hi:i<l.length)(hv:¬ l.getD i default=v):CP (rndF Tryz.f17 0) (hasL l v i).st .nrm (hasL l v (i+1)).st:=by
 exact sF [] [] (FN 8 9 14 wdv l i (Ffb 17 (l.getD i default==v) (Fx 11 i Fz)))
theorem ZlW(l:List Int)(v:Int)(i:Nat)(hl:l.length≤1048576)(hi:i<l.length)(hv:l.getD i default=v):CP (rndF Tryz.f17 0) (hasL l v i).st .ret (Tg.st ⟨tm 18 [(4,bool true)],[],60⟩):=by
 exact sF [] [] (FN 8 9 14 wdv l i (Ftb 17 (l.getD i default==v) Fz))
theorem hasEnd(l:List Int)(v:Int):CP (rndF Tryz.f17 0) (hasL l v l.length).st (.ext 0) (Tg.st ⟨tm 18 [],[],60⟩):=by
 exact sF [] [] (FO 8 9 wdv l Fz)
theorem getD_mem_iff{l:List Int}{v:Int}:v∈l↔∃ i,i<l.length∧l.getD i default=v:=by
 rw[List.mem_iff_getElem];constructor
 ·rintro⟨i,h,e⟩;exact⟨i,h,by simp[List.getD,h,e]⟩
 ·rintro⟨i,h,e⟩;exact⟨i,h,by simpa[List.getD,h]using e⟩
def Znb(l:List Int)(v:Int)(hl:l.length≤1048576)(h:v∉l)  := Z08 (S:=fun i=>(hasL l v i).st) l.length (by kernel_rfl) (fun i hi=>Zg1 l v i hl hi fun e=>h (getD_mem_iff.2 ⟨i,hi,e⟩)) (hasEnd l v)
theorem Zme(l:List Int)(v:Int)(hl:l.length≤1048576)(h:v∈l):CP (blkF Tryz.f17 0) (Tg.st ⟨tm 18 [(0,Z01 l),(1,u64 v),(4,bool false),(5,int 0)],[],60⟩) .ret (Tg.st ⟨tm 18 [(4,bool true)],[],60⟩):=by
 obtain⟨i,h1,h2⟩:=ZjX (getD_mem_iff.1 h);exact Z0z (S:=fun i=>(hasL l v i).st) i kr (fun j hj=>Zg1 l v j hl oq fun e=>by have:=h2 j ⟨by omega,e⟩;omega) (ZlW l v i hl h1.1 h1.2)
theorem Z0Y(l:List Int)(v:Int)(hl:l.length≤1048576):GP 17 [Z01 l,u64 v] true (bool (decide (v∈l))) []:=by
 by_cases h:v∈l
 ·rw[decide_eq_true h];exact gF [] Tryz.func17 [] (Fu (@Zme l v aa aa) Fz)
 ·rw[decide_eq_false h];exact gF [] Tryz.func17 [] (Fu (@Znb l v aa aa) Fz)
theorem Zcd{h:Heap}{i:Int}:∀ {f:Nat} {o:Int} {l:List Int},Z2t h i f o=some l→l.length≤f
 | 0,o,l,e=>by simp[Z2t]at e;subst e;simp
 | f+1,o,l,e=>by
  unfold Z2t at e;split at e
  ·split at e
   ·split at e
    ·cases e;simp
    ·rw[Option.map_eq_some_iff]at e;obtain⟨m,hm,rfl⟩:=e;have:=Zcd hm;simp;omega
   ·cases e
  ·cases e;simp
theorem Z2L(h:Heap)(i:Int):(Z06 h i).1.length≤256:=by
 unfold Z06;repeat' split
 all_goals first | (simp;done) | (rename_i e;exact Zcd e)
def Z0I(h:Heap):Nat→Nat→List Int×Int
 | 0,_=>([],0)
 | f+1,i=>if(Z06 h i).2=0 then(if(Z0I h f (i+1)).2=0 then((Z06 h i).1++(Z0I h f (i+1)).1,0)else([],(Z0I h f (i+1)).2))else([],(Z06 h i).2)
def Z0w(h:Heap):List Int×Int:=if Z02 h=true then Z0I h h.P.length 0 else([],1)
def Z7b(h:Heap)(i:Nat)(acc:List Int):Tg:=⟨tm 31 [(1,.pt 8001 0 0),(2,.d (.sl 0 [])),(3,int 0),(4,.ow 24004),(5,int i)],[(24004,.arr 35 1 (acc.map wdv)),(8001,.box 28 h.cells)],60⟩
section
variable (h:Heap) (i:Nat) (acc:List Int) (hw:WOk h.W) (hl:h.P.length≤1048576) (ha:acc.length≤1048576)
include hw hl ha
theorem ZeJ(hi:i<h.P.length)(e:(Z06 h i).2=0):CP (rndF Tryz.f82 0) (Z7b h i acc).st .nrm (Z7b h (i+1) (acc++(Z06 h i).1)).st:=by
 have hn:=Z2L h i;exact sF [(504029,24004)] [] (Fh 29 [.els (List.map wdv (acc++(Z06 h (↑i:Int)).fst))] (FM 14 15 Page.dv h.P i (Fc 21 (@Z3F h ((↑i:Int)) aa) (Ffb 25 ((Z06 h (↑i:Int)).snd != 0) (Fa (by(simp[*];omega):(List.map wdv acc).length+(List.map wdv (Z06 h (↑i:Int)).fst).length≤2^30) (Fa (ms:List.map wdv acc++List.map wdv (Z06 h (↑i:Int)).fst=List.map wdv (acc++(Z06 h (↑i:Int)).fst)) (Fx 17 i Fz)))))))
theorem ZhK(hi:i<h.P.length)(e:¬ (Z06 h i).2=0):CP (rndF Tryz.f82 0) (Z7b h i acc).st .ret (Tg.st ⟨tm 31 [(2,.d (.sl 0 [])),(3,int (Z06 h i).2)],[],60⟩):=by
 exact sF [] [] (FM 14 15 Page.dv h.P i (Fc 21 (@Z3F h ((↑i:Int)) aa) (Ftb 25 ((Z06 h (↑i:Int)).snd != 0) Fz)))
omit hw hl ha in
theorem ZhR:CP (rndF Tryz.f82 0) (Z7b h h.P.length acc).st (.ext 0) (Tg.st ⟨tm 31 [(4,.ow 24004)],[(24004,.arr 35 1 (acc.map wdv))],60⟩):=by
 exact sF [] [] (FO 14 15 Page.dv h.P Fz)
end
theorem Zfb(h:Heap)(hw:WOk h.W)(hl:h.P.length≤1048576):∀ (f i:Nat) (acc:List Int),i+f=h.P.length→acc.length+256*f≤1048576 →
  ((Z0I h f i).2=0→LSpec Tryz.prog Tryz.f82 0 (Z7b h i acc).st (.ext 0) (Tg.st ⟨tm 31 [(4,.ow 24004)],[(24004,.arr 35 1 ((acc++(Z0I h f i).1).map wdv))],60⟩)) ∧
  (¬ (Z0I h f i).2=0→LSpec Tryz.prog Tryz.f82 0 (Z7b h i acc).st .ret (Tg.st ⟨tm 31 [(2,.d (.sl 0 [])),(3,int (Z0I h f i).2)],[],60⟩)):=by
 intro f;induction f with
 | zero =>
  intro i acc hi _;have:i=h.P.length:=by omega
  subst this;refine⟨fun _=>?_,fun e=>absurd rfl e⟩;rw[Z0I,List.append_nil];exact .endx (ZhR h acc)
 | succ f ih =>
  intro i acc hi hb;have hn:=Z2L h i;unfold Z0I;by_cases e:(Z06 h i).2=0
  ·rw[if_pos e];have hr:=ZeJ h i acc hw hl oq oq e;obtain⟨i1,i2⟩:=ih (i+1) (acc++(Z06 h i).1) oq qo;by_cases e2:(Z0I h f (i+1)).2=0
   ·rw[if_pos e2];refine⟨fun _=>?_,fun e=>absurd rfl e⟩;have:=i1 e2;rw[List.append_assoc]at this;exact .next hr this
   ·rw[if_neg e2];exact⟨fun e=>absurd e e2,fun _=>.next hr (i2 e2)⟩
  ·rw[if_neg e];exact⟨fun e'=>absurd e' e,fun _=>.endr (ZhK h i acc hw hl oq oq e)⟩
theorem Zhq(h:Heap)(hw:WOk h.W)(hl:h.P.length≤64)(e:(Z0I h h.P.length 0).2=0):CP (blkF Tryz.f82 0) (Tg.st ⟨tm 31 [(1,.pt 8001 0 0),(2,.d (.sl 0 [])),(3,int 0),(4,.ow 24004),(5,int 0)],[(24004,.arr 35 1 []),(8001,.box 28 h.cells)],60⟩) .nrm
  (Tg.st ⟨tm 31 [(4,.ow 24004)],[(24004,.arr 35 1 ((Z0I h h.P.length 0).1.map wdv))],60⟩) :=
 ((Zfb h hw oq h.P.length 0 [] oq qo).1 e).ext kr
theorem Zbj(h:Heap)(hw:WOk h.W)(hl:h.P.length≤64)(e:¬ (Z0I h h.P.length 0).2=0):CP (blkF Tryz.f82 0) (Tg.st ⟨tm 31 [(1,.pt 8001 0 0),(2,.d (.sl 0 [])),(3,int 0),(4,.ow 24004),(5,int 0)],[(24004,.arr 35 1 []),(8001,.box 28 h.cells)],60⟩) .ret
  (Tg.st ⟨tm 31 [(2,.d (.sl 0 [])),(3,int (Z0I h h.P.length 0).2)],[],60⟩) :=
 ((Zfb h hw oq h.P.length 0 [] oq qo).2 e).ret kr
theorem Zej(h:Heap):∀ (f i:Nat),¬ (Z0I h f i).2=0→(Z0I h f i).1=[]
 | 0,i,e=>absurd rfl e
 | f+1,i,e=>by
  unfold Z0I at e ⊢;split at e
  ·rename_i h1;rw[if_pos h1];split at e
   ·exact absurd rfl e
   ·rename_i h2;rw[if_neg h2]
  ·rename_i h1;rw[if_neg h1]
theorem Zan(h:Heap)(hw:WOk h.W):GP 82 [h.av] false (.tu [Z01 (Z0w h).1,int (Z0w h).2]) []:=by
 cases hp:Z02 h with
 | false =>
  have e7:Z0w h=([],1):=by rw[Z0w,if_neg (by rw[hp];simp)]
  rw[e7];exact gF [] Tryz.func82 [] (Fc 9 (@Z0i h) (Ftb 10 (!Z02 h) (Fnl Fz)))
 | true =>
  have po:=Z07 hp;have e7:Z0w h=Z0I h h.P.length 0:=by rw[Z0w,if_pos hp]
  by_cases e:(Z0I h h.P.length 0).2=0
  ·rw[show Z0w h=((Z0I h h.P.length (0:Nat)).fst,(0:Int))from by grind[]];exact gF [] Tryz.func82 [] (Fh 4 [.own] (Fc 9 (@Z0i h) (Ffb 10 (!Z02 h) (Fu (@Zhq h aa oq aa) Fz))))
  ·have e8:=Zej h _ _ e;exact gF [] Tryz.func82 (fO 7) (Fh 4 [.own] (Fc 9 (@Z0i h) (Ffb 10 (!Z02 h) (Fu (@Zbj h aa oq aa) (Fnl (Fa (by rw[e7,e8];rfl:[]=List.map wdv (Z0w h).fst) (Fa (by rw[e7]:(Z0I h h.P.length 0).snd=(Z0w h).snd) Fz)))))))
theorem Z8p{h:Heap}(hv:Z05 h.C=true){i:Int}:∀ {f:Nat} {o:Int} {l:List Int},Z2t h i f o=some l→∀ x∈l,0≤x∧x≤8192
 | 0,o,l,e=>by simp[Z2t]at e;subst e;simp
 | f+1,o,l,e=>by
  have ar:=Z44 hv i o;unfold Z2t at e;split at e
  ·split at e
   ·split at e
    ·cases e;intro x hx;simp at hx;subst hx;exact ar
    ·rw[Option.map_eq_some_iff]at e;obtain⟨m,hm,rfl⟩:=e;intro x hx;rcases List.mem_cons.1 hx with rfl | hx
     ·exact ar
     ·exact Z8p hv hm x hx
   ·cases e
  ·cases e;simp
theorem Z2C{h:Heap}(hp:Z02 h=true)(i:Int):∀ x∈(Z06 h i).1,0≤x∧x≤8192:=by
 have hv:=(Z07 hp).1;unfold Z06;repeat' split
 all_goals first | (simp;done) | (rename_i e;exact Z8p hv e)
theorem Z70{h:Heap}(hp:Z02 h=true):∀ (f i:Nat),∀ x∈(Z0I h f i).1,0≤x∧x≤8192
 | 0,i=>by simp[Z0I]
 | f+1,i=>by
  unfold Z0I;split
  ·split
   ·intro x hx;rcases List.mem_append.1 hx with hx | hx
    ·exact Z2C hp i x hx
    ·exact Z70 hp f (i+1) x hx
   ·simp
  ·simp
theorem Z9B(h:Heap):∀ (f i:Nat),(Z0I h f i).1.length≤256*f
 | 0,i=>by simp[Z0I]
 | f+1,i=>by
  have h1:=Z2L h i;have h2:=Z9B h f (i+1);unfold Z0I;split
  ·split
   ·simp;omega
   ·simp
  ·simp
theorem Z4l(h:Heap):∀ x∈(Z0w h).1,0≤x∧x≤8192:=by
 unfold Z0w;split
 ·exact Z70 aa _ _
 ·simp
theorem Z5X(h:Heap):(Z0w h).1.length≤16384:=by
 unfold Z0w;split
 ·rename_i hp;have:=Z9B h h.P.length 0;have:=Z07 hp;omega
 ·simp
def Z3c(h:Heap)(a:Int):Bool:=decide ((atH h a).1.K≠0)
def Z03(h:Heap):List Int×Int:=((Z0w h).1.filter (Z3c h),(Z0w h).2)
theorem Z36(h:Heap):∀ x∈(Z03 h).1,0≤x∧x≤8192:=fun x hx=>Z4l h x (List.mem_filter.1 hx).1
theorem Z2d(h:Heap):(Z03 h).1.length≤16384:=Nat.le_trans (List.length_filter_le _ _) (Z5X h)
theorem Z8C{l:List Int}{i:Nat}(hi:i<l.length):l.take (i+1)=l.take i++[l.getD i default]:=by
 rw[List.take_succ];simp[List.getD,hi]
def ZkL(h:Heap)(l:List Int)(ee:Int)(i:Nat):Tg:=⟨tm 42 [(1,.pt 8001 0 0),(4,Z01 l),(5,int ee),(6,.ow 24006),(7,int i)],[(24006,.arr 35 1 (((l.take i).filter (Z3c h)).map wdv)),(8001,.box 28 h.cells)],60⟩
theorem Ziy(h:Heap)(l:List Int)(ee:Int)(i:Nat)(hw:WOk h.W)(hl:l.length≤1048576)(hr:∀ x∈l,0≤x∧x≤8192)(hi:i<l.length):CP (rndF Tryz.f34 0) (ZkL h l ee i).st .nrm (ZkL h l ee (i+1)).st:=by
 have hx:=hr (l.getD i default) (getD_mem_iff.2 ⟨i,hi,rfl⟩);have hle:((l.take i).filter (Z3c h)).length≤l.length:=Nat.le_trans (List.length_filter_le _ _) qo;have ht:=Z8C hi;by_cases hk:(atH h (l.getD i default)).1.K=0
 ·have e:(l.take (i+1)).filter (Z3c h)=(l.take i).filter (Z3c h):=by
   have hb:Z3c h (l.getD i default)=false:=decide_eq_false (by simpa using hk);rw[ht,List.filter_append,List.filter_cons,hb,List.filter_nil];simp
  exact sF [] (fO 5) (FN 17 18 25 wdv l i (Fc 27 (@Z4X h (l.getD i default) aa oq) (Ffb 32 ((atH h (l.getD i default)).fst.K != 0) (Fx 20 i (Fr (35:Int) (Fa (by refine congrArg _ ?_;rw[e]:List.map wdv (List.filter (Z3c h) (List.take i l))=List.map wdv (List.filter (Z3c h) (List.take (i+1) l))) Fz))))))
 ·have e:(l.take (i+1)).filter (Z3c h)=(l.take i).filter (Z3c h)++[l.getD i default]:=by
   have hb:Z3c h (l.getD i default)=true:=decide_eq_true hk;rw[ht,List.filter_append,List.filter_cons,hb,List.filter_nil];simp
  exact sF [(504039,24006)] (fO 5) (Fh 39 [.els (List.map wdv (List.filter (Z3c h) (List.take i l)++[l.getD i default]))] (FN 17 18 25 wdv l i (Fc 27 (@Z4X h (l.getD i default) aa oq) (Ftb 32 ((atH h (l.getD i default)).fst.K != 0) (Fek 36 wdv l (↑i) i (Fs 38 (List.map wdv [l.getD i default]) (Fa (by(simp[*];omega):(List.map wdv (List.filter (Z3c h) (List.take i l))).length+(List.map wdv [l.getD i default]).length≤2^30) (Fa (ms:List.map wdv (List.filter (Z3c h) (List.take i l))++List.map wdv [l.getD i default]=List.map wdv (List.filter (Z3c h) (List.take i l)++[l.getD i default])) (Fx 20 i (Fr (35:Int) (Fa (by refine congrArg _ ?_;rw[e]:List.map wdv (List.filter (Z3c h) (List.take i l)++[l.getD i default])=List.map wdv (List.filter (Z3c h) (List.take (i+1) l))) Fz)))))))))))
theorem Zng(h:Heap)(l:List Int)(ee:Int):CP (rndF Tryz.f34 0) (ZkL h l ee l.length).st (.ext 0) (Tg.st ⟨tm 42 [(5,int ee),(6,.ow 24006)],[(24006,.arr 35 1 ((l.filter (Z3c h)).map wdv))],60⟩):=by
 have e:l.take l.length=l:=List.take_length;exact sF [] (fO 2) (FO 17 18 wdv l (Fr (35:Int) (Fa (by refine congrArg _ ?_;rw[e]:List.map wdv (List.filter (Z3c h) (List.take l.length l))=List.map wdv (List.filter (Z3c h) l)) Fz)))
theorem ZfM(h:Heap)(l:List Int)(ee:Int)(hw:WOk h.W)(hl:l.length≤1048576)(hr:∀ x∈l,0≤x∧x≤8192):CP (blkF Tryz.f34 0) (Tg.st ⟨tm 42 [(1,.pt 8001 0 0),(4,Z01 l),(5,int ee),(6,.ow 24006),(7,int 0)],[(24006,.arr 35 1 []),(8001,.box 28 h.cells)],60⟩) .nrm
  (Tg.st ⟨tm 42 [(5,int ee),(6,.ow 24006)],[(24006,.arr 35 1 ((l.filter (Z3c h)).map wdv))],60⟩) :=
 Z08 (S:=fun i=>(ZkL h l ee i).st) l.length kr (fun i hi=>Ziy h l ee i hw hl hr hi) (Zng h l ee)
theorem Z3x(h:Heap)(hw:WOk h.W):GP 34 [h.av] false (.tu [Z01 (Z03 h).1,int (Z03 h).2]) []:=by
 have hl:=Z5X h;have hr:=Z4l h;exact gF [] Tryz.func34 [] (Fh 6 [.own] (Fc 12 (@Zan h aa) (Fu (@ZfM h ((Z0w h).fst) ((Z0w h).snd) aa oq aa) Fz)))
def Z3u(h:Heap)(p o:Int):Int:=(loadA h.W (address h.C p o).1).1
theorem Zbe{c:Conf}(hv:Z05 c=true)(p o:Int):0≤(address c p o).1∧(address c p o).1≤8192:=by
 have ha:=area hv;unfold address;rw[if_pos hv];split
 ·rename_i hb;have hb:=inB_iff.1 hb;have:=Zge hv hb.1 hb.2.1 hb.2.2.1 hb.2.2.2;simp only;omega
 ·simp
theorem Zkd(h:Heap)(p o:Int)(hp:Z02 h=true):GP 212 [h.av,int p,int o] true (u64 (Z3u h p o)) []:=by
 have po:=Z07 hp;have ar:=Zbe po.1 p o;exact gF [] Tryz.func212 [] (Fc 16 (@Z5s h.C p o) (Fc 23 (@Z1M h.W ((address h.C p o).fst) oq oq) Fz))
theorem Zbn(h:Heap)(p o:Int)(hp:Z02 h=true):GP 210 [h.av,int p,int o] true (u64 (Z3u h p o)) []:=by
 exact gF [] Tryz.func210 [] (Fc 10 (@Zkd h p o aa) Fz)
theorem Zew(h:Heap)(p o:Int)(hp:Z02 h=true)(h0:0≤p∧p<h.C.pg)(h1:0≤o∧o≤64):GP 211 [h.av,int p,int o] true (u64 (4096+p*h.C.pw+o)) []:=by
 have po:=Z07 hp;have ap:=Z2B po.1 h0.1 h0.2;exact gF [] Tryz.func211 [] (Fi 11 (p*h.C.pw) (Fi 12 (4096+p*h.C.pw) (Fi 14 (4096+p*h.C.pw+o) (Fv 15 (4096+p*h.C.pw+o) Fz))))
def Z0v(l:List Page):Nat→Nat
 | 0=>0
 | i+1=>if(l.getD (i+1) default).K=3 then Z0v l i else i+1
theorem ZoQ{h:Heap}(hp:Z02 h=true):(h.P.getD 0 default).K≠3:=by
 have hi:=properB_iff.1 hp;have po:=Z07 hp;have hr:=hi.2.2.2.2.2;rw[Zbw oq oq,Bool.and_eq_true]at hr;have hc:=of_decide_eq_true hr.1;unfold rchk at hc;omega
def ZdS(h:Heap)(i:Nat):Tg:=⟨tm 15 [(1,int i),(2,.pt 8002 0 0)],[(8002,.box 28 h.cells)],60⟩
theorem ZjU(h:Heap)(i:Nat)(hi:i+1<h.P.length)(hl:h.P.length≤1048576)(hk:(h.P.getD (i+1) default).K=3):CP (rndF Tryz.f208 0) (ZdS h (i+1)).st .nrm (ZdS h i).st:=by
 have ei:((i+1:Nat):Int)-1=(i:Int):=by omega
 exact sF [] [] (Fek 8 Page.dv h.P (↑(i+1):Int) (i+1) (Ftb 11 ((h.P.getD (i+1) default).K==3) (Fg 13 (by rw[wrapI' oq oq];omega:IntKind.i64.wrap ((↑(i+1):Int)-1)=(↑i:Int)) Fz)))
theorem Zj2(h:Heap)(i:Nat)(hi:i<h.P.length)(hl:h.P.length≤1048576)(hk:¬ (h.P.getD i default).K=3):CP (rndF Tryz.f208 0) (ZdS h i).st (.ext 0) (Tg.st ⟨tm 15 [(1,int i)],[],60⟩):=by
 exact sF [] [] (Fek 8 Page.dv h.P (↑i) i (Ffb 11 ((h.P.getD i default).K==3) Fz))
theorem Zmy(h:Heap)(hp:Z02 h=true)(hl:h.P.length≤1048576):∀ i,i<h.P.length→LSpec Tryz.prog Tryz.f208 0 (ZdS h i).st (.ext 0) (Tg.st ⟨tm 15 [(1,int (Z0v h.P i))],[],60⟩)
 | 0,hi=>.endx (Zj2 h 0 hi hl (ZoQ hp))
 | i+1,hi=>by
  unfold Z0v;by_cases hk:(h.P.getD (i+1) default).K=3
  ·rw[if_pos hk];exact .next (ZjU h i hi hl hk) (Zmy h hp hl i oq)
  ·rw[if_neg hk];exact .endx (Zj2 h (i+1) hi hl hk)
theorem ZkA(h:Heap)(i:Nat)(hp:Z02 h=true)(hi:i<h.P.length)(hl:h.P.length≤1048576):CP (blkF Tryz.f208 0) (ZdS h i).st .nrm (Tg.st ⟨tm 15 [(1,int (Z0v h.P i))],[],60⟩) :=
 (Zmy h hp hl i hi).ext kr
theorem Zgn(h:Heap)(i:Nat)(hp:Z02 h=true)(hi:i<h.P.length):GP 208 [h.av,int i] true (int (Z0v h.P i)) []:=by
 have po:=Z07 hp;exact gF [] Tryz.func208 [] (Fu (@ZkA h i aa aa oq) Fz)
def Z1d(h:Heap)(i:Int)(a:Int):Bool:=(decide ((h.P.getD i.toNat default).K=1)&&decide (Z00 h.C<sizeH (atH h a).1))||(decide ((h.P.getD i.toNat default).K=2)&&decide ((atH h a).1.K=0))
def Z11(h:Heap)(i:Int)(l:List Int):Int:=(l.find? (Z1d h i)).getD 0
def Zaz(h:Heap)(i:Int)(l:List Int)(n:Nat):Tg:=⟨tm 61 [(1,int i),(2,Z01 l),(3,.pt 8003 0 0),(6,u64 0),(7,int n)],[(8003,.box 28 h.cells)],60⟩
section
variable (h:Heap) (i:Int) (l:List Int) (n:Nat) (hw:WOk h.W) (hl:l.length≤1048576) (hi:0≤i∧i<h.P.length) (hp:h.P.length≤1048576) (hr:∀ x∈l,0≤x∧x≤8192)
include hw hl hi hp hr
theorem Za8(hn:n<l.length)(hb:Z1d h i (l.getD n default)=false):CP (rndF Tryz.f199 0) (Zaz h i l n).st .nrm (Zaz h i l (n+1)).st:=by
 have hx:=hr (l.getD n default) (getD_mem_iff.2 ⟨n,hn,rfl⟩);have hm:=Z3i hw (l.getD n default);simp only[Z1d,bs]at hb;let y0:=atH h (l.getD n default);let y1:=h.P.getD i.toNat default;exact sF [] [] (FN 13 14 21 wdv l n (Fc 23 (@Z4X h (l.getD n default) aa oq) (Fc 27 (@Z29 (y0.fst) aa) (Fc 30 (@Z1f h.C) (Fe 35 Page.dv h.P i (FeGq 47 (!(y1.K==1&&!decide (sizeH y0.fst≤Z00 h.C))) Page.dv h.P i (Ffb 56 (y1.K==1&&!decide (sizeH y0.fst≤Z00 h.C)||y1.K==2&&y0.fst.K==0) (Fx 16 n Fz))))))))
theorem ZgB(hn:n<l.length)(hb:Z1d h i (l.getD n default)=true):CP (rndF Tryz.f199 0) (Zaz h i l n).st .ret (Tg.st ⟨tm 61 [(6,u64 (l.getD n default))],[],60⟩):=by
 have hx:=hr (l.getD n default) (getD_mem_iff.2 ⟨n,hn,rfl⟩);have hm:=Z3i hw (l.getD n default);simp only[Z1d,bs]at hb;refine stretchE [((13:Nat),[Hint.int (↑l.length:Int)]),((14:Nat),[Hint.br true]),((21:Nat),[Hint.el (wdv (l.getD n default))]),((23:Nat),[Hint.call true (AV.tu [(atH h (l.getD n default)).fst.av,int (atH h (l.getD n default)).snd]) []]),((27:Nat),[Hint.call true (int (sizeH (atH h (l.getD n default)).fst)) []]),((30:Nat),[Hint.call true (int (Z00 h.C)) []]),((35:Nat),[Hint.el (h.P.getD i.toNat default).dv]),((47:Nat),[Hint.el (h.P.getD i.toNat default).dv]),((56:Nat),[Hint.br true]),((59:Nat),[Hint.el (wdv (l.getD n default))])] [] [] [] (φ:=(↑(List.map wdv l).length:Int)=(↑l.length:Int)∧decide ((↑n:Int)<(↑l.length:Int))=true∧true=true∧((0:Int)≤(↑n:Int)∧(List.map wdv l)[(↑n:Int).toNat]? = some (wdv (l.getD n default)))∧GP 83 [h.av,u64 (l.getD n default)] true (AV.tu [(atH h (l.getD n default)).fst.av,int (atH h (l.getD n default)).snd]) []∧GP 75 [(atH h (l.getD n default)).fst.av] true (int (sizeH (atH h (l.getD n default)).fst)) []∧GP 151 [h.C.av] true (int (Z00 h.C)) []∧((0:Int)≤i∧(List.map Page.dv h.P)[i.toNat]? = some (h.P.getD i.toNat default).dv)∧((!((h.P.getD i.toNat default).K==(1:Int)&&!decide (sizeH (atH h (l.getD n default)).fst≤Z00 h.C)))=true→(0:Int)≤i∧(List.map Page.dv h.P)[i.toNat]? = some (h.P.getD i.toNat default).dv)∧((h.P.getD i.toNat default).K==(1:Int)&&!decide (sizeH (atH h (l.getD n default)).fst≤Z00 h.C)||(h.P.getD i.toNat default).K==(2:Int)&&(atH h (l.getD n default)).fst.K==(0:Int))=true∧true=true∧(0:Int)≤(↑n:Int)∧(List.map wdv l)[(↑n:Int).toNat]? = some (wdv (l.getD n default))) ?_ kr kr kr;exact⟨(by simp only[List.length_map]),(by(simp only[bs];omega)),rfl,(by exact elI oq oq oq),(@Z4X (h) (l.getD n default) aa oq),(@Z29 ((atH h (l.getD n default)).fst) aa),(@Z1f (h.C)),(by exact elI oq oq oq),(by intro hg;(try simp only[bs]at hg);exact elI oq oq oq),(by(simp only[bs];omega)),rfl,(by exact elI oq oq oq)⟩
omit hw hl hi hp hr in
theorem ZlJ:CP (rndF Tryz.f199 0) (Zaz h i l l.length).st (.ext 0) (Tg.st ⟨tm 61 [(6,u64 0)],[],60⟩):=by
 exact sF [] [] (FO 13 14 wdv l Fz)
end
theorem Z6v{l:List Int}{f:Int→Bool}(h:l.find? f=none):∀ n,n<l.length→f (l.getD n default)=false:=by
 intro n hn;have:=List.find?_eq_none.1 h (l.getD n default) (getD_mem_iff.2 ⟨n,hn,rfl⟩);simpa using this
theorem Z3s{f:Int→Bool}:∀ {l:List Int} {x:Int},l.find? f=some x→∃ n,n<l.length∧l.getD n default=x∧f x=true∧∀ m,m<n→f (l.getD m default)=false
 | [],x,h=>by simp at h
 | a::l,x,h=>by
  rw[List.find?_cons]at h;split at h
  ·rename_i ha;cases h;exact⟨0,by simp,rfl,ha,fun m hm=>by omega⟩
  ·rename_i ha;obtain⟨n,h1,h2,h3,h4⟩:=Z3s h;refine⟨n+1,by simp;omega,by simpa using h2,h3,fun m hm=>?_⟩;cases m with
   | zero=>simpa using ha
   | succ m=>simpa using h4 m oq
theorem Zjt(h:Heap)(i:Int)(l:List Int)(hw:WOk h.W)(hl:l.length≤1048576)(hi:0≤i∧i<h.P.length)(hp:h.P.length≤1048576)(hr:∀ x∈l,0≤x∧x≤8192)(hf:l.find? (Z1d h i)=none) :
  CP (blkF Tryz.f199 0) (Tg.st ⟨tm 61 [(1,int i),(2,Z01 l),(3,.pt 8003 0 0),(6,u64 0),(7,int 0)],[(8003,.box 28 h.cells)],60⟩) .nrm (Tg.st ⟨tm 61 [(6,u64 0)],[],60⟩) :=
 Z08 (S:=fun n=>(Zaz h i l n).st) l.length kr (fun n hn=>Za8 h i l n hw hl hi hp hr hn (Z6v hf n hn)) (ZlJ h i l)
theorem ZgN(h:Heap)(i:Int)(l:List Int)(x:Int)(hw:WOk h.W)(hl:l.length≤1048576)(hi:0≤i∧i<h.P.length)(hp:h.P.length≤1048576)(hr:∀ x∈l,0≤x∧x≤8192)(hf:l.find? (Z1d h i)=some x) :
  CP (blkF Tryz.f199 0) (Tg.st ⟨tm 61 [(1,int i),(2,Z01 l),(3,.pt 8003 0 0),(6,u64 0),(7,int 0)],[(8003,.box 28 h.cells)],60⟩) .ret (Tg.st ⟨tm 61 [(6,u64 x)],[],60⟩):=by
 obtain⟨n,h1,h2,h3,h4⟩:=Z3s hf;subst h2;exact Z0z (S:=fun n=>(Zaz h i l n).st) n kr (fun m hm=>Za8 h i l m hw hl hi hp hr oq (h4 m hm)) (ZgB h i l n hw hl hi hp hr h1 h3)
theorem Z8v(h:Heap)(i:Int)(l:List Int)(hw:WOk h.W)(hl:l.length≤1048576)(hp:h.P.length≤1048576)(hi:0≤i∧i<h.P.length)(hr:∀ x∈l,0≤x∧x≤8192):GP 199 [h.av,int i,Z01 l] true (u64 (Z11 h i l)) []:=by
 cases hf:l.find? (Z1d h i)with
 | none =>
  have e7:Z11 h i l=0:=by rw[Z11,hf];rfl
  exact gF [] Tryz.func199 (fO 6) (Fu (@Zjt h i l aa aa aa aa aa aa) (Fa (by rw[e7]:0=Z11 h i l) Fz))
 | some x =>
  have e7:Z11 h i l=x:=by rw[Z11,hf];rfl
  exact gF [] Tryz.func199 (fO 6) (Fu (@ZgN h i l x aa aa aa aa aa aa) (Fa (by rw[e7]:x=Z11 h i l) Fz))
def bdv(x:Bool):List DV:=[.sc (.bool x)]
def Z3A(h:Heap)(a:Int):Int:=if(atH h a).1.K=0 then 1 else sizeH (atH h a).1
def Z7f(h:Heap)(i:Int)(a:Int)(o:Nat):Bool:=decide (a-4096-i*h.C.pw≤o)&&decide ((o:Int)<a-4096-i*h.C.pw+Z3A h a)
def Z1A(h:Heap)(i:Int)(l:List Int):List Bool:=(List.range h.C.pw.toNat).map fun o=>l.any fun a=>Z7f h i a o
def Z1w(h:Heap)(i:Int)(l:List Int)(a:Int)(w:Nat):List Bool:=(List.range h.C.pw.toNat).map fun(o:Nat)=>(l.any fun a=>Z7f h i a o)||(decide (a-4096-i*h.C.pw≤o)&&decide ((o:Int)<a-4096-i*h.C.pw+w))
theorem ZaQ(h:Heap)(i:Int)(l:List Int)(a:Int)(w:Nat):(Z1w h i l a w).length=h.C.pw.toNat:=by simp[Z1w]
theorem Zey(h:Heap)(i:Int)(l:List Int)(a:Int):Z1w h i l a 0=Z1A h i l:=by
 unfold Z1w Z1A;refine List.map_congr_left fun o _=>?_;have:(decide (a-4096-i*h.C.pw≤(o:Int))&&decide ((o:Int)<a-4096-i*h.C.pw+(0:Nat)))=false:=by
  rw[Bool.and_eq_false_iff];simp;omega
 rw[this,Bool.or_false]
theorem Zez{h:Heap}{i:Int}{l:List Int}{a:Int}{w:Nat}(hh:¬ (0≤a-4096+w-i*h.C.pw∧a-4096+w-i*h.C.pw<h.C.pw)):Z1w h i l a (w+1)=Z1w h i l a w:=by
 unfold Z1w;refine List.map_congr_left fun o ho=>?_;have ho:=List.mem_range.1 ho;congr 1;rw[Bool.eq_iff_iff];simp;omega
theorem ZgO{h:Heap}{i:Int}{l:List Int}{a:Int}{w:Nat}(hh:0≤a-4096+w-i*h.C.pw∧a-4096+w-i*h.C.pw<h.C.pw):(Z1w h i l a w).set (a-4096+w-i*h.C.pw).toNat true=Z1w h i l a (w+1):=by
 apply List.ext_getElem?;intro j;rw[List.getElem?_set,ZaQ];unfold Z1w;by_cases hjl:j<h.C.pw.toNat
 ·rw[List.getElem?_map,List.getElem?_map,List.getElem?_range hjl,Option.map_some,Option.map_some];by_cases hj:(a-4096+w-i*h.C.pw).toNat=j
  ·rw[if_pos hj,if_pos oq];congr 1;symm;rw[Bool.or_eq_true];right;rw[Bool.and_eq_true,decide_eq_true_eq,decide_eq_true_eq];omega
  ·rw[if_neg hj];congr 2;rw[Bool.eq_iff_iff,Bool.and_eq_true,Bool.and_eq_true,decide_eq_true_eq,decide_eq_true_eq,decide_eq_true_eq];omega
 ·rw[if_neg oq,List.getElem?_map,List.getElem?_map,List.getElem?_eq_none qo];rfl
theorem Zgs{h:Heap}{i:Int}{l:List Int}{a:Int}(hn:0≤Z3A h a):Z1w h i l a (Z3A h a).toNat=Z1A h i (l++[a]):=by
 unfold Z1w Z1A;refine List.map_congr_left fun o _=>?_;rw[List.any_append];congr 1;simp[Z7f];rw[Bool.eq_iff_iff];simp;omega
theorem Zjx(h:Heap)(i:Int):Z1A h i []=List.replicate h.C.pw.toNat false:=by
 unfold Z1A;simp[List.map_const']
def ZjD(h:Heap)(i:Int)(l:List Int)(k:Nat):Tg:=⟨tm 69 [(1,int i),(2,Z01 l),(3,.pt 8003 0 0),(7,.ow 16017),(8,int k)],[(16017,.arr 4 1 ((Z1A h i (l.take k)).map bdv)),(8003,.box 28 h.cells)],60⟩
def Zcu(h:Heap)(i:Int)(l m:List Int)(k:Nat)(n:Int)(w:Nat):Tg:=⟨tm 69 [(1,int i),(2,Z01 m),(3,.pt 8003 0 0),(7,.ow 16017),(8,int k),(11,int n),(12,int w)],[(16017,.arr 4 1 ((Z1w h i l (m.getD k default) w).map bdv)),(8003,.box 28 h.cells)],60⟩
theorem ZgJ(h:Heap)(i:Int)(l m:List Int)(k:Nat)(n:Int)(w:Nat)(hp:Z02 h=true)(hm:m.length≤1048576)(hi:0≤i∧i<h.P.length)(hr:0≤m.getD k default∧m.getD k default≤8192)(hk:k<m.length)(hn:n≤256)(hw:w<n):CP (rndF Tryz.f209 2) (Zcu h i l m k n w).st .nrm (Zcu h i l m k n (w+1)).st:=by
 have po:=Z07 hp;have ap:=Z2B po.1 hi.1 oq;have hlen:=ZaQ h i l (m.getD k default) w;by_cases hh:0≤m.getD k default-4096+w-i*h.C.pw∧m.getD k default-4096+w-i*h.C.pw<h.C.pw
 ·have e:=ZgO (l:=l) hh;let y0:=m.getD k default-4096+(↑w:Int)-i*h.C.pw;let y1:=Z1w h i l (m.getD k default) w;let y2:=0≤m.getD k default-4096+(↑w:Int)-i*h.C.pw;let y3:=y1.set y0.toNat true;exact sF [] (fO 11) (Fh 10067 [.els (List.map bdv y3)] (Ftb 40 (decide ((↑w:Int)<n)) (Fek 45 wdv m (↑k) k (Fi 47 (m.getD k default) (Fi 48 (m.getD k default-4096) (Fi 50 (m.getD k default-4096+(↑w:Int)) (Fi 55 (i*h.C.pw) (Fi 56 y0 (FlG 62 (decide y2) bdv y1 (Ftb 64 (decide y2&&decide (m.getD k default-4096+(↑w:Int)-i*h.C.pw<(↑y1.length:Int))) (Fa (by grind[]:0≤m.getD k default-4096+(↑w:Int)-i*h.C.pw∧y0.toNat<(List.map bdv y1).length) (Fa (by grind[]:y0.toNat<(List.map bdv y1).length) (Fa (by rw[List.map_set];rfl:(List.map bdv y1).set y0.toNat [DV.sc (Value.bool true)]=List.map bdv y3) (Fx 42 w (Fr (4:Int) (Fa (by refine congrArg _ ?_;exact e:List.map bdv y3=List.map bdv (Z1w h i l (m.getD k default) (w+1))) Fz))))))))))))))))
 ·have e:=Zez (l:=l) hh;let y4:=m.getD k default;let y5:=0≤m.getD k default-4096+(↑w:Int)-i*h.C.pw;exact sF [] (fO 11) (Ftb 40 (decide ((↑w:Int)<n)) (Fek 45 wdv m (↑k) k (Fi 47 y4 (Fi 48 (m.getD k default-4096) (Fi 50 (m.getD k default-4096+(↑w:Int)) (Fi 55 (i*h.C.pw) (Fi 56 (m.getD k default-4096+(↑w:Int)-i*h.C.pw) (FlG 62 (decide y5) bdv (Z1w h i l y4 w) (Ffb 64 (decide y5&&decide (m.getD k default-4096+(↑w:Int)-i*h.C.pw<(↑(Z1w h i l y4 w).length:Int))) (Fx 42 w (Fr (4:Int) (Fa (by refine congrArg _ ?_;rw[e]:List.map bdv (Z1w h i l y4 w)=List.map bdv (Z1w h i l y4 (w+1))) Fz))))))))))))
theorem Zly(h:Heap)(i:Int)(l m:List Int)(k:Nat)(n:Int)(w:Nat)(hn:n≤w):CP (rndF Tryz.f209 2) (Zcu h i l m k n w).st (.ext 2) (Tg.st ⟨tm 69 [(1,int i),(2,Z01 m),(3,.pt 8003 0 0),(7,.ow 16017),(8,int k)],[(16017,.arr 4 1 ((Z1w h i l (m.getD k default) w).map bdv)),(8003,.box 28 h.cells)],60⟩):=by
 exact sF [] [] (Ffb 40 (decide ((↑w:Int)<n)) Fz)
theorem ZcV(h:Heap)(i:Int)(m:List Int)(k:Nat)(n:Int)(hp:Z02 h=true)(hm:m.length≤1048576)(hi:0≤i∧i<h.P.length)(hr:0≤m.getD k default∧m.getD k default≤8192)(hk:k<m.length)(hn:0≤n∧n≤256)(he:n=Z3A h (m.getD k default)):CP (blkF Tryz.f209 2) (Tg.st ⟨tm 69 [(1,int i),(2,Z01 m),(3,.pt 8003 0 0),(7,.ow 16017),(8,int k),(11,int n),(12,int 0)],[(16017,.arr 4 1 ((Z1A h i (m.take k)).map bdv)),(8003,.box 28 h.cells)],60⟩) .nrm
  (Tg.st ⟨tm 69 [(1,int i),(2,Z01 m),(3,.pt 8003 0 0),(7,.ow 16017),(8,int k)],[(16017,.arr 4 1 ((Z1A h i (m.take (k+1))).map bdv)),(8003,.box 28 h.cells)],60⟩):=by
 have:=Z08 (S:=fun w=>(Zcu h i (m.take k) m k n w).st) n.toNat kr (fun w hw=>ZgJ h i (m.take k) m k n w hp hm hi hr hk hn.2 oq) (Zly h i (m.take k) m k n n.toNat oq)
 have e1:Z1w h i (m.take k) (m.getD k default) n.toNat=Z1A h i (m.take (k+1)):=by
  rw[Z8C hk,he];exact Zgs oq
 rw[e1]at this;simp only[Zcu,Zey]at this;exact this
theorem ZhM(h:Heap)(i:Int)(l:List Int)(k:Nat)(hw:WOk h.W)(hp:Z02 h=true)(hl:l.length≤1048576)(hi:0≤i∧i<h.P.length)(hr:∀ x∈l,0≤x∧x≤8192)(hk:k<l.length):CP (rndF Tryz.f209 0) (ZjD h i l k).st .nrm (ZjD h i l (k+1)).st:=by
 have po:=Z07 hp;have hx:=hr (l.getD k default) (getD_mem_iff.2 ⟨k,hk,rfl⟩);have hm:=Z3i hw (l.getD k default);have hs:=Z19 (atH h (l.getD k default)).1;by_cases hf:(atH h (l.getD k default)).1.K=0
 ·have e:Z3A h (l.getD k default)=1:=by rw[Z3A,if_pos hf]
  exact sF [] [] (FN 20 21 28 wdv l k (Fc 30 (@Z4X h (l.getD k default) aa oq) (Fc 34 (@Z29 ((atH h (l.getD k default)).fst) aa) (Ftb 37 ((atH h (l.getD k default)).fst.K==0) (Fu (@ZcV h i l k (1) aa aa aa aa aa oq oq) (Fx 23 k Fz))))))
 ·have e:Z3A h (l.getD k default)=sizeH (atH h (l.getD k default)).1:=by rw[Z3A,if_neg hf]
  let y0:=atH h (l.getD k default);exact sF [] [] (FN 20 21 28 wdv l k (Fc 30 (@Z4X h (l.getD k default) aa oq) (Fc 34 (@Z29 (y0.fst) aa) (Ffb 37 (y0.fst.K==0) (Fu (@ZcV h i l k (sizeH y0.fst) aa aa aa aa aa aa oq) (Fx 23 k Fz))))))
theorem ZmR(h:Heap)(i:Int)(l:List Int):CP (rndF Tryz.f209 0) (ZjD h i l l.length).st (.ext 0) (Tg.st ⟨tm 69 [(7,.ow 16017)],[(16017,.arr 4 1 ((Z1A h i l).map bdv))],60⟩):=by
 have e:l.take l.length=l:=List.take_length;exact sF [] [false,true] (FO 20 21 wdv l (Fr (4:Int) (Fa (by refine congrArg _ ?_;rw[e]:List.map bdv (Z1A h i (List.take l.length l))=List.map bdv (Z1A h i l)) Fz)))
theorem Zkf(h:Heap)(i:Int)(l:List Int)(hw:WOk h.W)(hp:Z02 h=true)(hl:l.length≤1048576)(hi:0≤i∧i<h.P.length)(hr:∀ x∈l,0≤x∧x≤8192):CP (blkF Tryz.f209 0) (Tg.st ⟨tm 69 [(1,int i),(2,Z01 l),(3,.pt 8003 0 0),(7,.ow 16017),(8,int 0)],[(16017,.arr 4 1 ((List.replicate h.C.pw.toNat false).map bdv)),(8003,.box 28 h.cells)],60⟩) .nrm
  (Tg.st ⟨tm 69 [(7,.ow 16017)],[(16017,.arr 4 1 ((Z1A h i l).map bdv))],60⟩):=by
 have:=Z08 (S:=fun k=>(ZjD h i l k).st) l.length kr (fun k hk=>ZhM h i l k hw hp hl hi hr hk) (ZmR h i l);simp only[ZjD,List.take_zero,Zjx]at this;exact this
theorem Zfc(h:Heap)(i:Int)(l:List Int)(hw:WOk h.W)(hp:Z02 h=true)(hl:l.length≤1048576)(hi:0≤i∧i<h.P.length)(hr:∀ x∈l,0≤x∧x≤8192):GP 209 [h.av,int i,Z01 l] false (.d (.sl 1 ((Z1A h i l).map bdv))) []:=by
 have po:=Z07 hp;exact gF [] Tryz.func209 [] (Fh 17 [.els (List.map bdv (List.replicate h.C.pw.toNat false))] (Fb (0≤h.C.pw∧h.C.pw≤h.C.pw∧h.C.pw*((↑(nat_lit 0):Int)+1)≤2^48) (Fa (by rw[List.map_replicate];rfl:List.replicate h.C.pw.toNat [DV.sc (Value.bool false)]=List.map bdv (List.replicate h.C.pw.toNat false)) (Fu (@Zkf h i l aa aa aa aa aa) Fz))))
def Z1O(h:Heap)(i:Nat):List Bool:=Z1A h i (Z06 h (Z0v h.P i:Nat)).1
theorem Z58(h:Heap)(i:Nat):(Z1O h i).length=h.C.pw.toNat:=by simp[Z1O,Z1A]
theorem Zb3(l:List Page):∀ i,Z0v l i≤i
 | 0=>Nat.le_refl _
 | i+1=>by
  have:=Zb3 l i;unfold Z0v;split<;>omega
def Zhi(h:Heap)(i:Nat)(u:List Bool)(k:Nat):Tg:=⟨tm 43 [(1,int i),(2,.pt 8002 0 0),(4,u64 0),(7,.d (.sl 1 (u.map bdv))),(8,int k)],[(8002,.box 28 h.cells)],60⟩
section
variable (h:Heap) (i:Nat) (u:List Bool) (k:Nat) (hp:Z02 h=true) (hi:i<h.P.length) (hu:u.length≤64)
include hp hi hu
theorem Zc7(hk:k<u.length)(hd:u.getD k default=true∨Z3u h i k=0):CP (rndF Tryz.f200 0) (Zhi h i u k).st .nrm (Zhi h i u (k+1)).st:=by
 have po:=Z07 hp;rcases hd with hd | hd
 ·exact sF [] [] (FN 23 24 29 bdv u k (FcG 36 (!u.getD k default) (fun hg=>by(try simp only[bs]at hg);exact @Zbn h ((↑i:Int)) ((↑k:Int)) aa) (Ffs 38 (!u.getD k default&&Z3u h (↑i:Int) (↑k:Int) != 0) (Fx 26 k Fz))))
 ·exact sF [] [] (FN 23 24 29 bdv u k (FcG 36 (!u.getD k default) (fun hg=>by(try simp only[bs]at hg);exact @Zbn h ((↑i:Int)) ((↑k:Int)) aa) (Ffb 38 (!u.getD k default&&Z3u h (↑i:Int) (↑k:Int) != 0) (Fx 26 k Fz))))
theorem Zjb(hk:k<u.length)(hd:u.getD k default=false∧¬ Z3u h i k=0):CP (rndF Tryz.f200 0) (Zhi h i u k).st .ret (Tg.st ⟨tm 43 [(4,u64 (4096+i*h.C.pw+k))],[],60⟩):=by
 have po:=Z07 hp;obtain⟨hd1,hd2⟩:=hd;exact sF [] [] (FN 23 24 29 bdv u k (FcG 36 (!u.getD k default) (fun hg=>by(try simp only[bs]at hg);exact @Zbn h ((↑i:Int)) ((↑k:Int)) aa) (Fts 38 (!u.getD k default&&Z3u h (↑i:Int) (↑k:Int) != 0) (Fc 42 (@Zew h ((↑i:Int)) ((↑k:Int)) aa oq oq) Fz))))
omit hp hi hu in
theorem Zn0:CP (rndF Tryz.f200 0) (Zhi h i u u.length).st (.ext 0) (Tg.st ⟨tm 43 [(4,u64 0)],[],60⟩):=by
 exact sF [] [] (FO 23 24 bdv u Fz)
end
def badD(h:Heap)(i:Nat)(u:List Bool)(k:Nat):Bool:=!u.getD k default&&decide (Z3u h i k≠0)
def Z2u(h:Heap)(i:Nat)(u:List Bool):Int:=match (List.range u.length).find? (badD h i u)with | some k=>4096+i*h.C.pw+k | none=>0
theorem ZkC(h:Heap)(i:Nat)(u:List Bool)(hp:Z02 h=true)(hi:i<h.P.length)(hu:u.length≤64)(hf:(List.range u.length).find? (badD h i u)=none) :
  CP (blkF Tryz.f200 0) (Tg.st ⟨tm 43 [(1,int i),(2,.pt 8002 0 0),(4,u64 0),(7,.d (.sl 1 (u.map bdv))),(8,int 0)],[(8002,.box 28 h.cells)],60⟩) .nrm (Tg.st ⟨tm 43 [(4,u64 0)],[],60⟩):=by
 refine Z08 (S:=fun k=>(Zhi h i u k).st) u.length kr (fun k hk=>Zc7 h i u k hp hi hu hk ?_) (Zn0 h i u);have:=List.find?_eq_none.1 hf k (List.mem_range.2 hk);simp only[badD,bs]at this;cases hb:u.getD k default with
 | true=>exact .inl rfl
 | false =>
  rw[hb]at this;exact .inr (by simpa using this)
theorem Zk1(h:Heap)(i:Nat)(u:List Bool)(k:Nat)(hp:Z02 h=true)(hi:i<h.P.length)(hu:u.length≤64)(hf:(List.range u.length).find? (badD h i u)=some k) :
  CP (blkF Tryz.f200 0) (Tg.st ⟨tm 43 [(1,int i),(2,.pt 8002 0 0),(4,u64 0),(7,.d (.sl 1 (u.map bdv))),(8,int 0)],[(8002,.box 28 h.cells)],60⟩) .ret (Tg.st ⟨tm 43 [(4,u64 (4096+i*h.C.pw+k))],[],60⟩):=by
 obtain⟨h1,h2,h3⟩:=List.find?_range_eq_some.1 hf;have h2:=List.mem_range.1 h2;refine Z0z (S:=fun k=>(Zhi h i u k).st) k kr (fun m hm=>Zc7 h i u m hp hi hu oq ?_) (Zjb h i u k hp hi hu h2 ?_)
 ·have:=h3 m hm;simp only[badD,bs]at this;cases hb:u.getD m default with
  | true=>exact .inl rfl
  | false =>
   rw[hb]at this;exact .inr (by simpa using this)
 ·simp only[badD,bs]at h1;exact⟨h1.1,h1.2⟩
theorem Zfr(h:Heap)(i:Nat)(hw:WOk h.W)(hp:Z02 h=true)(hi:i<h.P.length):GP 200 [h.av,int i] true (u64 (Z2u h i (Z1O h i))) []:=by
 have po:=Z07 hp;have hh:=Zb3 h.P i;have hn:=Z2L h (Z0v h.P i:Nat);have hr:=Z2C hp (Z0v h.P i:Nat);have hl:=Z58 h i;unfold Z1O at hl ⊢;cases hf:(List.range (Z1A h i (Z06 h (Z0v h.P i:Nat)).1).length).find? (badD h i (Z1A h i (Z06 h (Z0v h.P i:Nat)).1))with
 | none =>
  have e7:Z2u h i (Z1A h i (Z06 h (Z0v h.P i:Nat)).1)=0:=by rw[Z2u,hf]
  let y0:=Z06 h (↑(Z0v h.P i):Int);exact gF [] Tryz.func200 (fO 6) (Fc 13 (@Zgn h i aa aa) (Fc 14 (@Z3F h ((↑(Z0v h.P i):Int)) aa) (Fc 20 (@Zfc h ((↑i:Int)) (y0.fst) aa aa oq oq aa) (Fu (@ZkC h i (Z1A h (↑i:Int) y0.fst) aa aa oq aa) (Fa (by rw[e7]:0=Z2u h i (Z1A h (↑i:Int) y0.fst)) Fz)))))
 | some k =>
  have e7:Z2u h i (Z1A h i (Z06 h (Z0v h.P i:Nat)).1)=4096+i*h.C.pw+k:=by rw[Z2u,hf]
  let y1:=Z06 h (↑(Z0v h.P i):Int);exact gF [] Tryz.func200 (fO 6) (Fc 13 (@Zgn h i aa aa) (Fc 14 (@Z3F h ((↑(Z0v h.P i):Int)) aa) (Fc 20 (@Zfc h ((↑i:Int)) (y1.fst) aa aa oq oq aa) (Fu (@Zk1 h i (Z1A h (↑i:Int) y1.fst) k aa aa oq aa) (Fa (by rw[e7]:4096+(↑i:Int)*h.C.pw+(↑k:Int)=Z2u h i (Z1A h (↑i:Int) y1.fst)) Fz)))))
structure Finding where
 fault:Int
 page:Int
 addr:Int
 deriving DecidableEq,Inhabited
def Finding.av(f:Finding):AV:=.ag [int f.fault,int f.page,u64 f.addr]
def pageF(h:Heap)(i:Nat):Finding :=
 if(h.P.getD i default).K≠0∧(h.P.getD i default).S≠h.S then⟨2,i,0⟩
 else if(Z06 h (i:Int)).2≠0 then⟨3,i,0⟩
 else if Z11 h (i:Int) (Z06 h (i:Int)).1≠0 then⟨5,i,Z11 h (i:Int) (Z06 h (i:Int)).1⟩
 else if Z2u h i (Z1O h i)≠0 then⟨4,i,Z2u h i (Z1O h i)⟩else⟨0,0,0⟩
theorem Zf4(h:Heap)(i:Nat)(hw:WOk h.W)(hp:Z02 h=true)(hi:i<h.P.length):GP 179 [h.av,int i] true (pageF h i).av []:=by
 have po:=Z07 hp;have hn:=Z2L h (i:Int);have hr:=Z2C hp (i:Int);have Q0 {h_ c_ p_} (r_:Fq h_ c_ p_):=Fek 12 Page.dv h.P (↑i) i (FeG 20 ((h.P.getD i default).K != 0) Page.dv h.P (↑i) i r_);rcases bb ((h.P.getD i default).K != 0&&(h.P.getD i default).S != h.S)with hc0 | hc0<;>have hc0p:=hc0<;>simp only[bs]at hc0p
 ·obtain⟨hc0pa,hc0pb⟩:=hc0p;rw[show pageF h i=Finding.mk (2:Int) (↑i:Int) (0:Int)from by(simp only[pageF] ;exact sj)];exact gF [] Tryz.func179 [] (Q0 (Ft 26 hc0 Fz))
 ·have Q1 {h_ c_ p_} (r_:Fq h_ c_ p_):=Q0 (Ff 26 hc0 (Fc 32 (@Z3F h ((↑i:Int)) aa) r_));rcases bb ((Z06 h (↑i:Int)).snd != 0)with hc1 | hc1<;>have hc1p:=hc1<;>simp only[bs]at hc1p
  ·rw[show pageF h i=Finding.mk (3:Int) (↑i:Int) (0:Int)from by(simp only[pageF] ;exact sj)];exact gF [] Tryz.func179 [] (Q1 (Ft 36 hc1 Fz))
  ·have Q2 {h_ c_ p_} (r_:Fq h_ c_ p_):=Q1 (Ff 36 hc1 (Fc 42 (@Z8v h ((↑i:Int)) ((Z06 h (↑i:Int)).fst) aa oq oq oq aa) r_));rcases bb (Z11 h (↑i:Int) (Z06 h (↑i:Int)).fst != 0)with hc2 | hc2<;>have hc2p:=hc2<;>simp only[bs]at hc2p
   ·rw[show pageF h i=Finding.mk (5:Int) (↑i:Int) (Z11 h (↑i:Int) (Z06 h (↑i:Int)).fst)from by(simp only[pageF] ;exact sj)];exact gF [] Tryz.func179 [] (Q2 (Ft 44 hc2 Fz))
   ·have Q3 {h_ c_ p_} (r_:Fq h_ c_ p_):=Q2 (Ff 44 hc2 (Fc 50 (@Zfr h i aa aa aa) r_));rcases bb (Z2u h i (Z1O h i) != 0)with hc3 | hc3<;>have hc3p:=hc3<;>simp only[bs]at hc3p
    ·rw[show pageF h i=Finding.mk (4:Int) (↑i:Int) (Z2u h i (Z1O h i))from by(simp only[pageF] ;exact sj)];exact gF [] Tryz.func179 [] (Q3 (Ft 52 hc3 Fz))
    ·rw[show pageF h i=Finding.mk (0:Int) (0:Int) (0:Int)from by(simp only[pageF] ;exact sj)];exact gF [] Tryz.func179 [] (Q3 (Ff 52 hc3 Fz))
end Go.Proofs.YtdhchmlalchgeaaGreat
