/-
 The statement EvacuateCopies: part 8.
 Conditions: none.
-/
import Derived.Test.YtdhchmlalchgeaaGreatJ7
set_option maxRecDepth 100000
set_option maxHeartbeats 2000000
set_option linter.all false
namespace Go.Proofs.YtdhchmlalchgeaaGreat
open Go.Sx
def Z0C(h:Heap)(n k:Int):Heap×Int×Bool :=
 if 0≤first h.P k∧Z1u h.P+k≤Z2r h.C then(⟨h.C,h.W,(Z2z h.C h.P (first h.P k) h.S n).1,h.S,h.B⟩,4096+first h.P k*h.C.pw,true)else(noHeap,0,false)
theorem ZcG(h:Heap)(n k:Int)(hp:Z03 h=true)(hk:k=need h.C n)(hk1:1≤k):GP 160 [h.av,int n,int k] false (.tu [(Z0C h n k).1.av,u64 (Z0C h n k).2.1,bool (Z0C h n k).2.2]) []:=by
 have po:=Z06 hp;obtain⟨o1,o2,o3,o4,o5,o6,o7,o8,o9⟩:=po;have hr:=Z6h h.P k;have hff:0≤first h.P k→first h.P k+k≤h.P.length:=fun hf=>(Z1k hf).2.1
 have hiu:=Z7X h.P;have hli:=ZfO o1;have hnr:=Z3F h.C n;have hm2:0≤first h.P k→0≤first h.P k*h.C.pw∧first h.P k*h.C.pw+h.C.pw≤4096:=fun h0=>Z2J o1 h0 (by have:=hff h0;omega)
 by_cases hg:0≤first h.P k∧Z1u h.P+k≤Z2r h.C
 ·have e7:Z0C h n k=(⟨h.C,h.W,(Z2z h.C h.P (first h.P k) h.S n).1,h.S,h.B⟩,4096+first h.P k*h.C.pw,true):=by rw[Z0C,if_pos hg]
  rw[show Z0C h n k=(Heap.mk h.C h.W (Z2z h.C h.P (first h.P k) h.S n).fst h.S h.B,(4096:Int)+first h.P k*h.C.pw,true)from by rw[e7]];let y0:=!decide (first h.P k<0);exact gF [] Tryz.func160 [] (Fc 13 (@Z5N h.P k oq) (FcG 19 y0 (fun hg=>by(try simp only[bs]at hg);exact @Z73 h.P oq) (FiG 21 y0 ((↑(Z1u h.P):Int)+k) (FcG 24 y0 (fun hg=>by(try simp only[bs]at hg);exact @Z6E h.C) (Ffb 26 (decide (first h.P k<0)||decide (Z2r h.C<(↑(Z1u h.P):Int)+k)) (Fc 37 (@Zii h.C h.P (first h.P k) h.S n oq) (Fi 46 (first h.P k*h.C.pw) (Fi 47 (4096+first h.P k*h.C.pw) (Fv 48 (4096+first h.P k*h.C.pw) Fz)))))))))
 ·have e7:Z0C h n k=(noHeap,0,false):=by rw[Z0C,if_neg hg]
  rw[e7];let y1:=!decide (first h.P k<0);exact gF [] Tryz.func160 [] (Fc 13 (@Z5N h.P k oq) (FcG 19 y1 (fun hg=>by(try simp only[bs]at hg);exact @Z73 h.P oq) (FiG 21 y1 ((↑(Z1u h.P):Int)+k) (FcG 24 y1 (fun hg=>by(try simp only[bs]at hg);exact @Z6E h.C) (Ftb 26 (decide (first h.P k<0)||decide (Z2r h.C<(↑(Z1u h.P):Int)+k)) (Fnl (Fnl Fz)))))))
theorem Zd8{h:Heap}{n:Int}(hp:Z03 h=true)(hn:1≤n∧n≤256):0≤(Z0p h n).2.1∧(Z0p h n).2.1≤8192∧((Z0p h n).2.2=true→(Z0p h n).1.W=h.W∧4096≤(Z0p h n).2.1)∧((Z0p h n).2.2=false→(Z0p h n).1=noHeap):=by
 obtain⟨o1,o2,o3,o4,o5,o6,o7,o8,o9⟩:=Z06 hp;have hb:=(properB_iff.1 hp).2.2.2.2.1;have hpg:=fun hj=>Z0D hp (j:=h.B.toNat) hj;have hfo:=fun hf=>Z2E (h:=h) o9 hf;have hm1:0≤h.B→0≤h.B*h.C.pw∧h.B*h.C.pw+h.C.pw≤4096:=fun h0=>Z2J o1 h0 oq;have hm2:0≤first h.P 1→0≤first h.P 1*h.C.pw∧first h.P 1*h.C.pw+h.C.pw≤4096:=fun h0=>Z2J o1 h0 (by have:=hfo h0;omega)
 unfold Z0p;split
 ·rename_i hf;unfold Z7Y at hf;have h1:=hm1 hf.1;have h2:=hpg oq;refine⟨by simp only;omega,by simp only;omega,fun _=>⟨rfl,by simp only;omega⟩,fun e=>by cases e⟩
 ·split
  ·rename_i hg;have h1:=hm2 hg.1;have h2:=congrArg Page.U (hfo hg.1).2.2.2;simp only at h2;refine⟨by simp only;omega,by simp only;omega,fun _=>⟨rfl,by simp only;omega⟩,fun e=>by cases e⟩
  ·exact⟨by simp,by simp,(fun e=>nomatch e),fun _=>rfl⟩
theorem ZcD{h:Heap}{n k:Int}(hp:Z03 h=true):0≤(Z0C h n k).2.1∧(Z0C h n k).2.1≤8192∧((Z0C h n k).2.2=true→(Z0C h n k).1.W=h.W∧4096≤(Z0C h n k).2.1)∧((Z0C h n k).2.2=false→(Z0C h n k).1=noHeap):=by
 obtain⟨o1,o2,o3,o4,o5,o6,o7,o8,o9⟩:=Z06 hp;unfold Z0C;split
 ·rename_i hg;have h3:=(Z1k hg.1)
  have h1:=Z2J (c:=h.C) (i:=first h.P k) o1 hg.1 oq;exact⟨by simp only;omega,by simp only;omega,fun _=>⟨rfl,by simp only;omega⟩,fun e=>by cases e⟩
 ·exact⟨by simp,by simp,(fun e=>nomatch e),fun _=>rfl⟩
def put7(h:Heap)(hd:Header):Heap×Int×Bool:=if 0<need h.C (sizeH hd)then Z0C h (sizeH hd) (need h.C (sizeH hd))else Z0p h (sizeH hd)
def new7(h:Heap)(hd:Header):Heap×Int×Int :=
 if Z03 h=true∧Z3s h.C hd=true then(if(put7 h hd).2.2=true then((Z1o (put7 h hd).1 (put7 h hd).2.1 hd).1,(put7 h hd).2.1,0)else(noHeap,0,3))else(noHeap,0,1)
theorem Z7w:WOk []:=fun w h=>by simp at h
theorem Z8l{c:Conf}{hd:Header}(h:Z3s c hd=true):Z0h hd=true∧1≤sizeH hd∧sizeH hd≤256∧0≤need c (sizeH hd)∧hd.K≠0:=by
 simp only[Z3s,Bool.and_eq_true,decide_eq_true_eq]at h;have hv:=validH_iff.1 h.1.1;have hn:=Z3F c (sizeH hd);have hs:sizeH hd=hd.length+1:=by rw[sizeH,if_pos h.1.1]
 exact⟨h.1.1,by omega,by omega,by omega,h.1.2⟩
theorem Zkb(h:Heap)(hd:Header)(hw:WOk h.W)(hm:0≤hd.map∧hd.map≤4294967295):GP 115 [h.av,hd.av] false (.tu [(new7 h hd).1.av,u64 (new7 h hd).2.1,int (new7 h hd).2.2]) []:=by
 by_cases hp:Z03 h=true
 ·cases ha:Z3s h.C hd with
  | false =>
   have e7:new7 h hd=(noHeap,0,1):=by rw[new7,if_neg (by rw[ha];simp)]
   rw[e7];exact gF [] Tryz.func115 [] (Fc 13 (@Z0k h) (FcG 19 (!!Z03 h) (fun hg=>by(try simp only[bs]at hg);exact @Z5A h.C hd aa) (Fts 21 (!Z03 h||!Z3s h.C hd) (Fnl (Fnl Fz)))))
  | true =>
   obtain⟨a1,a2,a3,a4,a5⟩:=Z8l ha;have f1:=Zd8 hp ⟨a2,a3⟩;have f2:=ZcD (n:=sizeH hd) (k:=need h.C (sizeH hd)) hp;have w1:WOk (Z0p h (sizeH hd)).1.W:=by
    cases e:(Z0p h (sizeH hd)).2.2 with
    | true=>rw[(f1.2.2.1 e).1];exact hw
    | false=>rw[f1.2.2.2 e];exact Z7w
   have w2:WOk (Z0C h (sizeH hd) (need h.C (sizeH hd))).1.W:=by
    cases e:(Z0C h (sizeH hd) (need h.C (sizeH hd))).2.2 with
    | true=>rw[(f2.2.2.1 e).1];exact hw
    | false=>rw[f2.2.2.2 e];exact Z7w
   by_cases hn:0<need h.C (sizeH hd)
   ·have e7:put7 h hd=Z0C h (sizeH hd) (need h.C (sizeH hd)):=by rw[put7,if_pos hn]
    have Q0 {h_ c_ p_} (r_:Fq h_ c_ p_):=Fc 13 (@Z0k h) (FcG 19 (!!Z03 h) (fun hg=>by(try simp only[bs]at hg);exact @Z5A h.C hd aa) (Ffs 21 (!Z03 h||!Z3s h.C hd) (Fc 24 (@Z2a hd aa) (Fc 28 (@Z4y h.C (sizeH hd)) (Fc 32 (@Z6y h (sizeH hd) aa oq) (Ftb 37 (decide (0<need h.C (sizeH hd))) (Fc 42 (@ZcG h (sizeH hd) (need h.C (sizeH hd)) aa (by rfl) aa) r_)))))));rcases bb (!(Z0C h (sizeH hd) (need h.C (sizeH hd))).snd.snd)with hc0 | hc0<;>have hc0p:=hc0<;>simp only[bs]at hc0p
    ·exact gF [] Tryz.func115 (fO 5) (Q0 (Ft 47 hc0 (Fnl (Fnl (Fa (by simp[new7,e7,noHeap, *]:0=(new7 h hd).fst.C.pw) (Fa (by simp[new7,e7,noHeap, *]:0=(new7 h hd).fst.C.pg) (Fa (by simp[new7,e7,noHeap, *]:[]=List.map wdv (new7 h hd).fst.W) (Fa (by simp[new7,e7,noHeap, *]:[]=List.map Page.dv (new7 h hd).fst.P) (Fa (by simp[new7,e7,noHeap, *]:0=(new7 h hd).fst.S) (Fa (by simp[new7,e7,noHeap, *]:0=(new7 h hd).fst.B) (Fa (by simp[new7,e7,noHeap, *]:0=(new7 h hd).snd.fst) (Fa (by simp[new7,e7,noHeap, *]:3=(new7 h hd).snd.snd) Fz))))))))))))
    ·rw[show new7 h hd=((Z1o (Z0C h (sizeH hd) (need h.C (sizeH hd))).fst (Z0C h (sizeH hd) (need h.C (sizeH hd))).snd.fst hd).fst,(Z0C h (sizeH hd) (need h.C (sizeH hd))).snd.fst,(0:Int))from by simp[new7,e7,noHeap, *]];exact gF [] Tryz.func115 [] (Q0 (Ff 47 hc0 (Fc 53 (@Zfd ((Z0C h (sizeH hd) (need h.C (sizeH hd))).fst) ((Z0C h (sizeH hd) (need h.C (sizeH hd))).snd.fst) hd aa oq aa) Fz)))
   ·have e7:put7 h hd=Z0p h (sizeH hd):=by rw[put7,if_neg hn]
    have Q1 {h_ c_ p_} (r_:Fq h_ c_ p_):=Fc 13 (@Z0k h) (FcG 19 (!!Z03 h) (fun hg=>by(try simp only[bs]at hg);exact @Z5A h.C hd aa) (Ffs 21 (!Z03 h||!Z3s h.C hd) (Fc 24 (@Z2a hd aa) (Fc 28 (@Z4y h.C (sizeH hd)) (Fc 32 (@Z6y h (sizeH hd) aa oq) (Ffb 37 (decide (0<need h.C (sizeH hd))) r_))))));rcases bb (!(Z0p h (sizeH hd)).snd.snd)with hc0 | hc0<;>have hc0p:=hc0<;>simp only[bs]at hc0p
    ·exact gF [] Tryz.func115 (fO 5) (Q1 (Ft 47 hc0 (Fnl (Fnl (Fa (by simp[new7,e7,noHeap, *]:0=(new7 h hd).fst.C.pw) (Fa (by simp[new7,e7,noHeap, *]:0=(new7 h hd).fst.C.pg) (Fa (by simp[new7,e7,noHeap, *]:[]=List.map wdv (new7 h hd).fst.W) (Fa (by simp[new7,e7,noHeap, *]:[]=List.map Page.dv (new7 h hd).fst.P) (Fa (by simp[new7,e7,noHeap, *]:0=(new7 h hd).fst.S) (Fa (by simp[new7,e7,noHeap, *]:0=(new7 h hd).fst.B) (Fa (by simp[new7,e7,noHeap, *]:0=(new7 h hd).snd.fst) (Fa (by simp[new7,e7,noHeap, *]:3=(new7 h hd).snd.snd) Fz))))))))))))
    ·rw[show new7 h hd=((Z1o (Z0p h (sizeH hd)).fst (Z0p h (sizeH hd)).snd.fst hd).fst,(Z0p h (sizeH hd)).snd.fst,(0:Int))from by simp[new7,e7,noHeap, *]];exact gF [] Tryz.func115 [] (Q1 (Ff 47 hc0 (Fc 53 (@Zfd ((Z0p h (sizeH hd)).fst) ((Z0p h (sizeH hd)).snd.fst) hd aa oq aa) Fz)))
 ·have hf:Z03 h=false:=by simpa using hp
  have e7:new7 h hd=(noHeap,0,1):=by rw[new7,if_neg (by rw[hf];simp)]
  rw[e7];exact gF [] Tryz.func115 [] (Fc 13 (@Z0k h) (FcG 19 (!!Z03 h) (fun hg=>by(try simp only[bs]at hg);exact @Z5A h.C hd aa) (Fts 21 (!Z03 h||!Z3s h.C hd) (Fnl (Fnl Fz)))))
theorem Z3b(h:Header)(hm:0≤h.map∧h.map≤4294967295):GP 125 [h.av] true (bool (Z0h h)) []:=by
 have hs:=fun q=>ZoN (n:=h.length) q;have ho:0≤h.length→h.length≤32→ones h.length=2^h.length.toNat-1:=fun h0 h1=>by rw[ones,Nat.min_eq_left oq]
 rcases Bool.eq_false_or_eq_true (decide (h.K<(0:Int))||decide ((3:Int)<h.K)||decide (h.length<(0:Int))||decide ((255:Int)<h.length))with hc0 | hc0
 ·have hc0p:=hc0;simp only[bs]at hc0p;refine gspec_ofE [((20:Nat),[Hint.br true])] [] [] dd Tryz.func125 [false,false,false,false,false,false,false,false,false,true] (φ:=(decide (h.K<(0:Int))||decide ((3:Int)<h.K)||decide (h.length<(0:Int))||decide ((255:Int)<h.length))=true∧true=true∧false=Z0h h) ?_ kr kr;exact⟨aa,rfl,(by(simp[Z0h, *];omega))⟩
 ·have hc0p:=hc0;simp only[bs]at hc0p;obtain⟨⟨⟨hc0paaa,hc0paab⟩,hc0pab⟩,hc0pb⟩:=hc0p;rcases Bool.eq_false_or_eq_true (h.K==(1:Int))with hc1 | hc1
  ·have hc1p:=hc1;simp only[bs]at hc1p;refine gspec_ofE [((20:Nat),[Hint.br false]),((23:Nat),[Hint.br true]),((30:Nat),[Hint.int h.map]),((33:Nat),[Hint.call true (u64 (ones h.length)) []])] [] [] dd Tryz.func125 [false,false,false,false,false,false,false,false,false,false,false,false,false,false,false,false,true] (φ:=(decide (h.K<(0:Int))||decide ((3:Int)<h.K)||decide (h.length<(0:Int))||decide ((255:Int)<h.length))=false∧false=false∧(h.K==(1:Int))=true∧true=true∧(decide (h.length≤(32:Int))=true→IntKind.u64.wrap h.map=h.map)∧(decide (h.length≤(32:Int))=true→GP 163 [int h.length] true (u64 (ones h.length)) [])∧(decide (h.length≤(32:Int))&&decide (h.map≤ones h.length))=Z0h h) ?_ kr kr;exact⟨aa,rfl,aa,rfl,(by intro hg;(try simp only[bs]at hg);exact wrapU2 rfl oq oq),(fun hg=>by(try simp only[bs]at hg);exact @Z3z (h.length)),(by grind[Z0h])⟩
  ·have hc1p:=hc1;simp only[bs]at hc1p;refine gspec_ofE [((20:Nat),[Hint.br false]),((23:Nat),[Hint.br false])] [] [] dd Tryz.func125 [false,false,false,false,false,false,false,false,false,true] (φ:=(decide (h.K<(0:Int))||decide ((3:Int)<h.K)||decide (h.length<(0:Int))||decide ((255:Int)<h.length))=false∧false=false∧(h.K==(1:Int))=false∧false=false∧(h.K==h.K&&(h.length==h.length&&h.map==(0:Int)))=Z0h h) ?_ kr kr;exact⟨aa,rfl,aa,rfl,(by grind[Z0h])⟩
theorem Z0Q(h:Header)(hm:0≤h.map∧h.map≤4294967295):GP 74 [h.av] true (int (sizeH h)) []:=by
 rcases Bool.eq_false_or_eq_true (!Z0h h)with hc0 | hc0
 ·have hc0p:=hc0;simp only[bs]at hc0p;refine gspec_ofE [((4:Nat),[Hint.call true (Sx.bool (Z0h h)) []]),((5:Nat),[Hint.br true])] [] [] dd Tryz.func74 [true] (φ:=GP 125 [h.av] true (Sx.bool (Z0h h)) []∧(!Z0h h)=true∧true=true∧(0:Int)=sizeH h) ?_ kr kr;exact⟨(@Z3b (h) aa),aa,rfl,(by simp[sizeH, *])⟩
 ·have hc0p:=hc0;simp only[bs]at hc0p;have hf3:=validH_iff.1 hc0p;obtain⟨hf3a,⟨hf3ba,⟨hf3bba,⟨hf3bbba,hf3bbbb⟩⟩⟩⟩:=hf3;refine gspec_ofE [((4:Nat),[Hint.call true (Sx.bool (Z0h h)) []]),((5:Nat),[Hint.br false]),((8:Nat),[Hint.int (h.length+(1:Int))])] [] [] dd Tryz.func74 [true] (φ:=GP 125 [h.av] true (Sx.bool (Z0h h)) []∧(!Z0h h)=false∧false=false∧IntKind.i64.wrap (h.length+(1:Int))=h.length+(1:Int)∧h.length+(1:Int)=sizeH h) ?_ kr kr;exact⟨(@Z3b (h) aa),aa,rfl,(by exact wrapI2 rfl oq oq),(by simp[sizeH, *])⟩
theorem Z7g(ws:List Int)(a n:Int)(hw:ws.length≤1048576)(h0:0≤a∧a≤18446744073709551615):GP 162 [Z02 ws,u64 a,int n] true (.tu [int (Z0c ws a n).1,bool (Z0c ws a n).2]) []:=by
 have Q0 {h_ c_ p_} (r_:Fq h_ c_ p_):=FvG 13 (!decide (a<4096)) (a-4096) (FlG 15 (!decide (a<4096)) wdv ws (FvG 16 (!decide (a<4096)) (↑ws.length) r_));rcases bb (decide (a<4096)||decide ((↑ws.length:Int)<a-4096))with hc0 | hc0<;>have hc0p:=hc0<;>simp only[bs]at hc0p
 ·rw[show Z0c ws a n=((0:Int),false)from by(simp[Z0c, *];omega)];exact gF [] Tryz.func162 [] (Q0 (Ft 18 hc0 Fz))
 ·obtain⟨hc0pa,hc0pb⟩:=hc0p;rw[show Z0c ws a n=(a-(4096:Int),decide (n≤(↑ws.length:Int)-(a-(4096:Int))))from by(simp[Z0c, *];omega)];exact gF [] Tryz.func162 [] (Q0 (Ff 18 hc0 (Fv 20 (a-4096) (Fi 21 (a-4096) (Fl 25 wdv ws (Fi 27 ((↑ws.length:Int)-(a-4096)) Fz))))))
theorem Zak(ws:List Int)(a:Int)(hw:ws.length≤1048576)(h0:0≤a∧a≤18446744073709551615):GP 156 [Z02 ws,u64 a] true (.tu [int (Z0X ws a).1,int (Z0X ws a).2]) []:=by
 have Q0 {h_ c_ p_} (r_:Fq h_ c_ p_):=Fc 11 (@Z7g ws a (1) aa aa) r_;rcases bb (!(Z0c ws a 1).snd)with hc0 | hc0<;>have hc0p:=hc0<;>simp only[bs]at hc0p
 ·rw[show Z0X ws a=((0:Int),(2:Int))from by grind[Z0c,Z0X]];exact gF [] Tryz.func156 [] (Q0 (Ft 15 hc0 Fz))
 ·rw[show Z0X ws a=((Z0c ws a (1:Int)).fst,(0:Int))from by grind[Z0c,Z0X]];exact gF [] Tryz.func156 [] (Q0 (Ff 15 hc0 Fz))
theorem Z6Y(ws:List Int)(a:Int)(hw:ws.length≤1048576)(h0:0≤a∧a≤18446744073709551615):GP 113 [Z02 ws,u64 a] true (.tu [u64 (loadA ws a).1,int (loadA ws a).2]) []:=by
 rcases bb ((Z0X ws a).snd != 0)with hc0 | hc0<;>have hc0p:=hc0<;>simp only[bs]at hc0p
 ·have hf3:=ZcJ hc0p;obtain⟨hf3a,hf3b⟩:=hf3;rw[show loadA ws a=((0:Int),(Z0X ws a).snd)from by simp[loadA, *]];exact gF [] Tryz.func113 [] (Fc 11 (@Zak ws a aa aa) (Ft 15 hc0 Fz))
 ·have hf5:=ZcB hc0p;obtain⟨hf5a,⟨hf5ba,hf5bb⟩⟩:=hf5;rw[show loadA ws a=(ws.getD (Z0X ws a).fst.toNat default,(0:Int))from by simp[loadA, *]];refine gspec_ofE [((11:Nat),[Hint.call true (AV.tu [int (Z0X ws a).fst,int (Z0X ws a).snd]) []]),((15:Nat),[Hint.br false]),((19:Nat),[Hint.el (wdv (ws.getD (Z0X ws a).fst.toNat default))])] [] [] dd Tryz.func113 [] (φ:=GP 156 [Z02 ws,u64 a] true (AV.tu [int (Z0X ws a).fst,int (Z0X ws a).snd]) []∧((Z0X ws a).snd != (0:Int))=false∧false=false∧(0:Int)≤(Z0X ws a).fst∧(List.map wdv ws)[(Z0X ws a).fst.toNat]? = some (wdv (ws.getD (Z0X ws a).fst.toNat default))) ?_ kr kr;exact⟨(@Zak (ws) (a) aa aa),aa,rfl,(by exact elI oq oq oq)⟩
def upS(w:Int):Nat→Int
 | 0=>w
 | 1=>w/4
 | 2=>w/16
 | 3=>w/65536
 | _=>w/281474976710656
def upO(w:Int):List Int:=[w%4,w/4%4,w/16%4096,w/65536%4294967296]
def upL1(w:Int)(i:Nat):Tg:=⟨tm 49 [(0,u64 w),(1,Z0t [2,2,12,32]),(4,.d (.sl 0 [])),(5,int 0),(6,int ([64,62,60,48,16].getD i 0)),(12,Z0t [2,2,12,32]),(13,int 4),(14,int i)],[],20⟩
theorem Zkq(w:Int)(i:Nat)(hi:i<4):CP (rndF Tryz.f174 0) (upL1 w i).st .nrm (upL1 w (i+1)).st:=by
 have h:i=0∨i=1∨i=2∨i=3:=by omega
 rcases h with rfl | rfl | rfl | rfl
 ·refine stretchE [((16:Nat),[Hint.el (idv (2:Int))])] [] [] [] (φ:=(0:Int)≤(↑(0:Nat):Int)∧(List.map idv [(2:Int),(2:Int),(12:Int),(32:Int)])[(↑(0:Nat):Int).toNat]? = some (idv (2:Int))) ?_ kr kr kr;exact(by simp[*])
 ·refine stretchE [((16:Nat),[Hint.el (idv (2:Int))])] [] [] [] (φ:=(0:Int)≤(↑(1:Nat):Int)∧(List.map idv [(2:Int),(2:Int),(12:Int),(32:Int)])[(↑(1:Nat):Int).toNat]? = some (idv (2:Int))) ?_ kr kr kr;exact(by simp[*])
 ·refine stretchE [((16:Nat),[Hint.el (idv (12:Int))])] [] [] [] (φ:=(0:Int)≤(↑(2:Nat):Int)∧(List.map idv [(2:Int),(2:Int),(12:Int),(32:Int)])[(↑(2:Nat):Int).toNat]? = some (idv (12:Int))) ?_ kr kr kr;exact(by simp[*])
 ·refine stretchE [((16:Nat),[Hint.el (idv (32:Int))])] [] [] [] (φ:=(0:Int)≤(↑(3:Nat):Int)∧(List.map idv [(2:Int),(2:Int),(12:Int),(32:Int)])[(↑(3:Nat):Int).toNat]? = some (idv (32:Int))) ?_ kr kr kr;exact(by simp[*])
theorem ZoV(w:Int):CP (rndF Tryz.f174 0) (upL1 w 4).st (.ext 0) (Tg.st ⟨tm 49 [(0,u64 w),(1,Z0t [2,2,12,32]),(4,.d (.sl 0 [])),(5,int 0)],[],60⟩):=by
 exact sF [] [] Fz
def Zk4(w:Int)  := Z0b (S:=fun i=>(upL1 w i).st) 4 (by kernel_rfl) (fun i hi=>Zkq w i hi) (ZoV w)
def upL2(w:Int)(i:Nat):Tg:=⟨tm 49 [(0,u64 (upS w i)),(4,.d (.sl 0 [])),(5,int 0),(9,.ow 480009),(29,Z0t [2,2,12,32]),(30,int 4),(31,int i)],[(480009,.arr 35 1 (((upO w).take i).map wdv))],60⟩
theorem Zmo(w:Int)(i:Nat)(h0:0≤w)(h1:w≤18446744073709551615)(hi:i<4):CP (rndF Tryz.f174 2) (upL2 w i).st .nrm (upL2 w (i+1)).st:=by
 have o1:ones 2=3:=by decide
 have o2:ones 12=4095:=by decide
 have o3:ones 32=4294967295:=by decide
 have a0:bits .and .u64 w (ones 2)=w%4:=by rw[o1];exact Z3i 2 dd dd oq oq
 have a1:bits .and .u64 (w/4) (ones 2)=w/4%4:=by rw[o1];exact Z3i 2 dd dd oq oq
 have a2:bits .and .u64 (w/16) (ones 12)=w/16%4096:=by rw[o2];exact Z3i 12 dd dd oq oq
 have a3:bits .and .u64 (w/65536) (ones 32)=w/65536%4294967296:=by rw[o3];exact Z3i 32 dd dd oq oq
 have f1:(w/4).fdiv 4=w/16:=by rw[Int.fdiv_eq_ediv_of_nonneg _ dd];omega
 have f2:(w/16).fdiv 4096=w/65536:=by rw[Int.fdiv_eq_ediv_of_nonneg _ dd];omega
 have f3:(w/65536).fdiv 4294967296=w/281474976710656:=by rw[Int.fdiv_eq_ediv_of_nonneg _ dd];omega
 have h:i=0∨i=1∨i=2∨i=3:=by omega
 rcases h with rfl | rfl | rfl | rfl
 ·exact sF [(496041,480009)] [] (Fh 33 [.el (idv 2)] (Fa (by simp[upS,upO, *]:0≤(↑(0:Nat):Int)∧(List.map idv [2,2,12,32])[(↑(0:Nat):Int).toNat]? = some (idv 2)) (Fc 38 (@Z3z (2)) (Fg 39 (by assumption:bits BinOp.and IntKind.u64 (upS w 0) (ones (2:Int))=upS w 0%4) (Fs 40 (List.map wdv [upS w 0%4]) (Fa (by simp[upS,upO, *]:(List.map wdv (List.take 0 (upO w))).length+(List.map wdv [upS w 0%4]).length≤2^30) (Fs 41 (List.map wdv [upS w 0%4]) (Fg 44 (by exact Z5i rfl dd:(upS w 0).fdiv (2^min (Int.toNat 2) 64)=upS w 0/4) (Fo ((0:Int)≤2) Fz)))))))))
 ·exact sF [(496041,480009)] [true] (Fh 33 [.el (idv 2)] (Fa (by simp[upS,upO, *]:0≤(↑(1:Nat):Int)∧(List.map idv [2,2,12,32])[(↑(1:Nat):Int).toNat]? = some (idv 2)) (Fc 38 (@Z3z (2)) (Fg 39 (by assumption:bits BinOp.and IntKind.u64 (upS w 1) (ones (2:Int))=upS w 1%4) (Fs 40 (List.map wdv [upS w 1%4]) (Fa (by simp[upS,upO, *]:(List.map wdv (List.take 1 (upO w))).length+(List.map wdv [upS w 1%4]).length≤2^30) (Fs 41 (List.map wdv [w%4,upS w 1%4]) (Fg 44 (by exact Z5i rfl dd:(upS w 1).fdiv (2^min (Int.toNat 2) 64)=upS w 1/4) (Fo ((0:Int)≤2) (Fa (by(simp[upS,upO, *];omega):upS w 1/4=upS w (1+1)) Fz))))))))))
 ·exact sF [(496041,480009)] [true] (Fh 33 [.el (idv 12)] (Fa (by simp[upS,upO, *]:0≤(↑(2:Nat):Int)∧(List.map idv [2,2,12,32])[(↑(2:Nat):Int).toNat]? = some (idv 12)) (Fc 38 (@Z3z (12)) (Fg 39 (by assumption:bits BinOp.and IntKind.u64 (upS w 2) (ones (12:Int))=upS w 2%4096) (Fs 40 (List.map wdv [upS w 2%4096]) (Fa (by simp[upS,upO, *]:(List.map wdv (List.take 2 (upO w))).length+(List.map wdv [upS w 2%4096]).length≤2^30) (Fs 41 (List.map wdv [w%4,w/4%4,upS w 2%4096]) (Fg 44 (by exact Z5i rfl dd:(upS w 2).fdiv (2^min (Int.toNat 12) 64)=upS w 2/4096) (Fo ((0:Int)≤12) (Fa (by(simp[upS,upO, *];omega):upS w 2/4096=upS w (2+1)) Fz))))))))))
 ·exact sF [(496041,480009)] [true] (Fh 33 [.el (idv 32)] (Fa (by simp[upS,upO, *]:0≤(↑(3:Nat):Int)∧(List.map idv [2,2,12,32])[(↑(3:Nat):Int).toNat]? = some (idv 32)) (Fc 38 (@Z3z (32)) (Fg 39 (by assumption:bits BinOp.and IntKind.u64 (upS w 3) (ones (32:Int))=upS w 3%4294967296) (Fs 40 (List.map wdv [upS w 3%4294967296]) (Fa (by simp[upS,upO, *]:(List.map wdv (List.take 3 (upO w))).length+(List.map wdv [upS w 3%4294967296]).length≤2^30) (Fs 41 (List.map wdv [w%4,w/4%4,w/16%4096,upS w 3%4294967296]) (Fg 44 (by exact Z5i rfl dd:(upS w 3).fdiv (2^min (Int.toNat 32) 64)=upS w 3/4294967296) (Fo ((0:Int)≤32) (Fa (by(simp[upS,upO, *];omega):upS w 3/4294967296=upS w (3+1)) Fz))))))))))
theorem ZoT(w:Int):CP (rndF Tryz.f174 2) (upL2 w 4).st (.ext 2) (Tg.st ⟨tm 49 [(0,u64 (w/281474976710656)),(4,.d (.sl 0 [])),(5,int 0),(9,.ow 480009)],[(480009,.arr 35 1 ((upO w).map wdv))],60⟩):=by
 exact sF [] [] Fz
def Zjh(w:Int)(h0:0≤w)(h1:w≤18446744073709551615)  := Z0b (S:=fun i=>(upL2 w i).st) 4 (by kernel_rfl) (fun i hi=>Zmo w i h0 h1 hi) (ZoT w)
theorem ZeF(w:Int)(h0:0≤w)(h1:w≤18446744073709551615)(h:w<281474976710656):GP 174 [u64 w,Z0t [2,2,12,32]] true (.tu [Z02 (upO w),int 0]) []:=by
 exact gF [] Tryz.func174 [] (Fh 9 [.own] (Fu (@Zk4 w) (Fu (@Zjh w aa aa) (Ffb 47 (w/(281474976710656:Int) != 0) (Fa (by exact Z2G _:Z0T (List.map wdv (upO w))) Fz)))))
theorem ZlJ(w:Int)(h0:0≤w)(h1:w≤18446744073709551615)(h:¬ w<281474976710656):GP 174 [u64 w,Z0t [2,2,12,32]] true (.tu [Z02 [],int 2]) []:=by
 exact gF [] Tryz.func174 [] (Fh 9 [.own] (Fu (@Zk4 w) (Fu (@Zjh w aa aa) (Ftb 47 (w/(281474976710656:Int) != 0) (Fnl Fz)))))
theorem Zcz(w:Int)(h0:0≤w):decodeH w=if w<281474976710656∧w%4=1∧Z0h (Z32 w)=true then(Z32 w,true)else(Z27,false):=by
 have k1:(Z32 w).K=w/4%4:=rfl;have k2:(Z32 w).length=w/16%4096:=rfl;have k3:(Z32 w).map=w/65536%4294967296:=rfl;by_cases hv:Z0h (Z32 w)=true
 ·have e:Z0d (Z32 w)=(1+4*(Z32 w).K+16*(Z32 w).length+65536*(Z32 w).map,0):=by rw[Z0d,if_pos hv]
  by_cases hc:w<281474976710656∧w%4=1
  ·rw[decodeH,e,if_pos ⟨rfl,by simp only;omega⟩,if_pos ⟨hc.1,hc.2,hv⟩]
  ·rw[decodeH,e,if_neg (by simp only;omega),if_neg (fun q=>hc ⟨q.1,q.2.1⟩)]
 ·have e:Z0d (Z32 w)=(0,1):=by rw[Z0d,if_neg hv]
  rw[decodeH,e,if_neg pq,if_neg (fun q=>hv q.2.2)]
theorem Z0O(w:Int)(h0:0≤w)(h1:w≤18446744073709551615):GP 141 [u64 w] true (.tu [(decodeH w).1.av,bool (decodeH w).2]) []:=by
 have hm:=Z8u w h0;rw[Zcz w h0];have u0:(upO w).getD 0 default=w%4:=rfl;have u1:(upO w).getD 1 default=w/4%4:=rfl;have u2:(upO w).getD 2 default=w/16%4096:=rfl;have u3:(upO w).getD 3 default=w/65536%4294967296:=rfl;have uL:(upO w).length=4:=rfl;have k1:(Z32 w).K=w/4%4:=rfl;have k2:(Z32 w).length=w/16%4096:=rfl;have k3:(Z32 w).map=w/65536%4294967296:=rfl;by_cases ha:w<281474976710656
 ·by_cases hb:w%4=1
  ·by_cases hv:Z0h (Z32 w)=true
   ·rw[if_pos ⟨ha,hb,hv⟩];have hv2:Z0h ⟨w/4%4,w/16%4096,w/65536%4294967296⟩=true:=hv;exact gF [] Tryz.func141 [] (Fh 17 [.el (wdv ((upO w).getD 0 default))] (Fh 23 [.el (wdv ((upO w).getD 1 default))] (Fh 27 [.el (wdv ((upO w).getD 2 default))] (Fh 31 [.el (wdv ((upO w).getD 3 default))] (Fs 9 (List.map idv [2,2,12,32]) (Fc 10 (@ZeF w aa aa aa) (Fa (by intro hg;(try simp only[bs]at hg);exact elI oq oq oq:(!(0:Int) != 0)=true→(0:Int)≤0∧(List.map wdv (upO w))[Int.toNat 0]? = some (wdv ((upO w).getD 0 default))) (Ffb 20 ((upO w).getD 0 default != 1) (Fa (by exact elI oq oq oq:(0:Int)≤1∧(List.map wdv (upO w))[Int.toNat 1]? = some (wdv ((upO w).getD 1 default))) (Fi 25 ((upO w).getD 1 default) (Fa (by exact elI oq oq oq:(0:Int)≤2∧(List.map wdv (upO w))[Int.toNat 2]? = some (wdv ((upO w).getD 2 default))) (Fi 29 ((upO w).getD 2 default) (Fa (by exact elI oq oq oq:(0:Int)≤3∧(List.map wdv (upO w))[Int.toNat 3]? = some (wdv ((upO w).getD 3 default))) (Fg 33 (by exact Zc1 oq oq:IntKind.u32.wrap ((upO w).getD 3 default)=(upO w).getD 3 default) (Fc 36 (@Z3b (Header.mk ((upO w).getD 1 default) ((upO w).getD 2 default) ((upO w).getD 3 default)) aa) (Ffs 37 (!Z0h (Header.mk ((upO w).getD 1 default) ((upO w).getD 2 default) ((upO w).getD 3 default))) Fz))))))))))))))))
   ·rw[if_neg (by simp[hv])];have hv':Z0h ⟨w/4%4,w/16%4096,w/65536%4294967296⟩=false:=eq_false_of_ne_true hv;exact gF [] Tryz.func141 [] (Fh 17 [.el (wdv ((upO w).getD 0 default))] (Fh 23 [.el (wdv ((upO w).getD 1 default))] (Fh 27 [.el (wdv ((upO w).getD 2 default))] (Fh 31 [.el (wdv ((upO w).getD 3 default))] (Fs 9 (List.map idv [2,2,12,32]) (Fc 10 (@ZeF w aa aa aa) (Fa (by intro hg;(try simp only[bs]at hg);exact elI oq oq oq:(!(0:Int) != 0)=true→(0:Int)≤0∧(List.map wdv (upO w))[Int.toNat 0]? = some (wdv ((upO w).getD 0 default))) (Ffb 20 ((upO w).getD 0 default != 1) (Fa (by exact elI oq oq oq:(0:Int)≤1∧(List.map wdv (upO w))[Int.toNat 1]? = some (wdv ((upO w).getD 1 default))) (Fi 25 ((upO w).getD 1 default) (Fa (by exact elI oq oq oq:(0:Int)≤2∧(List.map wdv (upO w))[Int.toNat 2]? = some (wdv ((upO w).getD 2 default))) (Fi 29 ((upO w).getD 2 default) (Fa (by exact elI oq oq oq:(0:Int)≤3∧(List.map wdv (upO w))[Int.toNat 3]? = some (wdv ((upO w).getD 3 default))) (Fg 33 (by exact Zc1 oq oq:IntKind.u32.wrap ((upO w).getD 3 default)=(upO w).getD 3 default) (Fc 36 (@Z3b (Header.mk ((upO w).getD 1 default) ((upO w).getD 2 default) ((upO w).getD 3 default)) aa) (Fts 37 (!Z0h (Header.mk ((upO w).getD 1 default) ((upO w).getD 2 default) ((upO w).getD 3 default))) Fz))))))))))))))))
  ·rw[if_neg (by simp[hb])];exact gF [] Tryz.func141 [] (Fh 17 [.el (wdv ((upO w).getD 0 default))] (Fs 9 (List.map idv [2,2,12,32]) (Fc 10 (@ZeF w aa aa aa) (Fa (by intro hg;(try simp only[bs]at hg);exact elI oq oq oq:(!(0:Int) != 0)=true→(0:Int)≤0∧(List.map wdv (upO w))[Int.toNat 0]? = some (wdv ((upO w).getD 0 default))) (Ftb 20 ((upO w).getD 0 default != 1) Fz)))))
 ·rw[if_neg (by simp[ha])];exact gF [] Tryz.func141 [] (Fh 17 [.el (wdv ([].getD 0 default))] (Fs 9 (List.map idv [2,2,12,32]) (Fc 10 (@ZlJ w aa aa aa) (Fa (by intro hg;(try simp only[bs]at hg);exact elI oq oq oq:(!(2:Int) != 0)=true→(0:Int)≤0∧(List.map wdv [])[Int.toNat 0]? = some (wdv ([].getD 0 default))) Fz))))
end Go.Proofs.YtdhchmlalchgeaaGreat
namespace Go.Sx
def Zm7(H:Heap)(x:AV):Option AV:=match x with
 | .d x=>some (.d x)
 | .rp e o=>some (.rp e o)
 | .ow b=>match Nat.ble 8000 b with
  | true=>match H b with | some (.arr _ s els)=>some (.d (.sl s els)) | _=>none
  | false=>none
 | .os b o n=>match Nat.ble 8000 b with
  | true=>match H b with | some (.arr _ s els)=>some (.d (.sl s ((els.drop o).take n))) | _=>none
  | false=>none
 | _=>none
theorem ZkY{P:Program}{f:Nat}{e0 e1:List DV}{t0 t1:Nat}{x:Value}(hx:x.oneCell'=true)(h:GSpec P f [.rp e0 0,.rp e1 0] true (.d (.sc x)) []) :
  LentSpec P f [.pt 0 0 0,.pt 1 0 0] [.box t0 (e0.map .d),.box t1 (e1.map .d)] (.d (.sc x)) [.box t0 (e0.map .d),.box t1 (e1.map .d)]:=by
 intro w Im ρ vs hIm hsz hρ hinj hbnd hpre hargs;have box:∀ (k:Nat) (e:List DV) (t:Nat) (v:Value) (Im2:Nat→Prop),(∀ g,Im g→Im2 g)→(∀ β g,ρ k=some β→β.g=some g→Im2 g)→(∃ β,ρ k=some β∧RelB ρ w Im β (.box t (e.map .d)))→Rel ρ w Im (.pt k 0 0) v→Rel (fun _=>none) w Im2 (.rp e 0) v:=by
  intro k e t v Im2 hi hg hb hv;obtain⟨β,hβ,r⟩:=hb;obtain⟨g,s,n,k1,rfl⟩:=Z2L hv;rw[hβ]at k1;cases k1;obtain⟨r1,r2,g2,cs,r3,r4,r5,r6,r7⟩:=r;cases r3;have:=@Rel.rp (fun _=>none) w Im2 e 0 ⟨g,0,none⟩ rfl (hg _ _ hβ rfl) (fun j y hy=>by
   have hj:j<e.length:=(List.getElem?_eq_some_iff.1 hy).1;have hc:j<cs.size:=by rw[r5];simpa using hj
   have h1:cs[j]? = some cs[j]:=Array.getElem?_eq_getElem hc;have h2:=r7 j (.d y) cs[j] (by simp[hy]) h1;refine⟨cs[j], ?_, ?_⟩
   ·simp only[World.cell?,r4];simpa using h1
   ·cases h2 with
    | d h2=>exact h2.mono (Ext.refl _ _) hi)
  simpa using this
 refine(h w (fun g=>Im g∨∃ k β,ρ k=some β∧β.g=some g) vs ?_ hsz ?_).mono ?_
 ·rintro g (hg | ⟨k,β,h1,h2⟩)
  ·exact hIm g hg
  ·exact(hbnd k β g h1 h2).1
 ·intro i y v hy hv;cases i with
  | zero =>
   simp at hy;subst hy;exact box 0 e0 t0 v _ (fun g hg=>.inl hg) (fun β g h1 h2=>.inr ⟨0,β,h1,h2⟩) (hpre 0 _ rfl) (hargs 0 _ v rfl hv)
  | succ i=>cases i with
   | zero =>
    simp at hy;subst hy;exact box 1 e1 t1 v _ (fun g hg=>.inl hg) (fun β g h1 h2=>.inr ⟨1,β,h1,h2⟩) (hpre 1 _ rfl) (hargs 1 _ v rfl hv)
   | succ i=>simp at hy
 ·rintro e w' ⟨v,rfl,hk,ρ',Im',_,_,_,_,_,_,hr⟩;have hv:=Z12 hr;subst hv;have ext:Ext Im w w':=⟨hk.size,fun g hg=>hk.block g (hIm g hg) (fun q=>q),hk.rows⟩
  refine⟨_,rfl,⟨hk.os,hk.tape,hk.output,hk.size,fun k h1 _=>hk.block k h1 (fun q=>q),hk.rows⟩,ρ,Im,fun _ _ h=>h,hρ,fun g hg=>.inl hg,fun g hg=>Nat.lt_of_lt_of_le (hIm g hg) hk.size,
   fun k β g h1 h2=>⟨Nat.lt_of_lt_of_le (hbnd k β g h1 h2).1 hk.size,.inr ⟨k,β,h1,h2⟩⟩,fun k β g _ h1 h2=>(hbnd k β g h1 h2).2,fun k k' β β' g _ _=>hinj k k' β β' g, ?_,.d (.sc _ hx)⟩
  intro k B hB;obtain⟨β,b1,b2⟩:=hpre k B hB;exact⟨β,b1,b2.mono ext (fun _ h=>h) (fun _ _ h=>h) (fun b β g h1 h2=>(hbnd b β g h1 h2).1) (fun g hg=>hk.block g (hbnd k β g b1 hg).1 (fun q=>q))⟩
theorem Z6a{P:Program}{f s:Nat}{fr:Bool}{res:AV}{news:List Blk}(h:∀ (p:Option Addr) (c:Nat),GSpec P f [.d (.sc (.slice p 0 c))] fr res news):GSpec P f [.d (.sl s [])] fr res news:=by
 intro w Im vs hI hn hr;have h0:vs.size=1:=hn;obtain⟨v,hv⟩:∃ v,vs[0]? = some v:=⟨vs[0]' oq,by simp⟩
 have key:∀ (p:Option Addr) (c:Nat),v = .slice p 0 c→Calls P f vs w fun e w'=>∃ v,e = .returned v∧Ze6 w Im fr res news v w':=fun p c e=>by
  refine h p c w Im vs hI hn fun i x u hx hu=>?_
  match i with
  | 0 =>
   simp only[List.getElem?_cons_zero,Option.some.injEq]at hx;rw[hv]at hu;cases hu;subst hx;subst e;exact .d (.sc _ rfl)
  | i+1=>simp at hx
 have h1:=hr 0 _ v rfl hv;cases h1 with
 | d h1 =>
  generalize he:([]:List (List DV))=l at h1;cases h1 with
  | slNil s p c=>exact key p c rfl
  | sl s els p n c fn hn=>subst he;simp at hn;subst hn;exact key _ c rfl
end Go.Sx
namespace Go.Proofs.YtdhchmlalchgeaaGreat
open Go.Sx
def Heap.dvs(h:Heap):List DV:=[.sc (.int .i64 h.C.pw),.sc (.int .i64 h.C.pg),.sl 1 (h.W.map wdv),.sl 4 (h.P.map Page.dv),.sc (.int .i64 h.S),.sc (.int .i64 h.B)]
theorem Zgp(h:Heap)(a:Int)(hl:h.W.length≤1048576)(h0:0≤a∧a≤18446744073709551615):GP 154 [.rp [.sc (.int .i64 h.C.pw),.sc (.int .i64 h.C.pg),.sl 1 (h.W.map wdv),.sl 4 (h.P.map Page.dv),.sc (.int .i64 h.S),.sc (.int .i64 h.B)] 0,.rp [.sc (.int .u64 a)] 0] true (u64 (loadA h.W a).1) []:=by
 exact gF [] Tryz.func154 [] (Fc 9 (@Z6Y h.W a aa aa) Fz)
theorem Z23(h:Heap)(a:Int)(hl:h.W.length≤1048576)(h0:0≤a∧a≤18446744073709551615):LP 154 [.pt 0 0 0,.pt 1 0 0] [.box 28 h.cells,.box 35 [u64 a]] (u64 (loadA h.W a).1) [.box 28 h.cells,.box 35 [u64 a]] :=
 ZkY (e0:=h.dvs) (e1:=[.sc (.int .u64 a)]) rfl (Zgp h a hl h0)
theorem Z44(h:Heap)(a:Int)(hw:WOk h.W)(h0:0≤a∧a≤18446744073709551615):GP 111 [h.av,u64 a] true (.tu [(atH h a).1.av,int (atH h a).2]) []:=by
 have hv:=Z0F hw a;have hm:=Z1F (loadA h.W a).1 hv.1;by_cases hp:Z03 h=true
 ·have po:=Z06 hp;by_cases ho:(ofA h.C a).2.2=0
  ·have oo:=Z2y po.1 ho;have hz:(decodeH (loadA h.W a).1).2=true→sizeH (decodeH (loadA h.W a).1).1=(decodeH (loadA h.W a).1).1.length+1∧0≤(decodeH (loadA h.W a).1).1.length∧(decodeH (loadA h.W a).1).1.length≤255:=fun e=>by
    have hv:=Z7x e;have:=validH_iff.1 hv;rw[sizeH,if_pos hv];omega
   have pp:=Z0D hp (j:=(ofA h.C a).1.toNat) oq;by_cases c3:((h.P.getD (ofA h.C a).1.toNat default).K=1∨(h.P.getD (ofA h.C a).1.toNat default).K=2)∧(ofA h.C a).2.1<(h.P.getD (ofA h.C a).1.toNat default).U∧(decodeH (loadA h.W a).1).2=true
   ·have hz':=hz c3.2.2;by_cases c4:((h.P.getD (ofA h.C a).1.toNat default).K=1∧(h.P.getD (ofA h.C a).1.toNat default).U<(ofA h.C a).2.1+sizeH (decodeH (loadA h.W a).1).1)∨((h.P.getD (ofA h.C a).1.toNat default).K=2∧((ofA h.C a).2.1≠0∨sizeH (decodeH (loadA h.W a).1).1≠(h.P.getD (ofA h.C a).1.toNat default).U))
    ·have e7:atH h a=(Z27,19):=by rw[atH,if_pos hp,if_pos ho,if_pos c3,if_pos c4]
     rw[e7];have Q0 {h_ c_ p_} (r_:Fq h_ c_ p_):=Fc 15 (@Z0I h) (Ffb 16 (!Z03 h) (Fc 22 (@Z2h h.C a oq oq) (Ffb 27 ((ofA h.C a).snd.snd != 0) (Fe 34 Page.dv h.P ((ofA h.C a).fst) (Fbq 38 [8002,8003] (@Z23 h a oq aa) (Fc 39 (@Z0O ((loadA h.W a).fst) oq oq) (Fc 43 (@Z0Q ((decodeH (loadA h.W a).fst).fst) aa) r_)))))));rcases bb (!(decodeH (loadA h.W a).fst).snd||decide ((h.P.getD (ofA h.C a).fst.toNat default).U≤(ofA h.C a).snd.fst))with hc0 | hc0<;>have hc0p:=hc0<;>simp only[bs]at hc0p
     ·exact gF [] Tryz.func111 [] (Fh 44 [.br true] (Q0 (Fa hc0 Fz)))
     ·obtain⟨hc0pa,hc0pb⟩:=hc0p;rcases bb ((h.P.getD (ofA h.C a).fst.toNat default).K==1)with hc1 | hc1<;>have hc1p:=hc1<;>simp only[bs]at hc1p
      ·let y0:=h.P.getD (ofA h.C a).fst.toNat default;exact gF [] Tryz.func111 [] (Fh 44 [.br false] (Fh 76 [.br true] (Q0 (Fa hc0 (Fa hc1 (Fi 61 (y0.U-(ofA h.C a).snd.fst) (Ftb 53 (!decide (sizeH (decodeH (loadA h.W a).fst).fst≤y0.U-(ofA h.C a).snd.fst)) Fz)))))))
      ·let y1:=h.P.getD (ofA h.C a).fst.toNat default;exact gF [] Tryz.func111 [] (Fh 44 [.br false] (Fh 53 [.br false] (Fh 76 [.br true] (Q0 (Fa hc0 (Fa hc1 (Fb ((y1.K==2)=true) (Ftb 63 (!((ofA h.C a).snd.fst==0&&sizeH (decodeH (loadA h.W a).fst).fst==y1.U)) Fz))))))))
    ·have e7:atH h a=((decodeH (loadA h.W a).1).1,0):=by rw[atH,if_pos hp,if_pos ho,if_pos c3,if_neg c4]
     rw[e7];have Q1 {h_ c_ p_} (r_:Fq h_ c_ p_):=Fc 15 (@Z0I h) (Ffb 16 (!Z03 h) (Fc 22 (@Z2h h.C a oq oq) (Ffb 27 ((ofA h.C a).snd.snd != 0) (Fe 34 Page.dv h.P ((ofA h.C a).fst) (Fbq 38 [8002,8003] (@Z23 h a oq aa) (Fc 39 (@Z0O ((loadA h.W a).fst) oq oq) (Fc 43 (@Z0Q ((decodeH (loadA h.W a).fst).fst) aa) r_)))))));rcases bb (!(decodeH (loadA h.W a).fst).snd||decide ((h.P.getD (ofA h.C a).fst.toNat default).U≤(ofA h.C a).snd.fst))with hc0 | hc0<;>have hc0p:=hc0<;>simp only[bs]at hc0p
     ·let y2:=decodeH (loadA h.W a).fst;exact gF [] Tryz.func111 (fO 4) (Fh 44 [.br true] (Q1 (Fa hc0 (Fa (by grind[Z27]:0=y2.fst.K) (Fa (by grind[Z27]:0=y2.fst.length) (Fa (by grind[Z27]:0=y2.fst.map) (Fa (by grind[Z27]:(19:Int)=0) Fz)))))))
     ·obtain⟨hc0pa,hc0pb⟩:=hc0p;rcases bb ((h.P.getD (ofA h.C a).fst.toNat default).K==1)with hc1 | hc1<;>have hc1p:=hc1<;>simp only[bs]at hc1p
      ·let y3:=h.P.getD (ofA h.C a).fst.toNat default;exact gF [] Tryz.func111 [] (Fh 53 [.br true] (Fh 76 [.br false] (Q1 (Fa hc0 (Fa hc1 (Fi 61 (y3.U-(ofA h.C a).snd.fst) (Ffb 44 (!decide (sizeH (decodeH (loadA h.W a).fst).fst≤y3.U-(ofA h.C a).snd.fst)) Fz)))))))
      ·let y4:=h.P.getD (ofA h.C a).fst.toNat default;exact gF [] Tryz.func111 [] (Fh 53 [.br false] (Fh 63 [.br true] (Fh 76 [.br false] (Q1 (Fa hc0 (Fa hc1 (Fb ((y4.K==2)=true) (Ffb 44 (!((ofA h.C a).snd.fst==0&&sizeH (decodeH (loadA h.W a).fst).fst==y4.U)) Fz))))))))
   ·have e7:atH h a=(Z27,19):=by rw[atH,if_pos hp,if_pos ho,if_neg c3]
    rw[e7];have Q2 {h_ c_ p_} (r_:Fq h_ c_ p_):=Fc 15 (@Z0I h) (Ffb 16 (!Z03 h) (Fc 22 (@Z2h h.C a oq oq) (Ffb 27 ((ofA h.C a).snd.snd != 0) (Fe 34 Page.dv h.P ((ofA h.C a).fst) (Fbq 38 [8002,8003] (@Z23 h a oq aa) (Fc 39 (@Z0O ((loadA h.W a).fst) oq oq) (Fc 43 (@Z0Q ((decodeH (loadA h.W a).fst).fst) aa) r_)))))));rcases bb (!(decodeH (loadA h.W a).fst).snd||decide ((h.P.getD (ofA h.C a).fst.toNat default).U≤(ofA h.C a).snd.fst))with hc0 | hc0<;>have hc0p:=hc0<;>simp only[bs]at hc0p
    ·exact gF [] Tryz.func111 [] (Fh 44 [.br true] (Q2 (Fa hc0 Fz)))
    ·obtain⟨hc0pa,hc0pb⟩:=hc0p;rcases bb ((h.P.getD (ofA h.C a).fst.toNat default).K==1)with hc1 | hc1<;>have hc1p:=hc1<;>simp only[bs]at hc1p
     ·have Q3 {h_ c_ p_} (r_:Fq h_ c_ p_):=Q2 (Fa hc0 (Fa hc1 (Fi 61 ((h.P.getD (ofA h.C a).fst.toNat default).U-(ofA h.C a).snd.fst) r_)));rcases bb (!decide (sizeH (decodeH (loadA h.W a).fst).fst≤(h.P.getD (ofA h.C a).fst.toNat default).U-(ofA h.C a).snd.fst))with hc2 | hc2<;>have hc2p:=hc2<;>simp only[bs]at hc2p
      ·exact gF [] Tryz.func111 [] (Fh 44 [.br false] (Fh 76 [.br true] (Q3 (Ft 53 hc2 Fz))))
      ·rw[show Z27=(decodeH (loadA h.W a).fst).fst from by grind[Z27]];let y5:=decodeH (loadA h.W a).fst;exact gF [] Tryz.func111 (fO 4) (Fh 53 [.br true] (Fh 76 [.br false] (Q3 (Ff 44 hc2 (Fr (y5.fst.K) (Fr (y5.fst.length) (Fr (y5.fst.map) (Fa (by grind[Z27]:(0:Int)=19) Fz))))))))
     ·rcases bb ((h.P.getD (ofA h.C a).fst.toNat default).K==2)with hc3 | hc3<;>have hc3p:=hc3<;>simp only[bs]at hc3p
      ·rcases bb (!((ofA h.C a).snd.fst==0&&sizeH (decodeH (loadA h.W a).fst).fst==(h.P.getD (ofA h.C a).fst.toNat default).U))with hc4 | hc4<;>have hc4p:=hc4<;>simp only[bs]at hc4p
       ·exact gF [] Tryz.func111 [] (Fh 44 [.br false] (Fh 53 [.br false] (Fh 76 [.br true] (Q2 (Fa hc0 (Fa hc1 (Fa hc3 (Ft 63 hc4 Fz))))))))
       ·obtain⟨hc4pa,hc4pb⟩:=hc4p;rw[show Z27=(decodeH (loadA h.W a).fst).fst from by grind[Z27]];let y6:=decodeH (loadA h.W a).fst;exact gF [] Tryz.func111 (fO 8) (Fh 53 [.br false] (Fh 63 [.br true] (Fh 76 [.br false] (Q2 (Fa hc0 (Fa hc1 (Fa hc3 (Ff 44 hc4 (Fr (y6.fst.K) (Fr (y6.fst.length) (Fr (y6.fst.map) (Fa (by grind[Z27]:(0:Int)=19) Fz))))))))))))
      ·exact gF [] Tryz.func111 [] (Fh 44 [.br false] (Fh 53 [.br false] (Fh 63 [.br false] (Q2 (Fa hc0 (Fa hc1 (Fa hc3 Fz)))))))
  ·have e7:atH h a=(Z27,2):=by rw[atH,if_pos hp,if_neg ho]
   have e2:(ofA h.C a).2.2=2:=by
    unfold ofA at ho ⊢;rw[if_pos po.1]at ho ⊢;split at ho
    ·simp at ho
    ·rename_i q;rw[if_neg q]
   rw[e7];exact gF [] Tryz.func111 [true] (Fc 15 (@Z0I h) (Ffb 16 (!Z03 h) (Fc 22 (@Z2h h.C a oq oq) (Ftb 27 ((ofA h.C a).snd.snd != 0) (Fr (0:Int) (Fr (0:Int) (Fr (0:Int) (Fa ‹(ofA h.C a).snd.snd=2› Fz))))))))
 ·have e7:atH h a=(Z27,1):=by rw[atH,if_neg hp]
  have hp':Z03 h=false:=by simpa using hp
  rw[e7];exact gF [] Tryz.func111 [] (Fc 15 (@Z0I h) (Ftb 16 (!Z03 h) Fz))
theorem Zfu{α β:Type}{f:α→β}{l:List α}(h:l≠[]):l.map f≠[]:=by simpa using h
theorem ZdU(ws:List Int)(hw:ws.length≤1048576)(hne:ws≠[]):GP 80 [Z02 ws] true (.ow 0) [.arr 35 1 (ws.map wdv)]:=by
 exact gF [24007] Tryz.func80 [] (Fa (by exact Zfu hne:List.map wdv ws≠[]) (FA 5 7 wdv ws (Fa (by exact Z2G _:Z0T (List.map wdv ws)) Fz)))
theorem Z95{α:Type}{l:List α}(h:0<l.length):l≠[]:=by
 rintro rfl;simp at h
def pg(h:Heap)(i:Int):Page:=h.P.getD i.toNat default
def adr(h:Heap)(i o:Int):Int:=(address h.C i o).1
theorem Z4j{h:Heap}(hv:Z07 h.C=true)(i o:Int):0≤adr h i o∧adr h i o≤8192:=by
 have ha:=area hv;unfold adr address;rw[if_pos hv];split
 ·rename_i hb;have hb:=inB_iff.1 hb;have:=ZfI hv hb.1 hb.2.1 hb.2.2.1 hb.2.2.2;simp only;omega
 ·simp
def Z37(h:Heap)(i:Int):Nat→Int→Option (List Int)
 | 0,_=>some []
 | f+1,o=>if o<(pg h i).U then(if(atH h (adr h i o)).2=0 then(if(pg h i).K=2 then some [adr h i o]else(Z37 h i f (o+sizeH (atH h (adr h i o)).1)).map (adr h i o :: ·))else none)else some []
def Z9h(h:Heap)(i o:Int)(acc:List Int):Tg:=⟨tm 70 [(1,int i),(2,.pt 8002 0 0),(4,.d (.sl 0 [])),(5,int 0),(6,.pt 32006 0 0),(7,.ow 48007),(8,int o)],
 [(48007,.arr 35 1 (acc.map wdv)),(32006,.box 84 [int (pg h i).K,int (pg h i).S,int (pg h i).U,int (pg h i).N]),(8002,.box 28 h.cells)],60⟩
def Zat(acc:List Int):Tg:=⟨tm 70 [(7,.ow 48007)],[(48007,.arr 35 1 (acc.map wdv))],60⟩
section
variable (h:Heap) (i o:Int) (acc:List Int) (hw:WOk h.W) (hp:Z03 h=true) (hl:acc.length≤1048576) (ho:0≤o∧o≤1000)
include hw hp hl ho
theorem Zih(h1:o<(pg h i).U)(h2:(atH h (adr h i o)).2=0)(h3:(pg h i).K≠2):CP (rndF Tryz.f134 0) (Z9h h i o acc).st .nrm (Z9h h i (o+sizeH (atH h (adr h i o)).1) (acc++[adr h i o])).st:=by
 have po:=Z06 hp;have ar:=Z4j po.1 i o;have sz:=Z1a (atH h (adr h i o)).1;have hm:=Z3u hw (adr h i o);unfold adr at ar sz hm h2;let y0:=address h.C i o;exact sF [(512061,48007)] [] (Fh 61 [.els (List.map wdv (acc++[y0.fst]))] (Ftb 41 (decide (o<(pg h i).U)) (Fc 47 (@Z5E h.C i o) (Fc 53 (@Z5j h (y0.fst) aa oq) (Ffb 57 ((atH h y0.fst).snd != 0) (Fs 60 (List.map wdv [y0.fst]) (Fa (by(simp[adr, *];omega):(List.map wdv acc).length+(List.map wdv [y0.fst]).length≤2^30) (Fa (by simp[adr,List.map_take,List.map_drop,List.map_set,List.map_append,wdv,idv]:List.map wdv acc++List.map wdv [y0.fst]=List.map wdv (acc++[y0.fst])) (Ffb 64 ((pg h i).K==2) (Fc 67 (@Z2a ((atH h y0.fst).fst) aa) (Fi 68 (o+sizeH (atH h y0.fst).fst) Fz)))))))))))
theorem Zhs(h1:o<(pg h i).U)(h2:(atH h (adr h i o)).2=0)(h3:(pg h i).K=2):CP (rndF Tryz.f134 0) (Z9h h i o acc).st (.ext 0) (Zat (acc++[adr h i o])).st:=by
 have po:=Z06 hp;have ar:=Z4j po.1 i o;have hm:=Z3u hw (adr h i o);unfold adr at ar hm h2;let y0:=address h.C i o;exact sF [(512061,48007)] [] (Fh 61 [.els (List.map wdv (acc++[y0.fst]))] (Ftb 41 (decide (o<(pg h i).U)) (Fc 47 (@Z5E h.C i o) (Fc 53 (@Z5j h (y0.fst) aa oq) (Ffb 57 ((atH h y0.fst).snd != 0) (Fs 60 (List.map wdv [y0.fst]) (Fa (by(simp[adr, *];omega):(List.map wdv acc).length+(List.map wdv [y0.fst]).length≤2^30) (Fa (by simp[adr,List.map_take,List.map_drop,List.map_set,List.map_append,wdv,idv]:List.map wdv acc++List.map wdv [y0.fst]=List.map wdv (acc++[y0.fst])) (Ftb 64 ((pg h i).K==2) Fz)))))))))
theorem Zl5(h1:o<(pg h i).U)(h2:¬ (atH h (adr h i o)).2=0):CP (rndF Tryz.f134 0) (Z9h h i o acc).st .ret (Tg.st ⟨tm 70 [(4,.d (.sl 0 [])),(5,int 19)],[],60⟩):=by
 have po:=Z06 hp;have ar:=Z4j po.1 i o;unfold adr at ar h2;exact sF [] [] (Ftb 41 (decide (o<(pg h i).U)) (Fc 47 (@Z5E h.C i o) (Fc 53 (@Z5j h ((address h.C i o).fst) aa oq) (Ftb 57 ((atH h (address h.C i o).fst).snd != 0) Fz))))
omit hw hp hl ho in
theorem ZfQ(h1:(pg h i).U≤o):CP (rndF Tryz.f134 0) (Z9h h i o acc).st (.ext 0) (Zat acc).st:=by
 exact sF [] [] (Ffb 41 (decide (o<(pg h i).U)) Fz)
end
theorem Z9A{h:Heap}{a:Int}(e:(atH h a).2=0):1≤sizeH (atH h a).1:=by
 have:=Zct e;rw[sizeH,if_pos this.2.2.2.2.1];omega
theorem Zji(h:Heap)(i:Int)(hw:WOk h.W)(hp:Z03 h=true)(hu:(pg h i).U≤256):∀ (f:Nat) (o:Int) (acc:List Int),(pg h i).U-o≤f→0≤o→o≤1000→(acc.length:Int)+f≤1000 →
  (∀ l,Z37 h i f o=some l→LSpec Tryz.prog Tryz.f134 0 (Z9h h i o acc).st (.ext 0) (Zat (acc++l)).st) ∧
  (Z37 h i f o=none→LSpec Tryz.prog Tryz.f134 0 (Z9h h i o acc).st .ret (Tg.st ⟨tm 70 [(4,.d (.sl 0 [])),(5,int 19)],[],60⟩)):=by
 intro f;induction f with
 | zero =>
  intro o acc h1 h2 h3 h4;refine⟨fun l hl=>?_,fun hl=>by cases hl⟩;simp only[Z37,Option.some.injEq]at hl;subst hl;rw[List.append_nil];exact .endx (ZfQ h i o acc oq)
 | succ f ih =>
  intro o acc h1 h2 h3 h4;unfold Z37;by_cases ho:o<(pg h i).U
  ·rw[if_pos ho];by_cases ha:(atH h (adr h i o)).2=0
   ·rw[if_pos ha];by_cases hk:(pg h i).K=2
    ·rw[if_pos hk];refine⟨fun l hl=>?_,fun hl=>by cases hl⟩;cases hl;exact .endx (Zhs h i o acc hw hp oq ⟨h2,by omega⟩ ho ha hk)
    ·rw[if_neg hk];have hs:=Z9A ha;have hb:=Z1a (atH h (adr h i o)).1;have hr:=Zih h i o acc hw hp oq ⟨h2,by omega⟩ ho ha hk;obtain⟨i1,i2⟩:=ih (o+sizeH (atH h (adr h i o)).1) (acc++[adr h i o]) oq oq oq qo;refine⟨fun l hl=>?_,fun hl=>?_⟩
     ·rw[Option.map_eq_some_iff]at hl;obtain⟨m,hm,rfl⟩:=hl;have:=i1 m hm;rw[List.append_assoc]at this;exact .next hr this
     ·rw[Option.map_eq_none_iff]at hl;exact .next hr (i2 hl)
   ·rw[if_neg ha];exact⟨fun l hl=>(by cases hl),fun _=>.endr (Zl5 h i o acc hw hp oq ⟨h2,by omega⟩ ho ha)⟩
  ·rw[if_neg ho];refine⟨fun l hl=>?_,fun hl=>by cases hl⟩;cases hl;rw[List.append_nil];exact .endx (ZfQ h i o acc oq)
theorem ZjY(h:Heap)(i:Int)(l:List Int)(hw:WOk h.W)(hp:Z03 h=true)(hu:(pg h i).U≤256)(hl:Z37 h i 256 0=some l):CP (blkF Tryz.f134 0) (Tg.st ⟨tm 70 [(1,int i),(2,.pt 8002 0 0),(4,.d (.sl 0 [])),(5,int 0),(6,.pt 32006 0 0),(7,.ow 48007),(8,int 0)],
 [(48007,.arr 35 1 []),(32006,.box 84 [int (h.P.getD i.toNat default).K,int (h.P.getD i.toNat default).S,int (h.P.getD i.toNat default).U,int (h.P.getD i.toNat default).N]),(8002,.box 28 h.cells)],60⟩) .nrm (Zat l).st :=
 ((Zji h i hw hp hu 256 0 [] oq oq oq pq).1 l hl).ext kr
theorem ZdI(h:Heap)(i:Int)(hw:WOk h.W)(hp:Z03 h=true)(hu:(pg h i).U≤256)(hl:Z37 h i 256 0=none):CP (blkF Tryz.f134 0) (Tg.st ⟨tm 70 [(1,int i),(2,.pt 8002 0 0),(4,.d (.sl 0 [])),(5,int 0),(6,.pt 32006 0 0),(7,.ow 48007),(8,int 0)],
 [(48007,.arr 35 1 []),(32006,.box 84 [int (h.P.getD i.toNat default).K,int (h.P.getD i.toNat default).S,int (h.P.getD i.toNat default).U,int (h.P.getD i.toNat default).N]),(8002,.box 28 h.cells)],60⟩) .ret (Tg.st ⟨tm 70 [(4,.d (.sl 0 [])),(5,int 19)],[],60⟩) :=
 ((Zji h i hw hp hu 256 0 [] oq oq oq pq).2 hl).ret kr
def Z08(h:Heap)(i:Int):List Int×Int :=
 if Z03 h=true then(if 0≤i∧i<h.P.length then(if(pg h i).K=0∨(pg h i).K=3 then([],0)else(match Z37 h i 256 0 with | some l=>(l,0) | none=>([],19)))else([],2))else([],1)
theorem Z3X(h:Heap)(i:Int)(hw:WOk h.W):GP 134 [h.av,int i] false (.tu [Z02 (Z08 h i).1,int (Z08 h i).2]) []:=by
 cases hp:Z03 h with
 | false =>
  have e7:Z08 h i=([],1):=by rw[Z08,if_neg (by rw[hp];simp)]
  rw[e7];exact gF [] Tryz.func134 [] (Fc 14 (@Z0k h) (Ftb 15 (!Z03 h) (Fnl Fz)))
 | true =>
  have po:=Z06 hp;by_cases hi:0≤i∧i<h.P.length
  ·have pp:=Z0D hp (j:=i.toNat) oq;have hu:(pg h i).U≤256:=pp.2.2.2.2.2.2.2.1;cases hwk:Z37 h i 256 0 with
   | none =>
    have e7:Z08 h i=if(h.P.getD i.toNat default).K=0∨(h.P.getD i.toNat default).K=3 then([],0)else([],19):=by rw[Z08,if_pos hp,if_pos hi,hwk];rfl
    have Q0 {h_ c_ p_} (r_:Fq h_ c_ p_):=Fc 14 (@Z0k h) (Ffb 15 (!Z03 h) (FlG 22 (!decide (i<0)) Page.dv h.P (Ffb 24 (decide (i<0)||decide ((↑h.P.length:Int)≤i)) (Fe 28 Page.dv h.P i r_))));rcases bb ((h.P.getD i.toNat default).K==0||(h.P.getD i.toNat default).K==3)with hc0 | hc0<;>have hc0p:=hc0<;>simp only[bs]at hc0p
    ·exact gF [] Tryz.func134 (fO 8) (Q0 (Ft 37 hc0 (Fnl (Fa (by rw[e7,if_pos oq];rfl:[]=List.map wdv (Z08 h i).fst) (Fa (by rw[e7,if_pos oq]:0=(Z08 h i).snd) Fz)))))
    ·obtain⟨hc0pa,hc0pb⟩:=hc0p;exact gF [] Tryz.func134 (fO 18) (Fh 7 [.own] (Q0 (Ff 37 hc0 (Fu (@ZdI h i aa aa aa aa) (Fnl (Fa (by rw[e7,if_neg oq];rfl:[]=List.map wdv (Z08 h i).fst) (Fa (by rw[e7,if_neg oq]:19=(Z08 h i).snd) Fz)))))))
   | some l =>
    have e7:Z08 h i=if(h.P.getD i.toNat default).K=0∨(h.P.getD i.toNat default).K=3 then([],0)else(l,0):=by rw[Z08,if_pos hp,if_pos hi,hwk];rfl
    have Q1 {h_ c_ p_} (r_:Fq h_ c_ p_):=Fc 14 (@Z0k h) (Ffb 15 (!Z03 h) (FlG 22 (!decide (i<0)) Page.dv h.P (Ffb 24 (decide (i<0)||decide ((↑h.P.length:Int)≤i)) (Fe 28 Page.dv h.P i r_))));rcases bb ((h.P.getD i.toNat default).K==0||(h.P.getD i.toNat default).K==3)with hc0 | hc0<;>have hc0p:=hc0<;>simp only[bs]at hc0p
    ·exact gF [] Tryz.func134 (fO 8) (Q1 (Ft 37 hc0 (Fnl (Fa (by rw[e7,if_pos oq];rfl:[]=List.map wdv (Z08 h i).fst) (Fa (by rw[e7,if_pos oq]:0=(Z08 h i).snd) Fz)))))
    ·obtain⟨hc0pa,hc0pb⟩:=hc0p;exact gF [] Tryz.func134 (fO 18) (Fh 7 [.own] (Q1 (Ff 37 hc0 (Fu (@ZjY h i l aa aa aa aa) (Fa (by refine congrArg _ ?_;rw[e7,if_neg oq]:List.map wdv l=List.map wdv (Z08 h i).fst) (Fa (by rw[e7,if_neg oq]:0=(Z08 h i).snd) Fz))))))
  ·have e7:Z08 h i=([],2):=by rw[Z08,if_pos hp,if_neg hi]
   rw[e7];exact gF [] Tryz.func134 [] (Fc 14 (@Z0k h) (Ffb 15 (!Z03 h) (FlG 22 (!decide (i<0)) Page.dv h.P (Ftb 24 (decide (i<0)||decide ((↑h.P.length:Int)≤i)) (Fnl Fz)))))
def hasL(l:List Int)(v:Int)(i:Nat):Tg:=⟨tm 18 [(0,Z02 l),(1,u64 v),(4,bool false),(5,int i)],[],60⟩
theorem Zgf(l:List Int)(v:Int)(i:Nat)(hl:l.length≤1048576)(hi:i<l.length)(hv:¬ l.getD i default=v):CP (rndF Tryz.f17 0) (hasL l v i).st .nrm (hasL l v (i+1)).st:=by
 exact sF [] [] (FN 8 9 14 wdv l i (Ffb 17 (l.getD i default==v) (Fx 11 i Fz)))
theorem Zks(l:List Int)(v:Int)(i:Nat)(hl:l.length≤1048576)(hi:i<l.length)(hv:l.getD i default=v):CP (rndF Tryz.f17 0) (hasL l v i).st .ret (Tg.st ⟨tm 18 [(4,bool true)],[],60⟩):=by
 exact sF [] [] (FN 8 9 14 wdv l i (Ftb 17 (l.getD i default==v) Fz))
theorem hasEnd(l:List Int)(v:Int):CP (rndF Tryz.f17 0) (hasL l v l.length).st (.ext 0) (Tg.st ⟨tm 18 [],[],60⟩):=by
 exact sF [] [] (FO 8 9 wdv l Fz)
theorem getD_mem_iff{l:List Int}{v:Int}:v∈l↔∃ i,i<l.length∧l.getD i default=v:=by
 rw[List.mem_iff_getElem];constructor
 ·rintro⟨i,h,e⟩;exact⟨i,h,by simp[List.getD,h,e]⟩
 ·rintro⟨i,h,e⟩;exact⟨i,h,by simpa[List.getD,h]using e⟩
def Zn7(l:List Int)(v:Int)(hl:l.length≤1048576)(h:v∉l)  := Z0b (S:=fun i=>(hasL l v i).st) l.length (by kernel_rfl) (fun i hi=>Zgf l v i hl hi fun e=>h (getD_mem_iff.2 ⟨i,hi,e⟩)) (hasEnd l v)
theorem Zlt(l:List Int)(v:Int)(hl:l.length≤1048576)(h:v∈l):CP (blkF Tryz.f17 0) (Tg.st ⟨tm 18 [(0,Z02 l),(1,u64 v),(4,bool false),(5,int 0)],[],60⟩) .ret (Tg.st ⟨tm 18 [(4,bool true)],[],60⟩):=by
 obtain⟨i,h1,h2⟩:=ZhH (getD_mem_iff.1 h);exact Z0J (S:=fun i=>(hasL l v i).st) i kr (fun j hj=>Zgf l v j hl oq fun e=>by have:=h2 j ⟨by omega,e⟩;omega) (Zks l v i hl h1.1 h1.2)
theorem Z14(l:List Int)(v:Int)(hl:l.length≤1048576):GP 17 [Z02 l,u64 v] true (bool (decide (v∈l))) []:=by
 by_cases h:v∈l
 ·rw[decide_eq_true h];exact gF [] Tryz.func17 [] (Fu (@Zlt l v aa aa) Fz)
 ·rw[decide_eq_false h];exact gF [] Tryz.func17 [] (Fu (@Zn7 l v aa aa) Fz)
theorem Zco{h:Heap}{i:Int}:∀ {f:Nat} {o:Int} {l:List Int},Z37 h i f o=some l→l.length≤f
 | 0,o,l,e=>by simp[Z37]at e;subst e;simp
 | f+1,o,l,e=>by
  unfold Z37 at e;split at e
  ·split at e
   ·split at e
    ·cases e;simp
    ·rw[Option.map_eq_some_iff]at e;obtain⟨m,hm,rfl⟩:=e;have:=Zco hm;simp;omega
   ·cases e
  ·cases e;simp
theorem Z2X(h:Heap)(i:Int):(Z08 h i).1.length≤256:=by
 unfold Z08;repeat' split
 all_goals first | (simp;done) | (rename_i e;exact Zco e)
def Z0M(h:Heap):Nat→Nat→List Int×Int
 | 0,_=>([],0)
 | f+1,i=>if(Z08 h i).2=0 then(if(Z0M h f (i+1)).2=0 then((Z08 h i).1++(Z0M h f (i+1)).1,0)else([],(Z0M h f (i+1)).2))else([],(Z08 h i).2)
def Z0B(h:Heap):List Int×Int:=if Z03 h=true then Z0M h h.P.length 0 else([],1)
def Z7y(h:Heap)(i:Nat)(acc:List Int):Tg:=⟨tm 31 [(1,.pt 8001 0 0),(2,.d (.sl 0 [])),(3,int 0),(4,.ow 24004),(5,int i)],[(24004,.arr 35 1 (acc.map wdv)),(8001,.box 28 h.cells)],60⟩
section
variable (h:Heap) (i:Nat) (acc:List Int) (hw:WOk h.W) (hl:h.P.length≤1048576) (ha:acc.length≤1048576)
include hw hl ha
theorem Zeg(hi:i<h.P.length)(e:(Z08 h i).2=0):CP (rndF Tryz.f82 0) (Z7y h i acc).st .nrm (Z7y h (i+1) (acc++(Z08 h i).1)).st:=by
 have hn:=Z2X h i;exact sF [(504029,24004)] [] (Fh 29 [.els (List.map wdv (acc++(Z08 h (↑i:Int)).fst))] (FM 14 15 Page.dv h.P i (Fc 21 (@Z3X h ((↑i:Int)) aa) (Ffb 25 ((Z08 h (↑i:Int)).snd != 0) (Fa (by(simp[*];omega):(List.map wdv acc).length+(List.map wdv (Z08 h (↑i:Int)).fst).length≤2^30) (Fa (ms:List.map wdv acc++List.map wdv (Z08 h (↑i:Int)).fst=List.map wdv (acc++(Z08 h (↑i:Int)).fst)) (Fx 17 i Fz)))))))
theorem Zim(hi:i<h.P.length)(e:¬ (Z08 h i).2=0):CP (rndF Tryz.f82 0) (Z7y h i acc).st .ret (Tg.st ⟨tm 31 [(2,.d (.sl 0 [])),(3,int (Z08 h i).2)],[],60⟩):=by
 exact sF [] [] (FM 14 15 Page.dv h.P i (Fc 21 (@Z3X h ((↑i:Int)) aa) (Ftb 25 ((Z08 h (↑i:Int)).snd != 0) Fz)))
omit hw hl ha in
theorem Zk9:CP (rndF Tryz.f82 0) (Z7y h h.P.length acc).st (.ext 0) (Tg.st ⟨tm 31 [(4,.ow 24004)],[(24004,.arr 35 1 (acc.map wdv))],60⟩):=by
 exact sF [] [] (FO 14 15 Page.dv h.P Fz)
end
theorem Zf2(h:Heap)(hw:WOk h.W)(hl:h.P.length≤1048576):∀ (f i:Nat) (acc:List Int),i+f=h.P.length→acc.length+256*f≤1048576 →
  ((Z0M h f i).2=0→LSpec Tryz.prog Tryz.f82 0 (Z7y h i acc).st (.ext 0) (Tg.st ⟨tm 31 [(4,.ow 24004)],[(24004,.arr 35 1 ((acc++(Z0M h f i).1).map wdv))],60⟩)) ∧
  (¬ (Z0M h f i).2=0→LSpec Tryz.prog Tryz.f82 0 (Z7y h i acc).st .ret (Tg.st ⟨tm 31 [(2,.d (.sl 0 [])),(3,int (Z0M h f i).2)],[],60⟩)):=by
 intro f;induction f with
 | zero =>
  intro i acc hi _;have:i=h.P.length:=by omega
  subst this;refine⟨fun _=>?_,fun e=>absurd rfl e⟩;rw[Z0M,List.append_nil];exact .endx (Zk9 h acc)
 | succ f ih =>
  intro i acc hi hb;have hn:=Z2X h i;unfold Z0M;by_cases e:(Z08 h i).2=0
  ·rw[if_pos e];have hr:=Zeg h i acc hw hl oq oq e;obtain⟨i1,i2⟩:=ih (i+1) (acc++(Z08 h i).1) oq qo;by_cases e2:(Z0M h f (i+1)).2=0
   ·rw[if_pos e2];refine⟨fun _=>?_,fun e=>absurd rfl e⟩;have:=i1 e2;rw[List.append_assoc]at this;exact .next hr this
   ·rw[if_neg e2];exact⟨fun e=>absurd e e2,fun _=>.next hr (i2 e2)⟩
  ·rw[if_neg e];exact⟨fun e'=>absurd e' e,fun _=>.endr (Zim h i acc hw hl oq oq e)⟩
theorem ZgJ(h:Heap)(hw:WOk h.W)(hl:h.P.length≤64)(e:(Z0M h h.P.length 0).2=0):CP (blkF Tryz.f82 0) (Tg.st ⟨tm 31 [(1,.pt 8001 0 0),(2,.d (.sl 0 [])),(3,int 0),(4,.ow 24004),(5,int 0)],[(24004,.arr 35 1 []),(8001,.box 28 h.cells)],60⟩) .nrm
  (Tg.st ⟨tm 31 [(4,.ow 24004)],[(24004,.arr 35 1 ((Z0M h h.P.length 0).1.map wdv))],60⟩) :=
 ((Zf2 h hw oq h.P.length 0 [] oq qo).1 e).ext kr
theorem ZbE(h:Heap)(hw:WOk h.W)(hl:h.P.length≤64)(e:¬ (Z0M h h.P.length 0).2=0):CP (blkF Tryz.f82 0) (Tg.st ⟨tm 31 [(1,.pt 8001 0 0),(2,.d (.sl 0 [])),(3,int 0),(4,.ow 24004),(5,int 0)],[(24004,.arr 35 1 []),(8001,.box 28 h.cells)],60⟩) .ret
  (Tg.st ⟨tm 31 [(2,.d (.sl 0 [])),(3,int (Z0M h h.P.length 0).2)],[],60⟩) :=
 ((Zf2 h hw oq h.P.length 0 [] oq qo).2 e).ret kr
theorem Zer(h:Heap):∀ (f i:Nat),¬ (Z0M h f i).2=0→(Z0M h f i).1=[]
 | 0,i,e=>absurd rfl e
 | f+1,i,e=>by
  unfold Z0M at e ⊢;split at e
  ·rename_i h1;rw[if_pos h1];split at e
   ·exact absurd rfl e
   ·rename_i h2;rw[if_neg h2]
  ·rename_i h1;rw[if_neg h1]
theorem ZaA(h:Heap)(hw:WOk h.W):GP 82 [h.av] false (.tu [Z02 (Z0B h).1,int (Z0B h).2]) []:=by
 cases hp:Z03 h with
 | false =>
  have e7:Z0B h=([],1):=by rw[Z0B,if_neg (by rw[hp];simp)]
  rw[e7];exact gF [] Tryz.func82 [] (Fc 9 (@Z0k h) (Ftb 10 (!Z03 h) (Fnl Fz)))
 | true =>
  have po:=Z06 hp;have e7:Z0B h=Z0M h h.P.length 0:=by rw[Z0B,if_pos hp]
  by_cases e:(Z0M h h.P.length 0).2=0
  ·rw[show Z0B h=((Z0M h h.P.length (0:Nat)).fst,(0:Int))from by grind[]];exact gF [] Tryz.func82 [] (Fh 4 [.own] (Fc 9 (@Z0k h) (Ffb 10 (!Z03 h) (Fu (@ZgJ h aa oq aa) Fz))))
  ·have e8:=Zer h _ _ e;exact gF [] Tryz.func82 (fO 7) (Fh 4 [.own] (Fc 9 (@Z0k h) (Ffb 10 (!Z03 h) (Fu (@ZbE h aa oq aa) (Fnl (Fa (by rw[e7,e8];rfl:[]=List.map wdv (Z0B h).fst) (Fa (by rw[e7]:(Z0M h h.P.length 0).snd=(Z0B h).snd) Fz)))))))
theorem Z8r{h:Heap}(hv:Z07 h.C=true){i:Int}:∀ {f:Nat} {o:Int} {l:List Int},Z37 h i f o=some l→∀ x∈l,0≤x∧x≤8192
 | 0,o,l,e=>by simp[Z37]at e;subst e;simp
 | f+1,o,l,e=>by
  have ar:=Z4j hv i o;unfold Z37 at e;split at e
  ·split at e
   ·split at e
    ·cases e;intro x hx;simp at hx;subst hx;exact ar
    ·rw[Option.map_eq_some_iff]at e;obtain⟨m,hm,rfl⟩:=e;intro x hx;rcases List.mem_cons.1 hx with rfl | hx
     ·exact ar
     ·exact Z8r hv hm x hx
   ·cases e
  ·cases e;simp
theorem Z2M{h:Heap}(hp:Z03 h=true)(i:Int):∀ x∈(Z08 h i).1,0≤x∧x≤8192:=by
 have hv:=(Z06 hp).1;unfold Z08;repeat' split
 all_goals first | (simp;done) | (rename_i e;exact Z8r hv e)
theorem Z6D{h:Heap}(hp:Z03 h=true):∀ (f i:Nat),∀ x∈(Z0M h f i).1,0≤x∧x≤8192
 | 0,i=>by simp[Z0M]
 | f+1,i=>by
  unfold Z0M;split
  ·split
   ·intro x hx;rcases List.mem_append.1 hx with hx | hx
    ·exact Z2M hp i x hx
    ·exact Z6D hp f (i+1) x hx
   ·simp
  ·simp
theorem Z9r(h:Heap):∀ (f i:Nat),(Z0M h f i).1.length≤256*f
 | 0,i=>by simp[Z0M]
 | f+1,i=>by
  have h1:=Z2X h i;have h2:=Z9r h f (i+1);unfold Z0M;split
  ·split
   ·simp;omega
   ·simp
  ·simp
theorem Z4z(h:Heap):∀ x∈(Z0B h).1,0≤x∧x≤8192:=by
 unfold Z0B;split
 ·exact Z6D aa _ _
 ·simp
theorem Z68(h:Heap):(Z0B h).1.length≤16384:=by
 unfold Z0B;split
 ·rename_i hp;have:=Z9r h h.P.length 0;have:=Z06 hp;omega
 ·simp
def Z3r(h:Heap)(a:Int):Bool:=decide ((atH h a).1.K≠0)
def Z01(h:Heap):List Int×Int:=((Z0B h).1.filter (Z3r h),(Z0B h).2)
theorem Z3h(h:Heap):∀ x∈(Z01 h).1,0≤x∧x≤8192:=fun x hx=>Z4z h x (List.mem_filter.1 hx).1
theorem Z2o(h:Heap):(Z01 h).1.length≤16384:=Nat.le_trans (List.length_filter_le _ _) (Z68 h)
theorem Z8x{l:List Int}{i:Nat}(hi:i<l.length):l.take (i+1)=l.take i++[l.getD i default]:=by
 rw[List.take_succ];simp[List.getD,hi]
def Zkm(h:Heap)(l:List Int)(ee:Int)(i:Nat):Tg:=⟨tm 42 [(1,.pt 8001 0 0),(4,Z02 l),(5,int ee),(6,.ow 24006),(7,int i)],[(24006,.arr 35 1 (((l.take i).filter (Z3r h)).map wdv)),(8001,.box 28 h.cells)],60⟩
theorem Zjy(h:Heap)(l:List Int)(ee:Int)(i:Nat)(hw:WOk h.W)(hl:l.length≤1048576)(hr:∀ x∈l,0≤x∧x≤8192)(hi:i<l.length):CP (rndF Tryz.f34 0) (Zkm h l ee i).st .nrm (Zkm h l ee (i+1)).st:=by
 have hx:=hr (l.getD i default) (getD_mem_iff.2 ⟨i,hi,rfl⟩);have hle:((l.take i).filter (Z3r h)).length≤l.length:=Nat.le_trans (List.length_filter_le _ _) qo;have ht:=Z8x hi;by_cases hk:(atH h (l.getD i default)).1.K=0
 ·have e:(l.take (i+1)).filter (Z3r h)=(l.take i).filter (Z3r h):=by
   have hb:Z3r h (l.getD i default)=false:=decide_eq_false (by simpa using hk);rw[ht,List.filter_append,List.filter_cons,hb,List.filter_nil];simp
  exact sF [] (fO 5) (FN 17 18 25 wdv l i (Fc 27 (@Z5j h (l.getD i default) aa oq) (Ffb 32 ((atH h (l.getD i default)).fst.K != 0) (Fx 20 i (Fr (35:Int) (Fa (by refine congrArg _ ?_;rw[e]:List.map wdv (List.filter (Z3r h) (List.take i l))=List.map wdv (List.filter (Z3r h) (List.take (i+1) l))) Fz))))))
 ·have e:(l.take (i+1)).filter (Z3r h)=(l.take i).filter (Z3r h)++[l.getD i default]:=by
   have hb:Z3r h (l.getD i default)=true:=decide_eq_true hk;rw[ht,List.filter_append,List.filter_cons,hb,List.filter_nil];simp
  exact sF [(504039,24006)] (fO 5) (Fh 39 [.els (List.map wdv (List.filter (Z3r h) (List.take i l)++[l.getD i default]))] (FN 17 18 25 wdv l i (Fc 27 (@Z5j h (l.getD i default) aa oq) (Ftb 32 ((atH h (l.getD i default)).fst.K != 0) (Fek 36 wdv l (↑i) i (Fs 38 (List.map wdv [l.getD i default]) (Fa (by(simp[*];omega):(List.map wdv (List.filter (Z3r h) (List.take i l))).length+(List.map wdv [l.getD i default]).length≤2^30) (Fa (ms:List.map wdv (List.filter (Z3r h) (List.take i l))++List.map wdv [l.getD i default]=List.map wdv (List.filter (Z3r h) (List.take i l)++[l.getD i default])) (Fx 20 i (Fr (35:Int) (Fa (by refine congrArg _ ?_;rw[e]:List.map wdv (List.filter (Z3r h) (List.take i l)++[l.getD i default])=List.map wdv (List.filter (Z3r h) (List.take (i+1) l))) Fz)))))))))))
theorem Zo4(h:Heap)(l:List Int)(ee:Int):CP (rndF Tryz.f34 0) (Zkm h l ee l.length).st (.ext 0) (Tg.st ⟨tm 42 [(5,int ee),(6,.ow 24006)],[(24006,.arr 35 1 ((l.filter (Z3r h)).map wdv))],60⟩):=by
 have e:l.take l.length=l:=List.take_length;exact sF [] (fO 2) (FO 17 18 wdv l (Fr (35:Int) (Fa (by refine congrArg _ ?_;rw[e]:List.map wdv (List.filter (Z3r h) (List.take l.length l))=List.map wdv (List.filter (Z3r h) l)) Fz)))
theorem Zf8(h:Heap)(l:List Int)(ee:Int)(hw:WOk h.W)(hl:l.length≤1048576)(hr:∀ x∈l,0≤x∧x≤8192):CP (blkF Tryz.f34 0) (Tg.st ⟨tm 42 [(1,.pt 8001 0 0),(4,Z02 l),(5,int ee),(6,.ow 24006),(7,int 0)],[(24006,.arr 35 1 []),(8001,.box 28 h.cells)],60⟩) .nrm
  (Tg.st ⟨tm 42 [(5,int ee),(6,.ow 24006)],[(24006,.arr 35 1 ((l.filter (Z3r h)).map wdv))],60⟩) :=
 Z0b (S:=fun i=>(Zkm h l ee i).st) l.length kr (fun i hi=>Zjy h l ee i hw hl hr hi) (Zo4 h l ee)
theorem Z3H(h:Heap)(hw:WOk h.W):GP 34 [h.av] false (.tu [Z02 (Z01 h).1,int (Z01 h).2]) []:=by
 have hl:=Z68 h;have hr:=Z4z h;exact gF [] Tryz.func34 [] (Fh 6 [.own] (Fc 12 (@ZaA h aa) (Fu (@Zf8 h ((Z0B h).fst) ((Z0B h).snd) aa oq aa) Fz)))
def Z48(h:Heap)(p o:Int):Int:=(loadA h.W (address h.C p o).1).1
theorem Zbj{c:Conf}(hv:Z07 c=true)(p o:Int):0≤(address c p o).1∧(address c p o).1≤8192:=by
 have ha:=area hv;unfold address;rw[if_pos hv];split
 ·rename_i hb;have hb:=inB_iff.1 hb;have:=ZfI hv hb.1 hb.2.1 hb.2.2.1 hb.2.2.2;simp only;omega
 ·simp
theorem Zmc(h:Heap)(p o:Int)(hp:Z03 h=true):GP 212 [h.av,int p,int o] true (u64 (Z48 h p o)) []:=by
 have po:=Z06 hp;have ar:=Zbj po.1 p o;exact gF [] Tryz.func212 [] (Fc 16 (@Z5E h.C p o) (Fc 23 (@Z1M h.W ((address h.C p o).fst) oq oq) Fz))
theorem Zcd(h:Heap)(p o:Int)(hp:Z03 h=true):GP 210 [h.av,int p,int o] true (u64 (Z48 h p o)) []:=by
 exact gF [] Tryz.func210 [] (Fc 10 (@Zmc h p o aa) Fz)
theorem Zes(h:Heap)(p o:Int)(hp:Z03 h=true)(h0:0≤p∧p<h.C.pg)(h1:0≤o∧o≤64):GP 211 [h.av,int p,int o] true (u64 (4096+p*h.C.pw+o)) []:=by
 have po:=Z06 hp;have ap:=Z2J po.1 h0.1 h0.2;exact gF [] Tryz.func211 [] (Fi 11 (p*h.C.pw) (Fi 12 (4096+p*h.C.pw) (Fi 14 (4096+p*h.C.pw+o) (Fv 15 (4096+p*h.C.pw+o) Fz))))
def Z0y(l:List Page):Nat→Nat
 | 0=>0
 | i+1=>if(l.getD (i+1) default).K=3 then Z0y l i else i+1
theorem Zpf{h:Heap}(hp:Z03 h=true):(h.P.getD 0 default).K≠3:=by
 have hi:=properB_iff.1 hp;have po:=Z06 hp;have hr:=hi.2.2.2.2.2;rw[ZbA oq oq,Bool.and_eq_true]at hr;have hc:=of_decide_eq_true hr.1;unfold rchk at hc;omega
def ZeH(h:Heap)(i:Nat):Tg:=⟨tm 15 [(1,int i),(2,.pt 8002 0 0)],[(8002,.box 28 h.cells)],60⟩
theorem Zhx(h:Heap)(i:Nat)(hi:i+1<h.P.length)(hl:h.P.length≤1048576)(hk:(h.P.getD (i+1) default).K=3):CP (rndF Tryz.f208 0) (ZeH h (i+1)).st .nrm (ZeH h i).st:=by
 have ei:((i+1:Nat):Int)-1=(i:Int):=by omega
 exact sF [] [] (Fek 8 Page.dv h.P (↑(i+1):Int) (i+1) (Ftb 11 ((h.P.getD (i+1) default).K==3) (Fg 13 (by rw[wrapI' oq oq];omega:IntKind.i64.wrap ((↑(i+1):Int)-1)=(↑i:Int)) Fz)))
theorem ZiK(h:Heap)(i:Nat)(hi:i<h.P.length)(hl:h.P.length≤1048576)(hk:¬ (h.P.getD i default).K=3):CP (rndF Tryz.f208 0) (ZeH h i).st (.ext 0) (Tg.st ⟨tm 15 [(1,int i)],[],60⟩):=by
 exact sF [] [] (Fek 8 Page.dv h.P (↑i) i (Ffb 11 ((h.P.getD i default).K==3) Fz))
theorem ZmO(h:Heap)(hp:Z03 h=true)(hl:h.P.length≤1048576):∀ i,i<h.P.length→LSpec Tryz.prog Tryz.f208 0 (ZeH h i).st (.ext 0) (Tg.st ⟨tm 15 [(1,int (Z0y h.P i))],[],60⟩)
 | 0,hi=>.endx (ZiK h 0 hi hl (Zpf hp))
 | i+1,hi=>by
  unfold Z0y;by_cases hk:(h.P.getD (i+1) default).K=3
  ·rw[if_pos hk];exact .next (Zhx h i hi hl hk) (ZmO h hp hl i oq)
  ·rw[if_neg hk];exact .endx (ZiK h (i+1) hi hl hk)
theorem Zmb(h:Heap)(i:Nat)(hp:Z03 h=true)(hi:i<h.P.length)(hl:h.P.length≤1048576):CP (blkF Tryz.f208 0) (ZeH h i).st .nrm (Tg.st ⟨tm 15 [(1,int (Z0y h.P i))],[],60⟩) :=
 (ZmO h hp hl i hi).ext kr
theorem ZfA(h:Heap)(i:Nat)(hp:Z03 h=true)(hi:i<h.P.length):GP 208 [h.av,int i] true (int (Z0y h.P i)) []:=by
 have po:=Z06 hp;exact gF [] Tryz.func208 [] (Fu (@Zmb h i aa aa oq) Fz)
def Z1r(h:Heap)(i:Int)(a:Int):Bool:=(decide ((h.P.getD i.toNat default).K=1)&&decide (Z00 h.C<sizeH (atH h a).1))||(decide ((h.P.getD i.toNat default).K=2)&&decide ((atH h a).1.K=0))
def Z13(h:Heap)(i:Int)(l:List Int):Int:=(l.find? (Z1r h i)).getD 0
def Zap(h:Heap)(i:Int)(l:List Int)(n:Nat):Tg:=⟨tm 61 [(1,int i),(2,Z02 l),(3,.pt 8003 0 0),(6,u64 0),(7,int n)],[(8003,.box 28 h.cells)],60⟩
section
variable (h:Heap) (i:Int) (l:List Int) (n:Nat) (hw:WOk h.W) (hl:l.length≤1048576) (hi:0≤i∧i<h.P.length) (hp:h.P.length≤1048576) (hr:∀ x∈l,0≤x∧x≤8192)
include hw hl hi hp hr
theorem Zaj(hn:n<l.length)(hb:Z1r h i (l.getD n default)=false):CP (rndF Tryz.f199 0) (Zap h i l n).st .nrm (Zap h i l (n+1)).st:=by
 have hx:=hr (l.getD n default) (getD_mem_iff.2 ⟨n,hn,rfl⟩);have hm:=Z3u hw (l.getD n default);simp only[Z1r,bs]at hb;let y0:=atH h (l.getD n default);let y1:=h.P.getD i.toNat default;exact sF [] [] (FN 13 14 21 wdv l n (Fc 23 (@Z5j h (l.getD n default) aa oq) (Fc 27 (@Z2a (y0.fst) aa) (Fc 30 (@Z1c h.C) (Fe 35 Page.dv h.P i (FeGq 47 (!(y1.K==1&&!decide (sizeH y0.fst≤Z00 h.C))) Page.dv h.P i (Ffb 56 (y1.K==1&&!decide (sizeH y0.fst≤Z00 h.C)||y1.K==2&&y0.fst.K==0) (Fx 16 n Fz))))))))
theorem ZgR(hn:n<l.length)(hb:Z1r h i (l.getD n default)=true):CP (rndF Tryz.f199 0) (Zap h i l n).st .ret (Tg.st ⟨tm 61 [(6,u64 (l.getD n default))],[],60⟩):=by
 have hx:=hr (l.getD n default) (getD_mem_iff.2 ⟨n,hn,rfl⟩);have hm:=Z3u hw (l.getD n default);simp only[Z1r,bs]at hb;refine stretchE [((13:Nat),[Hint.int (↑l.length:Int)]),((14:Nat),[Hint.br true]),((21:Nat),[Hint.el (wdv (l.getD n default))]),((23:Nat),[Hint.call true (AV.tu [(atH h (l.getD n default)).fst.av,int (atH h (l.getD n default)).snd]) []]),((27:Nat),[Hint.call true (int (sizeH (atH h (l.getD n default)).fst)) []]),((30:Nat),[Hint.call true (int (Z00 h.C)) []]),((35:Nat),[Hint.el (h.P.getD i.toNat default).dv]),((47:Nat),[Hint.el (h.P.getD i.toNat default).dv]),((56:Nat),[Hint.br true]),((59:Nat),[Hint.el (wdv (l.getD n default))])] [] [] [] (φ:=(↑(List.map wdv l).length:Int)=(↑l.length:Int)∧decide ((↑n:Int)<(↑l.length:Int))=true∧true=true∧((0:Int)≤(↑n:Int)∧(List.map wdv l)[(↑n:Int).toNat]? = some (wdv (l.getD n default)))∧GP 83 [h.av,u64 (l.getD n default)] true (AV.tu [(atH h (l.getD n default)).fst.av,int (atH h (l.getD n default)).snd]) []∧GP 75 [(atH h (l.getD n default)).fst.av] true (int (sizeH (atH h (l.getD n default)).fst)) []∧GP 151 [h.C.av] true (int (Z00 h.C)) []∧((0:Int)≤i∧(List.map Page.dv h.P)[i.toNat]? = some (h.P.getD i.toNat default).dv)∧((!((h.P.getD i.toNat default).K==(1:Int)&&!decide (sizeH (atH h (l.getD n default)).fst≤Z00 h.C)))=true→(0:Int)≤i∧(List.map Page.dv h.P)[i.toNat]? = some (h.P.getD i.toNat default).dv)∧((h.P.getD i.toNat default).K==(1:Int)&&!decide (sizeH (atH h (l.getD n default)).fst≤Z00 h.C)||(h.P.getD i.toNat default).K==(2:Int)&&(atH h (l.getD n default)).fst.K==(0:Int))=true∧true=true∧(0:Int)≤(↑n:Int)∧(List.map wdv l)[(↑n:Int).toNat]? = some (wdv (l.getD n default))) ?_ kr kr kr;exact⟨(by simp only[List.length_map]),(by(simp only[bs];omega)),rfl,(by exact elI oq oq oq),(@Z5j (h) (l.getD n default) aa oq),(@Z2a ((atH h (l.getD n default)).fst) aa),(@Z1c (h.C)),(by exact elI oq oq oq),(by intro hg;(try simp only[bs]at hg);exact elI oq oq oq),(by(simp only[bs];omega)),rfl,(by exact elI oq oq oq)⟩
omit hw hl hi hp hr in
theorem ZlR:CP (rndF Tryz.f199 0) (Zap h i l l.length).st (.ext 0) (Tg.st ⟨tm 61 [(6,u64 0)],[],60⟩):=by
 exact sF [] [] (FO 13 14 wdv l Fz)
end
theorem Z6U{l:List Int}{f:Int→Bool}(h:l.find? f=none):∀ n,n<l.length→f (l.getD n default)=false:=by
 intro n hn;have:=List.find?_eq_none.1 h (l.getD n default) (getD_mem_iff.2 ⟨n,hn,rfl⟩);simpa using this
theorem Z3O{f:Int→Bool}:∀ {l:List Int} {x:Int},l.find? f=some x→∃ n,n<l.length∧l.getD n default=x∧f x=true∧∀ m,m<n→f (l.getD m default)=false
 | [],x,h=>by simp at h
 | a::l,x,h=>by
  rw[List.find?_cons]at h;split at h
  ·rename_i ha;cases h;exact⟨0,by simp,rfl,ha,fun m hm=>by omega⟩
  ·rename_i ha;obtain⟨n,h1,h2,h3,h4⟩:=Z3O h;refine⟨n+1,by simp;omega,by simpa using h2,h3,fun m hm=>?_⟩;cases m with
   | zero=>simpa using ha
   | succ m=>simpa using h4 m oq
theorem ZiU(h:Heap)(i:Int)(l:List Int)(hw:WOk h.W)(hl:l.length≤1048576)(hi:0≤i∧i<h.P.length)(hp:h.P.length≤1048576)(hr:∀ x∈l,0≤x∧x≤8192)(hf:l.find? (Z1r h i)=none) :
  CP (blkF Tryz.f199 0) (Tg.st ⟨tm 61 [(1,int i),(2,Z02 l),(3,.pt 8003 0 0),(6,u64 0),(7,int 0)],[(8003,.box 28 h.cells)],60⟩) .nrm (Tg.st ⟨tm 61 [(6,u64 0)],[],60⟩) :=
 Z0b (S:=fun n=>(Zap h i l n).st) l.length kr (fun n hn=>Zaj h i l n hw hl hi hp hr hn (Z6U hf n hn)) (ZlR h i l)
theorem ZgH(h:Heap)(i:Int)(l:List Int)(x:Int)(hw:WOk h.W)(hl:l.length≤1048576)(hi:0≤i∧i<h.P.length)(hp:h.P.length≤1048576)(hr:∀ x∈l,0≤x∧x≤8192)(hf:l.find? (Z1r h i)=some x) :
  CP (blkF Tryz.f199 0) (Tg.st ⟨tm 61 [(1,int i),(2,Z02 l),(3,.pt 8003 0 0),(6,u64 0),(7,int 0)],[(8003,.box 28 h.cells)],60⟩) .ret (Tg.st ⟨tm 61 [(6,u64 x)],[],60⟩):=by
 obtain⟨n,h1,h2,h3,h4⟩:=Z3O hf;subst h2;exact Z0J (S:=fun n=>(Zap h i l n).st) n kr (fun m hm=>Zaj h i l m hw hl hi hp hr oq (h4 m hm)) (ZgR h i l n hw hl hi hp hr h1 h3)
theorem Z8S(h:Heap)(i:Int)(l:List Int)(hw:WOk h.W)(hl:l.length≤1048576)(hp:h.P.length≤1048576)(hi:0≤i∧i<h.P.length)(hr:∀ x∈l,0≤x∧x≤8192):GP 199 [h.av,int i,Z02 l] true (u64 (Z13 h i l)) []:=by
 cases hf:l.find? (Z1r h i)with
 | none =>
  have e7:Z13 h i l=0:=by rw[Z13,hf];rfl
  exact gF [] Tryz.func199 (fO 6) (Fu (@ZiU h i l aa aa aa aa aa aa) (Fa (by rw[e7]:0=Z13 h i l) Fz))
 | some x =>
  have e7:Z13 h i l=x:=by rw[Z13,hf];rfl
  exact gF [] Tryz.func199 (fO 6) (Fu (@ZgH h i l x aa aa aa aa aa aa) (Fa (by rw[e7]:x=Z13 h i l) Fz))
def bdv(x:Bool):List DV:=[.sc (.bool x)]
def Z4h(h:Heap)(a:Int):Int:=if(atH h a).1.K=0 then 1 else sizeH (atH h a).1
def Z9l(h:Heap)(i:Int)(a:Int)(o:Nat):Bool:=decide (a-4096-i*h.C.pw≤o)&&decide ((o:Int)<a-4096-i*h.C.pw+Z4h h a)
def Z1H(h:Heap)(i:Int)(l:List Int):List Bool:=(List.range h.C.pw.toNat).map fun o=>l.any fun a=>Z9l h i a o
def Z1y(h:Heap)(i:Int)(l:List Int)(a:Int)(w:Nat):List Bool:=(List.range h.C.pw.toNat).map fun(o:Nat)=>(l.any fun a=>Z9l h i a o)||(decide (a-4096-i*h.C.pw≤o)&&decide ((o:Int)<a-4096-i*h.C.pw+w))
theorem Zao(h:Heap)(i:Int)(l:List Int)(a:Int)(w:Nat):(Z1y h i l a w).length=h.C.pw.toNat:=by simp[Z1y]
theorem ZdS(h:Heap)(i:Int)(l:List Int)(a:Int):Z1y h i l a 0=Z1H h i l:=by
 unfold Z1y Z1H;refine List.map_congr_left fun o _=>?_;have:(decide (a-4096-i*h.C.pw≤(o:Int))&&decide ((o:Int)<a-4096-i*h.C.pw+(0:Nat)))=false:=by
  rw[Bool.and_eq_false_iff];simp;omega
 rw[this,Bool.or_false]
theorem Ze9{h:Heap}{i:Int}{l:List Int}{a:Int}{w:Nat}(hh:¬ (0≤a-4096+w-i*h.C.pw∧a-4096+w-i*h.C.pw<h.C.pw)):Z1y h i l a (w+1)=Z1y h i l a w:=by
 unfold Z1y;refine List.map_congr_left fun o ho=>?_;have ho:=List.mem_range.1 ho;congr 1;rw[Bool.eq_iff_iff];simp;omega
theorem Zh0{h:Heap}{i:Int}{l:List Int}{a:Int}{w:Nat}(hh:0≤a-4096+w-i*h.C.pw∧a-4096+w-i*h.C.pw<h.C.pw):(Z1y h i l a w).set (a-4096+w-i*h.C.pw).toNat true=Z1y h i l a (w+1):=by
 apply List.ext_getElem?;intro j;rw[List.getElem?_set,Zao];unfold Z1y;by_cases hjl:j<h.C.pw.toNat
 ·rw[List.getElem?_map,List.getElem?_map,List.getElem?_range hjl,Option.map_some,Option.map_some];by_cases hj:(a-4096+w-i*h.C.pw).toNat=j
  ·rw[if_pos hj,if_pos oq];congr 1;symm;rw[Bool.or_eq_true];right;rw[Bool.and_eq_true,decide_eq_true_eq,decide_eq_true_eq];omega
  ·rw[if_neg hj];congr 2;rw[Bool.eq_iff_iff,Bool.and_eq_true,Bool.and_eq_true,decide_eq_true_eq,decide_eq_true_eq,decide_eq_true_eq];omega
 ·rw[if_neg oq,List.getElem?_map,List.getElem?_map,List.getElem?_eq_none qo];rfl
theorem Zhv{h:Heap}{i:Int}{l:List Int}{a:Int}(hn:0≤Z4h h a):Z1y h i l a (Z4h h a).toNat=Z1H h i (l++[a]):=by
 unfold Z1y Z1H;refine List.map_congr_left fun o _=>?_;rw[List.any_append];congr 1;simp[Z9l];rw[Bool.eq_iff_iff];simp;omega
theorem Zkd(h:Heap)(i:Int):Z1H h i []=List.replicate h.C.pw.toNat false:=by
 unfold Z1H;simp[List.map_const']
def Zhz(h:Heap)(i:Int)(l:List Int)(k:Nat):Tg:=⟨tm 69 [(1,int i),(2,Z02 l),(3,.pt 8003 0 0),(7,.ow 16017),(8,int k)],[(16017,.arr 4 1 ((Z1H h i (l.take k)).map bdv)),(8003,.box 28 h.cells)],60⟩
def Zdz(h:Heap)(i:Int)(l m:List Int)(k:Nat)(n:Int)(w:Nat):Tg:=⟨tm 69 [(1,int i),(2,Z02 m),(3,.pt 8003 0 0),(7,.ow 16017),(8,int k),(11,int n),(12,int w)],[(16017,.arr 4 1 ((Z1y h i l (m.getD k default) w).map bdv)),(8003,.box 28 h.cells)],60⟩
theorem ZgA(h:Heap)(i:Int)(l m:List Int)(k:Nat)(n:Int)(w:Nat)(hp:Z03 h=true)(hm:m.length≤1048576)(hi:0≤i∧i<h.P.length)(hr:0≤m.getD k default∧m.getD k default≤8192)(hk:k<m.length)(hn:n≤256)(hw:w<n):CP (rndF Tryz.f209 2) (Zdz h i l m k n w).st .nrm (Zdz h i l m k n (w+1)).st:=by
 have po:=Z06 hp;have ap:=Z2J po.1 hi.1 oq;have hlen:=Zao h i l (m.getD k default) w;by_cases hh:0≤m.getD k default-4096+w-i*h.C.pw∧m.getD k default-4096+w-i*h.C.pw<h.C.pw
 ·have e:=Zh0 (l:=l) hh;let y0:=m.getD k default-4096+(↑w:Int)-i*h.C.pw;let y1:=Z1y h i l (m.getD k default) w;let y2:=0≤m.getD k default-4096+(↑w:Int)-i*h.C.pw;let y3:=y1.set y0.toNat true;exact sF [] (fO 11) (Fh 10067 [.els (List.map bdv y3)] (Ftb 40 (decide ((↑w:Int)<n)) (Fek 45 wdv m (↑k) k (Fi 47 (m.getD k default) (Fi 48 (m.getD k default-4096) (Fi 50 (m.getD k default-4096+(↑w:Int)) (Fi 55 (i*h.C.pw) (Fi 56 y0 (FlG 62 (decide y2) bdv y1 (Ftb 64 (decide y2&&decide (m.getD k default-4096+(↑w:Int)-i*h.C.pw<(↑y1.length:Int))) (Fa (by grind[]:0≤m.getD k default-4096+(↑w:Int)-i*h.C.pw∧y0.toNat<(List.map bdv y1).length) (Fa (by grind[]:y0.toNat<(List.map bdv y1).length) (Fa (by rw[List.map_set];rfl:(List.map bdv y1).set y0.toNat [DV.sc (Value.bool true)]=List.map bdv y3) (Fx 42 w (Fr (4:Int) (Fa (by refine congrArg _ ?_;exact e:List.map bdv y3=List.map bdv (Z1y h i l (m.getD k default) (w+1))) Fz))))))))))))))))
 ·have e:=Ze9 (l:=l) hh;let y4:=m.getD k default;let y5:=0≤m.getD k default-4096+(↑w:Int)-i*h.C.pw;exact sF [] (fO 11) (Ftb 40 (decide ((↑w:Int)<n)) (Fek 45 wdv m (↑k) k (Fi 47 y4 (Fi 48 (m.getD k default-4096) (Fi 50 (m.getD k default-4096+(↑w:Int)) (Fi 55 (i*h.C.pw) (Fi 56 (m.getD k default-4096+(↑w:Int)-i*h.C.pw) (FlG 62 (decide y5) bdv (Z1y h i l y4 w) (Ffb 64 (decide y5&&decide (m.getD k default-4096+(↑w:Int)-i*h.C.pw<(↑(Z1y h i l y4 w).length:Int))) (Fx 42 w (Fr (4:Int) (Fa (by refine congrArg _ ?_;rw[e]:List.map bdv (Z1y h i l y4 w)=List.map bdv (Z1y h i l y4 (w+1))) Fz))))))))))))
theorem Zlq(h:Heap)(i:Int)(l m:List Int)(k:Nat)(n:Int)(w:Nat)(hn:n≤w):CP (rndF Tryz.f209 2) (Zdz h i l m k n w).st (.ext 2) (Tg.st ⟨tm 69 [(1,int i),(2,Z02 m),(3,.pt 8003 0 0),(7,.ow 16017),(8,int k)],[(16017,.arr 4 1 ((Z1y h i l (m.getD k default) w).map bdv)),(8003,.box 28 h.cells)],60⟩):=by
 exact sF [] [] (Ffb 40 (decide ((↑w:Int)<n)) Fz)
theorem Zcn(h:Heap)(i:Int)(m:List Int)(k:Nat)(n:Int)(hp:Z03 h=true)(hm:m.length≤1048576)(hi:0≤i∧i<h.P.length)(hr:0≤m.getD k default∧m.getD k default≤8192)(hk:k<m.length)(hn:0≤n∧n≤256)(he:n=Z4h h (m.getD k default)):CP (blkF Tryz.f209 2) (Tg.st ⟨tm 69 [(1,int i),(2,Z02 m),(3,.pt 8003 0 0),(7,.ow 16017),(8,int k),(11,int n),(12,int 0)],[(16017,.arr 4 1 ((Z1H h i (m.take k)).map bdv)),(8003,.box 28 h.cells)],60⟩) .nrm
  (Tg.st ⟨tm 69 [(1,int i),(2,Z02 m),(3,.pt 8003 0 0),(7,.ow 16017),(8,int k)],[(16017,.arr 4 1 ((Z1H h i (m.take (k+1))).map bdv)),(8003,.box 28 h.cells)],60⟩):=by
 have:=Z0b (S:=fun w=>(Zdz h i (m.take k) m k n w).st) n.toNat kr (fun w hw=>ZgA h i (m.take k) m k n w hp hm hi hr hk hn.2 oq) (Zlq h i (m.take k) m k n n.toNat oq)
 have e1:Z1y h i (m.take k) (m.getD k default) n.toNat=Z1H h i (m.take (k+1)):=by
  rw[Z8x hk,he];exact Zhv oq
 rw[e1]at this;simp only[Zdz,ZdS]at this;exact this
theorem ZhA(h:Heap)(i:Int)(l:List Int)(k:Nat)(hw:WOk h.W)(hp:Z03 h=true)(hl:l.length≤1048576)(hi:0≤i∧i<h.P.length)(hr:∀ x∈l,0≤x∧x≤8192)(hk:k<l.length):CP (rndF Tryz.f209 0) (Zhz h i l k).st .nrm (Zhz h i l (k+1)).st:=by
 have po:=Z06 hp;have hx:=hr (l.getD k default) (getD_mem_iff.2 ⟨k,hk,rfl⟩);have hm:=Z3u hw (l.getD k default);have hs:=Z1a (atH h (l.getD k default)).1;by_cases hf:(atH h (l.getD k default)).1.K=0
 ·have e:Z4h h (l.getD k default)=1:=by rw[Z4h,if_pos hf]
  exact sF [] [] (FN 20 21 28 wdv l k (Fc 30 (@Z5j h (l.getD k default) aa oq) (Fc 34 (@Z2a ((atH h (l.getD k default)).fst) aa) (Ftb 37 ((atH h (l.getD k default)).fst.K==0) (Fu (@Zcn h i l k (1) aa aa aa aa aa oq oq) (Fx 23 k Fz))))))
 ·have e:Z4h h (l.getD k default)=sizeH (atH h (l.getD k default)).1:=by rw[Z4h,if_neg hf]
  let y0:=atH h (l.getD k default);exact sF [] [] (FN 20 21 28 wdv l k (Fc 30 (@Z5j h (l.getD k default) aa oq) (Fc 34 (@Z2a (y0.fst) aa) (Ffb 37 (y0.fst.K==0) (Fu (@Zcn h i l k (sizeH y0.fst) aa aa aa aa aa aa oq) (Fx 23 k Fz))))))
theorem ZmV(h:Heap)(i:Int)(l:List Int):CP (rndF Tryz.f209 0) (Zhz h i l l.length).st (.ext 0) (Tg.st ⟨tm 69 [(7,.ow 16017)],[(16017,.arr 4 1 ((Z1H h i l).map bdv))],60⟩):=by
 have e:l.take l.length=l:=List.take_length;exact sF [] [false,true] (FO 20 21 wdv l (Fr (4:Int) (Fa (by refine congrArg _ ?_;rw[e]:List.map bdv (Z1H h i (List.take l.length l))=List.map bdv (Z1H h i l)) Fz)))
theorem Zko(h:Heap)(i:Int)(l:List Int)(hw:WOk h.W)(hp:Z03 h=true)(hl:l.length≤1048576)(hi:0≤i∧i<h.P.length)(hr:∀ x∈l,0≤x∧x≤8192):CP (blkF Tryz.f209 0) (Tg.st ⟨tm 69 [(1,int i),(2,Z02 l),(3,.pt 8003 0 0),(7,.ow 16017),(8,int 0)],[(16017,.arr 4 1 ((List.replicate h.C.pw.toNat false).map bdv)),(8003,.box 28 h.cells)],60⟩) .nrm
  (Tg.st ⟨tm 69 [(7,.ow 16017)],[(16017,.arr 4 1 ((Z1H h i l).map bdv))],60⟩):=by
 have:=Z0b (S:=fun k=>(Zhz h i l k).st) l.length kr (fun k hk=>ZhA h i l k hw hp hl hi hr hk) (ZmV h i l);simp only[Zhz,List.take_zero,Zkd]at this;exact this
theorem ZfY(h:Heap)(i:Int)(l:List Int)(hw:WOk h.W)(hp:Z03 h=true)(hl:l.length≤1048576)(hi:0≤i∧i<h.P.length)(hr:∀ x∈l,0≤x∧x≤8192):GP 209 [h.av,int i,Z02 l] false (.d (.sl 1 ((Z1H h i l).map bdv))) []:=by
 have po:=Z06 hp;exact gF [] Tryz.func209 [] (Fh 17 [.els (List.map bdv (List.replicate h.C.pw.toNat false))] (Fb (0≤h.C.pw∧h.C.pw≤h.C.pw∧h.C.pw*((↑(nat_lit 0):Int)+1)≤2^48) (Fa (by rw[List.map_replicate];rfl:List.replicate h.C.pw.toNat [DV.sc (Value.bool false)]=List.map bdv (List.replicate h.C.pw.toNat false)) (Fu (@Zko h i l aa aa aa aa aa) Fz))))
def Z2d(h:Heap)(i:Nat):List Bool:=Z1H h i (Z08 h (Z0y h.P i:Nat)).1
theorem Z6w(h:Heap)(i:Nat):(Z2d h i).length=h.C.pw.toNat:=by simp[Z2d,Z1H]
theorem ZbL(l:List Page):∀ i,Z0y l i≤i
 | 0=>Nat.le_refl _
 | i+1=>by
  have:=ZbL l i;unfold Z0y;split<;>omega
def ZgG(h:Heap)(i:Nat)(u:List Bool)(k:Nat):Tg:=⟨tm 43 [(1,int i),(2,.pt 8002 0 0),(4,u64 0),(7,.d (.sl 1 (u.map bdv))),(8,int k)],[(8002,.box 28 h.cells)],60⟩
section
variable (h:Heap) (i:Nat) (u:List Bool) (k:Nat) (hp:Z03 h=true) (hi:i<h.P.length) (hu:u.length≤64)
include hp hi hu
theorem Zdx(hk:k<u.length)(hd:u.getD k default=true∨Z48 h i k=0):CP (rndF Tryz.f200 0) (ZgG h i u k).st .nrm (ZgG h i u (k+1)).st:=by
 have po:=Z06 hp;rcases hd with hd | hd
 ·exact sF [] [] (FN 23 24 29 bdv u k (FcG 36 (!u.getD k default) (fun hg=>by(try simp only[bs]at hg);exact @Zcd h ((↑i:Int)) ((↑k:Int)) aa) (Ffs 38 (!u.getD k default&&Z48 h (↑i:Int) (↑k:Int) != 0) (Fx 26 k Fz))))
 ·exact sF [] [] (FN 23 24 29 bdv u k (FcG 36 (!u.getD k default) (fun hg=>by(try simp only[bs]at hg);exact @Zcd h ((↑i:Int)) ((↑k:Int)) aa) (Ffb 38 (!u.getD k default&&Z48 h (↑i:Int) (↑k:Int) != 0) (Fx 26 k Fz))))
theorem ZhW(hk:k<u.length)(hd:u.getD k default=false∧¬ Z48 h i k=0):CP (rndF Tryz.f200 0) (ZgG h i u k).st .ret (Tg.st ⟨tm 43 [(4,u64 (4096+i*h.C.pw+k))],[],60⟩):=by
 have po:=Z06 hp;obtain⟨hd1,hd2⟩:=hd;exact sF [] [] (FN 23 24 29 bdv u k (FcG 36 (!u.getD k default) (fun hg=>by(try simp only[bs]at hg);exact @Zcd h ((↑i:Int)) ((↑k:Int)) aa) (Fts 38 (!u.getD k default&&Z48 h (↑i:Int) (↑k:Int) != 0) (Fc 42 (@Zes h ((↑i:Int)) ((↑k:Int)) aa oq oq) Fz))))
omit hp hi hu in
theorem Zof:CP (rndF Tryz.f200 0) (ZgG h i u u.length).st (.ext 0) (Tg.st ⟨tm 43 [(4,u64 0)],[],60⟩):=by
 exact sF [] [] (FO 23 24 bdv u Fz)
end
def badD(h:Heap)(i:Nat)(u:List Bool)(k:Nat):Bool:=!u.getD k default&&decide (Z48 h i k≠0)
def Z2S(h:Heap)(i:Nat)(u:List Bool):Int:=match (List.range u.length).find? (badD h i u)with | some k=>4096+i*h.C.pw+k | none=>0
theorem Zmh(h:Heap)(i:Nat)(u:List Bool)(hp:Z03 h=true)(hi:i<h.P.length)(hu:u.length≤64)(hf:(List.range u.length).find? (badD h i u)=none) :
  CP (blkF Tryz.f200 0) (Tg.st ⟨tm 43 [(1,int i),(2,.pt 8002 0 0),(4,u64 0),(7,.d (.sl 1 (u.map bdv))),(8,int 0)],[(8002,.box 28 h.cells)],60⟩) .nrm (Tg.st ⟨tm 43 [(4,u64 0)],[],60⟩):=by
 refine Z0b (S:=fun k=>(ZgG h i u k).st) u.length kr (fun k hk=>Zdx h i u k hp hi hu hk ?_) (Zof h i u);have:=List.find?_eq_none.1 hf k (List.mem_range.2 hk);simp only[badD,bs]at this;cases hb:u.getD k default with
 | true=>exact .inl rfl
 | false =>
  rw[hb]at this;exact .inr (by simpa using this)
theorem ZhY(h:Heap)(i:Nat)(u:List Bool)(k:Nat)(hp:Z03 h=true)(hi:i<h.P.length)(hu:u.length≤64)(hf:(List.range u.length).find? (badD h i u)=some k) :
  CP (blkF Tryz.f200 0) (Tg.st ⟨tm 43 [(1,int i),(2,.pt 8002 0 0),(4,u64 0),(7,.d (.sl 1 (u.map bdv))),(8,int 0)],[(8002,.box 28 h.cells)],60⟩) .ret (Tg.st ⟨tm 43 [(4,u64 (4096+i*h.C.pw+k))],[],60⟩):=by
 obtain⟨h1,h2,h3⟩:=List.find?_range_eq_some.1 hf;have h2:=List.mem_range.1 h2;refine Z0J (S:=fun k=>(ZgG h i u k).st) k kr (fun m hm=>Zdx h i u m hp hi hu oq ?_) (ZhW h i u k hp hi hu h2 ?_)
 ·have:=h3 m hm;simp only[badD,bs]at this;cases hb:u.getD m default with
  | true=>exact .inl rfl
  | false =>
   rw[hb]at this;exact .inr (by simpa using this)
 ·simp only[badD,bs]at h1;exact⟨h1.1,h1.2⟩
theorem ZfE(h:Heap)(i:Nat)(hw:WOk h.W)(hp:Z03 h=true)(hi:i<h.P.length):GP 200 [h.av,int i] true (u64 (Z2S h i (Z2d h i))) []:=by
 have po:=Z06 hp;have hh:=ZbL h.P i;have hn:=Z2X h (Z0y h.P i:Nat);have hr:=Z2M hp (Z0y h.P i:Nat);have hl:=Z6w h i;unfold Z2d at hl ⊢;cases hf:(List.range (Z1H h i (Z08 h (Z0y h.P i:Nat)).1).length).find? (badD h i (Z1H h i (Z08 h (Z0y h.P i:Nat)).1))with
 | none =>
  have e7:Z2S h i (Z1H h i (Z08 h (Z0y h.P i:Nat)).1)=0:=by rw[Z2S,hf]
  let y0:=Z08 h (↑(Z0y h.P i):Int);exact gF [] Tryz.func200 (fO 6) (Fc 13 (@ZfA h i aa aa) (Fc 14 (@Z3X h ((↑(Z0y h.P i):Int)) aa) (Fc 20 (@ZfY h ((↑i:Int)) (y0.fst) aa aa oq oq aa) (Fu (@Zmh h i (Z1H h (↑i:Int) y0.fst) aa aa oq aa) (Fa (by rw[e7]:0=Z2S h i (Z1H h (↑i:Int) y0.fst)) Fz)))))
 | some k =>
  have e7:Z2S h i (Z1H h i (Z08 h (Z0y h.P i:Nat)).1)=4096+i*h.C.pw+k:=by rw[Z2S,hf]
  let y1:=Z08 h (↑(Z0y h.P i):Int);exact gF [] Tryz.func200 (fO 6) (Fc 13 (@ZfA h i aa aa) (Fc 14 (@Z3X h ((↑(Z0y h.P i):Int)) aa) (Fc 20 (@ZfY h ((↑i:Int)) (y1.fst) aa aa oq oq aa) (Fu (@ZhY h i (Z1H h (↑i:Int) y1.fst) k aa aa oq aa) (Fa (by rw[e7]:4096+(↑i:Int)*h.C.pw+(↑k:Int)=Z2S h i (Z1H h (↑i:Int) y1.fst)) Fz)))))
structure Finding where
 fault:Int
 page:Int
 addr:Int
 deriving DecidableEq,Inhabited
def Finding.av(f:Finding):AV:=.ag [int f.fault,int f.page,u64 f.addr]
def pageF(h:Heap)(i:Nat):Finding :=
 if(h.P.getD i default).K≠0∧(h.P.getD i default).S≠h.S then⟨2,i,0⟩
 else if(Z08 h (i:Int)).2≠0 then⟨3,i,0⟩
 else if Z13 h (i:Int) (Z08 h (i:Int)).1≠0 then⟨5,i,Z13 h (i:Int) (Z08 h (i:Int)).1⟩
 else if Z2S h i (Z2d h i)≠0 then⟨4,i,Z2S h i (Z2d h i)⟩else⟨0,0,0⟩
theorem Zfv(h:Heap)(i:Nat)(hw:WOk h.W)(hp:Z03 h=true)(hi:i<h.P.length):GP 179 [h.av,int i] true (pageF h i).av []:=by
 have po:=Z06 hp;have hn:=Z2X h (i:Int);have hr:=Z2M hp (i:Int);have Q0 {h_ c_ p_} (r_:Fq h_ c_ p_):=Fek 12 Page.dv h.P (↑i) i (FeG 20 ((h.P.getD i default).K != 0) Page.dv h.P (↑i) i r_);rcases bb ((h.P.getD i default).K != 0&&(h.P.getD i default).S != h.S)with hc0 | hc0<;>have hc0p:=hc0<;>simp only[bs]at hc0p
 ·obtain⟨hc0pa,hc0pb⟩:=hc0p;rw[show pageF h i=Finding.mk (2:Int) (↑i:Int) (0:Int)from by(simp only[pageF] ;exact sj)];exact gF [] Tryz.func179 [] (Q0 (Ft 26 hc0 Fz))
 ·have Q1 {h_ c_ p_} (r_:Fq h_ c_ p_):=Q0 (Ff 26 hc0 (Fc 32 (@Z3X h ((↑i:Int)) aa) r_));rcases bb ((Z08 h (↑i:Int)).snd != 0)with hc1 | hc1<;>have hc1p:=hc1<;>simp only[bs]at hc1p
  ·rw[show pageF h i=Finding.mk (3:Int) (↑i:Int) (0:Int)from by(simp only[pageF] ;exact sj)];exact gF [] Tryz.func179 [] (Q1 (Ft 36 hc1 Fz))
  ·have Q2 {h_ c_ p_} (r_:Fq h_ c_ p_):=Q1 (Ff 36 hc1 (Fc 42 (@Z8S h ((↑i:Int)) ((Z08 h (↑i:Int)).fst) aa oq oq oq aa) r_));rcases bb (Z13 h (↑i:Int) (Z08 h (↑i:Int)).fst != 0)with hc2 | hc2<;>have hc2p:=hc2<;>simp only[bs]at hc2p
   ·rw[show pageF h i=Finding.mk (5:Int) (↑i:Int) (Z13 h (↑i:Int) (Z08 h (↑i:Int)).fst)from by(simp only[pageF] ;exact sj)];exact gF [] Tryz.func179 [] (Q2 (Ft 44 hc2 Fz))
   ·have Q3 {h_ c_ p_} (r_:Fq h_ c_ p_):=Q2 (Ff 44 hc2 (Fc 50 (@ZfE h i aa aa aa) r_));rcases bb (Z2S h i (Z2d h i) != 0)with hc3 | hc3<;>have hc3p:=hc3<;>simp only[bs]at hc3p
    ·rw[show pageF h i=Finding.mk (4:Int) (↑i:Int) (Z2S h i (Z2d h i))from by(simp only[pageF] ;exact sj)];exact gF [] Tryz.func179 [] (Q3 (Ft 52 hc3 Fz))
    ·rw[show pageF h i=Finding.mk (0:Int) (0:Int) (0:Int)from by(simp only[pageF] ;exact sj)];exact gF [] Tryz.func179 [] (Q3 (Ff 52 hc3 Fz))
def Zha(h:Heap)(all:List Int)(i:Nat):Tg:=⟨tm 89 [(1,.pt 8001 0 0),(2,.pt 8002 0 0),(3,Z02 all),(5,int i)],[(8002,.box 198 [int 0,int 0,u64 0]),(8001,.box 28 h.cells)],60⟩
def Z9T(hd:Header)(fs all:List Int)(k:Nat):Bool:=Z0g hd k&&decide (fs.getD k default≠0)&&!decide (fs.getD k default∈all)
def Zh2(h:Heap)(all fs:List Int)(hd:Header)(i k:Nat):Tg:=⟨tm 89 [(1,.pt 8001 0 0),(2,.pt 8002 0 0),(3,Z02 all),(5,int i),(6,.pt 488006 0 0),(8,Z02 fs),(10,int k)],[(488006,.box 52 [int hd.K,int hd.length,u32 hd.map]),(8002,.box 198 [int 0,int 0,u64 0]),(8001,.box 28 h.cells)],64⟩
section
variable (h:Heap) (all fs:List Int) (hd:Header) (i k:Nat) (hm:0≤hd.map∧hd.map≤4294967295) (hl:all.length≤1048576) (hf:fs.length≤4096) (hr:0≤all.getD i default∧all.getD i default≤8192) (hi:i<all.length)
include hm hl hf hr hi
theorem Zdl(hk:k<fs.length)(hb:Z9T hd fs all k=false):CP (rndF Tryz.f180 2) (Zh2 h all fs hd i k).st .nrm (Zh2 h all fs hd i (k+1)).st:=by
 simp only[Z9T,bs]at hb;rcases hb with(hb | hb) | hb
 ·let y0:=Z0g hd (↑k:Int)&&fs.getD k default != 0;exact sF [] [] (FM 46 47 wdv fs k (Fc 52 (@Z2k hd ((↑k:Int)) aa) (FeG 56 (Z0g hd (↑k:Int)) wdv fs (↑k) k (FeG 64 y0 wdv fs (↑k) k (FcG 66 y0 (fun hg=>by(try simp only[bs]at hg);exact @Z14 all (fs.getD k default) aa) (Ffs 68 (Z0g hd (↑k:Int)&&fs.getD k default != 0&&!decide (fs.getD k default∈all)) (Fx 49 k Fz)))))))
 ·let y1:=Z0g hd (↑k:Int)&&fs.getD k default != 0;exact sF [] [] (FM 46 47 wdv fs k (Fc 52 (@Z2k hd ((↑k:Int)) aa) (FeG 56 (Z0g hd (↑k:Int)) wdv fs (↑k) k (FeG 64 y1 wdv fs (↑k) k (FcG 66 y1 (fun hg=>by(try simp only[bs]at hg);exact @Z14 all (fs.getD k default) aa) (Ffb 68 (Z0g hd (↑k:Int)&&fs.getD k default != 0&&!decide (fs.getD k default∈all)) (Fx 49 k Fz)))))))
 ·let y2:=Z0g hd (↑k:Int)&&fs.getD k default != 0;exact sF [] [] (FM 46 47 wdv fs k (Fc 52 (@Z2k hd ((↑k:Int)) aa) (FeG 56 (Z0g hd (↑k:Int)) wdv fs (↑k) k (FeG 64 y2 wdv fs (↑k) k (FcG 66 y2 (fun hg=>by(try simp only[bs]at hg);exact @Z14 all (fs.getD k default) aa) (Ffs 68 (Z0g hd (↑k:Int)&&fs.getD k default != 0&&!decide (fs.getD k default∈all)) (Fx 49 k Fz)))))))
theorem ZhT(hk:k<fs.length)(hb:Z9T hd fs all k=true):CP (rndF Tryz.f180 2) (Zh2 h all fs hd i k).st .ret (Tg.st ⟨tm 89 [(2,.pt 8002 0 0)],[(8002,.box 198 [int 6,int (ofA h.C (all.getD i default+1+k)).1,u64 (all.getD i default+1+k)])],64⟩):=by
 simp only[Z9T,bs]at hb;obtain⟨⟨hb1,hb2⟩,hb3⟩:=hb;let y0:=Z0g hd (↑k:Int)&&fs.getD k default != 0;exact sF [] [] (FM 46 47 wdv fs k (Fc 52 (@Z2k hd ((↑k:Int)) aa) (FeG 56 (Z0g hd (↑k:Int)) wdv fs (↑k) k (FeG 64 y0 wdv fs (↑k) k (FcG 66 y0 (fun hg=>by(try simp only[bs]at hg);exact @Z14 all (fs.getD k default) aa) (Fts 68 (Z0g hd (↑k:Int)&&fs.getD k default != 0&&!decide (fs.getD k default∈all)) (Fek 71 wdv all (↑i) i (Fv 73 (all.getD i default+1) (Fv 75 (↑k) (Fv 76 (all.getD i default+1+(↑k:Int)) (Fc 81 (@Z4t h.C (all.getD i default+1+(↑k:Int)) oq oq) Fz)))))))))))
omit hm hl hf hr hi in
theorem ZnJ:CP (rndF Tryz.f180 2) (Zh2 h all fs hd i fs.length).st (.ext 2) (Tg.st ⟨tm 89 [(1,.pt 8001 0 0),(2,.pt 8002 0 0),(3,Z02 all),(5,int i)],[(8002,.box 198 [int 0,int 0,u64 0]),(8001,.box 28 h.cells)],64⟩):=by
 exact sF [] [] (FO 46 47 wdv fs Fz)
end
section
variable (h:Heap) (all fs:List Int) (hd:Header) (i:Nat) (hm:0≤hd.map∧hd.map≤4294967295) (hl:all.length≤1048576) (hf:fs.length≤4096) (hr:0≤all.getD i default∧all.getD i default≤8192) (hi:i<all.length)
include hm hl hf hr hi
theorem Zlc(hb:(List.range fs.length).find? (Z9T hd fs all)=none):CP (blkF Tryz.f180 2) (Zh2 h all fs hd i 0).st .nrm (Tg.st ⟨tm 89 [(1,.pt 8001 0 0),(2,.pt 8002 0 0),(3,Z02 all),(5,int i)],[(8002,.box 198 [int 0,int 0,u64 0]),(8001,.box 28 h.cells)],64⟩):=by
 refine Z0b (S:=fun k=>(Zh2 h all fs hd i k).st) fs.length kr (fun k hk=>Zdl h all fs hd i k hm hl hf hr hi hk ?_) (ZnJ h all fs hd i);have:=List.find?_eq_none.1 hb k (List.mem_range.2 hk);simpa using this
theorem ZiD(k:Nat)(hb:(List.range fs.length).find? (Z9T hd fs all)=some k):CP (blkF Tryz.f180 2) (Tg.st ⟨tm 89 [(1,.pt 8001 0 0),(2,.pt 8002 0 0),(3,Z02 all),(5,int i),(6,.pt 488006 0 0),(8,Z02 fs),(10,int 0)],[(488006,.box 52 [int hd.K,int hd.length,u32 hd.map]),(8002,.box 198 [int 0,int 0,u64 0]),(8001,.box 28 h.cells)],64⟩) .ret (Tg.st ⟨tm 89 [(2,.pt 8002 0 0)],[(8002,.box 198 [int 6,int (ofA h.C (all.getD i default+1+k)).1,u64 (all.getD i default+1+k)])],64⟩):=by
 obtain⟨h1,h2,h3⟩:=List.find?_range_eq_some.1 hb;have h2:=List.mem_range.1 h2;refine Z0J (S:=fun k=>(Zh2 h all fs hd i k).st) k kr (fun m hm'=>Zdl h all fs hd i m hm hl hf hr hi oq ?_) (ZhT h all fs hd i k hm hl hf hr hi h2 h1);have:=h3 m hm';simpa using this
end
theorem Z8I(h:Heap)(a:Int):(Z10 h a).1.length≤4096:=by
 unfold Z10;split
 ·rename_i e;have po:=Z06 (Z46 e).2.2.1;have:=Zd0 h.W (a+1) (getH h a).1.length;omega
 ·simp
def Z1Z(h:Heap)(all:List Int)(i:Nat):Option Nat:=(List.range (Z10 h (all.getD i default)).1.length).find? (Z9T (getH h (all.getD i default)).1 (Z10 h (all.getD i default)).1 all)
section
variable (h:Heap) (all:List Int) (i:Nat) (hw:WOk h.W) (hl:all.length≤1048576) (hr:0≤all.getD i default∧all.getD i default≤8192) (hi:i<all.length)
include hw hl hr hi
theorem ZcS(hb:Z1Z h all i=none):CP (rndF Tryz.f180 0) (Zha h all i).st .nrm (Zha h all (i+1)).st:=by
 have hm:=Zb3 hw (all.getD i default);have hf:(Z10 h (all.getD i default)).1.length≤4096:=Z8I h _;unfold Z1Z at hb;let y0:=all.getD i default;exact sF [] [] (FN 22 23 30 wdv all i (Fc 32 (@Z3N h y0 aa oq) (Fek 39 wdv all (↑i) i (Fc 41 (@Zan h y0 aa oq) (Fu (@Zlc h all ((Z10 h y0).fst) ((getH h y0).fst) i aa aa aa aa aa aa) (Fx 25 i Fz))))))
theorem ZjN(k:Nat)(hb:Z1Z h all i=some k):CP (rndF Tryz.f180 0) (Zha h all i).st .ret (Tg.st ⟨tm 89 [(2,.pt 8002 0 0)],[(8002,.box 198 [int 6,int (ofA h.C (all.getD i default+1+k)).1,u64 (all.getD i default+1+k)])],60⟩):=by
 have hm:=Zb3 hw (all.getD i default);have hf:(Z10 h (all.getD i default)).1.length≤4096:=Z8I h _;unfold Z1Z at hb;let y0:=all.getD i default;exact sF [] [] (FN 22 23 30 wdv all i (Fc 32 (@Z3N h y0 aa oq) (Fek 39 wdv all (↑i) i (Fc 41 (@Zan h y0 aa oq) (Fu (@ZiD h all ((Z10 h y0).fst) ((getH h y0).fst) i aa aa aa aa aa k aa) Fz)))))
end
theorem ZnV(h:Heap)(all:List Int):CP (rndF Tryz.f180 0) (Zha h all all.length).st (.ext 0) (Tg.st ⟨tm 89 [(2,.pt 8002 0 0)],[(8002,.box 198 [int 0,int 0,u64 0])],60⟩):=by
 exact sF [] [] (FO 22 23 wdv all Fz)
def Z0Z(h:Heap)(all:List Int):Finding :=
 match (List.range all.length).find? (fun i=>(Z1Z h all i).isSome)with
 | none=>⟨0,0,0⟩
 | some i=>⟨6,(ofA h.C (all.getD i default+1+((Z1Z h all i).getD 0:Nat))).1,all.getD i default+1+((Z1Z h all i).getD 0:Nat)⟩
section
variable (h:Heap) (all:List Int) (hw:WOk h.W) (hl:all.length≤1048576) (hr:∀ x∈all,0≤x∧x≤8192)
include hw hl hr
theorem ZkP(hb:(List.range all.length).find? (fun i=>(Z1Z h all i).isSome)=none):CP (blkF Tryz.f180 0) (Zha h all 0).st .nrm (Tg.st ⟨tm 89 [(2,.pt 8002 0 0)],[(8002,.box 198 [int 0,int 0,u64 0])],60⟩):=by
 refine Z0b (S:=fun k=>(Zha h all k).st) all.length kr (fun k hk=>ZcS h all k hw hl (hr _ (getD_mem_iff.2 ⟨k,hk,rfl⟩)) hk ?_) (ZnV h all);have:=List.find?_eq_none.1 hb k (List.mem_range.2 hk);simpa using this
theorem ZjG(i k:Nat)(hb:(List.range all.length).find? (fun i=>(Z1Z h all i).isSome)=some i)(hk':Z1Z h all i=some k):CP (blkF Tryz.f180 0) (Tg.st ⟨tm 89 [(1,.pt 8001 0 0),(2,.pt 8002 0 0),(3,Z02 all),(5,int 0)],[(8002,.box 198 [int 0,int 0,u64 0]),(8001,.box 28 h.cells)],60⟩) .ret (Tg.st ⟨tm 89 [(2,.pt 8002 0 0)],[(8002,.box 198 [int 6,int (ofA h.C (all.getD i default+1+k)).1,u64 (all.getD i default+1+k)])],60⟩):=by
 obtain⟨h1,h2,h3⟩:=List.find?_range_eq_some.1 hb;have h2:=List.mem_range.1 h2;refine Z0J (S:=fun k=>(Zha h all k).st) i kr (fun m hm'=>ZcS h all m hw hl (hr _ (getD_mem_iff.2 ⟨m,by omega,rfl⟩)) oq ?_) (ZjN h all i hw hl (hr _ (getD_mem_iff.2 ⟨i,h2,rfl⟩)) h2 k hk');have:=h3 m hm';simpa using this
end
theorem Z5l(h:Heap)(hw:WOk h.W):GP 180 [h.av] true (Z0Z h (Z01 h).1).av []:=by
 have hl:=Z2o h;have hr:=Z3h h;cases hb:(List.range (Z01 h).1.length).find? (fun i=>(Z1Z h (Z01 h).1 i).isSome)with
 | none =>
  have e:Z0Z h (Z01 h).1=⟨0,0,0⟩:=by simp only[Z0Z,hb]
  rw[e];exact gF [] Tryz.func180 [] (Fc 17 (@Z3H h aa) (Fu (@ZkP h ((Z01 h).fst) aa oq aa aa) Fz))
 | some i =>
  have h1:=(List.find?_range_eq_some.1 hb).1;obtain⟨k,hk⟩:=Option.isSome_iff_exists.1 h1;have e:Z0Z h (Z01 h).1=⟨6,(ofA h.C ((Z01 h).1.getD i default+1+(k:Nat))).1,(Z01 h).1.getD i default+1+(k:Nat)⟩:=by simp only[Z0Z,hb,hk,Option.getD_some]
  rw[e];exact gF [] Tryz.func180 [] (Fc 17 (@Z3H h aa) (Fu (@ZjG h ((Z01 h).fst) aa oq aa i k aa aa) Fz))
theorem ZkO(h:Heap)(hw:WOk h.W)(hp:Z03 h=false):GP 144 [h.av] true (Finding.mk 1 0 0).av []:=by
 exact gF [] Tryz.func144 [] (Fc 9 (@Z0k h) (Ftb 10 (!Z03 h) Fz))
def chkL(h:Heap)(i:Nat):Tg:=⟨tm 65 [(1,.pt 8001 0 0),(2,.pt 8002 0 0),(3,int i)],[(8002,.box 198 [int 0,int 0,u64 0]),(8001,.box 28 h.cells)],60⟩
section
variable (h:Heap) (i:Nat) (hw:WOk h.W) (hp:Z03 h=true)
include hw hp
theorem Zg1(hi:i<h.P.length)(hb:(pageF h i).fault=0):CP (rndF Tryz.f144 0) (chkL h i).st .nrm (chkL h (i+1)).st:=by
 have po:=Z06 hp;exact sF [] [] (FM 15 16 Page.dv h.P i (Fc 21 (@Zfv h i aa aa aa) (Ffb 24 ((pageF h i).fault != 0) (Fx 18 i Fz))))
theorem Zmk(hi:i<h.P.length)(hb:(pageF h i).fault≠0):CP (rndF Tryz.f144 0) (chkL h i).st .ret (Tg.st ⟨tm 65 [(2,.pt 8002 0 0)],[(8002,.box 198 [int (pageF h i).fault,int (pageF h i).page,u64 (pageF h i).addr])],60⟩):=by
 have po:=Z06 hp;exact sF [] [] (FM 15 16 Page.dv h.P i (Fc 21 (@Zfv h i aa aa aa) (Ftb 24 ((pageF h i).fault != 0) Fz)))
end
theorem ZoR(h:Heap)(hp:Z03 h=true):CP (rndF Tryz.f144 0) (chkL h h.P.length).st (.ext 0) (Tg.st ⟨tm 65 [(1,.pt 8001 0 0),(2,.pt 8002 0 0)],[(8002,.box 198 [int 0,int 0,u64 0]),(8001,.box 28 h.cells)],60⟩):=by
 have po:=Z06 hp;exact sF [] [] (FO 15 16 Page.dv h.P Fz)
def Z2N(h:Heap):Option Nat:=(List.range h.P.length).find? (fun i=>decide ((pageF h i).fault≠0))
section
variable (h:Heap) (hw:WOk h.W) (hp:Z03 h=true)
include hw hp
theorem Ze7(hb:Z2N h=none):CP (blkF Tryz.f144 0) (chkL h 0).st .nrm (Tg.st ⟨tm 65 [(1,.pt 8001 0 0),(2,.pt 8002 0 0)],[(8002,.box 198 [int 0,int 0,u64 0]),(8001,.box 28 h.cells)],60⟩):=by
 refine Z0b (S:=fun k=>(chkL h k).st) h.P.length kr (fun k hk=>Zg1 h k hw hp hk ?_) (ZoR h hp);have:=List.find?_eq_none.1 hb k (List.mem_range.2 hk);simpa using this
theorem Zms(i:Nat)(hb:Z2N h=some i):CP (blkF Tryz.f144 0) (Tg.st ⟨tm 65 [(1,.pt 8001 0 0),(2,.pt 8002 0 0),(3,int 0)],[(8002,.box 198 [int 0,int 0,u64 0]),(8001,.box 28 h.cells)],60⟩) .ret (Tg.st ⟨tm 65 [(2,.pt 8002 0 0)],[(8002,.box 198 [int (pageF h i).fault,int (pageF h i).page,u64 (pageF h i).addr])],60⟩):=by
 obtain⟨h1,h2,h3⟩:=List.find?_range_eq_some.1 hb;have h2:=List.mem_range.1 h2;refine Z0J (S:=fun k=>(chkL h k).st) i kr (fun m hm'=>Zg1 h m hw hp oq ?_) (Zmk h i hw hp h2 (by simpa using h1));have:=h3 m hm';simpa using this
end
theorem ZiL(h:Heap)(hw:WOk h.W)(hp:Z03 h=true)(i:Nat)(hb:Z2N h=some i):GP 144 [h.av] true (pageF h i).av []:=by
 exact gF [] Tryz.func144 [] (Fc 9 (@Z0k h) (Ffb 10 (!Z03 h) (Fu (@Zms h aa aa i aa) Fz)))
theorem Zlk(h:Heap)(hw:WOk h.W)(hp:Z03 h=true)(hb:Z2N h=none)(hq:(Z0Z h (Z01 h).1).fault≠0):GP 144 [h.av] true (Z0Z h (Z01 h).1).av []:=by
 exact gF [] Tryz.func144 [] (Fc 9 (@Z0k h) (Ffb 10 (!Z03 h) (Fu (@Ze7 h aa aa aa) (Fc 27 (@Z5l h aa) (Ftb 30 ((Z0Z h (Z01 h).fst).fault != 0) Fz)))))
end Go.Proofs.YtdhchmlalchgeaaGreat
