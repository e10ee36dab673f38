/-
 The statement EvacuateOnce: part 8.
 Conditions: none.
-/
import Derived.Test.YtdhchmlalchgeaaGreatE7
set_option maxRecDepth 100000
set_option maxHeartbeats 2000000
set_option linter.all false
namespace Go.Proofs.YtdhchmlalchgeaaGreat
open Go.Sx
def Z0B(h:Heap)(n k:Int):Heap×Int×Bool :=
 if 0≤first h.P k∧Z1t h.P+k≤Z2q h.C then(⟨h.C,h.W,(Z2E h.C h.P (first h.P k) h.S n).1,h.S,h.B⟩,4096+first h.P k*h.C.pw,true)else(noHeap,0,false)
theorem Zdi(h:Heap)(n k:Int)(hp:Z02 h=true)(hk:k=need h.C n)(hk1:1≤k):GP 160 [h.av,int n,int k] false (.tu [(Z0B h n k).1.av,u64 (Z0B h n k).2.1,bool (Z0B h n k).2.2]) []:=by
 have po:=Z06 hp;obtain⟨o1,o2,o3,o4,o5,o6,o7,o8,o9⟩:=po;have hr:=Z6k h.P k;have hff:0≤first h.P k→first h.P k+k≤h.P.length:=fun hf=>(Z1j hf).2.1
 have hiu:=Z7T h.P;have hli:=Zgl o1;have hnr:=Z3F h.C n;have hm2:0≤first h.P k→0≤first h.P k*h.C.pw∧first h.P k*h.C.pw+h.C.pw≤4096:=fun h0=>Z2K o1 h0 (by have:=hff h0;omega)
 by_cases hg:0≤first h.P k∧Z1t h.P+k≤Z2q h.C
 ·have e7:Z0B h n k=(⟨h.C,h.W,(Z2E h.C h.P (first h.P k) h.S n).1,h.S,h.B⟩,4096+first h.P k*h.C.pw,true):=by rw[Z0B,if_pos hg]
  rw[show Z0B h n k=(Heap.mk h.C h.W (Z2E h.C h.P (first h.P k) h.S n).fst h.S h.B,(4096:Int)+first h.P k*h.C.pw,true)from by rw[e7]];let y0:=!decide (first h.P k<0);exact gF [] Tryz.func160 [] (Fc 13 (@Z5q h.P k oq) (FcG 19 y0 (fun hg=>by(try simp only[bs]at hg);exact @Z73 h.P oq) (FiG 21 y0 ((↑(Z1t h.P):Int)+k) (FcG 24 y0 (fun hg=>by(try simp only[bs]at hg);exact @Z6z h.C) (Ffb 26 (decide (first h.P k<0)||decide (Z2q h.C<(↑(Z1t h.P):Int)+k)) (Fc 37 (@Zj3 h.C h.P (first h.P k) h.S n oq) (Fi 46 (first h.P k*h.C.pw) (Fi 47 (4096+first h.P k*h.C.pw) (Fv 48 (4096+first h.P k*h.C.pw) Fz)))))))))
 ·have e7:Z0B h n k=(noHeap,0,false):=by rw[Z0B,if_neg hg]
  rw[e7];let y1:=!decide (first h.P k<0);exact gF [] Tryz.func160 [] (Fc 13 (@Z5q h.P k oq) (FcG 19 y1 (fun hg=>by(try simp only[bs]at hg);exact @Z73 h.P oq) (FiG 21 y1 ((↑(Z1t h.P):Int)+k) (FcG 24 y1 (fun hg=>by(try simp only[bs]at hg);exact @Z6z h.C) (Ftb 26 (decide (first h.P k<0)||decide (Z2q h.C<(↑(Z1t h.P):Int)+k)) (Fnl (Fnl Fz)))))))
theorem Zdh{h:Heap}{n:Int}(hp:Z02 h=true)(hn:1≤n∧n≤256):0≤(Z0o h n).2.1∧(Z0o h n).2.1≤8192∧((Z0o h n).2.2=true→(Z0o h n).1.W=h.W∧4096≤(Z0o h n).2.1)∧((Z0o h n).2.2=false→(Z0o h n).1=noHeap):=by
 obtain⟨o1,o2,o3,o4,o5,o6,o7,o8,o9⟩:=Z06 hp;have hb:=(properB_iff.1 hp).2.2.2.2.1;have hpg:=fun hj=>Z0D hp (j:=h.B.toNat) hj;have hfo:=fun hf=>Z2D (h:=h) o9 hf;have hm1:0≤h.B→0≤h.B*h.C.pw∧h.B*h.C.pw+h.C.pw≤4096:=fun h0=>Z2K o1 h0 oq;have hm2:0≤first h.P 1→0≤first h.P 1*h.C.pw∧first h.P 1*h.C.pw+h.C.pw≤4096:=fun h0=>Z2K o1 h0 (by have:=hfo h0;omega)
 unfold Z0o;split
 ·rename_i hf;unfold Z7X at hf;have h1:=hm1 hf.1;have h2:=hpg oq;refine⟨by simp only;omega,by simp only;omega,fun _=>⟨rfl,by simp only;omega⟩,fun e=>by cases e⟩
 ·split
  ·rename_i hg;have h1:=hm2 hg.1;have h2:=congrArg Page.U (hfo hg.1).2.2.2;simp only at h2;refine⟨by simp only;omega,by simp only;omega,fun _=>⟨rfl,by simp only;omega⟩,fun e=>by cases e⟩
  ·exact⟨by simp,by simp,(fun e=>nomatch e),fun _=>rfl⟩
theorem ZdF{h:Heap}{n k:Int}(hp:Z02 h=true):0≤(Z0B h n k).2.1∧(Z0B h n k).2.1≤8192∧((Z0B h n k).2.2=true→(Z0B h n k).1.W=h.W∧4096≤(Z0B h n k).2.1)∧((Z0B h n k).2.2=false→(Z0B h n k).1=noHeap):=by
 obtain⟨o1,o2,o3,o4,o5,o6,o7,o8,o9⟩:=Z06 hp;unfold Z0B;split
 ·rename_i hg;have h3:=(Z1j hg.1)
  have h1:=Z2K (c:=h.C) (i:=first h.P k) o1 hg.1 oq;exact⟨by simp only;omega,by simp only;omega,fun _=>⟨rfl,by simp only;omega⟩,fun e=>by cases e⟩
 ·exact⟨by simp,by simp,(fun e=>nomatch e),fun _=>rfl⟩
def put7(h:Heap)(hd:Header):Heap×Int×Bool:=if 0<need h.C (sizeH hd)then Z0B h (sizeH hd) (need h.C (sizeH hd))else Z0o h (sizeH hd)
def new7(h:Heap)(hd:Header):Heap×Int×Int :=
 if Z02 h=true∧Z3n h.C hd=true then(if(put7 h hd).2.2=true then((Z1p (put7 h hd).1 (put7 h hd).2.1 hd).1,(put7 h hd).2.1,0)else(noHeap,0,3))else(noHeap,0,1)
theorem Z7g:WOk []:=fun w h=>by simp at h
theorem Z88{c:Conf}{hd:Header}(h:Z3n c hd=true):Z0g hd=true∧1≤sizeH hd∧sizeH hd≤256∧0≤need c (sizeH hd)∧hd.K≠0:=by
 simp only[Z3n,Bool.and_eq_true,decide_eq_true_eq]at h;have hv:=validH_iff.1 h.1.1;have hn:=Z3F c (sizeH hd);have hs:sizeH hd=hd.length+1:=by rw[sizeH,if_pos h.1.1]
 exact⟨h.1.1,by omega,by omega,by omega,h.1.2⟩
theorem ZjL(h:Heap)(hd:Header)(hw:WOk h.W)(hm:0≤hd.map∧hd.map≤4294967295):GP 115 [h.av,hd.av] false (.tu [(new7 h hd).1.av,u64 (new7 h hd).2.1,int (new7 h hd).2.2]) []:=by
 by_cases hp:Z02 h=true
 ·cases ha:Z3n h.C hd with
  | false =>
   have e7:new7 h hd=(noHeap,0,1):=by rw[new7,if_neg (by rw[ha];simp)]
   rw[e7];exact gF [] Tryz.func115 [] (Fc 13 (@Z0j h) (FcG 19 (!!Z02 h) (fun hg=>by(try simp only[bs]at hg);exact @Z5E h.C hd aa) (Fts 21 (!Z02 h||!Z3n h.C hd) (Fnl (Fnl Fz)))))
  | true =>
   obtain⟨a1,a2,a3,a4,a5⟩:=Z88 ha;have f1:=Zdh hp ⟨a2,a3⟩;have f2:=ZdF (n:=sizeH hd) (k:=need h.C (sizeH hd)) hp;have w1:WOk (Z0o h (sizeH hd)).1.W:=by
    cases e:(Z0o h (sizeH hd)).2.2 with
    | true=>rw[(f1.2.2.1 e).1];exact hw
    | false=>rw[f1.2.2.2 e];exact Z7g
   have w2:WOk (Z0B h (sizeH hd) (need h.C (sizeH hd))).1.W:=by
    cases e:(Z0B h (sizeH hd) (need h.C (sizeH hd))).2.2 with
    | true=>rw[(f2.2.2.1 e).1];exact hw
    | false=>rw[f2.2.2.2 e];exact Z7g
   by_cases hn:0<need h.C (sizeH hd)
   ·have e7:put7 h hd=Z0B h (sizeH hd) (need h.C (sizeH hd)):=by rw[put7,if_pos hn]
    have Q0 {h_ c_ p_} (r_:Fq h_ c_ p_):=Fc 13 (@Z0j h) (FcG 19 (!!Z02 h) (fun hg=>by(try simp only[bs]at hg);exact @Z5E h.C hd aa) (Ffs 21 (!Z02 h||!Z3n h.C hd) (Fc 24 (@Z2a hd aa) (Fc 28 (@Z4G h.C (sizeH hd)) (Fc 32 (@Z6X h (sizeH hd) aa oq) (Ftb 37 (decide (0<need h.C (sizeH hd))) (Fc 42 (@Zdi h (sizeH hd) (need h.C (sizeH hd)) aa (by rfl) aa) r_)))))));rcases bb (!(Z0B h (sizeH hd) (need h.C (sizeH hd))).snd.snd)with hc0 | hc0<;>have hc0p:=hc0<;>simp only[bs]at hc0p
    ·exact gF [] Tryz.func115 (fO 5) (Q0 (Ft 47 hc0 (Fnl (Fnl (Fa (by simp[new7,e7,noHeap, *]:0=(new7 h hd).fst.C.pw) (Fa (by simp[new7,e7,noHeap, *]:0=(new7 h hd).fst.C.pg) (Fa (by simp[new7,e7,noHeap, *]:[]=List.map wdv (new7 h hd).fst.W) (Fa (by simp[new7,e7,noHeap, *]:[]=List.map Page.dv (new7 h hd).fst.P) (Fa (by simp[new7,e7,noHeap, *]:0=(new7 h hd).fst.S) (Fa (by simp[new7,e7,noHeap, *]:0=(new7 h hd).fst.B) (Fa (by simp[new7,e7,noHeap, *]:0=(new7 h hd).snd.fst) (Fa (by simp[new7,e7,noHeap, *]:3=(new7 h hd).snd.snd) Fz))))))))))))
    ·rw[show new7 h hd=((Z1p (Z0B h (sizeH hd) (need h.C (sizeH hd))).fst (Z0B h (sizeH hd) (need h.C (sizeH hd))).snd.fst hd).fst,(Z0B h (sizeH hd) (need h.C (sizeH hd))).snd.fst,(0:Int))from by simp[new7,e7,noHeap, *]];exact gF [] Tryz.func115 [] (Q0 (Ff 47 hc0 (Fc 53 (@ZfE ((Z0B h (sizeH hd) (need h.C (sizeH hd))).fst) ((Z0B h (sizeH hd) (need h.C (sizeH hd))).snd.fst) hd aa oq aa) Fz)))
   ·have e7:put7 h hd=Z0o h (sizeH hd):=by rw[put7,if_neg hn]
    have Q1 {h_ c_ p_} (r_:Fq h_ c_ p_):=Fc 13 (@Z0j h) (FcG 19 (!!Z02 h) (fun hg=>by(try simp only[bs]at hg);exact @Z5E h.C hd aa) (Ffs 21 (!Z02 h||!Z3n h.C hd) (Fc 24 (@Z2a hd aa) (Fc 28 (@Z4G h.C (sizeH hd)) (Fc 32 (@Z6X h (sizeH hd) aa oq) (Ffb 37 (decide (0<need h.C (sizeH hd))) r_))))));rcases bb (!(Z0o h (sizeH hd)).snd.snd)with hc0 | hc0<;>have hc0p:=hc0<;>simp only[bs]at hc0p
    ·exact gF [] Tryz.func115 (fO 5) (Q1 (Ft 47 hc0 (Fnl (Fnl (Fa (by simp[new7,e7,noHeap, *]:0=(new7 h hd).fst.C.pw) (Fa (by simp[new7,e7,noHeap, *]:0=(new7 h hd).fst.C.pg) (Fa (by simp[new7,e7,noHeap, *]:[]=List.map wdv (new7 h hd).fst.W) (Fa (by simp[new7,e7,noHeap, *]:[]=List.map Page.dv (new7 h hd).fst.P) (Fa (by simp[new7,e7,noHeap, *]:0=(new7 h hd).fst.S) (Fa (by simp[new7,e7,noHeap, *]:0=(new7 h hd).fst.B) (Fa (by simp[new7,e7,noHeap, *]:0=(new7 h hd).snd.fst) (Fa (by simp[new7,e7,noHeap, *]:3=(new7 h hd).snd.snd) Fz))))))))))))
    ·rw[show new7 h hd=((Z1p (Z0o h (sizeH hd)).fst (Z0o h (sizeH hd)).snd.fst hd).fst,(Z0o h (sizeH hd)).snd.fst,(0:Int))from by simp[new7,e7,noHeap, *]];exact gF [] Tryz.func115 [] (Q1 (Ff 47 hc0 (Fc 53 (@ZfE ((Z0o h (sizeH hd)).fst) ((Z0o h (sizeH hd)).snd.fst) hd aa oq aa) Fz)))
 ·have hf:Z02 h=false:=by simpa using hp
  have e7:new7 h hd=(noHeap,0,1):=by rw[new7,if_neg (by rw[hf];simp)]
  rw[e7];exact gF [] Tryz.func115 [] (Fc 13 (@Z0j h) (FcG 19 (!!Z02 h) (fun hg=>by(try simp only[bs]at hg);exact @Z5E h.C hd aa) (Fts 21 (!Z02 h||!Z3n h.C hd) (Fnl (Fnl Fz)))))
theorem Z37(h:Header)(hm:0≤h.map∧h.map≤4294967295):GP 125 [h.av] true (bool (Z0g h)) []:=by
 have hs:=fun q=>Zp3 (n:=h.length) q;have ho:0≤h.length→h.length≤32→ones h.length=2^h.length.toNat-1:=fun h0 h1=>by rw[ones,Nat.min_eq_left oq]
 rcases Bool.eq_false_or_eq_true (decide (h.K<(0:Int))||decide ((3:Int)<h.K)||decide (h.length<(0:Int))||decide ((255:Int)<h.length))with hc0 | hc0
 ·have hc0p:=hc0;simp only[bs]at hc0p;refine gspec_ofE [((20:Nat),[Hint.br true])] [] [] dd Tryz.func125 [false,false,false,false,false,false,false,false,false,true] (φ:=(decide (h.K<(0:Int))||decide ((3:Int)<h.K)||decide (h.length<(0:Int))||decide ((255:Int)<h.length))=true∧true=true∧false=Z0g h) ?_ kr kr;exact⟨aa,rfl,(by(simp[Z0g, *];omega))⟩
 ·have hc0p:=hc0;simp only[bs]at hc0p;obtain⟨⟨⟨hc0paaa,hc0paab⟩,hc0pab⟩,hc0pb⟩:=hc0p;rcases Bool.eq_false_or_eq_true (h.K==(1:Int))with hc1 | hc1
  ·have hc1p:=hc1;simp only[bs]at hc1p;refine gspec_ofE [((20:Nat),[Hint.br false]),((23:Nat),[Hint.br true]),((30:Nat),[Hint.int h.map]),((33:Nat),[Hint.call true (u64 (ones h.length)) []])] [] [] dd Tryz.func125 [false,false,false,false,false,false,false,false,false,false,false,false,false,false,false,false,true] (φ:=(decide (h.K<(0:Int))||decide ((3:Int)<h.K)||decide (h.length<(0:Int))||decide ((255:Int)<h.length))=false∧false=false∧(h.K==(1:Int))=true∧true=true∧(decide (h.length≤(32:Int))=true→IntKind.u64.wrap h.map=h.map)∧(decide (h.length≤(32:Int))=true→GP 163 [int h.length] true (u64 (ones h.length)) [])∧(decide (h.length≤(32:Int))&&decide (h.map≤ones h.length))=Z0g h) ?_ kr kr;exact⟨aa,rfl,aa,rfl,(by intro hg;(try simp only[bs]at hg);exact wrapU2 rfl oq oq),(fun hg=>by(try simp only[bs]at hg);exact @Z3A (h.length)),(by grind[Z0g])⟩
  ·have hc1p:=hc1;simp only[bs]at hc1p;refine gspec_ofE [((20:Nat),[Hint.br false]),((23:Nat),[Hint.br false])] [] [] dd Tryz.func125 [false,false,false,false,false,false,false,false,false,true] (φ:=(decide (h.K<(0:Int))||decide ((3:Int)<h.K)||decide (h.length<(0:Int))||decide ((255:Int)<h.length))=false∧false=false∧(h.K==(1:Int))=false∧false=false∧(h.K==h.K&&(h.length==h.length&&h.map==(0:Int)))=Z0g h) ?_ kr kr;exact⟨aa,rfl,aa,rfl,(by grind[Z0g])⟩
theorem Z0O(h:Header)(hm:0≤h.map∧h.map≤4294967295):GP 74 [h.av] true (int (sizeH h)) []:=by
 rcases Bool.eq_false_or_eq_true (!Z0g h)with hc0 | hc0
 ·have hc0p:=hc0;simp only[bs]at hc0p;refine gspec_ofE [((4:Nat),[Hint.call true (Sx.bool (Z0g h)) []]),((5:Nat),[Hint.br true])] [] [] dd Tryz.func74 [true] (φ:=GP 125 [h.av] true (Sx.bool (Z0g h)) []∧(!Z0g h)=true∧true=true∧(0:Int)=sizeH h) ?_ kr kr;exact⟨(@Z37 (h) aa),aa,rfl,(by simp[sizeH, *])⟩
 ·have hc0p:=hc0;simp only[bs]at hc0p;have hf3:=validH_iff.1 hc0p;obtain⟨hf3a,⟨hf3ba,⟨hf3bba,⟨hf3bbba,hf3bbbb⟩⟩⟩⟩:=hf3;refine gspec_ofE [((4:Nat),[Hint.call true (Sx.bool (Z0g h)) []]),((5:Nat),[Hint.br false]),((8:Nat),[Hint.int (h.length+(1:Int))])] [] [] dd Tryz.func74 [true] (φ:=GP 125 [h.av] true (Sx.bool (Z0g h)) []∧(!Z0g h)=false∧false=false∧IntKind.i64.wrap (h.length+(1:Int))=h.length+(1:Int)∧h.length+(1:Int)=sizeH h) ?_ kr kr;exact⟨(@Z37 (h) aa),aa,rfl,(by exact wrapI2 rfl oq oq),(by simp[sizeH, *])⟩
theorem Z7j(ws:List Int)(a n:Int)(hw:ws.length≤1048576)(h0:0≤a∧a≤18446744073709551615):GP 162 [Z01 ws,u64 a,int n] true (.tu [int (Z0b ws a n).1,bool (Z0b ws a n).2]) []:=by
 have Q0 {h_ c_ p_} (r_:Fq h_ c_ p_):=FvG 13 (!decide (a<4096)) (a-4096) (FlG 15 (!decide (a<4096)) wdv ws (FvG 16 (!decide (a<4096)) (↑ws.length) r_));rcases bb (decide (a<4096)||decide ((↑ws.length:Int)<a-4096))with hc0 | hc0<;>have hc0p:=hc0<;>simp only[bs]at hc0p
 ·rw[show Z0b ws a n=((0:Int),false)from by(simp[Z0b, *];omega)];exact gF [] Tryz.func162 [] (Q0 (Ft 18 hc0 Fz))
 ·obtain⟨hc0pa,hc0pb⟩:=hc0p;rw[show Z0b ws a n=(a-(4096:Int),decide (n≤(↑ws.length:Int)-(a-(4096:Int))))from by(simp[Z0b, *];omega)];exact gF [] Tryz.func162 [] (Q0 (Ff 18 hc0 (Fv 20 (a-4096) (Fi 21 (a-4096) (Fl 25 wdv ws (Fi 27 ((↑ws.length:Int)-(a-4096)) Fz))))))
theorem ZaZ(ws:List Int)(a:Int)(hw:ws.length≤1048576)(h0:0≤a∧a≤18446744073709551615):GP 156 [Z01 ws,u64 a] true (.tu [int (Z0W ws a).1,int (Z0W ws a).2]) []:=by
 have Q0 {h_ c_ p_} (r_:Fq h_ c_ p_):=Fc 11 (@Z7j ws a (1) aa aa) r_;rcases bb (!(Z0b ws a 1).snd)with hc0 | hc0<;>have hc0p:=hc0<;>simp only[bs]at hc0p
 ·rw[show Z0W ws a=((0:Int),(2:Int))from by grind[Z0b,Z0W]];exact gF [] Tryz.func156 [] (Q0 (Ft 15 hc0 Fz))
 ·rw[show Z0W ws a=((Z0b ws a (1:Int)).fst,(0:Int))from by grind[Z0b,Z0W]];exact gF [] Tryz.func156 [] (Q0 (Ff 15 hc0 Fz))
theorem Z70(ws:List Int)(a:Int)(hw:ws.length≤1048576)(h0:0≤a∧a≤18446744073709551615):GP 113 [Z01 ws,u64 a] true (.tu [u64 (loadA ws a).1,int (loadA ws a).2]) []:=by
 rcases bb ((Z0W ws a).snd != 0)with hc0 | hc0<;>have hc0p:=hc0<;>simp only[bs]at hc0p
 ·have hf3:=ZcV hc0p;obtain⟨hf3a,hf3b⟩:=hf3;rw[show loadA ws a=((0:Int),(Z0W ws a).snd)from by simp[loadA, *]];exact gF [] Tryz.func113 [] (Fc 11 (@ZaZ ws a aa aa) (Ft 15 hc0 Fz))
 ·have hf5:=ZcD hc0p;obtain⟨hf5a,⟨hf5ba,hf5bb⟩⟩:=hf5;rw[show loadA ws a=(ws.getD (Z0W ws a).fst.toNat default,(0:Int))from by simp[loadA, *]];refine gspec_ofE [((11:Nat),[Hint.call true (AV.tu [int (Z0W ws a).fst,int (Z0W ws a).snd]) []]),((15:Nat),[Hint.br false]),((19:Nat),[Hint.el (wdv (ws.getD (Z0W ws a).fst.toNat default))])] [] [] dd Tryz.func113 [] (φ:=GP 156 [Z01 ws,u64 a] true (AV.tu [int (Z0W ws a).fst,int (Z0W ws a).snd]) []∧((Z0W ws a).snd != (0:Int))=false∧false=false∧(0:Int)≤(Z0W ws a).fst∧(List.map wdv ws)[(Z0W ws a).fst.toNat]? = some (wdv (ws.getD (Z0W ws a).fst.toNat default))) ?_ kr kr;exact⟨(@ZaZ (ws) (a) aa aa),aa,rfl,(by exact elI oq oq oq)⟩
def upS(w:Int):Nat→Int
 | 0=>w
 | 1=>w/4
 | 2=>w/16
 | 3=>w/65536
 | _=>w/281474976710656
def upO(w:Int):List Int:=[w%4,w/4%4,w/16%4096,w/65536%4294967296]
def upL1(w:Int)(i:Nat):Tg:=⟨tm 49 [(0,u64 w),(1,Z0q [2,2,12,32]),(4,.d (.sl 0 [])),(5,int 0),(6,int ([64,62,60,48,16].getD i 0)),(12,Z0q [2,2,12,32]),(13,int 4),(14,int i)],[],20⟩
theorem ZlV(w:Int)(i:Nat)(hi:i<4):CP (rndF Tryz.f174 0) (upL1 w i).st .nrm (upL1 w (i+1)).st:=by
 have h:i=0∨i=1∨i=2∨i=3:=by omega
 rcases h with rfl | rfl | rfl | rfl
 ·refine stretchE [((16:Nat),[Hint.el (idv (2:Int))])] [] [] [] (φ:=(0:Int)≤(↑(0:Nat):Int)∧(List.map idv [(2:Int),(2:Int),(12:Int),(32:Int)])[(↑(0:Nat):Int).toNat]? = some (idv (2:Int))) ?_ kr kr kr;exact(by simp[*])
 ·refine stretchE [((16:Nat),[Hint.el (idv (2:Int))])] [] [] [] (φ:=(0:Int)≤(↑(1:Nat):Int)∧(List.map idv [(2:Int),(2:Int),(12:Int),(32:Int)])[(↑(1:Nat):Int).toNat]? = some (idv (2:Int))) ?_ kr kr kr;exact(by simp[*])
 ·refine stretchE [((16:Nat),[Hint.el (idv (12:Int))])] [] [] [] (φ:=(0:Int)≤(↑(2:Nat):Int)∧(List.map idv [(2:Int),(2:Int),(12:Int),(32:Int)])[(↑(2:Nat):Int).toNat]? = some (idv (12:Int))) ?_ kr kr kr;exact(by simp[*])
 ·refine stretchE [((16:Nat),[Hint.el (idv (32:Int))])] [] [] [] (φ:=(0:Int)≤(↑(3:Nat):Int)∧(List.map idv [(2:Int),(2:Int),(12:Int),(32:Int)])[(↑(3:Nat):Int).toNat]? = some (idv (32:Int))) ?_ kr kr kr;exact(by simp[*])
theorem ZpG(w:Int):CP (rndF Tryz.f174 0) (upL1 w 4).st (.ext 0) (Tg.st ⟨tm 49 [(0,u64 w),(1,Z0q [2,2,12,32]),(4,.d (.sl 0 [])),(5,int 0)],[],60⟩):=by
 exact sF [] [] Fz
def Zix(w:Int)  := Z0a (S:=fun i=>(upL1 w i).st) 4 (by kernel_rfl) (fun i hi=>ZlV w i hi) (ZpG w)
def upL2(w:Int)(i:Nat):Tg:=⟨tm 49 [(0,u64 (upS w i)),(4,.d (.sl 0 [])),(5,int 0),(9,.ow 480009),(29,Z0q [2,2,12,32]),(30,int 4),(31,int i)],[(480009,.arr 35 1 (((upO w).take i).map wdv))],60⟩
theorem Zlu(w:Int)(i:Nat)(h0:0≤w)(h1:w≤18446744073709551615)(hi:i<4):CP (rndF Tryz.f174 2) (upL2 w i).st .nrm (upL2 w (i+1)).st:=by
 have o1:ones 2=3:=by decide
 have o2:ones 12=4095:=by decide
 have o3:ones 32=4294967295:=by decide
 have a0:bits .and .u64 w (ones 2)=w%4:=by rw[o1];exact Z3h 2 dd dd oq oq
 have a1:bits .and .u64 (w/4) (ones 2)=w/4%4:=by rw[o1];exact Z3h 2 dd dd oq oq
 have a2:bits .and .u64 (w/16) (ones 12)=w/16%4096:=by rw[o2];exact Z3h 12 dd dd oq oq
 have a3:bits .and .u64 (w/65536) (ones 32)=w/65536%4294967296:=by rw[o3];exact Z3h 32 dd dd oq oq
 have f1:(w/4).fdiv 4=w/16:=by rw[Int.fdiv_eq_ediv_of_nonneg _ dd];omega
 have f2:(w/16).fdiv 4096=w/65536:=by rw[Int.fdiv_eq_ediv_of_nonneg _ dd];omega
 have f3:(w/65536).fdiv 4294967296=w/281474976710656:=by rw[Int.fdiv_eq_ediv_of_nonneg _ dd];omega
 have h:i=0∨i=1∨i=2∨i=3:=by omega
 rcases h with rfl | rfl | rfl | rfl
 ·exact sF [(496041,480009)] [] (Fh 33 [.el (idv 2)] (Fa (by simp[upS,upO, *]:0≤(↑(0:Nat):Int)∧(List.map idv [2,2,12,32])[(↑(0:Nat):Int).toNat]? = some (idv 2)) (Fc 38 (@Z3A (2)) (Fg 39 (by assumption:bits BinOp.and IntKind.u64 (upS w 0) (ones (2:Int))=upS w 0%4) (Fs 40 (List.map wdv [upS w 0%4]) (Fa (by simp[upS,upO, *]:(List.map wdv (List.take 0 (upO w))).length+(List.map wdv [upS w 0%4]).length≤2^30) (Fs 41 (List.map wdv [upS w 0%4]) (Fg 44 (by exact Z50 rfl dd:(upS w 0).fdiv (2^min (Int.toNat 2) 64)=upS w 0/4) (Fo ((0:Int)≤2) Fz)))))))))
 ·exact sF [(496041,480009)] [true] (Fh 33 [.el (idv 2)] (Fa (by simp[upS,upO, *]:0≤(↑(1:Nat):Int)∧(List.map idv [2,2,12,32])[(↑(1:Nat):Int).toNat]? = some (idv 2)) (Fc 38 (@Z3A (2)) (Fg 39 (by assumption:bits BinOp.and IntKind.u64 (upS w 1) (ones (2:Int))=upS w 1%4) (Fs 40 (List.map wdv [upS w 1%4]) (Fa (by simp[upS,upO, *]:(List.map wdv (List.take 1 (upO w))).length+(List.map wdv [upS w 1%4]).length≤2^30) (Fs 41 (List.map wdv [w%4,upS w 1%4]) (Fg 44 (by exact Z50 rfl dd:(upS w 1).fdiv (2^min (Int.toNat 2) 64)=upS w 1/4) (Fo ((0:Int)≤2) (Fa (by(simp[upS,upO, *];omega):upS w 1/4=upS w (1+1)) Fz))))))))))
 ·exact sF [(496041,480009)] [true] (Fh 33 [.el (idv 12)] (Fa (by simp[upS,upO, *]:0≤(↑(2:Nat):Int)∧(List.map idv [2,2,12,32])[(↑(2:Nat):Int).toNat]? = some (idv 12)) (Fc 38 (@Z3A (12)) (Fg 39 (by assumption:bits BinOp.and IntKind.u64 (upS w 2) (ones (12:Int))=upS w 2%4096) (Fs 40 (List.map wdv [upS w 2%4096]) (Fa (by simp[upS,upO, *]:(List.map wdv (List.take 2 (upO w))).length+(List.map wdv [upS w 2%4096]).length≤2^30) (Fs 41 (List.map wdv [w%4,w/4%4,upS w 2%4096]) (Fg 44 (by exact Z50 rfl dd:(upS w 2).fdiv (2^min (Int.toNat 12) 64)=upS w 2/4096) (Fo ((0:Int)≤12) (Fa (by(simp[upS,upO, *];omega):upS w 2/4096=upS w (2+1)) Fz))))))))))
 ·exact sF [(496041,480009)] [true] (Fh 33 [.el (idv 32)] (Fa (by simp[upS,upO, *]:0≤(↑(3:Nat):Int)∧(List.map idv [2,2,12,32])[(↑(3:Nat):Int).toNat]? = some (idv 32)) (Fc 38 (@Z3A (32)) (Fg 39 (by assumption:bits BinOp.and IntKind.u64 (upS w 3) (ones (32:Int))=upS w 3%4294967296) (Fs 40 (List.map wdv [upS w 3%4294967296]) (Fa (by simp[upS,upO, *]:(List.map wdv (List.take 3 (upO w))).length+(List.map wdv [upS w 3%4294967296]).length≤2^30) (Fs 41 (List.map wdv [w%4,w/4%4,w/16%4096,upS w 3%4294967296]) (Fg 44 (by exact Z50 rfl dd:(upS w 3).fdiv (2^min (Int.toNat 32) 64)=upS w 3/4294967296) (Fo ((0:Int)≤32) (Fa (by(simp[upS,upO, *];omega):upS w 3/4294967296=upS w (3+1)) Fz))))))))))
theorem ZoB(w:Int):CP (rndF Tryz.f174 2) (upL2 w 4).st (.ext 2) (Tg.st ⟨tm 49 [(0,u64 (w/281474976710656)),(4,.d (.sl 0 [])),(5,int 0),(9,.ow 480009)],[(480009,.arr 35 1 ((upO w).map wdv))],60⟩):=by
 exact sF [] [] Fz
def Zj2(w:Int)(h0:0≤w)(h1:w≤18446744073709551615)  := Z0a (S:=fun i=>(upL2 w i).st) 4 (by kernel_rfl) (fun i hi=>Zlu w i h0 h1 hi) (ZoB w)
theorem ZeU(w:Int)(h0:0≤w)(h1:w≤18446744073709551615)(h:w<281474976710656):GP 174 [u64 w,Z0q [2,2,12,32]] true (.tu [Z01 (upO w),int 0]) []:=by
 exact gF [] Tryz.func174 [] (Fh 9 [.own] (Fu (@Zix w) (Fu (@Zj2 w aa aa) (Ffb 47 (w/(281474976710656:Int) != 0) (Fa (by exact Z2I _:Z0S (List.map wdv (upO w))) Fz)))))
theorem Zlf(w:Int)(h0:0≤w)(h1:w≤18446744073709551615)(h:¬ w<281474976710656):GP 174 [u64 w,Z0q [2,2,12,32]] true (.tu [Z01 [],int 2]) []:=by
 exact gF [] Tryz.func174 [] (Fh 9 [.own] (Fu (@Zix w) (Fu (@Zj2 w aa aa) (Ftb 47 (w/(281474976710656:Int) != 0) (Fnl Fz)))))
theorem Zdb(w:Int)(h0:0≤w):decodeH w=if w<281474976710656∧w%4=1∧Z0g (Z32 w)=true then(Z32 w,true)else(Z28,false):=by
 have k1:(Z32 w).K=w/4%4:=rfl;have k2:(Z32 w).length=w/16%4096:=rfl;have k3:(Z32 w).map=w/65536%4294967296:=rfl;by_cases hv:Z0g (Z32 w)=true
 ·have e:Z0c (Z32 w)=(1+4*(Z32 w).K+16*(Z32 w).length+65536*(Z32 w).map,0):=by rw[Z0c,if_pos hv]
  by_cases hc:w<281474976710656∧w%4=1
  ·rw[decodeH,e,if_pos ⟨rfl,by simp only;omega⟩,if_pos ⟨hc.1,hc.2,hv⟩]
  ·rw[decodeH,e,if_neg (by simp only;omega),if_neg (fun q=>hc ⟨q.1,q.2.1⟩)]
 ·have e:Z0c (Z32 w)=(0,1):=by rw[Z0c,if_neg hv]
  rw[decodeH,e,if_neg pq,if_neg (fun q=>hv q.2.2)]
theorem Z0N(w:Int)(h0:0≤w)(h1:w≤18446744073709551615):GP 141 [u64 w] true (.tu [(decodeH w).1.av,bool (decodeH w).2]) []:=by
 have hm:=Z8u w h0;rw[Zdb w h0];have u0:(upO w).getD 0 default=w%4:=rfl;have u1:(upO w).getD 1 default=w/4%4:=rfl;have u2:(upO w).getD 2 default=w/16%4096:=rfl;have u3:(upO w).getD 3 default=w/65536%4294967296:=rfl;have uL:(upO w).length=4:=rfl;have k1:(Z32 w).K=w/4%4:=rfl;have k2:(Z32 w).length=w/16%4096:=rfl;have k3:(Z32 w).map=w/65536%4294967296:=rfl;by_cases ha:w<281474976710656
 ·by_cases hb:w%4=1
  ·by_cases hv:Z0g (Z32 w)=true
   ·rw[if_pos ⟨ha,hb,hv⟩];have hv2:Z0g ⟨w/4%4,w/16%4096,w/65536%4294967296⟩=true:=hv;exact gF [] Tryz.func141 [] (Fh 17 [.el (wdv ((upO w).getD 0 default))] (Fh 23 [.el (wdv ((upO w).getD 1 default))] (Fh 27 [.el (wdv ((upO w).getD 2 default))] (Fh 31 [.el (wdv ((upO w).getD 3 default))] (Fs 9 (List.map idv [2,2,12,32]) (Fc 10 (@ZeU w aa aa aa) (Fa (by intro hg;(try simp only[bs]at hg);exact elI oq oq oq:(!(0:Int) != 0)=true→(0:Int)≤0∧(List.map wdv (upO w))[Int.toNat 0]? = some (wdv ((upO w).getD 0 default))) (Ffb 20 ((upO w).getD 0 default != 1) (Fa (by exact elI oq oq oq:(0:Int)≤1∧(List.map wdv (upO w))[Int.toNat 1]? = some (wdv ((upO w).getD 1 default))) (Fi 25 ((upO w).getD 1 default) (Fa (by exact elI oq oq oq:(0:Int)≤2∧(List.map wdv (upO w))[Int.toNat 2]? = some (wdv ((upO w).getD 2 default))) (Fi 29 ((upO w).getD 2 default) (Fa (by exact elI oq oq oq:(0:Int)≤3∧(List.map wdv (upO w))[Int.toNat 3]? = some (wdv ((upO w).getD 3 default))) (Fg 33 (by exact ZbD oq oq:IntKind.u32.wrap ((upO w).getD 3 default)=(upO w).getD 3 default) (Fc 36 (@Z37 (Header.mk ((upO w).getD 1 default) ((upO w).getD 2 default) ((upO w).getD 3 default)) aa) (Ffs 37 (!Z0g (Header.mk ((upO w).getD 1 default) ((upO w).getD 2 default) ((upO w).getD 3 default))) Fz))))))))))))))))
   ·rw[if_neg (by simp[hv])];have hv':Z0g ⟨w/4%4,w/16%4096,w/65536%4294967296⟩=false:=eq_false_of_ne_true hv;exact gF [] Tryz.func141 [] (Fh 17 [.el (wdv ((upO w).getD 0 default))] (Fh 23 [.el (wdv ((upO w).getD 1 default))] (Fh 27 [.el (wdv ((upO w).getD 2 default))] (Fh 31 [.el (wdv ((upO w).getD 3 default))] (Fs 9 (List.map idv [2,2,12,32]) (Fc 10 (@ZeU w aa aa aa) (Fa (by intro hg;(try simp only[bs]at hg);exact elI oq oq oq:(!(0:Int) != 0)=true→(0:Int)≤0∧(List.map wdv (upO w))[Int.toNat 0]? = some (wdv ((upO w).getD 0 default))) (Ffb 20 ((upO w).getD 0 default != 1) (Fa (by exact elI oq oq oq:(0:Int)≤1∧(List.map wdv (upO w))[Int.toNat 1]? = some (wdv ((upO w).getD 1 default))) (Fi 25 ((upO w).getD 1 default) (Fa (by exact elI oq oq oq:(0:Int)≤2∧(List.map wdv (upO w))[Int.toNat 2]? = some (wdv ((upO w).getD 2 default))) (Fi 29 ((upO w).getD 2 default) (Fa (by exact elI oq oq oq:(0:Int)≤3∧(List.map wdv (upO w))[Int.toNat 3]? = some (wdv ((upO w).getD 3 default))) (Fg 33 (by exact ZbD oq oq:IntKind.u32.wrap ((upO w).getD 3 default)=(upO w).getD 3 default) (Fc 36 (@Z37 (Header.mk ((upO w).getD 1 default) ((upO w).getD 2 default) ((upO w).getD 3 default)) aa) (Fts 37 (!Z0g (Header.mk ((upO w).getD 1 default) ((upO w).getD 2 default) ((upO w).getD 3 default))) Fz))))))))))))))))
  ·rw[if_neg (by simp[hb])];exact gF [] Tryz.func141 [] (Fh 17 [.el (wdv ((upO w).getD 0 default))] (Fs 9 (List.map idv [2,2,12,32]) (Fc 10 (@ZeU w aa aa aa) (Fa (by intro hg;(try simp only[bs]at hg);exact elI oq oq oq:(!(0:Int) != 0)=true→(0:Int)≤0∧(List.map wdv (upO w))[Int.toNat 0]? = some (wdv ((upO w).getD 0 default))) (Ftb 20 ((upO w).getD 0 default != 1) Fz)))))
 ·rw[if_neg (by simp[ha])];exact gF [] Tryz.func141 [] (Fh 17 [.el (wdv ([].getD 0 default))] (Fs 9 (List.map idv [2,2,12,32]) (Fc 10 (@Zlf w aa aa aa) (Fa (by intro hg;(try simp only[bs]at hg);exact elI oq oq oq:(!(2:Int) != 0)=true→(0:Int)≤0∧(List.map wdv [])[Int.toNat 0]? = some (wdv ([].getD 0 default))) Fz))))
end Go.Proofs.YtdhchmlalchgeaaGreat
namespace Go.Sx
def Zli(H:Heap)(x:AV):Option AV:=match x with
 | .d x=>some (.d x)
 | .rp e o=>some (.rp e o)
 | .ow b=>match Nat.ble 8000 b with
  | true=>match H b with | some (.arr _ s els)=>some (.d (.sl s els)) | _=>none
  | false=>none
 | .os b o n=>match Nat.ble 8000 b with
  | true=>match H b with | some (.arr _ s els)=>some (.d (.sl s ((els.drop o).take n))) | _=>none
  | false=>none
 | _=>none
theorem ZlO{P:Program}{f:Nat}{e0 e1:List DV}{t0 t1:Nat}{x:Value}(hx:x.oneCell'=true)(h:GSpec P f [.rp e0 0,.rp e1 0] true (.d (.sc x)) []) :
  LentSpec P f [.pt 0 0 0,.pt 1 0 0] [.box t0 (e0.map .d),.box t1 (e1.map .d)] (.d (.sc x)) [.box t0 (e0.map .d),.box t1 (e1.map .d)]:=by
 intro w Im ρ vs hIm hsz hρ hinj hbnd hpre hargs;have box:∀ (k:Nat) (e:List DV) (t:Nat) (v:Value) (Im2:Nat→Prop),(∀ g,Im g→Im2 g)→(∀ β g,ρ k=some β→β.g=some g→Im2 g)→(∃ β,ρ k=some β∧RelB ρ w Im β (.box t (e.map .d)))→Rel ρ w Im (.pt k 0 0) v→Rel (fun _=>none) w Im2 (.rp e 0) v:=by
  intro k e t v Im2 hi hg hb hv;obtain⟨β,hβ,r⟩:=hb;obtain⟨g,s,n,k1,rfl⟩:=Z2J hv;rw[hβ]at k1;cases k1;obtain⟨r1,r2,g2,cs,r3,r4,r5,r6,r7⟩:=r;cases r3;have:=@Rel.rp (fun _=>none) w Im2 e 0 ⟨g,0,none⟩ rfl (hg _ _ hβ rfl) (fun j y hy=>by
   have hj:j<e.length:=(List.getElem?_eq_some_iff.1 hy).1;have hc:j<cs.size:=by rw[r5];simpa using hj
   have h1:cs[j]? = some cs[j]:=Array.getElem?_eq_getElem hc;have h2:=r7 j (.d y) cs[j] (by simp[hy]) h1;refine⟨cs[j], ?_, ?_⟩
   ·simp only[World.cell?,r4];simpa using h1
   ·cases h2 with
    | d h2=>exact h2.mono (Ext.refl _ _) hi)
  simpa using this
 refine(h w (fun g=>Im g∨∃ k β,ρ k=some β∧β.g=some g) vs ?_ hsz ?_).mono ?_
 ·rintro g (hg | ⟨k,β,h1,h2⟩)
  ·exact hIm g hg
  ·exact(hbnd k β g h1 h2).1
 ·intro i y v hy hv;cases i with
  | zero =>
   simp at hy;subst hy;exact box 0 e0 t0 v _ (fun g hg=>.inl hg) (fun β g h1 h2=>.inr ⟨0,β,h1,h2⟩) (hpre 0 _ rfl) (hargs 0 _ v rfl hv)
  | succ i=>cases i with
   | zero =>
    simp at hy;subst hy;exact box 1 e1 t1 v _ (fun g hg=>.inl hg) (fun β g h1 h2=>.inr ⟨1,β,h1,h2⟩) (hpre 1 _ rfl) (hargs 1 _ v rfl hv)
   | succ i=>simp at hy
 ·rintro e w' ⟨v,rfl,hk,ρ',Im',_,_,_,_,_,_,hr⟩;have hv:=Z10 hr;subst hv;have ext:Ext Im w w':=⟨hk.size,fun g hg=>hk.block g (hIm g hg) (fun q=>q),hk.rows⟩
  refine⟨_,rfl,⟨hk.os,hk.tape,hk.output,hk.size,fun k h1 _=>hk.block k h1 (fun q=>q),hk.rows⟩,ρ,Im,fun _ _ h=>h,hρ,fun g hg=>.inl hg,fun g hg=>Nat.lt_of_lt_of_le (hIm g hg) hk.size,
   fun k β g h1 h2=>⟨Nat.lt_of_lt_of_le (hbnd k β g h1 h2).1 hk.size,.inr ⟨k,β,h1,h2⟩⟩,fun k β g _ h1 h2=>(hbnd k β g h1 h2).2,fun k k' β β' g _ _=>hinj k k' β β' g, ?_,.d (.sc _ hx)⟩
  intro k B hB;obtain⟨β,b1,b2⟩:=hpre k B hB;exact⟨β,b1,b2.mono ext (fun _ h=>h) (fun _ _ h=>h) (fun b β g h1 h2=>(hbnd b β g h1 h2).1) (fun g hg=>hk.block g (hbnd k β g b1 hg).1 (fun q=>q))⟩
theorem Z66{P:Program}{f s:Nat}{fr:Bool}{res:AV}{news:List Blk}(h:∀ (p:Option Addr) (c:Nat),GSpec P f [.d (.sc (.slice p 0 c))] fr res news):GSpec P f [.d (.sl s [])] fr res news:=by
 intro w Im vs hI hn hr;have h0:vs.size=1:=hn;obtain⟨v,hv⟩:∃ v,vs[0]? = some v:=⟨vs[0]' oq,by simp⟩
 have key:∀ (p:Option Addr) (c:Nat),v = .slice p 0 c→Calls P f vs w fun e w'=>∃ v,e = .returned v∧ZeW w Im fr res news v w':=fun p c e=>by
  refine h p c w Im vs hI hn fun i x u hx hu=>?_
  match i with
  | 0 =>
   simp only[List.getElem?_cons_zero,Option.some.injEq]at hx;rw[hv]at hu;cases hu;subst hx;subst e;exact .d (.sc _ rfl)
  | i+1=>simp at hx
 have h1:=hr 0 _ v rfl hv;cases h1 with
 | d h1 =>
  generalize he:([]:List (List DV))=l at h1;cases h1 with
  | slNil s p c=>exact key p c rfl
  | sl s els p n c fn hn=>subst he;simp at hn;subst hn;exact key _ c rfl
end Go.Sx
namespace Go.Proofs.YtdhchmlalchgeaaGreat
open Go.Sx
def Heap.dvs(h:Heap):List DV:=[.sc (.int .i64 h.C.pw),.sc (.int .i64 h.C.pg),.sl 1 (h.W.map wdv),.sl 4 (h.P.map Page.dv),.sc (.int .i64 h.S),.sc (.int .i64 h.B)]
theorem Zhf(h:Heap)(a:Int)(hl:h.W.length≤1048576)(h0:0≤a∧a≤18446744073709551615):GP 154 [.rp [.sc (.int .i64 h.C.pw),.sc (.int .i64 h.C.pg),.sl 1 (h.W.map wdv),.sl 4 (h.P.map Page.dv),.sc (.int .i64 h.S),.sc (.int .i64 h.B)] 0,.rp [.sc (.int .u64 a)] 0] true (u64 (loadA h.W a).1) []:=by
 exact gF [] Tryz.func154 [] (Fc 9 (@Z70 h.W a aa aa) Fz)
theorem Z22(h:Heap)(a:Int)(hl:h.W.length≤1048576)(h0:0≤a∧a≤18446744073709551615):LP 154 [.pt 0 0 0,.pt 1 0 0] [.box 28 h.cells,.box 35 [u64 a]] (u64 (loadA h.W a).1) [.box 28 h.cells,.box 35 [u64 a]] :=
 ZlO (e0:=h.dvs) (e1:=[.sc (.int .u64 a)]) rfl (Zhf h a hl h0)
theorem Z3Z(h:Heap)(a:Int)(hw:WOk h.W)(h0:0≤a∧a≤18446744073709551615):GP 111 [h.av,u64 a] true (.tu [(atH h a).1.av,int (atH h a).2]) []:=by
 have hv:=Z0F hw a;have hm:=Z1E (loadA h.W a).1 hv.1;by_cases hp:Z02 h=true
 ·have po:=Z06 hp;by_cases ho:(ofA h.C a).2.2=0
  ·have oo:=Z2C po.1 ho;have hz:(decodeH (loadA h.W a).1).2=true→sizeH (decodeH (loadA h.W a).1).1=(decodeH (loadA h.W a).1).1.length+1∧0≤(decodeH (loadA h.W a).1).1.length∧(decodeH (loadA h.W a).1).1.length≤255:=fun e=>by
    have hv:=Z7r e;have:=validH_iff.1 hv;rw[sizeH,if_pos hv];omega
   have pp:=Z0D hp (j:=(ofA h.C a).1.toNat) oq;by_cases c3:((h.P.getD (ofA h.C a).1.toNat default).K=1∨(h.P.getD (ofA h.C a).1.toNat default).K=2)∧(ofA h.C a).2.1<(h.P.getD (ofA h.C a).1.toNat default).U∧(decodeH (loadA h.W a).1).2=true
   ·have hz':=hz c3.2.2;by_cases c4:((h.P.getD (ofA h.C a).1.toNat default).K=1∧(h.P.getD (ofA h.C a).1.toNat default).U<(ofA h.C a).2.1+sizeH (decodeH (loadA h.W a).1).1)∨((h.P.getD (ofA h.C a).1.toNat default).K=2∧((ofA h.C a).2.1≠0∨sizeH (decodeH (loadA h.W a).1).1≠(h.P.getD (ofA h.C a).1.toNat default).U))
    ·have e7:atH h a=(Z28,19):=by rw[atH,if_pos hp,if_pos ho,if_pos c3,if_pos c4]
     rw[e7];have Q0 {h_ c_ p_} (r_:Fq h_ c_ p_):=Fc 15 (@Z0H h) (Ffb 16 (!Z02 h) (Fc 22 (@Z2n h.C a oq oq) (Ffb 27 ((ofA h.C a).snd.snd != 0) (Fe 34 Page.dv h.P ((ofA h.C a).fst) (Fbq 38 [8002,8003] (@Z22 h a oq aa) (Fc 39 (@Z0N ((loadA h.W a).fst) oq oq) (Fc 43 (@Z0O ((decodeH (loadA h.W a).fst).fst) aa) r_)))))));rcases bb (!(decodeH (loadA h.W a).fst).snd||decide ((h.P.getD (ofA h.C a).fst.toNat default).U≤(ofA h.C a).snd.fst))with hc0 | hc0<;>have hc0p:=hc0<;>simp only[bs]at hc0p
     ·exact gF [] Tryz.func111 [] (Fh 44 [.br true] (Q0 (Fa hc0 Fz)))
     ·obtain⟨hc0pa,hc0pb⟩:=hc0p;rcases bb ((h.P.getD (ofA h.C a).fst.toNat default).K==1)with hc1 | hc1<;>have hc1p:=hc1<;>simp only[bs]at hc1p
      ·let y0:=h.P.getD (ofA h.C a).fst.toNat default;exact gF [] Tryz.func111 [] (Fh 44 [.br false] (Fh 76 [.br true] (Q0 (Fa hc0 (Fa hc1 (Fi 61 (y0.U-(ofA h.C a).snd.fst) (Ftb 53 (!decide (sizeH (decodeH (loadA h.W a).fst).fst≤y0.U-(ofA h.C a).snd.fst)) Fz)))))))
      ·let y1:=h.P.getD (ofA h.C a).fst.toNat default;exact gF [] Tryz.func111 [] (Fh 44 [.br false] (Fh 53 [.br false] (Fh 76 [.br true] (Q0 (Fa hc0 (Fa hc1 (Fb ((y1.K==2)=true) (Ftb 63 (!((ofA h.C a).snd.fst==0&&sizeH (decodeH (loadA h.W a).fst).fst==y1.U)) Fz))))))))
    ·have e7:atH h a=((decodeH (loadA h.W a).1).1,0):=by rw[atH,if_pos hp,if_pos ho,if_pos c3,if_neg c4]
     rw[e7];have Q1 {h_ c_ p_} (r_:Fq h_ c_ p_):=Fc 15 (@Z0H h) (Ffb 16 (!Z02 h) (Fc 22 (@Z2n h.C a oq oq) (Ffb 27 ((ofA h.C a).snd.snd != 0) (Fe 34 Page.dv h.P ((ofA h.C a).fst) (Fbq 38 [8002,8003] (@Z22 h a oq aa) (Fc 39 (@Z0N ((loadA h.W a).fst) oq oq) (Fc 43 (@Z0O ((decodeH (loadA h.W a).fst).fst) aa) r_)))))));rcases bb (!(decodeH (loadA h.W a).fst).snd||decide ((h.P.getD (ofA h.C a).fst.toNat default).U≤(ofA h.C a).snd.fst))with hc0 | hc0<;>have hc0p:=hc0<;>simp only[bs]at hc0p
     ·let y2:=decodeH (loadA h.W a).fst;exact gF [] Tryz.func111 (fO 4) (Fh 44 [.br true] (Q1 (Fa hc0 (Fa (by grind[Z28]:0=y2.fst.K) (Fa (by grind[Z28]:0=y2.fst.length) (Fa (by grind[Z28]:0=y2.fst.map) (Fa (by grind[Z28]:(19:Int)=0) Fz)))))))
     ·obtain⟨hc0pa,hc0pb⟩:=hc0p;rcases bb ((h.P.getD (ofA h.C a).fst.toNat default).K==1)with hc1 | hc1<;>have hc1p:=hc1<;>simp only[bs]at hc1p
      ·let y3:=h.P.getD (ofA h.C a).fst.toNat default;exact gF [] Tryz.func111 [] (Fh 53 [.br true] (Fh 76 [.br false] (Q1 (Fa hc0 (Fa hc1 (Fi 61 (y3.U-(ofA h.C a).snd.fst) (Ffb 44 (!decide (sizeH (decodeH (loadA h.W a).fst).fst≤y3.U-(ofA h.C a).snd.fst)) Fz)))))))
      ·let y4:=h.P.getD (ofA h.C a).fst.toNat default;exact gF [] Tryz.func111 [] (Fh 53 [.br false] (Fh 63 [.br true] (Fh 76 [.br false] (Q1 (Fa hc0 (Fa hc1 (Fb ((y4.K==2)=true) (Ffb 44 (!((ofA h.C a).snd.fst==0&&sizeH (decodeH (loadA h.W a).fst).fst==y4.U)) Fz))))))))
   ·have e7:atH h a=(Z28,19):=by rw[atH,if_pos hp,if_pos ho,if_neg c3]
    rw[e7];have Q2 {h_ c_ p_} (r_:Fq h_ c_ p_):=Fc 15 (@Z0H h) (Ffb 16 (!Z02 h) (Fc 22 (@Z2n h.C a oq oq) (Ffb 27 ((ofA h.C a).snd.snd != 0) (Fe 34 Page.dv h.P ((ofA h.C a).fst) (Fbq 38 [8002,8003] (@Z22 h a oq aa) (Fc 39 (@Z0N ((loadA h.W a).fst) oq oq) (Fc 43 (@Z0O ((decodeH (loadA h.W a).fst).fst) aa) r_)))))));rcases bb (!(decodeH (loadA h.W a).fst).snd||decide ((h.P.getD (ofA h.C a).fst.toNat default).U≤(ofA h.C a).snd.fst))with hc0 | hc0<;>have hc0p:=hc0<;>simp only[bs]at hc0p
    ·exact gF [] Tryz.func111 [] (Fh 44 [.br true] (Q2 (Fa hc0 Fz)))
    ·obtain⟨hc0pa,hc0pb⟩:=hc0p;rcases bb ((h.P.getD (ofA h.C a).fst.toNat default).K==1)with hc1 | hc1<;>have hc1p:=hc1<;>simp only[bs]at hc1p
     ·have Q3 {h_ c_ p_} (r_:Fq h_ c_ p_):=Q2 (Fa hc0 (Fa hc1 (Fi 61 ((h.P.getD (ofA h.C a).fst.toNat default).U-(ofA h.C a).snd.fst) r_)));rcases bb (!decide (sizeH (decodeH (loadA h.W a).fst).fst≤(h.P.getD (ofA h.C a).fst.toNat default).U-(ofA h.C a).snd.fst))with hc2 | hc2<;>have hc2p:=hc2<;>simp only[bs]at hc2p
      ·exact gF [] Tryz.func111 [] (Fh 44 [.br false] (Fh 76 [.br true] (Q3 (Ft 53 hc2 Fz))))
      ·rw[show Z28=(decodeH (loadA h.W a).fst).fst from by grind[Z28]];let y5:=decodeH (loadA h.W a).fst;exact gF [] Tryz.func111 (fO 4) (Fh 53 [.br true] (Fh 76 [.br false] (Q3 (Ff 44 hc2 (Fr (y5.fst.K) (Fr (y5.fst.length) (Fr (y5.fst.map) (Fa (by grind[Z28]:(0:Int)=19) Fz))))))))
     ·rcases bb ((h.P.getD (ofA h.C a).fst.toNat default).K==2)with hc3 | hc3<;>have hc3p:=hc3<;>simp only[bs]at hc3p
      ·rcases bb (!((ofA h.C a).snd.fst==0&&sizeH (decodeH (loadA h.W a).fst).fst==(h.P.getD (ofA h.C a).fst.toNat default).U))with hc4 | hc4<;>have hc4p:=hc4<;>simp only[bs]at hc4p
       ·exact gF [] Tryz.func111 [] (Fh 44 [.br false] (Fh 53 [.br false] (Fh 76 [.br true] (Q2 (Fa hc0 (Fa hc1 (Fa hc3 (Ft 63 hc4 Fz))))))))
       ·obtain⟨hc4pa,hc4pb⟩:=hc4p;rw[show Z28=(decodeH (loadA h.W a).fst).fst from by grind[Z28]];let y6:=decodeH (loadA h.W a).fst;exact gF [] Tryz.func111 (fO 8) (Fh 53 [.br false] (Fh 63 [.br true] (Fh 76 [.br false] (Q2 (Fa hc0 (Fa hc1 (Fa hc3 (Ff 44 hc4 (Fr (y6.fst.K) (Fr (y6.fst.length) (Fr (y6.fst.map) (Fa (by grind[Z28]:(0:Int)=19) Fz))))))))))))
      ·exact gF [] Tryz.func111 [] (Fh 44 [.br false] (Fh 53 [.br false] (Fh 63 [.br false] (Q2 (Fa hc0 (Fa hc1 (Fa hc3 Fz)))))))
  ·have e7:atH h a=(Z28,2):=by rw[atH,if_pos hp,if_neg ho]
   have e2:(ofA h.C a).2.2=2:=by
    unfold ofA at ho ⊢;rw[if_pos po.1]at ho ⊢;split at ho
    ·simp at ho
    ·rename_i q;rw[if_neg q]
   rw[e7];exact gF [] Tryz.func111 [true] (Fc 15 (@Z0H h) (Ffb 16 (!Z02 h) (Fc 22 (@Z2n h.C a oq oq) (Ftb 27 ((ofA h.C a).snd.snd != 0) (Fr (0:Int) (Fr (0:Int) (Fr (0:Int) (Fa ‹(ofA h.C a).snd.snd=2› Fz))))))))
 ·have e7:atH h a=(Z28,1):=by rw[atH,if_neg hp]
  have hp':Z02 h=false:=by simpa using hp
  rw[e7];exact gF [] Tryz.func111 [] (Fc 15 (@Z0H h) (Ftb 16 (!Z02 h) Fz))
theorem Zfg{α β:Type}{f:α→β}{l:List α}(h:l≠[]):l.map f≠[]:=by simpa using h
theorem Zei(ws:List Int)(hw:ws.length≤1048576)(hne:ws≠[]):GP 80 [Z01 ws] true (.ow 0) [.arr 35 1 (ws.map wdv)]:=by
 exact gF [24007] Tryz.func80 [] (Fa (by exact Zfg hne:List.map wdv ws≠[]) (FA 5 7 wdv ws (Fa (by exact Z2I _:Z0S (List.map wdv ws)) Fz)))
theorem Z8U{α:Type}{l:List α}(h:0<l.length):l≠[]:=by
 rintro rfl;simp at h
def pg(h:Heap)(i:Int):Page:=h.P.getD i.toNat default
def adr(h:Heap)(i o:Int):Int:=(address h.C i o).1
theorem Z4n{h:Heap}(hv:Z05 h.C=true)(i o:Int):0≤adr h i o∧adr h i o≤8192:=by
 have ha:=area hv;unfold adr address;rw[if_pos hv];split
 ·rename_i hb;have hb:=inB_iff.1 hb;have:=Zfa hv hb.1 hb.2.1 hb.2.2.1 hb.2.2.2;simp only;omega
 ·simp
def Z3c(h:Heap)(i:Int):Nat→Int→Option (List Int)
 | 0,_=>some []
 | f+1,o=>if o<(pg h i).U then(if(atH h (adr h i o)).2=0 then(if(pg h i).K=2 then some [adr h i o]else(Z3c h i f (o+sizeH (atH h (adr h i o)).1)).map (adr h i o :: ·))else none)else some []
def Z9k(h:Heap)(i o:Int)(acc:List Int):Tg:=⟨tm 70 [(1,int i),(2,.pt 8002 0 0),(4,.d (.sl 0 [])),(5,int 0),(6,.pt 32006 0 0),(7,.ow 48007),(8,int o)],
 [(48007,.arr 35 1 (acc.map wdv)),(32006,.box 84 [int (pg h i).K,int (pg h i).S,int (pg h i).U,int (pg h i).N]),(8002,.box 28 h.cells)],60⟩
def Zaf(acc:List Int):Tg:=⟨tm 70 [(7,.ow 48007)],[(48007,.arr 35 1 (acc.map wdv))],60⟩
section
variable (h:Heap) (i o:Int) (acc:List Int) (hw:WOk h.W) (hp:Z02 h=true) (hl:acc.length≤1048576) (ho:0≤o∧o≤1000)
include hw hp hl ho
theorem ZiJ(h1:o<(pg h i).U)(h2:(atH h (adr h i o)).2=0)(h3:(pg h i).K≠2):CP (rndF Tryz.f134 0) (Z9k h i o acc).st .nrm (Z9k h i (o+sizeH (atH h (adr h i o)).1) (acc++[adr h i o])).st:=by
 have po:=Z06 hp;have ar:=Z4n po.1 i o;have sz:=Z1a (atH h (adr h i o)).1;have hm:=Z3x hw (adr h i o);unfold adr at ar sz hm h2;let y0:=address h.C i o;exact sF [(512061,48007)] [] (Fh 61 [.els (List.map wdv (acc++[y0.fst]))] (Ftb 41 (decide (o<(pg h i).U)) (Fc 47 (@Z5N h.C i o) (Fc 53 (@Z5d h (y0.fst) aa oq) (Ffb 57 ((atH h y0.fst).snd != 0) (Fs 60 (List.map wdv [y0.fst]) (Fa (by(simp[adr, *];omega):(List.map wdv acc).length+(List.map wdv [y0.fst]).length≤2^30) (Fa (by simp[adr,List.map_take,List.map_drop,List.map_set,List.map_append,wdv,idv]:List.map wdv acc++List.map wdv [y0.fst]=List.map wdv (acc++[y0.fst])) (Ffb 64 ((pg h i).K==2) (Fc 67 (@Z2a ((atH h y0.fst).fst) aa) (Fi 68 (o+sizeH (atH h y0.fst).fst) Fz)))))))))))
theorem Zhx(h1:o<(pg h i).U)(h2:(atH h (adr h i o)).2=0)(h3:(pg h i).K=2):CP (rndF Tryz.f134 0) (Z9k h i o acc).st (.ext 0) (Zaf (acc++[adr h i o])).st:=by
 have po:=Z06 hp;have ar:=Z4n po.1 i o;have hm:=Z3x hw (adr h i o);unfold adr at ar hm h2;let y0:=address h.C i o;exact sF [(512061,48007)] [] (Fh 61 [.els (List.map wdv (acc++[y0.fst]))] (Ftb 41 (decide (o<(pg h i).U)) (Fc 47 (@Z5N h.C i o) (Fc 53 (@Z5d h (y0.fst) aa oq) (Ffb 57 ((atH h y0.fst).snd != 0) (Fs 60 (List.map wdv [y0.fst]) (Fa (by(simp[adr, *];omega):(List.map wdv acc).length+(List.map wdv [y0.fst]).length≤2^30) (Fa (by simp[adr,List.map_take,List.map_drop,List.map_set,List.map_append,wdv,idv]:List.map wdv acc++List.map wdv [y0.fst]=List.map wdv (acc++[y0.fst])) (Ftb 64 ((pg h i).K==2) Fz)))))))))
theorem Zlg(h1:o<(pg h i).U)(h2:¬ (atH h (adr h i o)).2=0):CP (rndF Tryz.f134 0) (Z9k h i o acc).st .ret (Tg.st ⟨tm 70 [(4,.d (.sl 0 [])),(5,int 19)],[],60⟩):=by
 have po:=Z06 hp;have ar:=Z4n po.1 i o;unfold adr at ar h2;exact sF [] [] (Ftb 41 (decide (o<(pg h i).U)) (Fc 47 (@Z5N h.C i o) (Fc 53 (@Z5d h ((address h.C i o).fst) aa oq) (Ftb 57 ((atH h (address h.C i o).fst).snd != 0) Fz))))
omit hw hp hl ho in
theorem Zfd(h1:(pg h i).U≤o):CP (rndF Tryz.f134 0) (Z9k h i o acc).st (.ext 0) (Zaf acc).st:=by
 exact sF [] [] (Ffb 41 (decide (o<(pg h i).U)) Fz)
end
theorem Z8E{h:Heap}{a:Int}(e:(atH h a).2=0):1≤sizeH (atH h a).1:=by
 have:=ZdI e;rw[sizeH,if_pos this.2.2.2.2.1];omega
theorem Zjp(h:Heap)(i:Int)(hw:WOk h.W)(hp:Z02 h=true)(hu:(pg h i).U≤256):∀ (f:Nat) (o:Int) (acc:List Int),(pg h i).U-o≤f→0≤o→o≤1000→(acc.length:Int)+f≤1000 →
  (∀ l,Z3c h i f o=some l→LSpec Tryz.prog Tryz.f134 0 (Z9k h i o acc).st (.ext 0) (Zaf (acc++l)).st) ∧
  (Z3c h i f o=none→LSpec Tryz.prog Tryz.f134 0 (Z9k h i o acc).st .ret (Tg.st ⟨tm 70 [(4,.d (.sl 0 [])),(5,int 19)],[],60⟩)):=by
 intro f;induction f with
 | zero =>
  intro o acc h1 h2 h3 h4;refine⟨fun l hl=>?_,fun hl=>by cases hl⟩;simp only[Z3c,Option.some.injEq]at hl;subst hl;rw[List.append_nil];exact .endx (Zfd h i o acc oq)
 | succ f ih =>
  intro o acc h1 h2 h3 h4;unfold Z3c;by_cases ho:o<(pg h i).U
  ·rw[if_pos ho];by_cases ha:(atH h (adr h i o)).2=0
   ·rw[if_pos ha];by_cases hk:(pg h i).K=2
    ·rw[if_pos hk];refine⟨fun l hl=>?_,fun hl=>by cases hl⟩;cases hl;exact .endx (Zhx h i o acc hw hp oq ⟨h2,by omega⟩ ho ha hk)
    ·rw[if_neg hk];have hs:=Z8E ha;have hb:=Z1a (atH h (adr h i o)).1;have hr:=ZiJ h i o acc hw hp oq ⟨h2,by omega⟩ ho ha hk;obtain⟨i1,i2⟩:=ih (o+sizeH (atH h (adr h i o)).1) (acc++[adr h i o]) oq oq oq qo;refine⟨fun l hl=>?_,fun hl=>?_⟩
     ·rw[Option.map_eq_some_iff]at hl;obtain⟨m,hm,rfl⟩:=hl;have:=i1 m hm;rw[List.append_assoc]at this;exact .next hr this
     ·rw[Option.map_eq_none_iff]at hl;exact .next hr (i2 hl)
   ·rw[if_neg ha];exact⟨fun l hl=>(by cases hl),fun _=>.endr (Zlg h i o acc hw hp oq ⟨h2,by omega⟩ ho ha)⟩
  ·rw[if_neg ho];refine⟨fun l hl=>?_,fun hl=>by cases hl⟩;cases hl;rw[List.append_nil];exact .endx (Zfd h i o acc oq)
theorem ZiE(h:Heap)(i:Int)(l:List Int)(hw:WOk h.W)(hp:Z02 h=true)(hu:(pg h i).U≤256)(hl:Z3c h i 256 0=some l):CP (blkF Tryz.f134 0) (Tg.st ⟨tm 70 [(1,int i),(2,.pt 8002 0 0),(4,.d (.sl 0 [])),(5,int 0),(6,.pt 32006 0 0),(7,.ow 48007),(8,int 0)],
 [(48007,.arr 35 1 []),(32006,.box 84 [int (h.P.getD i.toNat default).K,int (h.P.getD i.toNat default).S,int (h.P.getD i.toNat default).U,int (h.P.getD i.toNat default).N]),(8002,.box 28 h.cells)],60⟩) .nrm (Zaf l).st :=
 ((Zjp h i hw hp hu 256 0 [] oq oq oq pq).1 l hl).ext kr
theorem ZcG(h:Heap)(i:Int)(hw:WOk h.W)(hp:Z02 h=true)(hu:(pg h i).U≤256)(hl:Z3c h i 256 0=none):CP (blkF Tryz.f134 0) (Tg.st ⟨tm 70 [(1,int i),(2,.pt 8002 0 0),(4,.d (.sl 0 [])),(5,int 0),(6,.pt 32006 0 0),(7,.ow 48007),(8,int 0)],
 [(48007,.arr 35 1 []),(32006,.box 84 [int (h.P.getD i.toNat default).K,int (h.P.getD i.toNat default).S,int (h.P.getD i.toNat default).U,int (h.P.getD i.toNat default).N]),(8002,.box 28 h.cells)],60⟩) .ret (Tg.st ⟨tm 70 [(4,.d (.sl 0 [])),(5,int 19)],[],60⟩) :=
 ((Zjp h i hw hp hu 256 0 [] oq oq oq pq).2 hl).ret kr
def Z07(h:Heap)(i:Int):List Int×Int :=
 if Z02 h=true then(if 0≤i∧i<h.P.length then(if(pg h i).K=0∨(pg h i).K=3 then([],0)else(match Z3c h i 256 0 with | some l=>(l,0) | none=>([],19)))else([],2))else([],1)
theorem Z3T(h:Heap)(i:Int)(hw:WOk h.W):GP 134 [h.av,int i] false (.tu [Z01 (Z07 h i).1,int (Z07 h i).2]) []:=by
 cases hp:Z02 h with
 | false =>
  have e7:Z07 h i=([],1):=by rw[Z07,if_neg (by rw[hp];simp)]
  rw[e7];exact gF [] Tryz.func134 [] (Fc 14 (@Z0j h) (Ftb 15 (!Z02 h) (Fnl Fz)))
 | true =>
  have po:=Z06 hp;by_cases hi:0≤i∧i<h.P.length
  ·have pp:=Z0D hp (j:=i.toNat) oq;have hu:(pg h i).U≤256:=pp.2.2.2.2.2.2.2.1;cases hwk:Z3c h i 256 0 with
   | none =>
    have e7:Z07 h i=if(h.P.getD i.toNat default).K=0∨(h.P.getD i.toNat default).K=3 then([],0)else([],19):=by rw[Z07,if_pos hp,if_pos hi,hwk];rfl
    have Q0 {h_ c_ p_} (r_:Fq h_ c_ p_):=Fc 14 (@Z0j h) (Ffb 15 (!Z02 h) (FlG 22 (!decide (i<0)) Page.dv h.P (Ffb 24 (decide (i<0)||decide ((↑h.P.length:Int)≤i)) (Fe 28 Page.dv h.P i r_))));rcases bb ((h.P.getD i.toNat default).K==0||(h.P.getD i.toNat default).K==3)with hc0 | hc0<;>have hc0p:=hc0<;>simp only[bs]at hc0p
    ·exact gF [] Tryz.func134 (fO 8) (Q0 (Ft 37 hc0 (Fnl (Fa (by rw[e7,if_pos oq];rfl:[]=List.map wdv (Z07 h i).fst) (Fa (by rw[e7,if_pos oq]:0=(Z07 h i).snd) Fz)))))
    ·obtain⟨hc0pa,hc0pb⟩:=hc0p;exact gF [] Tryz.func134 (fO 18) (Fh 7 [.own] (Q0 (Ff 37 hc0 (Fu (@ZcG h i aa aa aa aa) (Fnl (Fa (by rw[e7,if_neg oq];rfl:[]=List.map wdv (Z07 h i).fst) (Fa (by rw[e7,if_neg oq]:19=(Z07 h i).snd) Fz)))))))
   | some l =>
    have e7:Z07 h i=if(h.P.getD i.toNat default).K=0∨(h.P.getD i.toNat default).K=3 then([],0)else(l,0):=by rw[Z07,if_pos hp,if_pos hi,hwk];rfl
    have Q1 {h_ c_ p_} (r_:Fq h_ c_ p_):=Fc 14 (@Z0j h) (Ffb 15 (!Z02 h) (FlG 22 (!decide (i<0)) Page.dv h.P (Ffb 24 (decide (i<0)||decide ((↑h.P.length:Int)≤i)) (Fe 28 Page.dv h.P i r_))));rcases bb ((h.P.getD i.toNat default).K==0||(h.P.getD i.toNat default).K==3)with hc0 | hc0<;>have hc0p:=hc0<;>simp only[bs]at hc0p
    ·exact gF [] Tryz.func134 (fO 8) (Q1 (Ft 37 hc0 (Fnl (Fa (by rw[e7,if_pos oq];rfl:[]=List.map wdv (Z07 h i).fst) (Fa (by rw[e7,if_pos oq]:0=(Z07 h i).snd) Fz)))))
    ·obtain⟨hc0pa,hc0pb⟩:=hc0p;exact gF [] Tryz.func134 (fO 18) (Fh 7 [.own] (Q1 (Ff 37 hc0 (Fu (@ZiE h i l aa aa aa aa) (Fa (by refine congrArg _ ?_;rw[e7,if_neg oq]:List.map wdv l=List.map wdv (Z07 h i).fst) (Fa (by rw[e7,if_neg oq]:0=(Z07 h i).snd) Fz))))))
  ·have e7:Z07 h i=([],2):=by rw[Z07,if_pos hp,if_neg hi]
   rw[e7];exact gF [] Tryz.func134 [] (Fc 14 (@Z0j h) (Ffb 15 (!Z02 h) (FlG 22 (!decide (i<0)) Page.dv h.P (Ftb 24 (decide (i<0)||decide ((↑h.P.length:Int)≤i)) (Fnl Fz)))))
def hasL(l:List Int)(v:Int)(i:Nat):Tg:=⟨tm 18 [(0,Z01 l),(1,u64 v),(4,bool false),(5,int i)],[],60⟩
theorem Zfm(l:List Int)(v:Int)(i:Nat)(hl:l.length≤1048576)(hi:i<l.length)(hv:¬ l.getD i default=v):CP (rndF Tryz.f17 0) (hasL l v i).st .nrm (hasL l v (i+1)).st:=by
 exact sF [] [] (FN 8 9 14 wdv l i (Ffb 17 (l.getD i default==v) (Fx 11 i Fz)))
theorem ZlN(l:List Int)(v:Int)(i:Nat)(hl:l.length≤1048576)(hi:i<l.length)(hv:l.getD i default=v):CP (rndF Tryz.f17 0) (hasL l v i).st .ret (Tg.st ⟨tm 18 [(4,bool true)],[],60⟩):=by
 exact sF [] [] (FN 8 9 14 wdv l i (Ftb 17 (l.getD i default==v) Fz))
theorem hasEnd(l:List Int)(v:Int):CP (rndF Tryz.f17 0) (hasL l v l.length).st (.ext 0) (Tg.st ⟨tm 18 [],[],60⟩):=by
 exact sF [] [] (FO 8 9 wdv l Fz)
theorem getD_mem_iff{l:List Int}{v:Int}:v∈l↔∃ i,i<l.length∧l.getD i default=v:=by
 rw[List.mem_iff_getElem];constructor
 ·rintro⟨i,h,e⟩;exact⟨i,h,by simp[List.getD,h,e]⟩
 ·rintro⟨i,h,e⟩;exact⟨i,h,by simpa[List.getD,h]using e⟩
def Znk(l:List Int)(v:Int)(hl:l.length≤1048576)(h:v∉l)  := Z0a (S:=fun i=>(hasL l v i).st) l.length (by kernel_rfl) (fun i hi=>Zfm l v i hl hi fun e=>h (getD_mem_iff.2 ⟨i,hi,e⟩)) (hasEnd l v)
theorem ZlS(l:List Int)(v:Int)(hl:l.length≤1048576)(h:v∈l):CP (blkF Tryz.f17 0) (Tg.st ⟨tm 18 [(0,Z01 l),(1,u64 v),(4,bool false),(5,int 0)],[],60⟩) .ret (Tg.st ⟨tm 18 [(4,bool true)],[],60⟩):=by
 obtain⟨i,h1,h2⟩:=ZiZ (getD_mem_iff.1 h);exact Z0I (S:=fun i=>(hasL l v i).st) i kr (fun j hj=>Zfm l v j hl oq fun e=>by have:=h2 j ⟨by omega,e⟩;omega) (ZlN l v i hl h1.1 h1.2)
theorem Z12(l:List Int)(v:Int)(hl:l.length≤1048576):GP 17 [Z01 l,u64 v] true (bool (decide (v∈l))) []:=by
 by_cases h:v∈l
 ·rw[decide_eq_true h];exact gF [] Tryz.func17 [] (Fu (@ZlS l v aa aa) Fz)
 ·rw[decide_eq_false h];exact gF [] Tryz.func17 [] (Fu (@Znk l v aa aa) Fz)
theorem ZcP{h:Heap}{i:Int}:∀ {f:Nat} {o:Int} {l:List Int},Z3c h i f o=some l→l.length≤f
 | 0,o,l,e=>by simp[Z3c]at e;subst e;simp
 | f+1,o,l,e=>by
  unfold Z3c at e;split at e
  ·split at e
   ·split at e
    ·cases e;simp
    ·rw[Option.map_eq_some_iff]at e;obtain⟨m,hm,rfl⟩:=e;have:=ZcP hm;simp;omega
   ·cases e
  ·cases e;simp
theorem Z2V(h:Heap)(i:Int):(Z07 h i).1.length≤256:=by
 unfold Z07;repeat' split
 all_goals first | (simp;done) | (rename_i e;exact ZcP e)
def Z0L(h:Heap):Nat→Nat→List Int×Int
 | 0,_=>([],0)
 | f+1,i=>if(Z07 h i).2=0 then(if(Z0L h f (i+1)).2=0 then((Z07 h i).1++(Z0L h f (i+1)).1,0)else([],(Z0L h f (i+1)).2))else([],(Z07 h i).2)
def Z0A(h:Heap):List Int×Int:=if Z02 h=true then Z0L h h.P.length 0 else([],1)
def Z7C(h:Heap)(i:Nat)(acc:List Int):Tg:=⟨tm 31 [(1,.pt 8001 0 0),(2,.d (.sl 0 [])),(3,int 0),(4,.ow 24004),(5,int i)],[(24004,.arr 35 1 (acc.map wdv)),(8001,.box 28 h.cells)],60⟩
section
variable (h:Heap) (i:Nat) (acc:List Int) (hw:WOk h.W) (hl:h.P.length≤1048576) (ha:acc.length≤1048576)
include hw hl ha
theorem ZeH(hi:i<h.P.length)(e:(Z07 h i).2=0):CP (rndF Tryz.f82 0) (Z7C h i acc).st .nrm (Z7C h (i+1) (acc++(Z07 h i).1)).st:=by
 have hn:=Z2V h i;exact sF [(504029,24004)] [] (Fh 29 [.els (List.map wdv (acc++(Z07 h (↑i:Int)).fst))] (FM 14 15 Page.dv h.P i (Fc 21 (@Z3T h ((↑i:Int)) aa) (Ffb 25 ((Z07 h (↑i:Int)).snd != 0) (Fa (by(simp[*];omega):(List.map wdv acc).length+(List.map wdv (Z07 h (↑i:Int)).fst).length≤2^30) (Fa (ms:List.map wdv acc++List.map wdv (Z07 h (↑i:Int)).fst=List.map wdv (acc++(Z07 h (↑i:Int)).fst)) (Fx 17 i Fz)))))))
theorem Zjd(hi:i<h.P.length)(e:¬ (Z07 h i).2=0):CP (rndF Tryz.f82 0) (Z7C h i acc).st .ret (Tg.st ⟨tm 31 [(2,.d (.sl 0 [])),(3,int (Z07 h i).2)],[],60⟩):=by
 exact sF [] [] (FM 14 15 Page.dv h.P i (Fc 21 (@Z3T h ((↑i:Int)) aa) (Ftb 25 ((Z07 h (↑i:Int)).snd != 0) Fz)))
omit hw hl ha in
theorem ZiI:CP (rndF Tryz.f82 0) (Z7C h h.P.length acc).st (.ext 0) (Tg.st ⟨tm 31 [(4,.ow 24004)],[(24004,.arr 35 1 (acc.map wdv))],60⟩):=by
 exact sF [] [] (FO 14 15 Page.dv h.P Fz)
end
theorem Zf5(h:Heap)(hw:WOk h.W)(hl:h.P.length≤1048576):∀ (f i:Nat) (acc:List Int),i+f=h.P.length→acc.length+256*f≤1048576 →
  ((Z0L h f i).2=0→LSpec Tryz.prog Tryz.f82 0 (Z7C h i acc).st (.ext 0) (Tg.st ⟨tm 31 [(4,.ow 24004)],[(24004,.arr 35 1 ((acc++(Z0L h f i).1).map wdv))],60⟩)) ∧
  (¬ (Z0L h f i).2=0→LSpec Tryz.prog Tryz.f82 0 (Z7C h i acc).st .ret (Tg.st ⟨tm 31 [(2,.d (.sl 0 [])),(3,int (Z0L h f i).2)],[],60⟩)):=by
 intro f;induction f with
 | zero =>
  intro i acc hi _;have:i=h.P.length:=by omega
  subst this;refine⟨fun _=>?_,fun e=>absurd rfl e⟩;rw[Z0L,List.append_nil];exact .endx (ZiI h acc)
 | succ f ih =>
  intro i acc hi hb;have hn:=Z2V h i;unfold Z0L;by_cases e:(Z07 h i).2=0
  ·rw[if_pos e];have hr:=ZeH h i acc hw hl oq oq e;obtain⟨i1,i2⟩:=ih (i+1) (acc++(Z07 h i).1) oq qo;by_cases e2:(Z0L h f (i+1)).2=0
   ·rw[if_pos e2];refine⟨fun _=>?_,fun e=>absurd rfl e⟩;have:=i1 e2;rw[List.append_assoc]at this;exact .next hr this
   ·rw[if_neg e2];exact⟨fun e=>absurd e e2,fun _=>.next hr (i2 e2)⟩
  ·rw[if_neg e];exact⟨fun e'=>absurd e' e,fun _=>.endr (Zjd h i acc hw hl oq oq e)⟩
theorem ZgJ(h:Heap)(hw:WOk h.W)(hl:h.P.length≤64)(e:(Z0L h h.P.length 0).2=0):CP (blkF Tryz.f82 0) (Tg.st ⟨tm 31 [(1,.pt 8001 0 0),(2,.d (.sl 0 [])),(3,int 0),(4,.ow 24004),(5,int 0)],[(24004,.arr 35 1 []),(8001,.box 28 h.cells)],60⟩) .nrm
  (Tg.st ⟨tm 31 [(4,.ow 24004)],[(24004,.arr 35 1 ((Z0L h h.P.length 0).1.map wdv))],60⟩) :=
 ((Zf5 h hw oq h.P.length 0 [] oq qo).1 e).ext kr
theorem ZbF(h:Heap)(hw:WOk h.W)(hl:h.P.length≤64)(e:¬ (Z0L h h.P.length 0).2=0):CP (blkF Tryz.f82 0) (Tg.st ⟨tm 31 [(1,.pt 8001 0 0),(2,.d (.sl 0 [])),(3,int 0),(4,.ow 24004),(5,int 0)],[(24004,.arr 35 1 []),(8001,.box 28 h.cells)],60⟩) .ret
  (Tg.st ⟨tm 31 [(2,.d (.sl 0 [])),(3,int (Z0L h h.P.length 0).2)],[],60⟩) :=
 ((Zf5 h hw oq h.P.length 0 [] oq qo).2 e).ret kr
theorem Zeo(h:Heap):∀ (f i:Nat),¬ (Z0L h f i).2=0→(Z0L h f i).1=[]
 | 0,i,e=>absurd rfl e
 | f+1,i,e=>by
  unfold Z0L at e ⊢;split at e
  ·rename_i h1;rw[if_pos h1];split at e
   ·exact absurd rfl e
   ·rename_i h2;rw[if_neg h2]
  ·rename_i h1;rw[if_neg h1]
theorem ZaV(h:Heap)(hw:WOk h.W):GP 82 [h.av] false (.tu [Z01 (Z0A h).1,int (Z0A h).2]) []:=by
 cases hp:Z02 h with
 | false =>
  have e7:Z0A h=([],1):=by rw[Z0A,if_neg (by rw[hp];simp)]
  rw[e7];exact gF [] Tryz.func82 [] (Fc 9 (@Z0j h) (Ftb 10 (!Z02 h) (Fnl Fz)))
 | true =>
  have po:=Z06 hp;have e7:Z0A h=Z0L h h.P.length 0:=by rw[Z0A,if_pos hp]
  by_cases e:(Z0L h h.P.length 0).2=0
  ·rw[show Z0A h=((Z0L h h.P.length (0:Nat)).fst,(0:Int))from by grind[]];exact gF [] Tryz.func82 [] (Fh 4 [.own] (Fc 9 (@Z0j h) (Ffb 10 (!Z02 h) (Fu (@ZgJ h aa oq aa) Fz))))
  ·have e8:=Zeo h _ _ e;exact gF [] Tryz.func82 (fO 7) (Fh 4 [.own] (Fc 9 (@Z0j h) (Ffb 10 (!Z02 h) (Fu (@ZbF h aa oq aa) (Fnl (Fa (by rw[e7,e8];rfl:[]=List.map wdv (Z0A h).fst) (Fa (by rw[e7]:(Z0L h h.P.length 0).snd=(Z0A h).snd) Fz)))))))
theorem Z9O{h:Heap}(hv:Z05 h.C=true){i:Int}:∀ {f:Nat} {o:Int} {l:List Int},Z3c h i f o=some l→∀ x∈l,0≤x∧x≤8192
 | 0,o,l,e=>by simp[Z3c]at e;subst e;simp
 | f+1,o,l,e=>by
  have ar:=Z4n hv i o;unfold Z3c at e;split at e
  ·split at e
   ·split at e
    ·cases e;intro x hx;simp at hx;subst hx;exact ar
    ·rw[Option.map_eq_some_iff]at e;obtain⟨m,hm,rfl⟩:=e;intro x hx;rcases List.mem_cons.1 hx with rfl | hx
     ·exact ar
     ·exact Z9O hv hm x hx
   ·cases e
  ·cases e;simp
theorem Z2L{h:Heap}(hp:Z02 h=true)(i:Int):∀ x∈(Z07 h i).1,0≤x∧x≤8192:=by
 have hv:=(Z06 hp).1;unfold Z07;repeat' split
 all_goals first | (simp;done) | (rename_i e;exact Z9O hv e)
theorem Z6N{h:Heap}(hp:Z02 h=true):∀ (f i:Nat),∀ x∈(Z0L h f i).1,0≤x∧x≤8192
 | 0,i=>by simp[Z0L]
 | f+1,i=>by
  unfold Z0L;split
  ·split
   ·intro x hx;rcases List.mem_append.1 hx with hx | hx
    ·exact Z2L hp i x hx
    ·exact Z6N hp f (i+1) x hx
   ·simp
  ·simp
theorem Z99(h:Heap):∀ (f i:Nat),(Z0L h f i).1.length≤256*f
 | 0,i=>by simp[Z0L]
 | f+1,i=>by
  have h1:=Z2V h i;have h2:=Z99 h f (i+1);unfold Z0L;split
  ·split
   ·simp;omega
   ·simp
  ·simp
theorem Z4q(h:Heap):∀ x∈(Z0A h).1,0≤x∧x≤8192:=by
 unfold Z0A;split
 ·exact Z6N aa _ _
 ·simp
theorem Z6m(h:Heap):(Z0A h).1.length≤16384:=by
 unfold Z0A;split
 ·rename_i hp;have:=Z99 h h.P.length 0;have:=Z06 hp;omega
 ·simp
def Z3r(h:Heap)(a:Int):Bool:=decide ((atH h a).1.K≠0)
def Z03(h:Heap):List Int×Int:=((Z0A h).1.filter (Z3r h),(Z0A h).2)
theorem Z3k(h:Heap):∀ x∈(Z03 h).1,0≤x∧x≤8192:=fun x hx=>Z4q h x (List.mem_filter.1 hx).1
theorem Z2f(h:Heap):(Z03 h).1.length≤16384:=Nat.le_trans (List.length_filter_le _ _) (Z6m h)
theorem Z8s{l:List Int}{i:Nat}(hi:i<l.length):l.take (i+1)=l.take i++[l.getD i default]:=by
 rw[List.take_succ];simp[List.getD,hi]
def Zmu(h:Heap)(l:List Int)(ee:Int)(i:Nat):Tg:=⟨tm 42 [(1,.pt 8001 0 0),(4,Z01 l),(5,int ee),(6,.ow 24006),(7,int i)],[(24006,.arr 35 1 (((l.take i).filter (Z3r h)).map wdv)),(8001,.box 28 h.cells)],60⟩
theorem ZiV(h:Heap)(l:List Int)(ee:Int)(i:Nat)(hw:WOk h.W)(hl:l.length≤1048576)(hr:∀ x∈l,0≤x∧x≤8192)(hi:i<l.length):CP (rndF Tryz.f34 0) (Zmu h l ee i).st .nrm (Zmu h l ee (i+1)).st:=by
 have hx:=hr (l.getD i default) (getD_mem_iff.2 ⟨i,hi,rfl⟩);have hle:((l.take i).filter (Z3r h)).length≤l.length:=Nat.le_trans (List.length_filter_le _ _) qo;have ht:=Z8s hi;by_cases hk:(atH h (l.getD i default)).1.K=0
 ·have e:(l.take (i+1)).filter (Z3r h)=(l.take i).filter (Z3r h):=by
   have hb:Z3r h (l.getD i default)=false:=decide_eq_false (by simpa using hk);rw[ht,List.filter_append,List.filter_cons,hb,List.filter_nil];simp
  exact sF [] (fO 5) (FN 17 18 25 wdv l i (Fc 27 (@Z5d h (l.getD i default) aa oq) (Ffb 32 ((atH h (l.getD i default)).fst.K != 0) (Fx 20 i (Fr (35:Int) (Fa (by refine congrArg _ ?_;rw[e]:List.map wdv (List.filter (Z3r h) (List.take i l))=List.map wdv (List.filter (Z3r h) (List.take (i+1) l))) Fz))))))
 ·have e:(l.take (i+1)).filter (Z3r h)=(l.take i).filter (Z3r h)++[l.getD i default]:=by
   have hb:Z3r h (l.getD i default)=true:=decide_eq_true hk;rw[ht,List.filter_append,List.filter_cons,hb,List.filter_nil];simp
  exact sF [(504039,24006)] (fO 5) (Fh 39 [.els (List.map wdv (List.filter (Z3r h) (List.take i l)++[l.getD i default]))] (FN 17 18 25 wdv l i (Fc 27 (@Z5d h (l.getD i default) aa oq) (Ftb 32 ((atH h (l.getD i default)).fst.K != 0) (Fek 36 wdv l (↑i) i (Fs 38 (List.map wdv [l.getD i default]) (Fa (by(simp[*];omega):(List.map wdv (List.filter (Z3r h) (List.take i l))).length+(List.map wdv [l.getD i default]).length≤2^30) (Fa (ms:List.map wdv (List.filter (Z3r h) (List.take i l))++List.map wdv [l.getD i default]=List.map wdv (List.filter (Z3r h) (List.take i l)++[l.getD i default])) (Fx 20 i (Fr (35:Int) (Fa (by refine congrArg _ ?_;rw[e]:List.map wdv (List.filter (Z3r h) (List.take i l)++[l.getD i default])=List.map wdv (List.filter (Z3r h) (List.take (i+1) l))) Fz)))))))))))
theorem ZmU(h:Heap)(l:List Int)(ee:Int):CP (rndF Tryz.f34 0) (Zmu h l ee l.length).st (.ext 0) (Tg.st ⟨tm 42 [(5,int ee),(6,.ow 24006)],[(24006,.arr 35 1 ((l.filter (Z3r h)).map wdv))],60⟩):=by
 have e:l.take l.length=l:=List.take_length;exact sF [] (fO 2) (FO 17 18 wdv l (Fr (35:Int) (Fa (by refine congrArg _ ?_;rw[e]:List.map wdv (List.filter (Z3r h) (List.take l.length l))=List.map wdv (List.filter (Z3r h) l)) Fz)))
theorem Zfu(h:Heap)(l:List Int)(ee:Int)(hw:WOk h.W)(hl:l.length≤1048576)(hr:∀ x∈l,0≤x∧x≤8192):CP (blkF Tryz.f34 0) (Tg.st ⟨tm 42 [(1,.pt 8001 0 0),(4,Z01 l),(5,int ee),(6,.ow 24006),(7,int 0)],[(24006,.arr 35 1 []),(8001,.box 28 h.cells)],60⟩) .nrm
  (Tg.st ⟨tm 42 [(5,int ee),(6,.ow 24006)],[(24006,.arr 35 1 ((l.filter (Z3r h)).map wdv))],60⟩) :=
 Z0a (S:=fun i=>(Zmu h l ee i).st) l.length kr (fun i hi=>ZiV h l ee i hw hl hr hi) (ZmU h l ee)
theorem Z3N(h:Heap)(hw:WOk h.W):GP 34 [h.av] false (.tu [Z01 (Z03 h).1,int (Z03 h).2]) []:=by
 have hl:=Z6m h;have hr:=Z4q h;exact gF [] Tryz.func34 [] (Fh 6 [.own] (Fc 12 (@ZaV h aa) (Fu (@Zfu h ((Z0A h).fst) ((Z0A h).snd) aa oq aa) Fz)))
def Z45(h:Heap)(p o:Int):Int:=(loadA h.W (address h.C p o).1).1
theorem ZbN{c:Conf}(hv:Z05 c=true)(p o:Int):0≤(address c p o).1∧(address c p o).1≤8192:=by
 have ha:=area hv;unfold address;rw[if_pos hv];split
 ·rename_i hb;have hb:=inB_iff.1 hb;have:=Zfa hv hb.1 hb.2.1 hb.2.2.1 hb.2.2.2;simp only;omega
 ·simp
theorem ZlY(h:Heap)(p o:Int)(hp:Z02 h=true):GP 212 [h.av,int p,int o] true (u64 (Z45 h p o)) []:=by
 have po:=Z06 hp;have ar:=ZbN po.1 p o;exact gF [] Tryz.func212 [] (Fc 16 (@Z5N h.C p o) (Fc 23 (@Z1M h.W ((address h.C p o).fst) oq oq) Fz))
theorem ZbP(h:Heap)(p o:Int)(hp:Z02 h=true):GP 210 [h.av,int p,int o] true (u64 (Z45 h p o)) []:=by
 exact gF [] Tryz.func210 [] (Fc 10 (@ZlY h p o aa) Fz)
theorem ZeF(h:Heap)(p o:Int)(hp:Z02 h=true)(h0:0≤p∧p<h.C.pg)(h1:0≤o∧o≤64):GP 211 [h.av,int p,int o] true (u64 (4096+p*h.C.pw+o)) []:=by
 have po:=Z06 hp;have ap:=Z2K po.1 h0.1 h0.2;exact gF [] Tryz.func211 [] (Fi 11 (p*h.C.pw) (Fi 12 (4096+p*h.C.pw) (Fi 14 (4096+p*h.C.pw+o) (Fv 15 (4096+p*h.C.pw+o) Fz))))
def Z0x(l:List Page):Nat→Nat
 | 0=>0
 | i+1=>if(l.getD (i+1) default).K=3 then Z0x l i else i+1
theorem ZoS{h:Heap}(hp:Z02 h=true):(h.P.getD 0 default).K≠3:=by
 have hi:=properB_iff.1 hp;have po:=Z06 hp;have hr:=hi.2.2.2.2.2;rw[Zbx oq oq,Bool.and_eq_true]at hr;have hc:=of_decide_eq_true hr.1;unfold rchk at hc;omega
def ZeJ(h:Heap)(i:Nat):Tg:=⟨tm 15 [(1,int i),(2,.pt 8002 0 0)],[(8002,.box 28 h.cells)],60⟩
theorem Zj6(h:Heap)(i:Nat)(hi:i+1<h.P.length)(hl:h.P.length≤1048576)(hk:(h.P.getD (i+1) default).K=3):CP (rndF Tryz.f208 0) (ZeJ h (i+1)).st .nrm (ZeJ h i).st:=by
 have ei:((i+1:Nat):Int)-1=(i:Int):=by omega
 exact sF [] [] (Fek 8 Page.dv h.P (↑(i+1):Int) (i+1) (Ftb 11 ((h.P.getD (i+1) default).K==3) (Fg 13 (by rw[wrapI' oq oq];omega:IntKind.i64.wrap ((↑(i+1):Int)-1)=(↑i:Int)) Fz)))
theorem Zil(h:Heap)(i:Nat)(hi:i<h.P.length)(hl:h.P.length≤1048576)(hk:¬ (h.P.getD i default).K=3):CP (rndF Tryz.f208 0) (ZeJ h i).st (.ext 0) (Tg.st ⟨tm 15 [(1,int i)],[],60⟩):=by
 exact sF [] [] (Fek 8 Page.dv h.P (↑i) i (Ffb 11 ((h.P.getD i default).K==3) Fz))
theorem ZmK(h:Heap)(hp:Z02 h=true)(hl:h.P.length≤1048576):∀ i,i<h.P.length→LSpec Tryz.prog Tryz.f208 0 (ZeJ h i).st (.ext 0) (Tg.st ⟨tm 15 [(1,int (Z0x h.P i))],[],60⟩)
 | 0,hi=>.endx (Zil h 0 hi hl (ZoS hp))
 | i+1,hi=>by
  unfold Z0x;by_cases hk:(h.P.getD (i+1) default).K=3
  ·rw[if_pos hk];exact .next (Zj6 h i hi hl hk) (ZmK h hp hl i oq)
  ·rw[if_neg hk];exact .endx (Zil h (i+1) hi hl hk)
theorem ZlT(h:Heap)(i:Nat)(hp:Z02 h=true)(hi:i<h.P.length)(hl:h.P.length≤1048576):CP (blkF Tryz.f208 0) (ZeJ h i).st .nrm (Tg.st ⟨tm 15 [(1,int (Z0x h.P i))],[],60⟩) :=
 (ZmK h hp hl i hi).ext kr
theorem Zg9(h:Heap)(i:Nat)(hp:Z02 h=true)(hi:i<h.P.length):GP 208 [h.av,int i] true (int (Z0x h.P i)) []:=by
 have po:=Z06 hp;exact gF [] Tryz.func208 [] (Fu (@ZlT h i aa aa oq) Fz)
def Z1r(h:Heap)(i:Int)(a:Int):Bool:=(decide ((h.P.getD i.toNat default).K=1)&&decide (Z00 h.C<sizeH (atH h a).1))||(decide ((h.P.getD i.toNat default).K=2)&&decide ((atH h a).1.K=0))
def Z13(h:Heap)(i:Int)(l:List Int):Int:=(l.find? (Z1r h i)).getD 0
def Zao(h:Heap)(i:Int)(l:List Int)(n:Nat):Tg:=⟨tm 61 [(1,int i),(2,Z01 l),(3,.pt 8003 0 0),(6,u64 0),(7,int n)],[(8003,.box 28 h.cells)],60⟩
section
variable (h:Heap) (i:Int) (l:List Int) (n:Nat) (hw:WOk h.W) (hl:l.length≤1048576) (hi:0≤i∧i<h.P.length) (hp:h.P.length≤1048576) (hr:∀ x∈l,0≤x∧x≤8192)
include hw hl hi hp hr
theorem ZaO(hn:n<l.length)(hb:Z1r h i (l.getD n default)=false):CP (rndF Tryz.f199 0) (Zao h i l n).st .nrm (Zao h i l (n+1)).st:=by
 have hx:=hr (l.getD n default) (getD_mem_iff.2 ⟨n,hn,rfl⟩);have hm:=Z3x hw (l.getD n default);simp only[Z1r,bs]at hb;let y0:=atH h (l.getD n default);let y1:=h.P.getD i.toNat default;exact sF [] [] (FN 13 14 21 wdv l n (Fc 23 (@Z5d h (l.getD n default) aa oq) (Fc 27 (@Z2a (y0.fst) aa) (Fc 30 (@Z1f h.C) (Fe 35 Page.dv h.P i (FeGq 47 (!(y1.K==1&&!decide (sizeH y0.fst≤Z00 h.C))) Page.dv h.P i (Ffb 56 (y1.K==1&&!decide (sizeH y0.fst≤Z00 h.C)||y1.K==2&&y0.fst.K==0) (Fx 16 n Fz))))))))
theorem Zhm(hn:n<l.length)(hb:Z1r h i (l.getD n default)=true):CP (rndF Tryz.f199 0) (Zao h i l n).st .ret (Tg.st ⟨tm 61 [(6,u64 (l.getD n default))],[],60⟩):=by
 have hx:=hr (l.getD n default) (getD_mem_iff.2 ⟨n,hn,rfl⟩);have hm:=Z3x hw (l.getD n default);simp only[Z1r,bs]at hb;refine stretchE [((13:Nat),[Hint.int (↑l.length:Int)]),((14:Nat),[Hint.br true]),((21:Nat),[Hint.el (wdv (l.getD n default))]),((23:Nat),[Hint.call true (AV.tu [(atH h (l.getD n default)).fst.av,int (atH h (l.getD n default)).snd]) []]),((27:Nat),[Hint.call true (int (sizeH (atH h (l.getD n default)).fst)) []]),((30:Nat),[Hint.call true (int (Z00 h.C)) []]),((35:Nat),[Hint.el (h.P.getD i.toNat default).dv]),((47:Nat),[Hint.el (h.P.getD i.toNat default).dv]),((56:Nat),[Hint.br true]),((59:Nat),[Hint.el (wdv (l.getD n default))])] [] [] [] (φ:=(↑(List.map wdv l).length:Int)=(↑l.length:Int)∧decide ((↑n:Int)<(↑l.length:Int))=true∧true=true∧((0:Int)≤(↑n:Int)∧(List.map wdv l)[(↑n:Int).toNat]? = some (wdv (l.getD n default)))∧GP 83 [h.av,u64 (l.getD n default)] true (AV.tu [(atH h (l.getD n default)).fst.av,int (atH h (l.getD n default)).snd]) []∧GP 75 [(atH h (l.getD n default)).fst.av] true (int (sizeH (atH h (l.getD n default)).fst)) []∧GP 151 [h.C.av] true (int (Z00 h.C)) []∧((0:Int)≤i∧(List.map Page.dv h.P)[i.toNat]? = some (h.P.getD i.toNat default).dv)∧((!((h.P.getD i.toNat default).K==(1:Int)&&!decide (sizeH (atH h (l.getD n default)).fst≤Z00 h.C)))=true→(0:Int)≤i∧(List.map Page.dv h.P)[i.toNat]? = some (h.P.getD i.toNat default).dv)∧((h.P.getD i.toNat default).K==(1:Int)&&!decide (sizeH (atH h (l.getD n default)).fst≤Z00 h.C)||(h.P.getD i.toNat default).K==(2:Int)&&(atH h (l.getD n default)).fst.K==(0:Int))=true∧true=true∧(0:Int)≤(↑n:Int)∧(List.map wdv l)[(↑n:Int).toNat]? = some (wdv (l.getD n default))) ?_ kr kr kr;exact⟨(by simp only[List.length_map]),(by(simp only[bs];omega)),rfl,(by exact elI oq oq oq),(@Z5d (h) (l.getD n default) aa oq),(@Z2a ((atH h (l.getD n default)).fst) aa),(@Z1f (h.C)),(by exact elI oq oq oq),(by intro hg;(try simp only[bs]at hg);exact elI oq oq oq),(by(simp only[bs];omega)),rfl,(by exact elI oq oq oq)⟩
omit hw hl hi hp hr in
theorem Zm5:CP (rndF Tryz.f199 0) (Zao h i l l.length).st (.ext 0) (Tg.st ⟨tm 61 [(6,u64 0)],[],60⟩):=by
 exact sF [] [] (FO 13 14 wdv l Fz)
end
theorem Z7e{l:List Int}{f:Int→Bool}(h:l.find? f=none):∀ n,n<l.length→f (l.getD n default)=false:=by
 intro n hn;have:=List.find?_eq_none.1 h (l.getD n default) (getD_mem_iff.2 ⟨n,hn,rfl⟩);simpa using this
theorem Z3J{f:Int→Bool}:∀ {l:List Int} {x:Int},l.find? f=some x→∃ n,n<l.length∧l.getD n default=x∧f x=true∧∀ m,m<n→f (l.getD m default)=false
 | [],x,h=>by simp at h
 | a::l,x,h=>by
  rw[List.find?_cons]at h;split at h
  ·rename_i ha;cases h;exact⟨0,by simp,rfl,ha,fun m hm=>by omega⟩
  ·rename_i ha;obtain⟨n,h1,h2,h3,h4⟩:=Z3J h;refine⟨n+1,by simp;omega,by simpa using h2,h3,fun m hm=>?_⟩;cases m with
   | zero=>simpa using ha
   | succ m=>simpa using h4 m oq
theorem Zj9(h:Heap)(i:Int)(l:List Int)(hw:WOk h.W)(hl:l.length≤1048576)(hi:0≤i∧i<h.P.length)(hp:h.P.length≤1048576)(hr:∀ x∈l,0≤x∧x≤8192)(hf:l.find? (Z1r h i)=none) :
  CP (blkF Tryz.f199 0) (Tg.st ⟨tm 61 [(1,int i),(2,Z01 l),(3,.pt 8003 0 0),(6,u64 0),(7,int 0)],[(8003,.box 28 h.cells)],60⟩) .nrm (Tg.st ⟨tm 61 [(6,u64 0)],[],60⟩) :=
 Z0a (S:=fun n=>(Zao h i l n).st) l.length kr (fun n hn=>ZaO h i l n hw hl hi hp hr hn (Z7e hf n hn)) (Zm5 h i l)
theorem Zhq(h:Heap)(i:Int)(l:List Int)(x:Int)(hw:WOk h.W)(hl:l.length≤1048576)(hi:0≤i∧i<h.P.length)(hp:h.P.length≤1048576)(hr:∀ x∈l,0≤x∧x≤8192)(hf:l.find? (Z1r h i)=some x) :
  CP (blkF Tryz.f199 0) (Tg.st ⟨tm 61 [(1,int i),(2,Z01 l),(3,.pt 8003 0 0),(6,u64 0),(7,int 0)],[(8003,.box 28 h.cells)],60⟩) .ret (Tg.st ⟨tm 61 [(6,u64 x)],[],60⟩):=by
 obtain⟨n,h1,h2,h3,h4⟩:=Z3J hf;subst h2;exact Z0I (S:=fun n=>(Zao h i l n).st) n kr (fun m hm=>ZaO h i l m hw hl hi hp hr oq (h4 m hm)) (Zhm h i l n hw hl hi hp hr h1 h3)
theorem Z8K(h:Heap)(i:Int)(l:List Int)(hw:WOk h.W)(hl:l.length≤1048576)(hp:h.P.length≤1048576)(hi:0≤i∧i<h.P.length)(hr:∀ x∈l,0≤x∧x≤8192):GP 199 [h.av,int i,Z01 l] true (u64 (Z13 h i l)) []:=by
 cases hf:l.find? (Z1r h i)with
 | none =>
  have e7:Z13 h i l=0:=by rw[Z13,hf];rfl
  exact gF [] Tryz.func199 (fO 6) (Fu (@Zj9 h i l aa aa aa aa aa aa) (Fa (by rw[e7]:0=Z13 h i l) Fz))
 | some x =>
  have e7:Z13 h i l=x:=by rw[Z13,hf];rfl
  exact gF [] Tryz.func199 (fO 6) (Fu (@Zhq h i l x aa aa aa aa aa aa) (Fa (by rw[e7]:x=Z13 h i l) Fz))
def bdv(x:Bool):List DV:=[.sc (.bool x)]
def Z4k(h:Heap)(a:Int):Int:=if(atH h a).1.K=0 then 1 else sizeH (atH h a).1
def Z93(h:Heap)(i:Int)(a:Int)(o:Nat):Bool:=decide (a-4096-i*h.C.pw≤o)&&decide ((o:Int)<a-4096-i*h.C.pw+Z4k h a)
def Z1H(h:Heap)(i:Int)(l:List Int):List Bool:=(List.range h.C.pw.toNat).map fun o=>l.any fun a=>Z93 h i a o
def Z1y(h:Heap)(i:Int)(l:List Int)(a:Int)(w:Nat):List Bool:=(List.range h.C.pw.toNat).map fun(o:Nat)=>(l.any fun a=>Z93 h i a o)||(decide (a-4096-i*h.C.pw≤o)&&decide ((o:Int)<a-4096-i*h.C.pw+w))
theorem Zap(h:Heap)(i:Int)(l:List Int)(a:Int)(w:Nat):(Z1y h i l a w).length=h.C.pw.toNat:=by simp[Z1y]
theorem Zec(h:Heap)(i:Int)(l:List Int)(a:Int):Z1y h i l a 0=Z1H h i l:=by
 unfold Z1y Z1H;refine List.map_congr_left fun o _=>?_;have:(decide (a-4096-i*h.C.pw≤(o:Int))&&decide ((o:Int)<a-4096-i*h.C.pw+(0:Nat)))=false:=by
  rw[Bool.and_eq_false_iff];simp;omega
 rw[this,Bool.or_false]
theorem Zex{h:Heap}{i:Int}{l:List Int}{a:Int}{w:Nat}(hh:¬ (0≤a-4096+w-i*h.C.pw∧a-4096+w-i*h.C.pw<h.C.pw)):Z1y h i l a (w+1)=Z1y h i l a w:=by
 unfold Z1y;refine List.map_congr_left fun o ho=>?_;have ho:=List.mem_range.1 ho;congr 1;rw[Bool.eq_iff_iff];simp;omega
theorem ZgN{h:Heap}{i:Int}{l:List Int}{a:Int}{w:Nat}(hh:0≤a-4096+w-i*h.C.pw∧a-4096+w-i*h.C.pw<h.C.pw):(Z1y h i l a w).set (a-4096+w-i*h.C.pw).toNat true=Z1y h i l a (w+1):=by
 apply List.ext_getElem?;intro j;rw[List.getElem?_set,Zap];unfold Z1y;by_cases hjl:j<h.C.pw.toNat
 ·rw[List.getElem?_map,List.getElem?_map,List.getElem?_range hjl,Option.map_some,Option.map_some];by_cases hj:(a-4096+w-i*h.C.pw).toNat=j
  ·rw[if_pos hj,if_pos oq];congr 1;symm;rw[Bool.or_eq_true];right;rw[Bool.and_eq_true,decide_eq_true_eq,decide_eq_true_eq];omega
  ·rw[if_neg hj];congr 2;rw[Bool.eq_iff_iff,Bool.and_eq_true,Bool.and_eq_true,decide_eq_true_eq,decide_eq_true_eq,decide_eq_true_eq];omega
 ·rw[if_neg oq,List.getElem?_map,List.getElem?_map,List.getElem?_eq_none qo];rfl
theorem Zhy{h:Heap}{i:Int}{l:List Int}{a:Int}(hn:0≤Z4k h a):Z1y h i l a (Z4k h a).toNat=Z1H h i (l++[a]):=by
 unfold Z1y Z1H;refine List.map_congr_left fun o _=>?_;rw[List.any_append];congr 1;simp[Z93];rw[Bool.eq_iff_iff];simp;omega
theorem Zi2(h:Heap)(i:Int):Z1H h i []=List.replicate h.C.pw.toNat false:=by
 unfold Z1H;simp[List.map_const']
def ZjT(h:Heap)(i:Int)(l:List Int)(k:Nat):Tg:=⟨tm 69 [(1,int i),(2,Z01 l),(3,.pt 8003 0 0),(7,.ow 16017),(8,int k)],[(16017,.arr 4 1 ((Z1H h i (l.take k)).map bdv)),(8003,.box 28 h.cells)],60⟩
def Zdw(h:Heap)(i:Int)(l m:List Int)(k:Nat)(n:Int)(w:Nat):Tg:=⟨tm 69 [(1,int i),(2,Z01 m),(3,.pt 8003 0 0),(7,.ow 16017),(8,int k),(11,int n),(12,int w)],[(16017,.arr 4 1 ((Z1y h i l (m.getD k default) w).map bdv)),(8003,.box 28 h.cells)],60⟩
theorem ZgY(h:Heap)(i:Int)(l m:List Int)(k:Nat)(n:Int)(w:Nat)(hp:Z02 h=true)(hm:m.length≤1048576)(hi:0≤i∧i<h.P.length)(hr:0≤m.getD k default∧m.getD k default≤8192)(hk:k<m.length)(hn:n≤256)(hw:w<n):CP (rndF Tryz.f209 2) (Zdw h i l m k n w).st .nrm (Zdw h i l m k n (w+1)).st:=by
 have po:=Z06 hp;have ap:=Z2K po.1 hi.1 oq;have hlen:=Zap h i l (m.getD k default) w;by_cases hh:0≤m.getD k default-4096+w-i*h.C.pw∧m.getD k default-4096+w-i*h.C.pw<h.C.pw
 ·have e:=ZgN (l:=l) hh;let y0:=m.getD k default-4096+(↑w:Int)-i*h.C.pw;let y1:=Z1y h i l (m.getD k default) w;let y2:=0≤m.getD k default-4096+(↑w:Int)-i*h.C.pw;let y3:=y1.set y0.toNat true;exact sF [] (fO 11) (Fh 10067 [.els (List.map bdv y3)] (Ftb 40 (decide ((↑w:Int)<n)) (Fek 45 wdv m (↑k) k (Fi 47 (m.getD k default) (Fi 48 (m.getD k default-4096) (Fi 50 (m.getD k default-4096+(↑w:Int)) (Fi 55 (i*h.C.pw) (Fi 56 y0 (FlG 62 (decide y2) bdv y1 (Ftb 64 (decide y2&&decide (m.getD k default-4096+(↑w:Int)-i*h.C.pw<(↑y1.length:Int))) (Fa (by grind[]:0≤m.getD k default-4096+(↑w:Int)-i*h.C.pw∧y0.toNat<(List.map bdv y1).length) (Fa (by grind[]:y0.toNat<(List.map bdv y1).length) (Fa (by rw[List.map_set];rfl:(List.map bdv y1).set y0.toNat [DV.sc (Value.bool true)]=List.map bdv y3) (Fx 42 w (Fr (4:Int) (Fa (by refine congrArg _ ?_;exact e:List.map bdv y3=List.map bdv (Z1y h i l (m.getD k default) (w+1))) Fz))))))))))))))))
 ·have e:=Zex (l:=l) hh;let y4:=m.getD k default;let y5:=0≤m.getD k default-4096+(↑w:Int)-i*h.C.pw;exact sF [] (fO 11) (Ftb 40 (decide ((↑w:Int)<n)) (Fek 45 wdv m (↑k) k (Fi 47 y4 (Fi 48 (m.getD k default-4096) (Fi 50 (m.getD k default-4096+(↑w:Int)) (Fi 55 (i*h.C.pw) (Fi 56 (m.getD k default-4096+(↑w:Int)-i*h.C.pw) (FlG 62 (decide y5) bdv (Z1y h i l y4 w) (Ffb 64 (decide y5&&decide (m.getD k default-4096+(↑w:Int)-i*h.C.pw<(↑(Z1y h i l y4 w).length:Int))) (Fx 42 w (Fr (4:Int) (Fa (by refine congrArg _ ?_;rw[e]:List.map bdv (Z1y h i l y4 w)=List.map bdv (Z1y h i l y4 (w+1))) Fz))))))))))))
theorem Zlt(h:Heap)(i:Int)(l m:List Int)(k:Nat)(n:Int)(w:Nat)(hn:n≤w):CP (rndF Tryz.f209 2) (Zdw h i l m k n w).st (.ext 2) (Tg.st ⟨tm 69 [(1,int i),(2,Z01 m),(3,.pt 8003 0 0),(7,.ow 16017),(8,int k)],[(16017,.arr 4 1 ((Z1y h i l (m.getD k default) w).map bdv)),(8003,.box 28 h.cells)],60⟩):=by
 exact sF [] [] (Ffb 40 (decide ((↑w:Int)<n)) Fz)
theorem Zcw(h:Heap)(i:Int)(m:List Int)(k:Nat)(n:Int)(hp:Z02 h=true)(hm:m.length≤1048576)(hi:0≤i∧i<h.P.length)(hr:0≤m.getD k default∧m.getD k default≤8192)(hk:k<m.length)(hn:0≤n∧n≤256)(he:n=Z4k h (m.getD k default)):CP (blkF Tryz.f209 2) (Tg.st ⟨tm 69 [(1,int i),(2,Z01 m),(3,.pt 8003 0 0),(7,.ow 16017),(8,int k),(11,int n),(12,int 0)],[(16017,.arr 4 1 ((Z1H h i (m.take k)).map bdv)),(8003,.box 28 h.cells)],60⟩) .nrm
  (Tg.st ⟨tm 69 [(1,int i),(2,Z01 m),(3,.pt 8003 0 0),(7,.ow 16017),(8,int k)],[(16017,.arr 4 1 ((Z1H h i (m.take (k+1))).map bdv)),(8003,.box 28 h.cells)],60⟩):=by
 have:=Z0a (S:=fun w=>(Zdw h i (m.take k) m k n w).st) n.toNat kr (fun w hw=>ZgY h i (m.take k) m k n w hp hm hi hr hk hn.2 oq) (Zlt h i (m.take k) m k n n.toNat oq)
 have e1:Z1y h i (m.take k) (m.getD k default) n.toNat=Z1H h i (m.take (k+1)):=by
  rw[Z8s hk,he];exact Zhy oq
 rw[e1]at this;simp only[Zdw,Zec]at this;exact this
theorem Zj4(h:Heap)(i:Int)(l:List Int)(k:Nat)(hw:WOk h.W)(hp:Z02 h=true)(hl:l.length≤1048576)(hi:0≤i∧i<h.P.length)(hr:∀ x∈l,0≤x∧x≤8192)(hk:k<l.length):CP (rndF Tryz.f209 0) (ZjT h i l k).st .nrm (ZjT h i l (k+1)).st:=by
 have po:=Z06 hp;have hx:=hr (l.getD k default) (getD_mem_iff.2 ⟨k,hk,rfl⟩);have hm:=Z3x hw (l.getD k default);have hs:=Z1a (atH h (l.getD k default)).1;by_cases hf:(atH h (l.getD k default)).1.K=0
 ·have e:Z4k h (l.getD k default)=1:=by rw[Z4k,if_pos hf]
  exact sF [] [] (FN 20 21 28 wdv l k (Fc 30 (@Z5d h (l.getD k default) aa oq) (Fc 34 (@Z2a ((atH h (l.getD k default)).fst) aa) (Ftb 37 ((atH h (l.getD k default)).fst.K==0) (Fu (@Zcw h i l k (1) aa aa aa aa aa oq oq) (Fx 23 k Fz))))))
 ·have e:Z4k h (l.getD k default)=sizeH (atH h (l.getD k default)).1:=by rw[Z4k,if_neg hf]
  let y0:=atH h (l.getD k default);exact sF [] [] (FN 20 21 28 wdv l k (Fc 30 (@Z5d h (l.getD k default) aa oq) (Fc 34 (@Z2a (y0.fst) aa) (Ffb 37 (y0.fst.K==0) (Fu (@Zcw h i l k (sizeH y0.fst) aa aa aa aa aa aa oq) (Fx 23 k Fz))))))
theorem Zoe(h:Heap)(i:Int)(l:List Int):CP (rndF Tryz.f209 0) (ZjT h i l l.length).st (.ext 0) (Tg.st ⟨tm 69 [(7,.ow 16017)],[(16017,.arr 4 1 ((Z1H h i l).map bdv))],60⟩):=by
 have e:l.take l.length=l:=List.take_length;exact sF [] [false,true] (FO 20 21 wdv l (Fr (4:Int) (Fa (by refine congrArg _ ?_;rw[e]:List.map bdv (Z1H h i (List.take l.length l))=List.map bdv (Z1H h i l)) Fz)))
theorem Zkg(h:Heap)(i:Int)(l:List Int)(hw:WOk h.W)(hp:Z02 h=true)(hl:l.length≤1048576)(hi:0≤i∧i<h.P.length)(hr:∀ x∈l,0≤x∧x≤8192):CP (blkF Tryz.f209 0) (Tg.st ⟨tm 69 [(1,int i),(2,Z01 l),(3,.pt 8003 0 0),(7,.ow 16017),(8,int 0)],[(16017,.arr 4 1 ((List.replicate h.C.pw.toNat false).map bdv)),(8003,.box 28 h.cells)],60⟩) .nrm
  (Tg.st ⟨tm 69 [(7,.ow 16017)],[(16017,.arr 4 1 ((Z1H h i l).map bdv))],60⟩):=by
 have:=Z0a (S:=fun k=>(ZjT h i l k).st) l.length kr (fun k hk=>Zj4 h i l k hw hp hl hi hr hk) (Zoe h i l);simp only[ZjT,List.take_zero,Zi2]at this;exact this
theorem Zfb(h:Heap)(i:Int)(l:List Int)(hw:WOk h.W)(hp:Z02 h=true)(hl:l.length≤1048576)(hi:0≤i∧i<h.P.length)(hr:∀ x∈l,0≤x∧x≤8192):GP 209 [h.av,int i,Z01 l] false (.d (.sl 1 ((Z1H h i l).map bdv))) []:=by
 have po:=Z06 hp;exact gF [] Tryz.func209 [] (Fh 17 [.els (List.map bdv (List.replicate h.C.pw.toNat false))] (Fb (0≤h.C.pw∧h.C.pw≤h.C.pw∧h.C.pw*((↑(nat_lit 0):Int)+1)≤2^48) (Fa (by rw[List.map_replicate];rfl:List.replicate h.C.pw.toNat [DV.sc (Value.bool false)]=List.map bdv (List.replicate h.C.pw.toNat false)) (Fu (@Zkg h i l aa aa aa aa aa) Fz))))
def Z2d(h:Heap)(i:Nat):List Bool:=Z1H h i (Z07 h (Z0x h.P i:Nat)).1
theorem Z6x(h:Heap)(i:Nat):(Z2d h i).length=h.C.pw.toNat:=by simp[Z2d,Z1H]
theorem Zbb(l:List Page):∀ i,Z0x l i≤i
 | 0=>Nat.le_refl _
 | i+1=>by
  have:=Zbb l i;unfold Z0x;split<;>omega
def Zh6(h:Heap)(i:Nat)(u:List Bool)(k:Nat):Tg:=⟨tm 43 [(1,int i),(2,.pt 8002 0 0),(4,u64 0),(7,.d (.sl 1 (u.map bdv))),(8,int k)],[(8002,.box 28 h.cells)],60⟩
section
variable (h:Heap) (i:Nat) (u:List Bool) (k:Nat) (hp:Z02 h=true) (hi:i<h.P.length) (hu:u.length≤64)
include hp hi hu
theorem Zde(hk:k<u.length)(hd:u.getD k default=true∨Z45 h i k=0):CP (rndF Tryz.f200 0) (Zh6 h i u k).st .nrm (Zh6 h i u (k+1)).st:=by
 have po:=Z06 hp;rcases hd with hd | hd
 ·exact sF [] [] (FN 23 24 29 bdv u k (FcG 36 (!u.getD k default) (fun hg=>by(try simp only[bs]at hg);exact @ZbP h ((↑i:Int)) ((↑k:Int)) aa) (Ffs 38 (!u.getD k default&&Z45 h (↑i:Int) (↑k:Int) != 0) (Fx 26 k Fz))))
 ·exact sF [] [] (FN 23 24 29 bdv u k (FcG 36 (!u.getD k default) (fun hg=>by(try simp only[bs]at hg);exact @ZbP h ((↑i:Int)) ((↑k:Int)) aa) (Ffb 38 (!u.getD k default&&Z45 h (↑i:Int) (↑k:Int) != 0) (Fx 26 k Fz))))
theorem Zje(hk:k<u.length)(hd:u.getD k default=false∧¬ Z45 h i k=0):CP (rndF Tryz.f200 0) (Zh6 h i u k).st .ret (Tg.st ⟨tm 43 [(4,u64 (4096+i*h.C.pw+k))],[],60⟩):=by
 have po:=Z06 hp;obtain⟨hd1,hd2⟩:=hd;exact sF [] [] (FN 23 24 29 bdv u k (FcG 36 (!u.getD k default) (fun hg=>by(try simp only[bs]at hg);exact @ZbP h ((↑i:Int)) ((↑k:Int)) aa) (Fts 38 (!u.getD k default&&Z45 h (↑i:Int) (↑k:Int) != 0) (Fc 42 (@ZeF h ((↑i:Int)) ((↑k:Int)) aa oq oq) Fz))))
omit hp hi hu in
theorem Znp:CP (rndF Tryz.f200 0) (Zh6 h i u u.length).st (.ext 0) (Tg.st ⟨tm 43 [(4,u64 0)],[],60⟩):=by
 exact sF [] [] (FO 23 24 bdv u Fz)
end
def badD(h:Heap)(i:Nat)(u:List Bool)(k:Nat):Bool:=!u.getD k default&&decide (Z45 h i k≠0)
def Z2S(h:Heap)(i:Nat)(u:List Bool):Int:=match (List.range u.length).find? (badD h i u)with | some k=>4096+i*h.C.pw+k | none=>0
theorem ZkG(h:Heap)(i:Nat)(u:List Bool)(hp:Z02 h=true)(hi:i<h.P.length)(hu:u.length≤64)(hf:(List.range u.length).find? (badD h i u)=none) :
  CP (blkF Tryz.f200 0) (Tg.st ⟨tm 43 [(1,int i),(2,.pt 8002 0 0),(4,u64 0),(7,.d (.sl 1 (u.map bdv))),(8,int 0)],[(8002,.box 28 h.cells)],60⟩) .nrm (Tg.st ⟨tm 43 [(4,u64 0)],[],60⟩):=by
 refine Z0a (S:=fun k=>(Zh6 h i u k).st) u.length kr (fun k hk=>Zde h i u k hp hi hu hk ?_) (Znp h i u);have:=List.find?_eq_none.1 hf k (List.mem_range.2 hk);simp only[badD,bs]at this;cases hb:u.getD k default with
 | true=>exact .inl rfl
 | false =>
  rw[hb]at this;exact .inr (by simpa using this)
theorem ZhB(h:Heap)(i:Nat)(u:List Bool)(k:Nat)(hp:Z02 h=true)(hi:i<h.P.length)(hu:u.length≤64)(hf:(List.range u.length).find? (badD h i u)=some k) :
  CP (blkF Tryz.f200 0) (Tg.st ⟨tm 43 [(1,int i),(2,.pt 8002 0 0),(4,u64 0),(7,.d (.sl 1 (u.map bdv))),(8,int 0)],[(8002,.box 28 h.cells)],60⟩) .ret (Tg.st ⟨tm 43 [(4,u64 (4096+i*h.C.pw+k))],[],60⟩):=by
 obtain⟨h1,h2,h3⟩:=List.find?_range_eq_some.1 hf;have h2:=List.mem_range.1 h2;refine Z0I (S:=fun k=>(Zh6 h i u k).st) k kr (fun m hm=>Zde h i u m hp hi hu oq ?_) (Zje h i u k hp hi hu h2 ?_)
 ·have:=h3 m hm;simp only[badD,bs]at this;cases hb:u.getD m default with
  | true=>exact .inl rfl
  | false =>
   rw[hb]at this;exact .inr (by simpa using this)
 ·simp only[badD,bs]at h1;exact⟨h1.1,h1.2⟩
theorem Zg8(h:Heap)(i:Nat)(hw:WOk h.W)(hp:Z02 h=true)(hi:i<h.P.length):GP 200 [h.av,int i] true (u64 (Z2S h i (Z2d h i))) []:=by
 have po:=Z06 hp;have hh:=Zbb h.P i;have hn:=Z2V h (Z0x h.P i:Nat);have hr:=Z2L hp (Z0x h.P i:Nat);have hl:=Z6x h i;unfold Z2d at hl ⊢;cases hf:(List.range (Z1H h i (Z07 h (Z0x h.P i:Nat)).1).length).find? (badD h i (Z1H h i (Z07 h (Z0x h.P i:Nat)).1))with
 | none =>
  have e7:Z2S h i (Z1H h i (Z07 h (Z0x h.P i:Nat)).1)=0:=by rw[Z2S,hf]
  let y0:=Z07 h (↑(Z0x h.P i):Int);exact gF [] Tryz.func200 (fO 6) (Fc 13 (@Zg9 h i aa aa) (Fc 14 (@Z3T h ((↑(Z0x h.P i):Int)) aa) (Fc 20 (@Zfb h ((↑i:Int)) (y0.fst) aa aa oq oq aa) (Fu (@ZkG h i (Z1H h (↑i:Int) y0.fst) aa aa oq aa) (Fa (by rw[e7]:0=Z2S h i (Z1H h (↑i:Int) y0.fst)) Fz)))))
 | some k =>
  have e7:Z2S h i (Z1H h i (Z07 h (Z0x h.P i:Nat)).1)=4096+i*h.C.pw+k:=by rw[Z2S,hf]
  let y1:=Z07 h (↑(Z0x h.P i):Int);exact gF [] Tryz.func200 (fO 6) (Fc 13 (@Zg9 h i aa aa) (Fc 14 (@Z3T h ((↑(Z0x h.P i):Int)) aa) (Fc 20 (@Zfb h ((↑i:Int)) (y1.fst) aa aa oq oq aa) (Fu (@ZhB h i (Z1H h (↑i:Int) y1.fst) k aa aa oq aa) (Fa (by rw[e7]:4096+(↑i:Int)*h.C.pw+(↑k:Int)=Z2S h i (Z1H h (↑i:Int) y1.fst)) Fz)))))
structure Finding where
 fault:Int
 page:Int
 addr:Int
 deriving DecidableEq,Inhabited
def Finding.av(f:Finding):AV:=.ag [int f.fault,int f.page,u64 f.addr]
def pageF(h:Heap)(i:Nat):Finding :=
 if(h.P.getD i default).K≠0∧(h.P.getD i default).S≠h.S then⟨2,i,0⟩
 else if(Z07 h (i:Int)).2≠0 then⟨3,i,0⟩
 else if Z13 h (i:Int) (Z07 h (i:Int)).1≠0 then⟨5,i,Z13 h (i:Int) (Z07 h (i:Int)).1⟩
 else if Z2S h i (Z2d h i)≠0 then⟨4,i,Z2S h i (Z2d h i)⟩else⟨0,0,0⟩
theorem Zfp(h:Heap)(i:Nat)(hw:WOk h.W)(hp:Z02 h=true)(hi:i<h.P.length):GP 179 [h.av,int i] true (pageF h i).av []:=by
 have po:=Z06 hp;have hn:=Z2V h (i:Int);have hr:=Z2L hp (i:Int);have Q0 {h_ c_ p_} (r_:Fq h_ c_ p_):=Fek 12 Page.dv h.P (↑i) i (FeG 20 ((h.P.getD i default).K != 0) Page.dv h.P (↑i) i r_);rcases bb ((h.P.getD i default).K != 0&&(h.P.getD i default).S != h.S)with hc0 | hc0<;>have hc0p:=hc0<;>simp only[bs]at hc0p
 ·obtain⟨hc0pa,hc0pb⟩:=hc0p;rw[show pageF h i=Finding.mk (2:Int) (↑i:Int) (0:Int)from by(simp only[pageF] ;exact sj)];exact gF [] Tryz.func179 [] (Q0 (Ft 26 hc0 Fz))
 ·have Q1 {h_ c_ p_} (r_:Fq h_ c_ p_):=Q0 (Ff 26 hc0 (Fc 32 (@Z3T h ((↑i:Int)) aa) r_));rcases bb ((Z07 h (↑i:Int)).snd != 0)with hc1 | hc1<;>have hc1p:=hc1<;>simp only[bs]at hc1p
  ·rw[show pageF h i=Finding.mk (3:Int) (↑i:Int) (0:Int)from by(simp only[pageF] ;exact sj)];exact gF [] Tryz.func179 [] (Q1 (Ft 36 hc1 Fz))
  ·have Q2 {h_ c_ p_} (r_:Fq h_ c_ p_):=Q1 (Ff 36 hc1 (Fc 42 (@Z8K h ((↑i:Int)) ((Z07 h (↑i:Int)).fst) aa oq oq oq aa) r_));rcases bb (Z13 h (↑i:Int) (Z07 h (↑i:Int)).fst != 0)with hc2 | hc2<;>have hc2p:=hc2<;>simp only[bs]at hc2p
   ·rw[show pageF h i=Finding.mk (5:Int) (↑i:Int) (Z13 h (↑i:Int) (Z07 h (↑i:Int)).fst)from by(simp only[pageF] ;exact sj)];exact gF [] Tryz.func179 [] (Q2 (Ft 44 hc2 Fz))
   ·have Q3 {h_ c_ p_} (r_:Fq h_ c_ p_):=Q2 (Ff 44 hc2 (Fc 50 (@Zg8 h i aa aa aa) r_));rcases bb (Z2S h i (Z2d h i) != 0)with hc3 | hc3<;>have hc3p:=hc3<;>simp only[bs]at hc3p
    ·rw[show pageF h i=Finding.mk (4:Int) (↑i:Int) (Z2S h i (Z2d h i))from by(simp only[pageF] ;exact sj)];exact gF [] Tryz.func179 [] (Q3 (Ft 52 hc3 Fz))
    ·rw[show pageF h i=Finding.mk (0:Int) (0:Int) (0:Int)from by(simp only[pageF] ;exact sj)];exact gF [] Tryz.func179 [] (Q3 (Ff 52 hc3 Fz))
def Zgy(h:Heap)(all:List Int)(i:Nat):Tg:=⟨tm 89 [(1,.pt 8001 0 0),(2,.pt 8002 0 0),(3,Z01 all),(5,int i)],[(8002,.box 198 [int 0,int 0,u64 0]),(8001,.box 28 h.cells)],60⟩
def Za7(hd:Header)(fs all:List Int)(k:Nat):Bool:=Z0f hd k&&decide (fs.getD k default≠0)&&!decide (fs.getD k default∈all)
def ZgZ(h:Heap)(all fs:List Int)(hd:Header)(i k:Nat):Tg:=⟨tm 89 [(1,.pt 8001 0 0),(2,.pt 8002 0 0),(3,Z01 all),(5,int i),(6,.pt 488006 0 0),(8,Z01 fs),(10,int k)],[(488006,.box 52 [int hd.K,int hd.length,u32 hd.map]),(8002,.box 198 [int 0,int 0,u64 0]),(8001,.box 28 h.cells)],64⟩
section
variable (h:Heap) (all fs:List Int) (hd:Header) (i k:Nat) (hm:0≤hd.map∧hd.map≤4294967295) (hl:all.length≤1048576) (hf:fs.length≤4096) (hr:0≤all.getD i default∧all.getD i default≤8192) (hi:i<all.length)
include hm hl hf hr hi
theorem ZcH(hk:k<fs.length)(hb:Za7 hd fs all k=false):CP (rndF Tryz.f180 2) (ZgZ h all fs hd i k).st .nrm (ZgZ h all fs hd i (k+1)).st:=by
 simp only[Za7,bs]at hb;rcases hb with(hb | hb) | hb
 ·let y0:=Z0f hd (↑k:Int)&&fs.getD k default != 0;exact sF [] [] (FM 46 47 wdv fs k (Fc 52 (@Z2j hd ((↑k:Int)) aa) (FeG 56 (Z0f hd (↑k:Int)) wdv fs (↑k) k (FeG 64 y0 wdv fs (↑k) k (FcG 66 y0 (fun hg=>by(try simp only[bs]at hg);exact @Z12 all (fs.getD k default) aa) (Ffs 68 (Z0f hd (↑k:Int)&&fs.getD k default != 0&&!decide (fs.getD k default∈all)) (Fx 49 k Fz)))))))
 ·let y1:=Z0f hd (↑k:Int)&&fs.getD k default != 0;exact sF [] [] (FM 46 47 wdv fs k (Fc 52 (@Z2j hd ((↑k:Int)) aa) (FeG 56 (Z0f hd (↑k:Int)) wdv fs (↑k) k (FeG 64 y1 wdv fs (↑k) k (FcG 66 y1 (fun hg=>by(try simp only[bs]at hg);exact @Z12 all (fs.getD k default) aa) (Ffb 68 (Z0f hd (↑k:Int)&&fs.getD k default != 0&&!decide (fs.getD k default∈all)) (Fx 49 k Fz)))))))
 ·let y2:=Z0f hd (↑k:Int)&&fs.getD k default != 0;exact sF [] [] (FM 46 47 wdv fs k (Fc 52 (@Z2j hd ((↑k:Int)) aa) (FeG 56 (Z0f hd (↑k:Int)) wdv fs (↑k) k (FeG 64 y2 wdv fs (↑k) k (FcG 66 y2 (fun hg=>by(try simp only[bs]at hg);exact @Z12 all (fs.getD k default) aa) (Ffs 68 (Z0f hd (↑k:Int)&&fs.getD k default != 0&&!decide (fs.getD k default∈all)) (Fx 49 k Fz)))))))
theorem Zia(hk:k<fs.length)(hb:Za7 hd fs all k=true):CP (rndF Tryz.f180 2) (ZgZ h all fs hd i k).st .ret (Tg.st ⟨tm 89 [(2,.pt 8002 0 0)],[(8002,.box 198 [int 6,int (ofA h.C (all.getD i default+1+k)).1,u64 (all.getD i default+1+k)])],64⟩):=by
 simp only[Za7,bs]at hb;obtain⟨⟨hb1,hb2⟩,hb3⟩:=hb;let y0:=Z0f hd (↑k:Int)&&fs.getD k default != 0;exact sF [] [] (FM 46 47 wdv fs k (Fc 52 (@Z2j hd ((↑k:Int)) aa) (FeG 56 (Z0f hd (↑k:Int)) wdv fs (↑k) k (FeG 64 y0 wdv fs (↑k) k (FcG 66 y0 (fun hg=>by(try simp only[bs]at hg);exact @Z12 all (fs.getD k default) aa) (Fts 68 (Z0f hd (↑k:Int)&&fs.getD k default != 0&&!decide (fs.getD k default∈all)) (Fek 71 wdv all (↑i) i (Fv 73 (all.getD i default+1) (Fv 75 (↑k) (Fv 76 (all.getD i default+1+(↑k:Int)) (Fc 81 (@Z4L h.C (all.getD i default+1+(↑k:Int)) oq oq) Fz)))))))))))
omit hm hl hf hr hi in
theorem ZnP:CP (rndF Tryz.f180 2) (ZgZ h all fs hd i fs.length).st (.ext 2) (Tg.st ⟨tm 89 [(1,.pt 8001 0 0),(2,.pt 8002 0 0),(3,Z01 all),(5,int i)],[(8002,.box 198 [int 0,int 0,u64 0]),(8001,.box 28 h.cells)],64⟩):=by
 exact sF [] [] (FO 46 47 wdv fs Fz)
end
section
variable (h:Heap) (all fs:List Int) (hd:Header) (i:Nat) (hm:0≤hd.map∧hd.map≤4294967295) (hl:all.length≤1048576) (hf:fs.length≤4096) (hr:0≤all.getD i default∧all.getD i default≤8192) (hi:i<all.length)
include hm hl hf hr hi
theorem Zlv(hb:(List.range fs.length).find? (Za7 hd fs all)=none):CP (blkF Tryz.f180 2) (ZgZ h all fs hd i 0).st .nrm (Tg.st ⟨tm 89 [(1,.pt 8001 0 0),(2,.pt 8002 0 0),(3,Z01 all),(5,int i)],[(8002,.box 198 [int 0,int 0,u64 0]),(8001,.box 28 h.cells)],64⟩):=by
 refine Z0a (S:=fun k=>(ZgZ h all fs hd i k).st) fs.length kr (fun k hk=>ZcH h all fs hd i k hm hl hf hr hi hk ?_) (ZnP h all fs hd i);have:=List.find?_eq_none.1 hb k (List.mem_range.2 hk);simpa using this
theorem Zig(k:Nat)(hb:(List.range fs.length).find? (Za7 hd fs all)=some k):CP (blkF Tryz.f180 2) (Tg.st ⟨tm 89 [(1,.pt 8001 0 0),(2,.pt 8002 0 0),(3,Z01 all),(5,int i),(6,.pt 488006 0 0),(8,Z01 fs),(10,int 0)],[(488006,.box 52 [int hd.K,int hd.length,u32 hd.map]),(8002,.box 198 [int 0,int 0,u64 0]),(8001,.box 28 h.cells)],64⟩) .ret (Tg.st ⟨tm 89 [(2,.pt 8002 0 0)],[(8002,.box 198 [int 6,int (ofA h.C (all.getD i default+1+k)).1,u64 (all.getD i default+1+k)])],64⟩):=by
 obtain⟨h1,h2,h3⟩:=List.find?_range_eq_some.1 hb;have h2:=List.mem_range.1 h2;refine Z0I (S:=fun k=>(ZgZ h all fs hd i k).st) k kr (fun m hm'=>ZcH h all fs hd i m hm hl hf hr hi oq ?_) (Zia h all fs hd i k hm hl hf hr hi h2 h1);have:=h3 m hm';simpa using this
end
theorem Z8t(h:Heap)(a:Int):(Z0X h a).1.length≤4096:=by
 unfold Z0X;split
 ·rename_i e;have po:=Z06 (Z47 e).2.2.1;have:=Zcm h.W (a+1) (getH h a).1.length;omega
 ·simp
def Z1X(h:Heap)(all:List Int)(i:Nat):Option Nat:=(List.range (Z0X h (all.getD i default)).1.length).find? (Za7 (getH h (all.getD i default)).1 (Z0X h (all.getD i default)).1 all)
section
variable (h:Heap) (all:List Int) (i:Nat) (hw:WOk h.W) (hl:all.length≤1048576) (hr:0≤all.getD i default∧all.getD i default≤8192) (hi:i<all.length)
include hw hl hr hi
theorem ZcW(hb:Z1X h all i=none):CP (rndF Tryz.f180 0) (Zgy h all i).st .nrm (Zgy h all (i+1)).st:=by
 have hm:=ZbG hw (all.getD i default);have hf:(Z0X h (all.getD i default)).1.length≤4096:=Z8t h _;unfold Z1X at hb;let y0:=all.getD i default;exact sF [] [] (FN 22 23 30 wdv all i (Fc 32 (@Z49 h y0 aa oq) (Fek 39 wdv all (↑i) i (Fc 41 (@Zah h y0 aa oq) (Fu (@Zlv h all ((Z0X h y0).fst) ((getH h y0).fst) i aa aa aa aa aa aa) (Fx 25 i Fz))))))
theorem ZiC(k:Nat)(hb:Z1X h all i=some k):CP (rndF Tryz.f180 0) (Zgy h all i).st .ret (Tg.st ⟨tm 89 [(2,.pt 8002 0 0)],[(8002,.box 198 [int 6,int (ofA h.C (all.getD i default+1+k)).1,u64 (all.getD i default+1+k)])],60⟩):=by
 have hm:=ZbG hw (all.getD i default);have hf:(Z0X h (all.getD i default)).1.length≤4096:=Z8t h _;unfold Z1X at hb;let y0:=all.getD i default;exact sF [] [] (FN 22 23 30 wdv all i (Fc 32 (@Z49 h y0 aa oq) (Fek 39 wdv all (↑i) i (Fc 41 (@Zah h y0 aa oq) (Fu (@Zig h all ((Z0X h y0).fst) ((getH h y0).fst) i aa aa aa aa aa k aa) Fz)))))
end
theorem Zog(h:Heap)(all:List Int):CP (rndF Tryz.f180 0) (Zgy h all all.length).st (.ext 0) (Tg.st ⟨tm 89 [(2,.pt 8002 0 0)],[(8002,.box 198 [int 0,int 0,u64 0])],60⟩):=by
 exact sF [] [] (FO 22 23 wdv all Fz)
def Z0Z(h:Heap)(all:List Int):Finding :=
 match (List.range all.length).find? (fun i=>(Z1X h all i).isSome)with
 | none=>⟨0,0,0⟩
 | some i=>⟨6,(ofA h.C (all.getD i default+1+((Z1X h all i).getD 0:Nat))).1,all.getD i default+1+((Z1X h all i).getD 0:Nat)⟩
section
variable (h:Heap) (all:List Int) (hw:WOk h.W) (hl:all.length≤1048576) (hr:∀ x∈all,0≤x∧x≤8192)
include hw hl hr
theorem Zkn(hb:(List.range all.length).find? (fun i=>(Z1X h all i).isSome)=none):CP (blkF Tryz.f180 0) (Zgy h all 0).st .nrm (Tg.st ⟨tm 89 [(2,.pt 8002 0 0)],[(8002,.box 198 [int 0,int 0,u64 0])],60⟩):=by
 refine Z0a (S:=fun k=>(Zgy h all k).st) all.length kr (fun k hk=>ZcW h all k hw hl (hr _ (getD_mem_iff.2 ⟨k,hk,rfl⟩)) hk ?_) (Zog h all);have:=List.find?_eq_none.1 hb k (List.mem_range.2 hk);simpa using this
theorem ZhU(i k:Nat)(hb:(List.range all.length).find? (fun i=>(Z1X h all i).isSome)=some i)(hk':Z1X h all i=some k):CP (blkF Tryz.f180 0) (Tg.st ⟨tm 89 [(1,.pt 8001 0 0),(2,.pt 8002 0 0),(3,Z01 all),(5,int 0)],[(8002,.box 198 [int 0,int 0,u64 0]),(8001,.box 28 h.cells)],60⟩) .ret (Tg.st ⟨tm 89 [(2,.pt 8002 0 0)],[(8002,.box 198 [int 6,int (ofA h.C (all.getD i default+1+k)).1,u64 (all.getD i default+1+k)])],60⟩):=by
 obtain⟨h1,h2,h3⟩:=List.find?_range_eq_some.1 hb;have h2:=List.mem_range.1 h2;refine Z0I (S:=fun k=>(Zgy h all k).st) i kr (fun m hm'=>ZcW h all m hw hl (hr _ (getD_mem_iff.2 ⟨m,by omega,rfl⟩)) oq ?_) (ZiC h all i hw hl (hr _ (getD_mem_iff.2 ⟨i,h2,rfl⟩)) h2 k hk');have:=h3 m hm';simpa using this
end
theorem Z5k(h:Heap)(hw:WOk h.W):GP 180 [h.av] true (Z0Z h (Z03 h).1).av []:=by
 have hl:=Z2f h;have hr:=Z3k h;cases hb:(List.range (Z03 h).1.length).find? (fun i=>(Z1X h (Z03 h).1 i).isSome)with
 | none =>
  have e:Z0Z h (Z03 h).1=⟨0,0,0⟩:=by simp only[Z0Z,hb]
  rw[e];exact gF [] Tryz.func180 [] (Fc 17 (@Z3N h aa) (Fu (@Zkn h ((Z03 h).fst) aa oq aa aa) Fz))
 | some i =>
  have h1:=(List.find?_range_eq_some.1 hb).1;obtain⟨k,hk⟩:=Option.isSome_iff_exists.1 h1;have e:Z0Z h (Z03 h).1=⟨6,(ofA h.C ((Z03 h).1.getD i default+1+(k:Nat))).1,(Z03 h).1.getD i default+1+(k:Nat)⟩:=by simp only[Z0Z,hb,hk,Option.getD_some]
  rw[e];exact gF [] Tryz.func180 [] (Fc 17 (@Z3N h aa) (Fu (@ZhU h ((Z03 h).fst) aa oq aa i k aa aa) Fz))
theorem Zlw(h:Heap)(hw:WOk h.W)(hp:Z02 h=false):GP 144 [h.av] true (Finding.mk 1 0 0).av []:=by
 exact gF [] Tryz.func144 [] (Fc 9 (@Z0j h) (Ftb 10 (!Z02 h) Fz))
def chkL(h:Heap)(i:Nat):Tg:=⟨tm 65 [(1,.pt 8001 0 0),(2,.pt 8002 0 0),(3,int i)],[(8002,.box 198 [int 0,int 0,u64 0]),(8001,.box 28 h.cells)],60⟩
section
variable (h:Heap) (i:Nat) (hw:WOk h.W) (hp:Z02 h=true)
include hw hp
theorem Zg7(hi:i<h.P.length)(hb:(pageF h i).fault=0):CP (rndF Tryz.f144 0) (chkL h i).st .nrm (chkL h (i+1)).st:=by
 have po:=Z06 hp;exact sF [] [] (FM 15 16 Page.dv h.P i (Fc 21 (@Zfp h i aa aa aa) (Ffb 24 ((pageF h i).fault != 0) (Fx 18 i Fz))))
theorem Zla(hi:i<h.P.length)(hb:(pageF h i).fault≠0):CP (rndF Tryz.f144 0) (chkL h i).st .ret (Tg.st ⟨tm 65 [(2,.pt 8002 0 0)],[(8002,.box 198 [int (pageF h i).fault,int (pageF h i).page,u64 (pageF h i).addr])],60⟩):=by
 have po:=Z06 hp;exact sF [] [] (FM 15 16 Page.dv h.P i (Fc 21 (@Zfp h i aa aa aa) (Ftb 24 ((pageF h i).fault != 0) Fz)))
end
theorem ZpJ(h:Heap)(hp:Z02 h=true):CP (rndF Tryz.f144 0) (chkL h h.P.length).st (.ext 0) (Tg.st ⟨tm 65 [(1,.pt 8001 0 0),(2,.pt 8002 0 0)],[(8002,.box 198 [int 0,int 0,u64 0]),(8001,.box 28 h.cells)],60⟩):=by
 have po:=Z06 hp;exact sF [] [] (FO 15 16 Page.dv h.P Fz)
def Z2P(h:Heap):Option Nat:=(List.range h.P.length).find? (fun i=>decide ((pageF h i).fault≠0))
section
variable (h:Heap) (hw:WOk h.W) (hp:Z02 h=true)
include hw hp
theorem ZdX(hb:Z2P h=none):CP (blkF Tryz.f144 0) (chkL h 0).st .nrm (Tg.st ⟨tm 65 [(1,.pt 8001 0 0),(2,.pt 8002 0 0)],[(8002,.box 198 [int 0,int 0,u64 0]),(8001,.box 28 h.cells)],60⟩):=by
 refine Z0a (S:=fun k=>(chkL h k).st) h.P.length kr (fun k hk=>Zg7 h k hw hp hk ?_) (ZpJ h hp);have:=List.find?_eq_none.1 hb k (List.mem_range.2 hk);simpa using this
theorem Zlx(i:Nat)(hb:Z2P h=some i):CP (blkF Tryz.f144 0) (Tg.st ⟨tm 65 [(1,.pt 8001 0 0),(2,.pt 8002 0 0),(3,int 0)],[(8002,.box 198 [int 0,int 0,u64 0]),(8001,.box 28 h.cells)],60⟩) .ret (Tg.st ⟨tm 65 [(2,.pt 8002 0 0)],[(8002,.box 198 [int (pageF h i).fault,int (pageF h i).page,u64 (pageF h i).addr])],60⟩):=by
 obtain⟨h1,h2,h3⟩:=List.find?_range_eq_some.1 hb;have h2:=List.mem_range.1 h2;refine Z0I (S:=fun k=>(chkL h k).st) i kr (fun m hm'=>Zg7 h m hw hp oq ?_) (Zla h i hw hp h2 (by simpa using h1));have:=h3 m hm';simpa using this
end
theorem ZjE(h:Heap)(hw:WOk h.W)(hp:Z02 h=true)(i:Nat)(hb:Z2P h=some i):GP 144 [h.av] true (pageF h i).av []:=by
 exact gF [] Tryz.func144 [] (Fc 9 (@Z0j h) (Ffb 10 (!Z02 h) (Fu (@Zlx h aa aa i aa) Fz)))
theorem Zki(h:Heap)(hw:WOk h.W)(hp:Z02 h=true)(hb:Z2P h=none)(hq:(Z0Z h (Z03 h).1).fault≠0):GP 144 [h.av] true (Z0Z h (Z03 h).1).av []:=by
 exact gF [] Tryz.func144 [] (Fc 9 (@Z0j h) (Ffb 10 (!Z02 h) (Fu (@ZdX h aa aa aa) (Fc 27 (@Z5k h aa) (Ftb 30 ((Z0Z h (Z03 h).fst).fault != 0) Fz)))))
end Go.Proofs.YtdhchmlalchgeaaGreat
