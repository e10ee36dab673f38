/-
 The statement ScanOrder: part 8.
 Conditions: none.
-/
import Derived.Test.YtdhchmlalchgeaaGreatN7
set_option maxRecDepth 100000
set_option maxHeartbeats 2000000
set_option linter.all false
open Inhabited renaming default->X
open Bool renaming true->Y,false->M,and_eq_true->Lg,eq_false_or_eq_true->Lm,eq_iff_iff->Ln
open List renaming map->Z,range->Lc,take->Ld,filter->Le,mem_range->Lf,find?_eq_none->Li,find?_range_eq_some->Lj,replicate->Lk,getElem?_map->Ll,append_nil->Lp,getD->Lq,map_congr_left->Lr,map_set->Ls,append_assoc->Lw,filter_append->Lx,filter_cons->Ly,filter_nil->Lz,length_filter_le->LA,map_append->LB,map_drop->LC,map_take->LD,take_length->LF
open Decidable renaming decide->L
open Option renaming some->O,none->La,map_eq_some_iff->Lt,map_some->LG
open Int renaming toNat->Lb,fdiv_eq_ediv_of_nonneg->Lo
open Go.IntKind renaming u64->Lh,i64->Lu,u32->Lv
open Go.Proofs.Tryz
namespace Go.Proofs.YtdhchmlalchgeaaGreat
open Go.Sx
def Z0A(h:Heap)(n k:Int):Heap×Int×Bool :=
 if 0<=first h.P k/\Z1w h.P+k<=Z2r h.C then(⟨h.C,h.W,(Z2y h.C h.P (first h.P k) h.S n).1,h.S,h.B⟩,4096+first h.P k*h.C.pw,Y)else(noHeap,0,M)
def ZdR(h:Heap)(n k:Int)(hp:Z02 h=Y)(hk:k=need h.C n)(hk1:1<=k):GP 160 [h.av,int n,int k] M (.tu [(Z0A h n k).1.av,u64 (Z0A h n k).2.1,bool (Z0A h n k).2.2]) []:=by
 have po:=Z06 hp;obtain⟨o1,o2,o3,o4,o5,o6,o7,o8,o9⟩:=po;have hr:=Z6s h.P k;have hff:0<=first h.P k->first h.P k+k<=h.P.length:=λhf=>(Z1m hf).2.1
 have hiu:=Z7R h.P;have hli:=ZfE o1;have hnr:=Z3W h.C n;have hm2:0<=first h.P k->0<=first h.P k*h.C.pw/\first h.P k*h.C.pw+h.C.pw<=4096:=λh0=>Z2T o1 h0 (by have:=hff h0;omega)
 by_cases hg:0<=first h.P k/\Z1w h.P+k<=Z2r h.C
 .have e7:Z0A h n k=(⟨h.C,h.W,(Z2y h.C h.P (first h.P k) h.S n).1,h.S,h.B⟩,4096+first h.P k*h.C.pw,Y):=by rw[Z0A,if_pos hg]
  rw[show Z0A h n k=(Heap.mk h.C h.W (Z2y h.C h.P (first h.P k) h.S n).1 h.S h.B,(4096:Int)+first h.P k*h.C.pw,Y)from by rw[e7]];let y0:=!decide (first h.P k<0);exact gF [] func160 [] (Fc 13 (@Z5N h.P k oq) (FcG 19 y0 (λhg=>by(try simp only[bs]at hg);exact @Z6L h.P oq) (FiG 21 y0 ((↑(Z1w h.P):Int)+k) (FcG 24 y0 (λhg=>by(try simp only[bs]at hg);exact @Z6Q h.C) (Ffb 26 (L (first h.P k<0)||L (Z2r h.C<(↑(Z1w h.P):Int)+k)) (Fc 37 (@ZiE h.C h.P (first h.P k) h.S n oq) (Fi 46 (first h.P k*h.C.pw) (Fi 47 (4096+first h.P k*h.C.pw) (Fv 48 (4096+first h.P k*h.C.pw) Fz)))))))))
 .have e7:Z0A h n k=(noHeap,0,M):=by rw[Z0A,if_neg hg]
  rw[e7];let y1:=!decide (first h.P k<0);exact gF [] func160 [] (Fc 13 (@Z5N h.P k oq) (FcG 19 y1 (λhg=>by(try simp only[bs]at hg);exact @Z6L h.P oq) (FiG 21 y1 ((↑(Z1w h.P):Int)+k) (FcG 24 y1 (λhg=>by(try simp only[bs]at hg);exact @Z6Q h.C) (Ftb 26 (L (first h.P k<0)||L (Z2r h.C<(↑(Z1w h.P):Int)+k)) (Fnl (Fnl Fz)))))))
def Zcx{h:Heap}{n:Int}(hp:Z02 h=Y)(hn:1<=n/\n<=256):0<=(Z0j h n).2.1/\(Z0j h n).2.1<=8192/\((Z0j h n).2.2=Y->(Z0j h n).1.W=h.W/\4096<=(Z0j h n).2.1)/\((Z0j h n).2.2=M->(Z0j h n).1=noHeap):=by
 obtain⟨o1,o2,o3,o4,o5,o6,o7,o8,o9⟩:=Z06 hp;have hb:=(properB_iff.1 hp).2.2.2.2.1;have hpg:=λhj=>Z0J hp (j:=h.B.toNat) hj;have hfo:=λhf=>Z2s (h:=h) o9 hf;have hm1:0<=h.B->0<=h.B*h.C.pw/\h.B*h.C.pw+h.C.pw<=4096:=λh0=>Z2T o1 h0 oq;have hm2:0<=first h.P 1->0<=first h.P 1*h.C.pw/\first h.P 1*h.C.pw+h.C.pw<=4096:=λh0=>Z2T o1 h0 (by have:=hfo h0;omega)
 unfold Z0j;split
 .rename_i hf;unfold Z6S at hf;have h1:=hm1 hf.1;have h2:=hpg oq;refine⟨by simp only;omega,by simp only;omega,λ_=>⟨rfl,by simp only;omega⟩,λe=>by cases e⟩
 .split
  .rename_i hg;have h1:=hm2 hg.1;have h2:=congrArg Page.U (hfo hg.1).2.2.2;simp only at h2;refine⟨by simp only;omega,by simp only;omega,λ_=>⟨rfl,by simp only;omega⟩,λe=>by cases e⟩
  .exact⟨by simp,by simp,(λe=>nomatch e),λ_=>rfl⟩
def ZdH{h:Heap}{n k:Int}(hp:Z02 h=Y):0<=(Z0A h n k).2.1/\(Z0A h n k).2.1<=8192/\((Z0A h n k).2.2=Y->(Z0A h n k).1.W=h.W/\4096<=(Z0A h n k).2.1)/\((Z0A h n k).2.2=M->(Z0A h n k).1=noHeap):=by
 obtain⟨o1,o2,o3,o4,o5,o6,o7,o8,o9⟩:=Z06 hp;unfold Z0A;split
 .rename_i hg;have h3:=(Z1m hg.1)
  have h1:=Z2T (c:=h.C) (i:=first h.P k) o1 hg.1 oq;exact⟨by simp only;omega,by simp only;omega,λ_=>⟨rfl,by simp only;omega⟩,λe=>by cases e⟩
 .exact⟨by simp,by simp,(λe=>nomatch e),λ_=>rfl⟩
def put7(h:Heap)(hd:Header):Heap×Int×Bool:=if 0<need h.C (sizeH hd)then Z0A h (sizeH hd) (need h.C (sizeH hd))else Z0j h (sizeH hd)
def new7(h:Heap)(hd:Header):Heap×Int×Int :=
 if Z02 h=Y/\Z3p h.C hd=Y then(if(put7 h hd).2.2=Y then((Z1v (put7 h hd).1 (put7 h hd).2.1 hd).1,(put7 h hd).2.1,0)else(noHeap,0,3))else(noHeap,0,1)
def Z7v:WOk []:=λw h=>by simp at h
def Z5X{c:Conf}{hd:Header}(h:Z3p c hd=Y):Z0h hd=Y/\1<=sizeH hd/\sizeH hd<=256/\0<=need c (sizeH hd)/\hd.K≠0:=by
 simp only[Z3p,Lg,decide_eq_true_eq]at h;have hv:=validH_iff.1 h.1.1;have hn:=Z3W c (sizeH hd);have hs:sizeH hd=hd.length+1:=by rw[sizeH,if_pos h.1.1]
 exact⟨h.1.1,by omega,by omega,by omega,h.1.2⟩
def Zkw(h:Heap)(hd:Header)(hw:WOk h.W)(hm:0<=hd.map/\hd.map<=4294967295):GP 115 [h.av,hd.av] M (.tu [(new7 h hd).1.av,u64 (new7 h hd).2.1,int (new7 h hd).2.2]) []:=by
 by_cases hp:Z02 h=Y
 .cases ha:Z3p h.C hd with
  | false =>
   have e7:new7 h hd=(noHeap,0,1):=by rw[new7,if_neg (by rw[ha];simp)]
   rw[e7];exact gF [] func115 [] (Fc 13 (@Z0m h) (FcG 19 (!!Z02 h) (λhg=>by(try simp only[bs]at hg);exact @Z5I h.C hd aa) (Fts 21 (!Z02 h||!Z3p h.C hd) (Fnl (Fnl Fz)))))
  | true =>
   obtain⟨a1,a2,a3,a4,a5⟩:=Z5X ha;have f1:=Zcx hp ⟨a2,a3⟩;have f2:=ZdH (n:=sizeH hd) (k:=need h.C (sizeH hd)) hp;have w1:WOk (Z0j h (sizeH hd)).1.W:=by
    cases e:(Z0j h (sizeH hd)).2.2 with
    | true=>rw[(f1.2.2.1 e).1];exact hw
    | false=>rw[f1.2.2.2 e];exact Z7v
   have w2:WOk (Z0A h (sizeH hd) (need h.C (sizeH hd))).1.W:=by
    cases e:(Z0A h (sizeH hd) (need h.C (sizeH hd))).2.2 with
    | true=>rw[(f2.2.2.1 e).1];exact hw
    | false=>rw[f2.2.2.2 e];exact Z7v
   by_cases hn:0<need h.C (sizeH hd)
   .have e7:put7 h hd=Z0A h (sizeH hd) (need h.C (sizeH hd)):=by rw[put7,if_pos hn]
    have Q0 {h_ c_ p_} (r_:Fq h_ c_ p_):=Fc 13 (@Z0m h) (FcG 19 (!!Z02 h) (λhg=>by(try simp only[bs]at hg);exact @Z5I h.C hd aa) (Ffs 21 (!Z02 h||!Z3p h.C hd) (Fc 24 (@Z2n hd aa) (Fc 28 (@Z4Z h.C (sizeH hd)) (Fc 32 (@Z6W h (sizeH hd) aa oq) (Ftb 37 (L (0<need h.C (sizeH hd))) (Fc 42 (@ZdR h (sizeH hd) (need h.C (sizeH hd)) aa (by rfl) aa) r_)))))));rcases bb (!(Z0A h (sizeH hd) (need h.C (sizeH hd))).2.2)with hc0 | hc0<;>have hc0p:=hc0<;>simp only[bs]at hc0p
    .exact gF [] func115 (fO 5) (Q0 (Ft 47 hc0 (Fnl (Fnl (Fa (by simp[new7,e7,noHeap, *]:0=(new7 h hd).1.C.pw) (Fa (by simp[new7,e7,noHeap, *]:0=(new7 h hd).1.C.pg) (Fa (by simp[new7,e7,noHeap, *]:[]=Z wdv (new7 h hd).1.W) (Fa (by simp[new7,e7,noHeap, *]:[]=Z Page.dv (new7 h hd).1.P) (Fa (by simp[new7,e7,noHeap, *]:0=(new7 h hd).1.S) (Fa (by simp[new7,e7,noHeap, *]:0=(new7 h hd).1.B) (Fa (by simp[new7,e7,noHeap, *]:0=(new7 h hd).2.1) (Fa (by simp[new7,e7,noHeap, *]:3=(new7 h hd).2.2) Fz))))))))))))
    .rw[show new7 h hd=((Z1v (Z0A h (sizeH hd) (need h.C (sizeH hd))).1 (Z0A h (sizeH hd) (need h.C (sizeH hd))).2.1 hd).1,(Z0A h (sizeH hd) (need h.C (sizeH hd))).2.1,(0:Int))from by simp[new7,e7,noHeap, *]];exact gF [] func115 [] (Q0 (Ff 47 hc0 (Fc 53 (@ZfW ((Z0A h (sizeH hd) (need h.C (sizeH hd))).1) ((Z0A h (sizeH hd) (need h.C (sizeH hd))).2.1) hd aa oq aa) Fz)))
   .have e7:put7 h hd=Z0j h (sizeH hd):=by rw[put7,if_neg hn]
    have Q1 {h_ c_ p_} (r_:Fq h_ c_ p_):=Fc 13 (@Z0m h) (FcG 19 (!!Z02 h) (λhg=>by(try simp only[bs]at hg);exact @Z5I h.C hd aa) (Ffs 21 (!Z02 h||!Z3p h.C hd) (Fc 24 (@Z2n hd aa) (Fc 28 (@Z4Z h.C (sizeH hd)) (Fc 32 (@Z6W h (sizeH hd) aa oq) (Ffb 37 (L (0<need h.C (sizeH hd))) r_))))));rcases bb (!(Z0j h (sizeH hd)).2.2)with hc0 | hc0<;>have hc0p:=hc0<;>simp only[bs]at hc0p
    .exact gF [] func115 (fO 5) (Q1 (Ft 47 hc0 (Fnl (Fnl (Fa (by simp[new7,e7,noHeap, *]:0=(new7 h hd).1.C.pw) (Fa (by simp[new7,e7,noHeap, *]:0=(new7 h hd).1.C.pg) (Fa (by simp[new7,e7,noHeap, *]:[]=Z wdv (new7 h hd).1.W) (Fa (by simp[new7,e7,noHeap, *]:[]=Z Page.dv (new7 h hd).1.P) (Fa (by simp[new7,e7,noHeap, *]:0=(new7 h hd).1.S) (Fa (by simp[new7,e7,noHeap, *]:0=(new7 h hd).1.B) (Fa (by simp[new7,e7,noHeap, *]:0=(new7 h hd).2.1) (Fa (by simp[new7,e7,noHeap, *]:3=(new7 h hd).2.2) Fz))))))))))))
    .rw[show new7 h hd=((Z1v (Z0j h (sizeH hd)).1 (Z0j h (sizeH hd)).2.1 hd).1,(Z0j h (sizeH hd)).2.1,(0:Int))from by simp[new7,e7,noHeap, *]];exact gF [] func115 [] (Q1 (Ff 47 hc0 (Fc 53 (@ZfW ((Z0j h (sizeH hd)).1) ((Z0j h (sizeH hd)).2.1) hd aa oq aa) Fz)))
 .have hf:Z02 h=M:=by simpa using hp
  have e7:new7 h hd=(noHeap,0,1):=by rw[new7,if_neg (by rw[hf];simp)]
  rw[e7];exact gF [] func115 [] (Fc 13 (@Z0m h) (FcG 19 (!!Z02 h) (λhg=>by(try simp only[bs]at hg);exact @Z5I h.C hd aa) (Fts 21 (!Z02 h||!Z3p h.C hd) (Fnl (Fnl Fz)))))
def Z3q(h:Header)(hm:0<=h.map/\h.map<=4294967295):GP 125 [h.av] Y (bool (Z0h h)) []:=by
 have hs:=λq=>Zqs (n:=h.length) q;have ho:0<=h.length->h.length<=32->ones h.length=2^h.length.toNat-1:=λh0 h1=>by rw[ones,Nat.min_eq_left oq]
 rcases Lm (L (h.K<(0:Int))||L ((3:Int)<h.K)||L (h.length<(0:Int))||L ((255:Int)<h.length))with hc0 | hc0
 .have hc0p:=hc0;simp only[bs]at hc0p;refine gspec_ofE [((20:Nat),[Hint.br Y])] [] [] dd func125 [M,M,M,M,M,M,M,M,M,Y] (φ:=(L (h.K<(0:Int))||L ((3:Int)<h.K)||L (h.length<(0:Int))||L ((255:Int)<h.length))=Y/\Y=Y/\M=Z0h h) ?_ kr kr;exact⟨aa,rfl,(by(simp[Z0h, *];omega))⟩
 .have hc0p:=hc0;simp only[bs]at hc0p;obtain⟨⟨⟨hc0paaa,hc0paab⟩,hc0pab⟩,hc0pb⟩:=hc0p;rcases Lm (h.K==(1:Int))with hc1 | hc1
  .have hc1p:=hc1;simp only[bs]at hc1p;refine gspec_ofE [((20:Nat),[Hint.br M]),((23:Nat),[Hint.br Y]),((30:Nat),[Hint.int h.map]),((33:Nat),[Hint.call Y (u64 (ones h.length)) []])] [] [] dd func125 [M,M,M,M,M,M,M,M,M,M,M,M,M,M,M,M,Y] (φ:=(L (h.K<(0:Int))||L ((3:Int)<h.K)||L (h.length<(0:Int))||L ((255:Int)<h.length))=M/\M=M/\(h.K==(1:Int))=Y/\Y=Y/\(L (h.length<=(32:Int))=Y->Lh.wrap h.map=h.map)/\(L (h.length<=(32:Int))=Y->GP 163 [int h.length] Y (u64 (ones h.length)) [])/\(L (h.length<=(32:Int))&&L (h.map<=ones h.length))=Z0h h) ?_ kr kr;exact⟨aa,rfl,aa,rfl,(by intro hg;(try simp only[bs]at hg);exact wrapU2 rfl oq oq),(λhg=>by(try simp only[bs]at hg);exact @Z3O (h.length)),(by grind[Z0h])⟩
  .have hc1p:=hc1;simp only[bs]at hc1p;refine gspec_ofE [((20:Nat),[Hint.br M]),((23:Nat),[Hint.br M])] [] [] dd func125 [M,M,M,M,M,M,M,M,M,Y] (φ:=(L (h.K<(0:Int))||L ((3:Int)<h.K)||L (h.length<(0:Int))||L ((255:Int)<h.length))=M/\M=M/\(h.K==(1:Int))=M/\M=M/\(h.K==h.K&&(h.length==h.length&&h.map==(0:Int)))=Z0h h) ?_ kr kr;exact⟨aa,rfl,aa,rfl,(by grind[Z0h])⟩
def Z0S(h:Header)(hm:0<=h.map/\h.map<=4294967295):GP 74 [h.av] Y (int (sizeH h)) []:=by
 rcases Lm (!Z0h h)with hc0 | hc0
 .have hc0p:=hc0;simp only[bs]at hc0p;refine gspec_ofE [((4:Nat),[Hint.call Y (Sx.bool (Z0h h)) []]),((5:Nat),[Hint.br Y])] [] [] dd func74 [Y] (φ:=GP 125 [h.av] Y (Sx.bool (Z0h h)) []/\(!Z0h h)=Y/\Y=Y/\(0:Int)=sizeH h) ?_ kr kr;exact⟨(@Z3q (h) aa),aa,rfl,(by simp[sizeH, *])⟩
 .have hc0p:=hc0;simp only[bs]at hc0p;have hf3:=validH_iff.1 hc0p;obtain⟨hf3a,⟨hf3ba,⟨hf3bba,⟨hf3bbba,hf3bbbb⟩⟩⟩⟩:=hf3;refine gspec_ofE [((4:Nat),[Hint.call Y (Sx.bool (Z0h h)) []]),((5:Nat),[Hint.br M]),((8:Nat),[Hint.int (h.length+(1:Int))])] [] [] dd func74 [Y] (φ:=GP 125 [h.av] Y (Sx.bool (Z0h h)) []/\(!Z0h h)=M/\M=M/\Lu.wrap (h.length+(1:Int))=h.length+(1:Int)/\h.length+(1:Int)=sizeH h) ?_ kr kr;exact⟨(@Z3q (h) aa),aa,rfl,(by exact wrapI2 rfl oq oq),(by simp[sizeH, *])⟩
def Z7q(ws:List Int)(a n:Int)(hw:ws.length<=1048576)(h0:0<=a/\a<=18446744073709551615):GP 162 [Z01 ws,u64 a,int n] Y (.tu [int (Z0c ws a n).1,bool (Z0c ws a n).2]) []:=by
 have Q0 {h_ c_ p_} (r_:Fq h_ c_ p_):=FvG 13 (!decide (a<4096)) (a-4096) (FlG 15 (!decide (a<4096)) wdv ws (FvG 16 (!decide (a<4096)) (↑ws.length) r_));rcases bb (L (a<4096)||L ((ws.length:Int)<a-4096))with hc0 | hc0<;>have hc0p:=hc0<;>simp only[bs]at hc0p
 .rw[show Z0c ws a n=((0:Int),M)from by(simp[Z0c, *];omega)];exact gF [] func162 [] (Q0 (Ft 18 hc0 Fz))
 .obtain⟨hc0pa,hc0pb⟩:=hc0p;rw[show Z0c ws a n=(a-(4096:Int),L (n<=(ws.length:Int)-(a-(4096:Int))))from by(simp[Z0c, *];omega)];exact gF [] func162 [] (Q0 (Ff 18 hc0 (Fv 20 (a-4096) (Fi 21 (a-4096) (Fl 25 wdv ws (Fi 27 ((ws.length:Int)-(a-4096)) Fz))))))
def Zb8(ws:List Int)(a:Int)(hw:ws.length<=1048576)(h0:0<=a/\a<=18446744073709551615):GP 156 [Z01 ws,u64 a] Y (.tu [int (Z11 ws a).1,int (Z11 ws a).2]) []:=by
 have Q0 {h_ c_ p_} (r_:Fq h_ c_ p_):=Fc 11 (@Z7q ws a (1) aa aa) r_;rcases bb (!(Z0c ws a 1).2)with hc0 | hc0<;>have hc0p:=hc0<;>simp only[bs]at hc0p
 .rw[show Z11 ws a=((0:Int),(2:Int))from by grind[Z0c,Z11]];exact gF [] func156 [] (Q0 (Ft 15 hc0 Fz))
 .rw[show Z11 ws a=((Z0c ws a (1:Int)).1,(0:Int))from by grind[Z0c,Z11]];exact gF [] func156 [] (Q0 (Ff 15 hc0 Fz))
def Z6N(ws:List Int)(a:Int)(hw:ws.length<=1048576)(h0:0<=a/\a<=18446744073709551615):GP 113 [Z01 ws,u64 a] Y (.tu [u64 (loadA ws a).1,int (loadA ws a).2]) []:=by
 rcases bb ((Z11 ws a).2 != 0)with hc0 | hc0<;>have hc0p:=hc0<;>simp only[bs]at hc0p
 .have hf3:=ZcD hc0p;obtain⟨hf3a,hf3b⟩:=hf3;rw[show loadA ws a=((0:Int),(Z11 ws a).2)from by simp[loadA, *]];exact gF [] func113 [] (Fc 11 (@Zb8 ws a aa aa) (Ft 15 hc0 Fz))
 .have hf5:=Zda hc0p;obtain⟨hf5a,⟨hf5ba,hf5bb⟩⟩:=hf5;rw[show loadA ws a=(ws.getD (Z11 ws a).1.toNat X,(0:Int))from by simp[loadA, *]];refine gspec_ofE [((11:Nat),[Hint.call Y (AV.tu [int (Z11 ws a).1,int (Z11 ws a).2]) []]),((15:Nat),[Hint.br M]),((19:Nat),[Hint.el (wdv (ws.getD (Z11 ws a).1.toNat X))])] [] [] dd func113 [] (φ:=GP 156 [Z01 ws,u64 a] Y (AV.tu [int (Z11 ws a).1,int (Z11 ws a).2]) []/\((Z11 ws a).2 != (0:Int))=M/\M=M/\(0:Int)<=(Z11 ws a).1/\(Z wdv ws)[(Z11 ws a).1.toNat]? = O (wdv (ws.getD (Z11 ws a).1.toNat X))) ?_ kr kr;exact⟨(@Zb8 (ws) (a) aa aa),aa,rfl,(by exact elI oq oq oq)⟩
def upS(w:Int):Nat->Int
 | 0=>w
 | 1=>w/4
 | 2=>w/16
 | 3=>w/65536
 | _=>w/281474976710656
def upO(w:Int):List Int:=[w%4,w/4%4,w/16%4096,w/65536%4294967296]
def upL1(w:Int)(i:Nat):Tg:=⟨tm 49 [(0,u64 w),(1,Z0r [2,2,12,32]),(4,.d (.sl 0 [])),(5,int 0),(6,int ([64,62,60,48,16].getD i 0)),(12,Z0r [2,2,12,32]),(13,int 4),(14,int i)],[],20⟩
def ZlQ(w:Int)(i:Nat)(hi:i<4):CP (rndF f174 0) (upL1 w i).st .nrm (upL1 w (i+1)).st:=by
 have h:i=0\/i=1\/i=2\/i=3:=by omega
 rcases h with rfl | rfl | rfl | rfl
 .refine stretchE [((16:Nat),[Hint.el (idv (2:Int))])] [] [] [] (φ:=(0:Int)<=(↑(0:Nat):Int)/\(Z idv [(2:Int),(2:Int),(12:Int),(32:Int)])[(↑(0:Nat):Int).toNat]? = O (idv (2:Int))) ?_ kr kr kr;exact(by simp[*])
 .refine stretchE [((16:Nat),[Hint.el (idv (2:Int))])] [] [] [] (φ:=(0:Int)<=(↑(1:Nat):Int)/\(Z idv [(2:Int),(2:Int),(12:Int),(32:Int)])[(↑(1:Nat):Int).toNat]? = O (idv (2:Int))) ?_ kr kr kr;exact(by simp[*])
 .refine stretchE [((16:Nat),[Hint.el (idv (12:Int))])] [] [] [] (φ:=(0:Int)<=(↑(2:Nat):Int)/\(Z idv [(2:Int),(2:Int),(12:Int),(32:Int)])[(↑(2:Nat):Int).toNat]? = O (idv (12:Int))) ?_ kr kr kr;exact(by simp[*])
 .refine stretchE [((16:Nat),[Hint.el (idv (32:Int))])] [] [] [] (φ:=(0:Int)<=(↑(3:Nat):Int)/\(Z idv [(2:Int),(2:Int),(12:Int),(32:Int)])[(↑(3:Nat):Int).toNat]? = O (idv (32:Int))) ?_ kr kr kr;exact(by simp[*])
def ZpN(w:Int):CP (rndF f174 0) (upL1 w 4).st (.ext 0) (Tg.st ⟨tm 49 [(0,u64 w),(1,Z0r [2,2,12,32]),(4,.d (.sl 0 [])),(5,int 0)],[],60⟩):=by
 exact sF [] [] Fz
def ZhX(w:Int)  := Z0a (S:=λi=>(upL1 w i).st) 4 (by kernel_rfl) (λi hi=>ZlQ w i hi) (ZpN w)
def upL2(w:Int)(i:Nat):Tg:=⟨tm 49 [(0,u64 (upS w i)),(4,.d (.sl 0 [])),(5,int 0),(9,.ow 480009),(29,Z0r [2,2,12,32]),(30,int 4),(31,int i)],[(480009,.arr 35 1 (((upO w).take i).map wdv))],60⟩
def ZmJ(w:Int)(i:Nat)(h0:0<=w)(h1:w<=18446744073709551615)(hi:i<4):CP (rndF f174 2) (upL2 w i).st .nrm (upL2 w (i+1)).st:=by
 have o1:ones 2=3:=by decide
 have o2:ones 12=4095:=by decide
 have o3:ones 32=4294967295:=by decide
 have a0:bits .and .u64 w (ones 2)=w%4:=by rw[o1];exact Z3y 2 dd dd oq oq
 have a1:bits .and .u64 (w/4) (ones 2)=w/4%4:=by rw[o1];exact Z3y 2 dd dd oq oq
 have a2:bits .and .u64 (w/16) (ones 12)=w/16%4096:=by rw[o2];exact Z3y 12 dd dd oq oq
 have a3:bits .and .u64 (w/65536) (ones 32)=w/65536%4294967296:=by rw[o3];exact Z3y 32 dd dd oq oq
 have f1:(w/4).fdiv 4=w/16:=by rw[Lo _ dd];omega
 have f2:(w/16).fdiv 4096=w/65536:=by rw[Lo _ dd];omega
 have f3:(w/65536).fdiv 4294967296=w/281474976710656:=by rw[Lo _ dd];omega
 have h:i=0\/i=1\/i=2\/i=3:=by omega
 rcases h with rfl | rfl | rfl | rfl
 .exact sF [(496041,480009)] [] (Fh 33 [.el (idv 2)] (Fa (by simp[upS,upO, *]:0<=(↑(0:Nat):Int)/\(Z idv [2,2,12,32])[(↑(0:Nat):Int).toNat]? = O (idv 2)) (Fc 38 (@Z3O (2)) (Fg 39 (by assumption:bits BinOp.and Lh (upS w 0) (ones (2:Int))=upS w 0%4) (Fs 40 (Z wdv [upS w 0%4]) (Fa (by simp[upS,upO, *]:(Z wdv (Ld 0 (upO w))).length+(Z wdv [upS w 0%4]).length<=2^30) (Fs 41 (Z wdv [upS w 0%4]) (Fg 44 (by exact Z5m rfl dd:(upS w 0).fdiv (2^min (Lb 2) 64)=upS w 0/4) (Fo ((0:Int)<=2) Fz)))))))))
 .exact sF [(496041,480009)] [Y] (Fh 33 [.el (idv 2)] (Fa (by simp[upS,upO, *]:0<=(↑(1:Nat):Int)/\(Z idv [2,2,12,32])[(↑(1:Nat):Int).toNat]? = O (idv 2)) (Fc 38 (@Z3O (2)) (Fg 39 (by assumption:bits BinOp.and Lh (upS w 1) (ones (2:Int))=upS w 1%4) (Fs 40 (Z wdv [upS w 1%4]) (Fa (by simp[upS,upO, *]:(Z wdv (Ld 1 (upO w))).length+(Z wdv [upS w 1%4]).length<=2^30) (Fs 41 (Z wdv [w%4,upS w 1%4]) (Fg 44 (by exact Z5m rfl dd:(upS w 1).fdiv (2^min (Lb 2) 64)=upS w 1/4) (Fo ((0:Int)<=2) (Fa (by(simp[upS,upO, *];omega):upS w 1/4=upS w (1+1)) Fz))))))))))
 .exact sF [(496041,480009)] [Y] (Fh 33 [.el (idv 12)] (Fa (by simp[upS,upO, *]:0<=(↑(2:Nat):Int)/\(Z idv [2,2,12,32])[(↑(2:Nat):Int).toNat]? = O (idv 12)) (Fc 38 (@Z3O (12)) (Fg 39 (by assumption:bits BinOp.and Lh (upS w 2) (ones (12:Int))=upS w 2%4096) (Fs 40 (Z wdv [upS w 2%4096]) (Fa (by simp[upS,upO, *]:(Z wdv (Ld 2 (upO w))).length+(Z wdv [upS w 2%4096]).length<=2^30) (Fs 41 (Z wdv [w%4,w/4%4,upS w 2%4096]) (Fg 44 (by exact Z5m rfl dd:(upS w 2).fdiv (2^min (Lb 12) 64)=upS w 2/4096) (Fo ((0:Int)<=12) (Fa (by(simp[upS,upO, *];omega):upS w 2/4096=upS w (2+1)) Fz))))))))))
 .exact sF [(496041,480009)] [Y] (Fh 33 [.el (idv 32)] (Fa (by simp[upS,upO, *]:0<=(↑(3:Nat):Int)/\(Z idv [2,2,12,32])[(↑(3:Nat):Int).toNat]? = O (idv 32)) (Fc 38 (@Z3O (32)) (Fg 39 (by assumption:bits BinOp.and Lh (upS w 3) (ones (32:Int))=upS w 3%4294967296) (Fs 40 (Z wdv [upS w 3%4294967296]) (Fa (by simp[upS,upO, *]:(Z wdv (Ld 3 (upO w))).length+(Z wdv [upS w 3%4294967296]).length<=2^30) (Fs 41 (Z wdv [w%4,w/4%4,w/16%4096,upS w 3%4294967296]) (Fg 44 (by exact Z5m rfl dd:(upS w 3).fdiv (2^min (Lb 32) 64)=upS w 3/4294967296) (Fo ((0:Int)<=32) (Fa (by(simp[upS,upO, *];omega):upS w 3/4294967296=upS w (3+1)) Fz))))))))))
def Zqg(w:Int):CP (rndF f174 2) (upL2 w 4).st (.ext 2) (Tg.st ⟨tm 49 [(0,u64 (w/281474976710656)),(4,.d (.sl 0 [])),(5,int 0),(9,.ow 480009)],[(480009,.arr 35 1 ((upO w).map wdv))],60⟩):=by
 exact sF [] [] Fz
def Zjv(w:Int)(h0:0<=w)(h1:w<=18446744073709551615)  := Z0a (S:=λi=>(upL2 w i).st) 4 (by kernel_rfl) (λi hi=>ZmJ w i h0 h1 hi) (Zqg w)
def Zen(w:Int)(h0:0<=w)(h1:w<=18446744073709551615)(h:w<281474976710656):GP 174 [u64 w,Z0r [2,2,12,32]] Y (.tu [Z01 (upO w),int 0]) []:=by
 exact gF [] func174 [] (Fh 9 [.own] (Fu (@ZhX w) (Fu (@Zjv w aa aa) (Ffb 47 (w/(281474976710656:Int) != 0) (Fa (by exact Z1a _:Z0x (Z wdv (upO w))) Fz)))))
def ZmR(w:Int)(h0:0<=w)(h1:w<=18446744073709551615)(h:¬ w<281474976710656):GP 174 [u64 w,Z0r [2,2,12,32]] Y (.tu [Z01 [],int 2]) []:=by
 exact gF [] func174 [] (Fh 9 [.own] (Fu (@ZhX w) (Fu (@Zjv w aa aa) (Ftb 47 (w/(281474976710656:Int) != 0) (Fnl Fz)))))
def ZdQ(w:Int)(h0:0<=w):decodeH w=if w<281474976710656/\w%4=1/\Z0h (Z3h w)=Y then(Z3h w,Y)else(Z2l,M):=by
 have k1:(Z3h w).K=w/4%4:=rfl;have k2:(Z3h w).length=w/16%4096:=rfl;have k3:(Z3h w).map=w/65536%4294967296:=rfl;by_cases hv:Z0h (Z3h w)=Y
 .have e:Z0d (Z3h w)=(1+4*(Z3h w).K+16*(Z3h w).length+65536*(Z3h w).map,0):=by rw[Z0d,if_pos hv]
  by_cases hc:w<281474976710656/\w%4=1
  .rw[decodeH,e,if_pos ⟨rfl,by simp only;omega⟩,if_pos ⟨hc.1,hc.2,hv⟩]
  .rw[decodeH,e,if_neg (by simp only;omega),if_neg (λq=>hc ⟨q.1,q.2.1⟩)]
 .have e:Z0d (Z3h w)=(0,1):=by rw[Z0d,if_neg hv]
  rw[decodeH,e,if_neg pq,if_neg (λq=>hv q.2.2)]
def Z0P(w:Int)(h0:0<=w)(h1:w<=18446744073709551615):GP 141 [u64 w] Y (.tu [(decodeH w).1.av,bool (decodeH w).2]) []:=by
 have hm:=Z9Y w h0;rw[ZdQ w h0];have u0:(upO w).getD 0 X=w%4:=rfl;have u1:(upO w).getD 1 X=w/4%4:=rfl;have u2:(upO w).getD 2 X=w/16%4096:=rfl;have u3:(upO w).getD 3 X=w/65536%4294967296:=rfl;have uL:(upO w).length=4:=rfl;have k1:(Z3h w).K=w/4%4:=rfl;have k2:(Z3h w).length=w/16%4096:=rfl;have k3:(Z3h w).map=w/65536%4294967296:=rfl;by_cases ha:w<281474976710656
 .by_cases hb:w%4=1
  .by_cases hv:Z0h (Z3h w)=Y
   .rw[if_pos ⟨ha,hb,hv⟩];have hv2:Z0h ⟨w/4%4,w/16%4096,w/65536%4294967296⟩=Y:=hv;exact gF [] func141 [] (Fh 17 [.el (wdv ((upO w).getD 0 X))] (Fh 23 [.el (wdv ((upO w).getD 1 X))] (Fh 27 [.el (wdv ((upO w).getD 2 X))] (Fh 31 [.el (wdv ((upO w).getD 3 X))] (Fs 9 (Z idv [2,2,12,32]) (Fc 10 (@Zen w aa aa aa) (Fa (by intro hg;(try simp only[bs]at hg);exact elI oq oq oq:(!(0:Int) != 0)=Y->(0:Int)<=0/\(Z wdv (upO w))[Lb 0]? = O (wdv ((upO w).getD 0 X))) (Ffb 20 ((upO w).getD 0 X != 1) (Fa (by exact elI oq oq oq:(0:Int)<=1/\(Z wdv (upO w))[Lb 1]? = O (wdv ((upO w).getD 1 X))) (Fi 25 ((upO w).getD 1 X) (Fa (by exact elI oq oq oq:(0:Int)<=2/\(Z wdv (upO w))[Lb 2]? = O (wdv ((upO w).getD 2 X))) (Fi 29 ((upO w).getD 2 X) (Fa (by exact elI oq oq oq:(0:Int)<=3/\(Z wdv (upO w))[Lb 3]? = O (wdv ((upO w).getD 3 X))) (Fg 33 (by exact Zbi oq oq:Lv.wrap ((upO w).getD 3 X)=(upO w).getD 3 X) (Fc 36 (@Z3q (Header.mk ((upO w).getD 1 X) ((upO w).getD 2 X) ((upO w).getD 3 X)) aa) (Ffs 37 (!Z0h (Header.mk ((upO w).getD 1 X) ((upO w).getD 2 X) ((upO w).getD 3 X))) Fz))))))))))))))))
   .rw[if_neg (by simp[hv])];have hv':Z0h ⟨w/4%4,w/16%4096,w/65536%4294967296⟩=M:=eq_false_of_ne_true hv;exact gF [] func141 [] (Fh 17 [.el (wdv ((upO w).getD 0 X))] (Fh 23 [.el (wdv ((upO w).getD 1 X))] (Fh 27 [.el (wdv ((upO w).getD 2 X))] (Fh 31 [.el (wdv ((upO w).getD 3 X))] (Fs 9 (Z idv [2,2,12,32]) (Fc 10 (@Zen w aa aa aa) (Fa (by intro hg;(try simp only[bs]at hg);exact elI oq oq oq:(!(0:Int) != 0)=Y->(0:Int)<=0/\(Z wdv (upO w))[Lb 0]? = O (wdv ((upO w).getD 0 X))) (Ffb 20 ((upO w).getD 0 X != 1) (Fa (by exact elI oq oq oq:(0:Int)<=1/\(Z wdv (upO w))[Lb 1]? = O (wdv ((upO w).getD 1 X))) (Fi 25 ((upO w).getD 1 X) (Fa (by exact elI oq oq oq:(0:Int)<=2/\(Z wdv (upO w))[Lb 2]? = O (wdv ((upO w).getD 2 X))) (Fi 29 ((upO w).getD 2 X) (Fa (by exact elI oq oq oq:(0:Int)<=3/\(Z wdv (upO w))[Lb 3]? = O (wdv ((upO w).getD 3 X))) (Fg 33 (by exact Zbi oq oq:Lv.wrap ((upO w).getD 3 X)=(upO w).getD 3 X) (Fc 36 (@Z3q (Header.mk ((upO w).getD 1 X) ((upO w).getD 2 X) ((upO w).getD 3 X)) aa) (Fts 37 (!Z0h (Header.mk ((upO w).getD 1 X) ((upO w).getD 2 X) ((upO w).getD 3 X))) Fz))))))))))))))))
  .rw[if_neg (by simp[hb])];exact gF [] func141 [] (Fh 17 [.el (wdv ((upO w).getD 0 X))] (Fs 9 (Z idv [2,2,12,32]) (Fc 10 (@Zen w aa aa aa) (Fa (by intro hg;(try simp only[bs]at hg);exact elI oq oq oq:(!(0:Int) != 0)=Y->(0:Int)<=0/\(Z wdv (upO w))[Lb 0]? = O (wdv ((upO w).getD 0 X))) (Ftb 20 ((upO w).getD 0 X != 1) Fz)))))
 .rw[if_neg (by simp[ha])];exact gF [] func141 [] (Fh 17 [.el (wdv ([].getD 0 X))] (Fs 9 (Z idv [2,2,12,32]) (Fc 10 (@ZmR w aa aa aa) (Fa (by intro hg;(try simp only[bs]at hg);exact elI oq oq oq:(!(2:Int) != 0)=Y->(0:Int)<=0/\(Z wdv [])[Lb 0]? = O (wdv ([].getD 0 X))) Fz))))
end Go.Proofs.YtdhchmlalchgeaaGreat
namespace Go.Sx
def Zn3(H:Heap)(x:AV):Option AV:=match x with
 | .d x=>O (.d x)
 | .rp e o=>O (.rp e o)
 | .ow b=>match Nat.ble 8000 b with
  | true=>match H b with | O (.arr _ s els)=>O (.d (.sl s els)) | _=>La
  | false=>La
 | .os b o n=>match Nat.ble 8000 b with
  | true=>match H b with | O (.arr _ s els)=>O (.d (.sl s ((els.drop o).take n))) | _=>La
  | false=>La
 | _=>La
def Zmr{P:Program}{f:Nat}{e0 e1:List DV}{t0 t1:Nat}{x:Value}(hx:x.oneCell'=Y)(h:GSpec P f [.rp e0 0,.rp e1 0] Y (.d (.sc x)) []) :
  LentSpec P f [.pt 0 0 0,.pt 1 0 0] [.box t0 (e0.map .d),.box t1 (e1.map .d)] (.d (.sc x)) [.box t0 (e0.map .d),.box t1 (e1.map .d)]:=by
 intro w Im ρ vs hIm hsz hρ hinj hbnd hpre hargs;have box:∀ (k:Nat) (e:List DV) (t:Nat) (v:Value) (Im2:Nat->Prop),(∀ g,Im g->Im2 g)->(∀ β g,ρ k=O β->β.g=O g->Im2 g)->(∃ β,ρ k=O β/\RelB ρ w Im β (.box t (e.map .d)))->Rel ρ w Im (.pt k 0 0) v->Rel (λ_=>La) w Im2 (.rp e 0) v:=by
  intro k e t v Im2 hi hg hb hv;obtain⟨β,hβ,r⟩:=hb;obtain⟨g,s,n,k1,rfl⟩:=Z2U hv;rw[hβ]at k1;cases k1;obtain⟨r1,r2,g2,cs,r3,r4,r5,r6,r7⟩:=r;cases r3;have:=@Rel.rp (λ_=>La) w Im2 e 0 ⟨g,0,La⟩ rfl (hg _ _ hβ rfl) (λj y hy=>by
   have hj:j<e.length:=(List.getElem?_eq_some_iff.1 hy).1;have hc:j<cs.size:=by rw[r5];simpa using hj
   have h1:cs[j]? = O cs[j]:=Array.getElem?_eq_getElem hc;have h2:=r7 j (.d y) cs[j] (by simp[hy]) h1;refine⟨cs[j], ?_, ?_⟩
   .simp only[World.cell?,r4];simpa using h1
   .cases h2 with
    | d h2=>exact h2.mono (Ext.refl _ _) hi)
  simpa using this
 refine(h w (λg=>Im g\/∃ k β,ρ k=O β/\β.g=O g) vs ?_ hsz ?_).mono ?_
 .rintro g (hg | ⟨k,β,h1,h2⟩)
  .exact hIm g hg
  .exact(hbnd k β g h1 h2).1
 .intro i y v hy hv;cases i with
  | zero =>
   simp at hy;subst hy;exact box 0 e0 t0 v _ (λg hg=>.inl hg) (λβ g h1 h2=>.inr ⟨0,β,h1,h2⟩) (hpre 0 _ rfl) (hargs 0 _ v rfl hv)
  | succ i=>cases i with
   | zero =>
    simp at hy;subst hy;exact box 1 e1 t1 v _ (λg hg=>.inl hg) (λβ g h1 h2=>.inr ⟨1,β,h1,h2⟩) (hpre 1 _ rfl) (hargs 1 _ v rfl hv)
   | succ i=>simp at hy
 .rintro e w' ⟨v,rfl,hk,ρ',Im',_,_,_,_,_,_,hr⟩;have hv:=Z15 hr;subst hv;have ext:Ext Im w w':=⟨hk.size,λg hg=>hk.block g (hIm g hg) (λq=>q),hk.rows⟩
  refine⟨_,rfl,⟨hk.os,hk.tape,hk.output,hk.size,λk h1 _=>hk.block k h1 (λq=>q),hk.rows⟩,ρ,Im,λ_ _ h=>h,hρ,λg hg=>.inl hg,λg hg=>Nat.lt_of_lt_of_le (hIm g hg) hk.size,
   λk β g h1 h2=>⟨Nat.lt_of_lt_of_le (hbnd k β g h1 h2).1 hk.size,.inr ⟨k,β,h1,h2⟩⟩,λk β g _ h1 h2=>(hbnd k β g h1 h2).2,λk k' β β' g _ _=>hinj k k' β β' g, ?_,.d (.sc _ hx)⟩
  intro k B hB;obtain⟨β,b1,b2⟩:=hpre k B hB;exact⟨β,b1,b2.mono ext (λ_ h=>h) (λ_ _ h=>h) (λb β g h1 h2=>(hbnd b β g h1 h2).1) (λg hg=>hk.block g (hbnd k β g b1 hg).1 (λq=>q))⟩
def Z6i{P:Program}{f s:Nat}{fr:Bool}{res:AV}{news:List Blk}(h:∀ (p:Option Addr) (c:Nat),GSpec P f [.d (.sc (.slice p 0 c))] fr res news):GSpec P f [.d (.sl s [])] fr res news:=by
 intro w Im vs hI hn hr;have h0:vs.size=1:=hn;obtain⟨v,hv⟩:∃ v,vs[0]? = O v:=⟨vs[0]' oq,by simp⟩
 have key:∀ (p:Option Addr) (c:Nat),v = .slice p 0 c->Calls P f vs w λe w'=>∃ v,e = .returned v/\Zfe w Im fr res news v w':=λp c e=>by
  refine h p c w Im vs hI hn λi x u hx hu=>?_
  match i with
  | 0 =>
   simp only[List.getElem?_cons_zero,Option.some.injEq]at hx;rw[hv]at hu;cases hu;subst hx;subst e;exact .d (.sc _ rfl)
  | i+1=>simp at hx
 have h1:=hr 0 _ v rfl hv;cases h1 with
 | d h1 =>
  generalize he:([]:List (List DV))=l at h1;cases h1 with
  | slNil s p c=>exact key p c rfl
  | sl s els p n c fn hn=>subst he;simp at hn;subst hn;exact key _ c rfl
end Go.Sx
namespace Go.Proofs.YtdhchmlalchgeaaGreat
open Go.Sx
def Heap.dvs(h:Heap):List DV:=[.sc (.int .i64 h.C.pw),.sc (.int .i64 h.C.pg),.sl 1 (h.W.map wdv),.sl 4 (h.P.map Page.dv),.sc (.int .i64 h.S),.sc (.int .i64 h.B)]
def ZgP(h:Heap)(a:Int)(hl:h.W.length<=1048576)(h0:0<=a/\a<=18446744073709551615):GP 154 [.rp [.sc (.int .i64 h.C.pw),.sc (.int .i64 h.C.pg),.sl 1 (h.W.map wdv),.sl 4 (h.P.map Page.dv),.sc (.int .i64 h.S),.sc (.int .i64 h.B)] 0,.rp [.sc (.int .u64 a)] 0] Y (u64 (loadA h.W a).1) []:=by
 exact gF [] func154 [] (Fc 9 (@Z6N h.W a aa aa) Fz)
def Z2d(h:Heap)(a:Int)(hl:h.W.length<=1048576)(h0:0<=a/\a<=18446744073709551615):LP 154 [.pt 0 0 0,.pt 1 0 0] [.box 28 h.cells,.box 35 [u64 a]] (u64 (loadA h.W a).1) [.box 28 h.cells,.box 35 [u64 a]] :=
 Zmr (e0:=h.dvs) (e1:=[.sc (.int .u64 a)]) rfl (ZgP h a hl h0)
def Z4g(h:Heap)(a:Int)(hw:WOk h.W)(h0:0<=a/\a<=18446744073709551615):GP 111 [h.av,u64 a] Y (.tu [(atH h a).1.av,int (atH h a).2]) []:=by
 have hv:=Z0D hw a;have hm:=Z1q (loadA h.W a).1 hv.1;by_cases hp:Z02 h=Y
 .have po:=Z06 hp;by_cases ho:(ofA h.C a).2.2=0
  .have oo:=Z2L po.1 ho;have hz:(decodeH (loadA h.W a).1).2=Y->sizeH (decodeH (loadA h.W a).1).1=(decodeH (loadA h.W a).1).1.length+1/\0<=(decodeH (loadA h.W a).1).1.length/\(decodeH (loadA h.W a).1).1.length<=255:=λe=>by
    have hv:=Z7L e;have:=validH_iff.1 hv;rw[sizeH,if_pos hv];omega
   have pp:=Z0J hp (j:=(ofA h.C a).1.toNat) oq;by_cases c3:((h.P.getD (ofA h.C a).1.toNat X).K=1\/(h.P.getD (ofA h.C a).1.toNat X).K=2)/\(ofA h.C a).2.1<(h.P.getD (ofA h.C a).1.toNat X).U/\(decodeH (loadA h.W a).1).2=Y
   .have hz':=hz c3.2.2;by_cases c4:((h.P.getD (ofA h.C a).1.toNat X).K=1/\(h.P.getD (ofA h.C a).1.toNat X).U<(ofA h.C a).2.1+sizeH (decodeH (loadA h.W a).1).1)\/((h.P.getD (ofA h.C a).1.toNat X).K=2/\((ofA h.C a).2.1≠0\/sizeH (decodeH (loadA h.W a).1).1≠(h.P.getD (ofA h.C a).1.toNat X).U))
    .have e7:atH h a=(Z2l,19):=by rw[atH,if_pos hp,if_pos ho,if_pos c3,if_pos c4]
     rw[e7];have Q0 {h_ c_ p_} (r_:Fq h_ c_ p_):=Fc 15 (@Z0N h) (Ffb 16 (!Z02 h) (Fc 22 (@Z2t h.C a oq oq) (Ffb 27 ((ofA h.C a).2.2 != 0) (Fe 34 Page.dv h.P ((ofA h.C a).1) (Fbq 38 [8002,8003] (@Z2d h a oq aa) (Fc 39 (@Z0P ((loadA h.W a).1) oq oq) (Fc 43 (@Z0S ((decodeH (loadA h.W a).1).1) aa) r_)))))));rcases bb (!(decodeH (loadA h.W a).1).2||L ((h.P.getD (ofA h.C a).1.toNat X).U<=(ofA h.C a).2.1))with hc0 | hc0<;>have hc0p:=hc0<;>simp only[bs]at hc0p
     .exact gF [] func111 [] (Fh 44 [.br Y] (Q0 (Fa hc0 Fz)))
     .obtain⟨hc0pa,hc0pb⟩:=hc0p;rcases bb ((h.P.getD (ofA h.C a).1.toNat X).K==1)with hc1 | hc1<;>have hc1p:=hc1<;>simp only[bs]at hc1p
      .let y0:=h.P.getD (ofA h.C a).1.toNat X;exact gF [] func111 [] (Fh 44 [.br M] (Fh 76 [.br Y] (Q0 (Fa hc0 (Fa hc1 (Fi 61 (y0.U-(ofA h.C a).2.1) (Ftb 53 (!decide (sizeH (decodeH (loadA h.W a).1).1<=y0.U-(ofA h.C a).2.1)) Fz)))))))
      .let y1:=h.P.getD (ofA h.C a).1.toNat X;exact gF [] func111 [] (Fh 44 [.br M] (Fh 53 [.br M] (Fh 76 [.br Y] (Q0 (Fa hc0 (Fa hc1 (Fb ((y1.K==2)=Y) (Ftb 63 (!((ofA h.C a).2.1==0&&sizeH (decodeH (loadA h.W a).1).1==y1.U)) Fz))))))))
    .have e7:atH h a=((decodeH (loadA h.W a).1).1,0):=by rw[atH,if_pos hp,if_pos ho,if_pos c3,if_neg c4]
     rw[e7];have Q1 {h_ c_ p_} (r_:Fq h_ c_ p_):=Fc 15 (@Z0N h) (Ffb 16 (!Z02 h) (Fc 22 (@Z2t h.C a oq oq) (Ffb 27 ((ofA h.C a).2.2 != 0) (Fe 34 Page.dv h.P ((ofA h.C a).1) (Fbq 38 [8002,8003] (@Z2d h a oq aa) (Fc 39 (@Z0P ((loadA h.W a).1) oq oq) (Fc 43 (@Z0S ((decodeH (loadA h.W a).1).1) aa) r_)))))));rcases bb (!(decodeH (loadA h.W a).1).2||L ((h.P.getD (ofA h.C a).1.toNat X).U<=(ofA h.C a).2.1))with hc0 | hc0<;>have hc0p:=hc0<;>simp only[bs]at hc0p
     .let y2:=decodeH (loadA h.W a).1;exact gF [] func111 (fO 4) (Fh 44 [.br Y] (Q1 (Fa hc0 (Fa (by grind[Z2l]:0=y2.1.K) (Fa (by grind[Z2l]:0=y2.1.length) (Fa (by grind[Z2l]:0=y2.1.map) (Fa (by grind[Z2l]:(19:Int)=0) Fz)))))))
     .obtain⟨hc0pa,hc0pb⟩:=hc0p;rcases bb ((h.P.getD (ofA h.C a).1.toNat X).K==1)with hc1 | hc1<;>have hc1p:=hc1<;>simp only[bs]at hc1p
      .let y3:=h.P.getD (ofA h.C a).1.toNat X;exact gF [] func111 [] (Fh 53 [.br Y] (Fh 76 [.br M] (Q1 (Fa hc0 (Fa hc1 (Fi 61 (y3.U-(ofA h.C a).2.1) (Ffb 44 (!decide (sizeH (decodeH (loadA h.W a).1).1<=y3.U-(ofA h.C a).2.1)) Fz)))))))
      .let y4:=h.P.getD (ofA h.C a).1.toNat X;exact gF [] func111 [] (Fh 53 [.br M] (Fh 63 [.br Y] (Fh 76 [.br M] (Q1 (Fa hc0 (Fa hc1 (Fb ((y4.K==2)=Y) (Ffb 44 (!((ofA h.C a).2.1==0&&sizeH (decodeH (loadA h.W a).1).1==y4.U)) Fz))))))))
   .have e7:atH h a=(Z2l,19):=by rw[atH,if_pos hp,if_pos ho,if_neg c3]
    rw[e7];have Q2 {h_ c_ p_} (r_:Fq h_ c_ p_):=Fc 15 (@Z0N h) (Ffb 16 (!Z02 h) (Fc 22 (@Z2t h.C a oq oq) (Ffb 27 ((ofA h.C a).2.2 != 0) (Fe 34 Page.dv h.P ((ofA h.C a).1) (Fbq 38 [8002,8003] (@Z2d h a oq aa) (Fc 39 (@Z0P ((loadA h.W a).1) oq oq) (Fc 43 (@Z0S ((decodeH (loadA h.W a).1).1) aa) r_)))))));rcases bb (!(decodeH (loadA h.W a).1).2||L ((h.P.getD (ofA h.C a).1.toNat X).U<=(ofA h.C a).2.1))with hc0 | hc0<;>have hc0p:=hc0<;>simp only[bs]at hc0p
    .exact gF [] func111 [] (Fh 44 [.br Y] (Q2 (Fa hc0 Fz)))
    .obtain⟨hc0pa,hc0pb⟩:=hc0p;rcases bb ((h.P.getD (ofA h.C a).1.toNat X).K==1)with hc1 | hc1<;>have hc1p:=hc1<;>simp only[bs]at hc1p
     .have Q3 {h_ c_ p_} (r_:Fq h_ c_ p_):=Q2 (Fa hc0 (Fa hc1 (Fi 61 ((h.P.getD (ofA h.C a).1.toNat X).U-(ofA h.C a).2.1) r_)));rcases bb (!decide (sizeH (decodeH (loadA h.W a).1).1<=(h.P.getD (ofA h.C a).1.toNat X).U-(ofA h.C a).2.1))with hc2 | hc2<;>have hc2p:=hc2<;>simp only[bs]at hc2p
      .exact gF [] func111 [] (Fh 44 [.br M] (Fh 76 [.br Y] (Q3 (Ft 53 hc2 Fz))))
      .rw[show Z2l=(decodeH (loadA h.W a).1).1 from by grind[Z2l]];let y5:=decodeH (loadA h.W a).1;exact gF [] func111 (fO 4) (Fh 53 [.br Y] (Fh 76 [.br M] (Q3 (Ff 44 hc2 (Fr (y5.1.K) (Fr (y5.1.length) (Fr (y5.1.map) (Fa (by grind[Z2l]:(0:Int)=19) Fz))))))))
     .rcases bb ((h.P.getD (ofA h.C a).1.toNat X).K==2)with hc3 | hc3<;>have hc3p:=hc3<;>simp only[bs]at hc3p
      .rcases bb (!((ofA h.C a).2.1==0&&sizeH (decodeH (loadA h.W a).1).1==(h.P.getD (ofA h.C a).1.toNat X).U))with hc4 | hc4<;>have hc4p:=hc4<;>simp only[bs]at hc4p
       .exact gF [] func111 [] (Fh 44 [.br M] (Fh 53 [.br M] (Fh 76 [.br Y] (Q2 (Fa hc0 (Fa hc1 (Fa hc3 (Ft 63 hc4 Fz))))))))
       .obtain⟨hc4pa,hc4pb⟩:=hc4p;rw[show Z2l=(decodeH (loadA h.W a).1).1 from by grind[Z2l]];let y6:=decodeH (loadA h.W a).1;exact gF [] func111 (fO 8) (Fh 53 [.br M] (Fh 63 [.br Y] (Fh 76 [.br M] (Q2 (Fa hc0 (Fa hc1 (Fa hc3 (Ff 44 hc4 (Fr (y6.1.K) (Fr (y6.1.length) (Fr (y6.1.map) (Fa (by grind[Z2l]:(0:Int)=19) Fz))))))))))))
      .exact gF [] func111 [] (Fh 44 [.br M] (Fh 53 [.br M] (Fh 63 [.br M] (Q2 (Fa hc0 (Fa hc1 (Fa hc3 Fz)))))))
  .have e7:atH h a=(Z2l,2):=by rw[atH,if_pos hp,if_neg ho]
   have e2:(ofA h.C a).2.2=2:=by
    unfold ofA at ho ⊢;rw[if_pos po.1]at ho ⊢;split at ho
    .simp at ho
    .rename_i q;rw[if_neg q]
   rw[e7];exact gF [] func111 [Y] (Fc 15 (@Z0N h) (Ffb 16 (!Z02 h) (Fc 22 (@Z2t h.C a oq oq) (Ftb 27 ((ofA h.C a).2.2 != 0) (Fr (0:Int) (Fr (0:Int) (Fr (0:Int) (Fa ‹(ofA h.C a).2.2=2› Fz))))))))
 .have e7:atH h a=(Z2l,1):=by rw[atH,if_neg hp]
  have hp':Z02 h=M:=by simpa using hp
  rw[e7];exact gF [] func111 [] (Fc 15 (@Z0N h) (Ftb 16 (!Z02 h) Fz))
def Zgc{α β:Type}{f:α->β}{l:List α}(h:l≠[]):l.map f≠[]:=by simpa using h
def ZeA(ws:List Int)(hw:ws.length<=1048576)(hne:ws≠[]):GP 80 [Z01 ws] Y (.ow 0) [.arr 35 1 (ws.map wdv)]:=by
 exact gF [24007] func80 [] (Fa (by exact Zgc hne:Z wdv ws≠[]) (FA 5 7 wdv ws (Fa (by exact Z1a _:Z0x (Z wdv ws)) Fz)))
def Z9g{α:Type}{l:List α}(h:0<l.length):l≠[]:=by
 rintro rfl;simp at h
def pg(h:Heap)(i:Int):Page:=h.P.getD i.toNat X
def adr(h:Heap)(i o:Int):Int:=(address h.C i o).1
def Z4w{h:Heap}(hv:Z07 h.C=Y)(i o:Int):0<=adr h i o/\adr h i o<=8192:=by
 have ha:=area hv;unfold adr address;rw[if_pos hv];split
 .rename_i hb;have hb:=inB_iff.1 hb;have:=Zg8 hv hb.1 hb.2.1 hb.2.2.1 hb.2.2.2;simp only;omega
 .simp
def Z3o(h:Heap)(i:Int):Nat->Int->Option (List Int)
 | 0,_=>O []
 | f+1,o=>if o<(pg h i).U then(if(atH h (adr h i o)).2=0 then(if(pg h i).K=2 then O [adr h i o]else(Z3o h i f (o+sizeH (atH h (adr h i o)).1)).map (adr h i o :: ·))else La)else O []
def Z8Y(h:Heap)(i o:Int)(acc:List Int):Tg:=⟨tm 70 [(1,int i),(2,.pt 8002 0 0),(4,.d (.sl 0 [])),(5,int 0),(6,.pt 32006 0 0),(7,.ow 48007),(8,int o)],
 [(48007,.arr 35 1 (acc.map wdv)),(32006,.box 84 [int (pg h i).K,int (pg h i).S,int (pg h i).U,int (pg h i).N]),(8002,.box 28 h.cells)],60⟩
def Zbc(acc:List Int):Tg:=⟨tm 70 [(7,.ow 48007)],[(48007,.arr 35 1 (acc.map wdv))],60⟩
section
variable (h:Heap) (i o:Int) (acc:List Int) (hw:WOk h.W) (hp:Z02 h=Y) (hl:acc.length<=1048576) (ho:0<=o/\o<=1000)
include hw hp hl ho
theorem Zjg(h1:o<(pg h i).U)(h2:(atH h (adr h i o)).2=0)(h3:(pg h i).K≠2):CP (rndF f134 0) (Z8Y h i o acc).st .nrm (Z8Y h i (o+sizeH (atH h (adr h i o)).1) (acc++[adr h i o])).st:=by
 have po:=Z06 hp;have ar:=Z4w po.1 i o;have sz:=Z1d (atH h (adr h i o)).1;have hm:=Z3M hw (adr h i o);unfold adr at ar sz hm h2;let y0:=address h.C i o;exact sF [(512061,48007)] [] (Fh 61 [.els (Z wdv (acc++[y0.1]))] (Ftb 41 (L (o<(pg h i).U)) (Fc 47 (@Z5H h.C i o) (Fc 53 (@Z5p h (y0.1) aa oq) (Ffb 57 ((atH h y0.1).2 != 0) (Fs 60 (Z wdv [y0.1]) (Fa (by(simp[adr, *];omega):(Z wdv acc).length+(Z wdv [y0.1]).length<=2^30) (Fa (by simp[adr,LD,LC,Ls,LB,wdv,idv]:Z wdv acc++Z wdv [y0.1]=Z wdv (acc++[y0.1])) (Ffb 64 ((pg h i).K==2) (Fc 67 (@Z2n ((atH h y0.1).1) aa) (Fi 68 (o+sizeH (atH h y0.1).1) Fz)))))))))))
theorem ZhO(h1:o<(pg h i).U)(h2:(atH h (adr h i o)).2=0)(h3:(pg h i).K=2):CP (rndF f134 0) (Z8Y h i o acc).st (.ext 0) (Zbc (acc++[adr h i o])).st:=by
 have po:=Z06 hp;have ar:=Z4w po.1 i o;have hm:=Z3M hw (adr h i o);unfold adr at ar hm h2;let y0:=address h.C i o;exact sF [(512061,48007)] [] (Fh 61 [.els (Z wdv (acc++[y0.1]))] (Ftb 41 (L (o<(pg h i).U)) (Fc 47 (@Z5H h.C i o) (Fc 53 (@Z5p h (y0.1) aa oq) (Ffb 57 ((atH h y0.1).2 != 0) (Fs 60 (Z wdv [y0.1]) (Fa (by(simp[adr, *];omega):(Z wdv acc).length+(Z wdv [y0.1]).length<=2^30) (Fa (by simp[adr,LD,LC,Ls,LB,wdv,idv]:Z wdv acc++Z wdv [y0.1]=Z wdv (acc++[y0.1])) (Ftb 64 ((pg h i).K==2) Fz)))))))))
theorem ZkT(h1:o<(pg h i).U)(h2:¬ (atH h (adr h i o)).2=0):CP (rndF f134 0) (Z8Y h i o acc).st .ret (Tg.st ⟨tm 70 [(4,.d (.sl 0 [])),(5,int 19)],[],60⟩):=by
 have po:=Z06 hp;have ar:=Z4w po.1 i o;unfold adr at ar h2;exact sF [] [] (Ftb 41 (L (o<(pg h i).U)) (Fc 47 (@Z5H h.C i o) (Fc 53 (@Z5p h ((address h.C i o).1) aa oq) (Ftb 57 ((atH h (address h.C i o).1).2 != 0) Fz))))
omit hw hp hl ho in
theorem ZfB(h1:(pg h i).U<=o):CP (rndF f134 0) (Z8Y h i o acc).st (.ext 0) (Zbc acc).st:=by
 exact sF [] [] (Ffb 41 (L (o<(pg h i).U)) Fz)
end
def Z9O{h:Heap}{a:Int}(e:(atH h a).2=0):1<=sizeH (atH h a).1:=by
 have:=ZcH e;rw[sizeH,if_pos this.2.2.2.2.1];omega
def ZkE(h:Heap)(i:Int)(hw:WOk h.W)(hp:Z02 h=Y)(hu:(pg h i).U<=256):∀ (f:Nat) (o:Int) (acc:List Int),(pg h i).U-o<=f->0<=o->o<=1000->(acc.length:Int)+f<=1000 ->
  (∀ l,Z3o h i f o=O l->LSpec prog f134 0 (Z8Y h i o acc).st (.ext 0) (Zbc (acc++l)).st) /\
  (Z3o h i f o=La->LSpec prog f134 0 (Z8Y h i o acc).st .ret (Tg.st ⟨tm 70 [(4,.d (.sl 0 [])),(5,int 19)],[],60⟩)):=by
 intro f;induction f with
 | zero =>
  intro o acc h1 h2 h3 h4;refine⟨λl hl=>?_,λhl=>by cases hl⟩;simp only[Z3o,Option.some.injEq]at hl;subst hl;rw[Lp];exact .endx (ZfB h i o acc oq)
 | succ f ih =>
  intro o acc h1 h2 h3 h4;unfold Z3o;by_cases ho:o<(pg h i).U
  .rw[if_pos ho];by_cases ha:(atH h (adr h i o)).2=0
   .rw[if_pos ha];by_cases hk:(pg h i).K=2
    .rw[if_pos hk];refine⟨λl hl=>?_,λhl=>by cases hl⟩;cases hl;exact .endx (ZhO h i o acc hw hp oq ⟨h2,by omega⟩ ho ha hk)
    .rw[if_neg hk];have hs:=Z9O ha;have hb:=Z1d (atH h (adr h i o)).1;have hr:=Zjg h i o acc hw hp oq ⟨h2,by omega⟩ ho ha hk;obtain⟨i1,i2⟩:=ih (o+sizeH (atH h (adr h i o)).1) (acc++[adr h i o]) oq oq oq qo;refine⟨λl hl=>?_,λhl=>?_⟩
     .rw[Lt]at hl;obtain⟨m,hm,rfl⟩:=hl;have:=i1 m hm;rw[Lw]at this;exact .next hr this
     .rw[Option.map_eq_none_iff]at hl;exact .next hr (i2 hl)
   .rw[if_neg ha];exact⟨λl hl=>(by cases hl),λ_=>.endr (ZkT h i o acc hw hp oq ⟨h2,by omega⟩ ho ha)⟩
  .rw[if_neg ho];refine⟨λl hl=>?_,λhl=>by cases hl⟩;cases hl;rw[Lp];exact .endx (ZfB h i o acc oq)
def Zj1(h:Heap)(i:Int)(l:List Int)(hw:WOk h.W)(hp:Z02 h=Y)(hu:(pg h i).U<=256)(hl:Z3o h i 256 0=O l):CP (blkF f134 0) (Tg.st ⟨tm 70 [(1,int i),(2,.pt 8002 0 0),(4,.d (.sl 0 [])),(5,int 0),(6,.pt 32006 0 0),(7,.ow 48007),(8,int 0)],
 [(48007,.arr 35 1 []),(32006,.box 84 [int (h.P.getD i.toNat X).K,int (h.P.getD i.toNat X).S,int (h.P.getD i.toNat X).U,int (h.P.getD i.toNat X).N]),(8002,.box 28 h.cells)],60⟩) .nrm (Zbc l).st :=
 ((ZkE h i hw hp hu 256 0 [] oq oq oq pq).1 l hl).ext kr
def ZcK(h:Heap)(i:Int)(hw:WOk h.W)(hp:Z02 h=Y)(hu:(pg h i).U<=256)(hl:Z3o h i 256 0=La):CP (blkF f134 0) (Tg.st ⟨tm 70 [(1,int i),(2,.pt 8002 0 0),(4,.d (.sl 0 [])),(5,int 0),(6,.pt 32006 0 0),(7,.ow 48007),(8,int 0)],
 [(48007,.arr 35 1 []),(32006,.box 84 [int (h.P.getD i.toNat X).K,int (h.P.getD i.toNat X).S,int (h.P.getD i.toNat X).U,int (h.P.getD i.toNat X).N]),(8002,.box 28 h.cells)],60⟩) .ret (Tg.st ⟨tm 70 [(4,.d (.sl 0 [])),(5,int 19)],[],60⟩) :=
 ((ZkE h i hw hp hu 256 0 [] oq oq oq pq).2 hl).ret kr
def Z09(h:Heap)(i:Int):List Int×Int :=
 if Z02 h=Y then(if 0<=i/\i<h.P.length then(if(pg h i).K=0\/(pg h i).K=3 then([],0)else(match Z3o h i 256 0 with | O l=>(l,0) | La=>([],19)))else([],2))else([],1)
def Z4j(h:Heap)(i:Int)(hw:WOk h.W):GP 134 [h.av,int i] M (.tu [Z01 (Z09 h i).1,int (Z09 h i).2]) []:=by
 cases hp:Z02 h with
 | false =>
  have e7:Z09 h i=([],1):=by rw[Z09,if_neg (by rw[hp];simp)]
  rw[e7];exact gF [] func134 [] (Fc 14 (@Z0m h) (Ftb 15 (!Z02 h) (Fnl Fz)))
 | true =>
  have po:=Z06 hp;by_cases hi:0<=i/\i<h.P.length
  .have pp:=Z0J hp (j:=i.toNat) oq;have hu:(pg h i).U<=256:=pp.2.2.2.2.2.2.2.1;cases hwk:Z3o h i 256 0 with
   | none =>
    have e7:Z09 h i=if(h.P.getD i.toNat X).K=0\/(h.P.getD i.toNat X).K=3 then([],0)else([],19):=by rw[Z09,if_pos hp,if_pos hi,hwk];rfl
    have Q0 {h_ c_ p_} (r_:Fq h_ c_ p_):=Fc 14 (@Z0m h) (Ffb 15 (!Z02 h) (FlG 22 (!decide (i<0)) Page.dv h.P (Ffb 24 (L (i<0)||L ((h.P.length:Int)<=i)) (Fe 28 Page.dv h.P i r_))));rcases bb ((h.P.getD i.toNat X).K==0||(h.P.getD i.toNat X).K==3)with hc0 | hc0<;>have hc0p:=hc0<;>simp only[bs]at hc0p
    .exact gF [] func134 (fO 8) (Q0 (Ft 37 hc0 (Fnl (Fa (by rw[e7,if_pos oq];rfl:[]=Z wdv (Z09 h i).1) (Fa (by rw[e7,if_pos oq]:0=(Z09 h i).2) Fz)))))
    .obtain⟨hc0pa,hc0pb⟩:=hc0p;exact gF [] func134 (fO 18) (Fh 7 [.own] (Q0 (Ff 37 hc0 (Fu (@ZcK h i aa aa aa aa) (Fnl (Fa (by rw[e7,if_neg oq];rfl:[]=Z wdv (Z09 h i).1) (Fa (by rw[e7,if_neg oq]:19=(Z09 h i).2) Fz)))))))
   | some l =>
    have e7:Z09 h i=if(h.P.getD i.toNat X).K=0\/(h.P.getD i.toNat X).K=3 then([],0)else(l,0):=by rw[Z09,if_pos hp,if_pos hi,hwk];rfl
    have Q1 {h_ c_ p_} (r_:Fq h_ c_ p_):=Fc 14 (@Z0m h) (Ffb 15 (!Z02 h) (FlG 22 (!decide (i<0)) Page.dv h.P (Ffb 24 (L (i<0)||L ((h.P.length:Int)<=i)) (Fe 28 Page.dv h.P i r_))));rcases bb ((h.P.getD i.toNat X).K==0||(h.P.getD i.toNat X).K==3)with hc0 | hc0<;>have hc0p:=hc0<;>simp only[bs]at hc0p
    .exact gF [] func134 (fO 8) (Q1 (Ft 37 hc0 (Fnl (Fa (by rw[e7,if_pos oq];rfl:[]=Z wdv (Z09 h i).1) (Fa (by rw[e7,if_pos oq]:0=(Z09 h i).2) Fz)))))
    .obtain⟨hc0pa,hc0pb⟩:=hc0p;exact gF [] func134 (fO 18) (Fh 7 [.own] (Q1 (Ff 37 hc0 (Fu (@Zj1 h i l aa aa aa aa) (Fa (by refine congrArg _ ?_;rw[e7,if_neg oq]:Z wdv l=Z wdv (Z09 h i).1) (Fa (by rw[e7,if_neg oq]:0=(Z09 h i).2) Fz))))))
  .have e7:Z09 h i=([],2):=by rw[Z09,if_pos hp,if_neg hi]
   rw[e7];exact gF [] func134 [] (Fc 14 (@Z0m h) (Ffb 15 (!Z02 h) (FlG 22 (!decide (i<0)) Page.dv h.P (Ftb 24 (L (i<0)||L ((h.P.length:Int)<=i)) (Fnl Fz)))))
def hasL(l:List Int)(v:Int)(i:Nat):Tg:=⟨tm 18 [(0,Z01 l),(1,u64 v),(4,bool M),(5,int i)],[],60⟩
def ZfP(l:List Int)(v:Int)(i:Nat)(hl:l.length<=1048576)(hi:i<l.length)(hv:¬ l.getD i X=v):CP (rndF f17 0) (hasL l v i).st .nrm (hasL l v (i+1)).st:=by
 exact sF [] [] (FN 8 9 14 wdv l i (Ffb 17 (l.getD i X==v) (Fx 11 i Fz)))
def ZlG(l:List Int)(v:Int)(i:Nat)(hl:l.length<=1048576)(hi:i<l.length)(hv:l.getD i X=v):CP (rndF f17 0) (hasL l v i).st .ret (Tg.st ⟨tm 18 [(4,bool Y)],[],60⟩):=by
 exact sF [] [] (FN 8 9 14 wdv l i (Ftb 17 (l.getD i X==v) Fz))
def hasEnd(l:List Int)(v:Int):CP (rndF f17 0) (hasL l v l.length).st (.ext 0) (Tg.st ⟨tm 18 [],[],60⟩):=by
 exact sF [] [] (FO 8 9 wdv l Fz)
def getD_mem_iff{l:List Int}{v:Int}:v∈l↔∃ i,i<l.length/\l.getD i X=v:=by
 rw[List.mem_iff_getElem];constructor
 .rintro⟨i,h,e⟩;exact⟨i,h,by simp[Lq,h,e]⟩
 .rintro⟨i,h,e⟩;exact⟨i,h,by simpa[Lq,h]using e⟩
def Zny(l:List Int)(v:Int)(hl:l.length<=1048576)(h:v∉l)  := Z0a (S:=λi=>(hasL l v i).st) l.length (by kernel_rfl) (λi hi=>ZfP l v i hl hi λe=>h (getD_mem_iff.2 ⟨i,hi,e⟩)) (hasEnd l v)
def Zl2(l:List Int)(v:Int)(hl:l.length<=1048576)(h:v∈l):CP (blkF f17 0) (Tg.st ⟨tm 18 [(0,Z01 l),(1,u64 v),(4,bool M),(5,int 0)],[],60⟩) .ret (Tg.st ⟨tm 18 [(4,bool Y)],[],60⟩):=by
 obtain⟨i,h1,h2⟩:=ZkC (getD_mem_iff.1 h);exact Z0H (S:=λi=>(hasL l v i).st) i kr (λj hj=>ZfP l v j hl oq λe=>by have:=h2 j ⟨by omega,e⟩;omega) (ZlG l v i hl h1.1 h1.2)
def Z14(l:List Int)(v:Int)(hl:l.length<=1048576):GP 17 [Z01 l,u64 v] Y (bool (L (v∈l))) []:=by
 by_cases h:v∈l
 .rw[decide_eq_true h];exact gF [] func17 [] (Fu (@Zl2 l v aa aa) Fz)
 .rw[decide_eq_false h];exact gF [] func17 [] (Fu (@Zny l v aa aa) Fz)
def ZdX{h:Heap}{i:Int}:∀ {f:Nat} {o:Int} {l:List Int},Z3o h i f o=O l->l.length<=f
 | 0,o,l,e=>by simp[Z3o]at e;subst e;simp
 | f+1,o,l,e=>by
  unfold Z3o at e;split at e
  .split at e
   .split at e
    .cases e;simp
    .rw[Lt]at e;obtain⟨m,hm,rfl⟩:=e;have:=ZdX hm;simp;omega
   .cases e
  .cases e;simp
def Z3a(h:Heap)(i:Int):(Z09 h i).1.length<=256:=by
 unfold Z09;repeat' split
 all_goals first | (simp;done) | (rename_i e;exact ZdX e)
def Z0Q(h:Heap):Nat->Nat->List Int×Int
 | 0,_=>([],0)
 | f+1,i=>if(Z09 h i).2=0 then(if(Z0Q h f (i+1)).2=0 then((Z09 h i).1++(Z0Q h f (i+1)).1,0)else([],(Z0Q h f (i+1)).2))else([],(Z09 h i).2)
def Z10(h:Heap):List Int×Int:=if Z02 h=Y then Z0Q h h.P.length 0 else([],1)
def Z7t(h:Heap)(i:Nat)(acc:List Int):Tg:=⟨tm 31 [(1,.pt 8001 0 0),(2,.d (.sl 0 [])),(3,int 0),(4,.ow 24004),(5,int i)],[(24004,.arr 35 1 (acc.map wdv)),(8001,.box 28 h.cells)],60⟩
section
variable (h:Heap) (i:Nat) (acc:List Int) (hw:WOk h.W) (hl:h.P.length<=1048576) (ha:acc.length<=1048576)
include hw hl ha
theorem ZeR(hi:i<h.P.length)(e:(Z09 h i).2=0):CP (rndF f82 0) (Z7t h i acc).st .nrm (Z7t h (i+1) (acc++(Z09 h i).1)).st:=by
 have hn:=Z3a h i;exact sF [(504029,24004)] [] (Fh 29 [.els (Z wdv (acc++(Z09 h (i:Int)).1))] (FM 14 15 Page.dv h.P i (Fc 21 (@Z4j h ((i:Int)) aa) (Ffb 25 ((Z09 h (i:Int)).2 != 0) (Fa (by(simp[*];omega):(Z wdv acc).length+(Z wdv (Z09 h (i:Int)).1).length<=2^30) (Fa (ms:Z wdv acc++Z wdv (Z09 h (i:Int)).1=Z wdv (acc++(Z09 h (i:Int)).1)) (Fx 17 i Fz)))))))
theorem ZiK(hi:i<h.P.length)(e:¬ (Z09 h i).2=0):CP (rndF f82 0) (Z7t h i acc).st .ret (Tg.st ⟨tm 31 [(2,.d (.sl 0 [])),(3,int (Z09 h i).2)],[],60⟩):=by
 exact sF [] [] (FM 14 15 Page.dv h.P i (Fc 21 (@Z4j h ((i:Int)) aa) (Ftb 25 ((Z09 h (i:Int)).2 != 0) Fz)))
omit hw hl ha in
theorem ZjP:CP (rndF f82 0) (Z7t h h.P.length acc).st (.ext 0) (Tg.st ⟨tm 31 [(4,.ow 24004)],[(24004,.arr 35 1 (acc.map wdv))],60⟩):=by
 exact sF [] [] (FO 14 15 Page.dv h.P Fz)
end
def ZgG(h:Heap)(hw:WOk h.W)(hl:h.P.length<=1048576):∀ (f i:Nat) (acc:List Int),i+f=h.P.length->acc.length+256*f<=1048576 ->
  ((Z0Q h f i).2=0->LSpec prog f82 0 (Z7t h i acc).st (.ext 0) (Tg.st ⟨tm 31 [(4,.ow 24004)],[(24004,.arr 35 1 ((acc++(Z0Q h f i).1).map wdv))],60⟩)) /\
  (¬ (Z0Q h f i).2=0->LSpec prog f82 0 (Z7t h i acc).st .ret (Tg.st ⟨tm 31 [(2,.d (.sl 0 [])),(3,int (Z0Q h f i).2)],[],60⟩)):=by
 intro f;induction f with
 | zero =>
  intro i acc hi _;have:i=h.P.length:=by omega
  subst this;refine⟨λ_=>?_,λe=>absurd rfl e⟩;rw[Z0Q,Lp];exact .endx (ZjP h acc)
 | succ f ih =>
  intro i acc hi hb;have hn:=Z3a h i;unfold Z0Q;by_cases e:(Z09 h i).2=0
  .rw[if_pos e];have hr:=ZeR h i acc hw hl oq oq e;obtain⟨i1,i2⟩:=ih (i+1) (acc++(Z09 h i).1) oq qo;by_cases e2:(Z0Q h f (i+1)).2=0
   .rw[if_pos e2];refine⟨λ_=>?_,λe=>absurd rfl e⟩;have:=i1 e2;rw[Lw]at this;exact .next hr this
   .rw[if_neg e2];exact⟨λe=>absurd e e2,λ_=>.next hr (i2 e2)⟩
  .rw[if_neg e];exact⟨λe'=>absurd e' e,λ_=>.endr (ZiK h i acc hw hl oq oq e)⟩
def Zhx(h:Heap)(hw:WOk h.W)(hl:h.P.length<=64)(e:(Z0Q h h.P.length 0).2=0):CP (blkF f82 0) (Tg.st ⟨tm 31 [(1,.pt 8001 0 0),(2,.d (.sl 0 [])),(3,int 0),(4,.ow 24004),(5,int 0)],[(24004,.arr 35 1 []),(8001,.box 28 h.cells)],60⟩) .nrm
  (Tg.st ⟨tm 31 [(4,.ow 24004)],[(24004,.arr 35 1 ((Z0Q h h.P.length 0).1.map wdv))],60⟩) :=
 ((ZgG h hw oq h.P.length 0 [] oq qo).1 e).ext kr
def Zcl(h:Heap)(hw:WOk h.W)(hl:h.P.length<=64)(e:¬ (Z0Q h h.P.length 0).2=0):CP (blkF f82 0) (Tg.st ⟨tm 31 [(1,.pt 8001 0 0),(2,.d (.sl 0 [])),(3,int 0),(4,.ow 24004),(5,int 0)],[(24004,.arr 35 1 []),(8001,.box 28 h.cells)],60⟩) .ret
  (Tg.st ⟨tm 31 [(2,.d (.sl 0 [])),(3,int (Z0Q h h.P.length 0).2)],[],60⟩) :=
 ((ZgG h hw oq h.P.length 0 [] oq qo).2 e).ret kr
def Zec(h:Heap):∀ (f i:Nat),¬ (Z0Q h f i).2=0->(Z0Q h f i).1=[]
 | 0,i,e=>absurd rfl e
 | f+1,i,e=>by
  unfold Z0Q at e ⊢;split at e
  .rename_i h1;rw[if_pos h1];split at e
   .exact absurd rfl e
   .rename_i h2;rw[if_neg h2]
  .rename_i h1;rw[if_neg h1]
def ZhU(h:Heap)(hw:WOk h.W):GP 82 [h.av] M (.tu [Z01 (Z10 h).1,int (Z10 h).2]) []:=by
 cases hp:Z02 h with
 | false =>
  have e7:Z10 h=([],1):=by rw[Z10,if_neg (by rw[hp];simp)]
  rw[e7];exact gF [] func82 [] (Fc 9 (@Z0m h) (Ftb 10 (!Z02 h) (Fnl Fz)))
 | true =>
  have po:=Z06 hp;have e7:Z10 h=Z0Q h h.P.length 0:=by rw[Z10,if_pos hp]
  by_cases e:(Z0Q h h.P.length 0).2=0
  .rw[show Z10 h=((Z0Q h h.P.length (0:Nat)).1,(0:Int))from by grind[]];exact gF [] func82 [] (Fh 4 [.own] (Fc 9 (@Z0m h) (Ffb 10 (!Z02 h) (Fu (@Zhx h aa oq aa) Fz))))
  .have e8:=Zec h _ _ e;exact gF [] func82 (fO 7) (Fh 4 [.own] (Fc 9 (@Z0m h) (Ffb 10 (!Z02 h) (Fu (@Zcl h aa oq aa) (Fnl (Fa (by rw[e7,e8];rfl:[]=Z wdv (Z10 h).1) (Fa (by rw[e7]:(Z0Q h h.P.length 0).2=(Z10 h).2) Fz)))))))
def Z94{h:Heap}(hv:Z07 h.C=Y){i:Int}:∀ {f:Nat} {o:Int} {l:List Int},Z3o h i f o=O l->∀ x∈l,0<=x/\x<=8192
 | 0,o,l,e=>by simp[Z3o]at e;subst e;simp
 | f+1,o,l,e=>by
  have ar:=Z4w hv i o;unfold Z3o at e;split at e
  .split at e
   .split at e
    .cases e;intro x hx;simp at hx;subst hx;exact ar
    .rw[Lt]at e;obtain⟨m,hm,rfl⟩:=e;intro x hx;rcases List.mem_cons.1 hx with rfl | hx
     .exact ar
     .exact Z94 hv hm x hx
   .cases e
  .cases e;simp
def Z2V{h:Heap}(hp:Z02 h=Y)(i:Int):∀ x∈(Z09 h i).1,0<=x/\x<=8192:=by
 have hv:=(Z06 hp).1;unfold Z09;repeat' split
 all_goals first | (simp;done) | (rename_i e;exact Z94 hv e)
def Z6I{h:Heap}(hp:Z02 h=Y):∀ (f i:Nat),∀ x∈(Z0Q h f i).1,0<=x/\x<=8192
 | 0,i=>by simp[Z0Q]
 | f+1,i=>by
  unfold Z0Q;split
  .split
   .intro x hx;rcases List.mem_append.1 hx with hx | hx
    .exact Z2V hp i x hx
    .exact Z6I hp f (i+1) x hx
   .simp
  .simp
def Z9y(h:Heap):∀ (f i:Nat),(Z0Q h f i).1.length<=256*f
 | 0,i=>by simp[Z0Q]
 | f+1,i=>by
  have h1:=Z3a h i;have h2:=Z9y h f (i+1);unfold Z0Q;split
  .split
   .simp;omega
   .simp
  .simp
def Z78(h:Heap):∀ x∈(Z10 h).1,0<=x/\x<=8192:=by
 unfold Z10;split
 .exact Z6I aa _ _
 .simp
def Z8J(h:Heap):(Z10 h).1.length<=16384:=by
 unfold Z10;split
 .rename_i hp;have:=Z9y h h.P.length 0;have:=Z06 hp;omega
 .simp
def Z3R(h:Heap)(a:Int):Bool:=L ((atH h a).1.K≠0)
def Z05(h:Heap):List Int×Int:=((Z10 h).1.filter (Z3R h),(Z10 h).2)
def Z2N(h:Heap):∀ x∈(Z05 h).1,0<=x/\x<=8192:=λx hx=>Z78 h x (List.mem_filter.1 hx).1
def Z23(h:Heap):(Z05 h).1.length<=16384:=Nat.le_trans (LA _ _) (Z8J h)
def Z9c{l:List Int}{i:Nat}(hi:i<l.length):l.take (i+1)=l.take i++[l.getD i X]:=by
 rw[List.take_succ];simp[Lq,hi]
def Zn7(h:Heap)(l:List Int)(ee:Int)(i:Nat):Tg:=⟨tm 42 [(1,.pt 8001 0 0),(4,Z01 l),(5,int ee),(6,.ow 24006),(7,int i)],[(24006,.arr 35 1 (((l.take i).filter (Z3R h)).map wdv)),(8001,.box 28 h.cells)],60⟩
def Ziu(h:Heap)(l:List Int)(ee:Int)(i:Nat)(hw:WOk h.W)(hl:l.length<=1048576)(hr:∀ x∈l,0<=x/\x<=8192)(hi:i<l.length):CP (rndF f34 0) (Zn7 h l ee i).st .nrm (Zn7 h l ee (i+1)).st:=by
 have hx:=hr (l.getD i X) (getD_mem_iff.2 ⟨i,hi,rfl⟩);have hle:((l.take i).filter (Z3R h)).length<=l.length:=Nat.le_trans (LA _ _) qo;have ht:=Z9c hi;by_cases hk:(atH h (l.getD i X)).1.K=0
 .have e:(l.take (i+1)).filter (Z3R h)=(l.take i).filter (Z3R h):=by
   have hb:Z3R h (l.getD i X)=M:=decide_eq_false (by simpa using hk);rw[ht,Lx,Ly,hb,Lz];simp
  exact sF [] (fO 5) (FN 17 18 25 wdv l i (Fc 27 (@Z5p h (l.getD i X) aa oq) (Ffb 32 ((atH h (l.getD i X)).1.K != 0) (Fx 20 i (Fr (35:Int) (Fa (by refine congrArg _ ?_;rw[e]:Z wdv (Le (Z3R h) (Ld i l))=Z wdv (Le (Z3R h) (Ld (i+1) l))) Fz))))))
 .have e:(l.take (i+1)).filter (Z3R h)=(l.take i).filter (Z3R h)++[l.getD i X]:=by
   have hb:Z3R h (l.getD i X)=Y:=decide_eq_true hk;rw[ht,Lx,Ly,hb,Lz];simp
  exact sF [(504039,24006)] (fO 5) (Fh 39 [.els (Z wdv (Le (Z3R h) (Ld i l)++[l.getD i X]))] (FN 17 18 25 wdv l i (Fc 27 (@Z5p h (l.getD i X) aa oq) (Ftb 32 ((atH h (l.getD i X)).1.K != 0) (Fek 36 wdv l (↑i) i (Fs 38 (Z wdv [l.getD i X]) (Fa (by(simp[*];omega):(Z wdv (Le (Z3R h) (Ld i l))).length+(Z wdv [l.getD i X]).length<=2^30) (Fa (ms:Z wdv (Le (Z3R h) (Ld i l))++Z wdv [l.getD i X]=Z wdv (Le (Z3R h) (Ld i l)++[l.getD i X])) (Fx 20 i (Fr (35:Int) (Fa (by refine congrArg _ ?_;rw[e]:Z wdv (Le (Z3R h) (Ld i l)++[l.getD i X])=Z wdv (Le (Z3R h) (Ld (i+1) l))) Fz)))))))))))
def Zpc(h:Heap)(l:List Int)(ee:Int):CP (rndF f34 0) (Zn7 h l ee l.length).st (.ext 0) (Tg.st ⟨tm 42 [(5,int ee),(6,.ow 24006)],[(24006,.arr 35 1 ((l.filter (Z3R h)).map wdv))],60⟩):=by
 have e:l.take l.length=l:=LF;exact sF [] (fO 2) (FO 17 18 wdv l (Fr (35:Int) (Fa (by refine congrArg _ ?_;rw[e]:Z wdv (Le (Z3R h) (Ld l.length l))=Z wdv (Le (Z3R h) l)) Fz)))
def Zmv(h:Heap)(l:List Int)(ee:Int)(hw:WOk h.W)(hl:l.length<=1048576)(hr:∀ x∈l,0<=x/\x<=8192):CP (blkF f34 0) (Tg.st ⟨tm 42 [(1,.pt 8001 0 0),(4,Z01 l),(5,int ee),(6,.ow 24006),(7,int 0)],[(24006,.arr 35 1 []),(8001,.box 28 h.cells)],60⟩) .nrm
  (Tg.st ⟨tm 42 [(5,int ee),(6,.ow 24006)],[(24006,.arr 35 1 ((l.filter (Z3R h)).map wdv))],60⟩) :=
 Z0a (S:=λi=>(Zn7 h l ee i).st) l.length kr (λi hi=>Ziu h l ee i hw hl hr hi) (Zpc h l ee)
def Z3n(h:Heap)(hw:WOk h.W):GP 34 [h.av] M (.tu [Z01 (Z05 h).1,int (Z05 h).2]) []:=by
 have hl:=Z8J h;have hr:=Z78 h;exact gF [] func34 [] (Fh 6 [.own] (Fc 12 (@ZhU h aa) (Fu (@Zmv h ((Z10 h).1) ((Z10 h).2) aa oq aa) Fz)))
def Z4p(h:Heap)(p o:Int):Int:=(loadA h.W (address h.C p o).1).1
def Zc2{c:Conf}(hv:Z07 c=Y)(p o:Int):0<=(address c p o).1/\(address c p o).1<=8192:=by
 have ha:=area hv;unfold address;rw[if_pos hv];split
 .rename_i hb;have hb:=inB_iff.1 hb;have:=Zg8 hv hb.1 hb.2.1 hb.2.2.1 hb.2.2.2;simp only;omega
 .simp
def Zld(h:Heap)(p o:Int)(hp:Z02 h=Y):GP 212 [h.av,int p,int o] Y (u64 (Z4p h p o)) []:=by
 have po:=Z06 hp;have ar:=Zc2 po.1 p o;exact gF [] func212 [] (Fc 16 (@Z5H h.C p o) (Fc 23 (@Z1W h.W ((address h.C p o).1) oq oq) Fz))
def Zcs(h:Heap)(p o:Int)(hp:Z02 h=Y):GP 210 [h.av,int p,int o] Y (u64 (Z4p h p o)) []:=by
 exact gF [] func210 [] (Fc 10 (@Zld h p o aa) Fz)
def Zfi(h:Heap)(p o:Int)(hp:Z02 h=Y)(h0:0<=p/\p<h.C.pg)(h1:0<=o/\o<=64):GP 211 [h.av,int p,int o] Y (u64 (4096+p*h.C.pw+o)) []:=by
 have po:=Z06 hp;have ap:=Z2T po.1 h0.1 h0.2;exact gF [] func211 [] (Fi 11 (p*h.C.pw) (Fi 12 (4096+p*h.C.pw) (Fi 14 (4096+p*h.C.pw+o) (Fv 15 (4096+p*h.C.pw+o) Fz))))
def Z0E(l:List Page):Nat->Nat
 | 0=>0
 | i+1=>if(l.getD (i+1) X).K=3 then Z0E l i else i+1
def ZpT{h:Heap}(hp:Z02 h=Y):(h.P.getD 0 X).K≠3:=by
 have hi:=properB_iff.1 hp;have po:=Z06 hp;have hr:=hi.2.2.2.2.2;rw[Zch oq oq,Lg]at hr;have hc:=of_decide_eq_true hr.1;unfold rchk at hc;omega
def Zer(h:Heap)(i:Nat):Tg:=⟨tm 15 [(1,int i),(2,.pt 8002 0 0)],[(8002,.box 28 h.cells)],60⟩
def ZiR(h:Heap)(i:Nat)(hi:i+1<h.P.length)(hl:h.P.length<=1048576)(hk:(h.P.getD (i+1) X).K=3):CP (rndF f208 0) (Zer h (i+1)).st .nrm (Zer h i).st:=by
 have ei:((i+1:Nat):Int)-1=(i:Int):=by omega
 exact sF [] [] (Fek 8 Page.dv h.P (↑(i+1):Int) (i+1) (Ftb 11 ((h.P.getD (i+1) X).K==3) (Fg 13 (by rw[wrapI' oq oq];omega:Lu.wrap ((↑(i+1):Int)-1)=(i:Int)) Fz)))
def ZiJ(h:Heap)(i:Nat)(hi:i<h.P.length)(hl:h.P.length<=1048576)(hk:¬ (h.P.getD i X).K=3):CP (rndF f208 0) (Zer h i).st (.ext 0) (Tg.st ⟨tm 15 [(1,int i)],[],60⟩):=by
 exact sF [] [] (Fek 8 Page.dv h.P (↑i) i (Ffb 11 ((h.P.getD i X).K==3) Fz))
def Znp(h:Heap)(hp:Z02 h=Y)(hl:h.P.length<=1048576):∀ i,i<h.P.length->LSpec prog f208 0 (Zer h i).st (.ext 0) (Tg.st ⟨tm 15 [(1,int (Z0E h.P i))],[],60⟩)
 | 0,hi=>.endx (ZiJ h 0 hi hl (ZpT hp))
 | i+1,hi=>by
  unfold Z0E;by_cases hk:(h.P.getD (i+1) X).K=3
  .rw[if_pos hk];exact .next (ZiR h i hi hl hk) (Znp h hp hl i oq)
  .rw[if_neg hk];exact .endx (ZiJ h (i+1) hi hl hk)
def ZmA(h:Heap)(i:Nat)(hp:Z02 h=Y)(hi:i<h.P.length)(hl:h.P.length<=1048576):CP (blkF f208 0) (Zer h i).st .nrm (Tg.st ⟨tm 15 [(1,int (Z0E h.P i))],[],60⟩) :=
 (Znp h hp hl i hi).ext kr
def ZfR(h:Heap)(i:Nat)(hp:Z02 h=Y)(hi:i<h.P.length):GP 208 [h.av,int i] Y (int (Z0E h.P i)) []:=by
 have po:=Z06 hp;exact gF [] func208 [] (Fu (@ZmA h i aa aa oq) Fz)
def Z1y(h:Heap)(i:Int)(a:Int):Bool:=(L ((h.P.getD i.toNat X).K=1)&&L (Z00 h.C<sizeH (atH h a).1))||(L ((h.P.getD i.toNat X).K=2)&&L ((atH h a).1.K=0))
def Z16(h:Heap)(i:Int)(l:List Int):Int:=(l.find? (Z1y h i)).getD 0
def Zb5(h:Heap)(i:Int)(l:List Int)(n:Nat):Tg:=⟨tm 61 [(1,int i),(2,Z01 l),(3,.pt 8003 0 0),(6,u64 0),(7,int n)],[(8003,.box 28 h.cells)],60⟩
section
variable (h:Heap) (i:Int) (l:List Int) (n:Nat) (hw:WOk h.W) (hl:l.length<=1048576) (hi:0<=i/\i<h.P.length) (hp:h.P.length<=1048576) (hr:∀ x∈l,0<=x/\x<=8192)
include hw hl hi hp hr
theorem ZaI(hn:n<l.length)(hb:Z1y h i (l.getD n X)=M):CP (rndF f199 0) (Zb5 h i l n).st .nrm (Zb5 h i l (n+1)).st:=by
 have hx:=hr (l.getD n X) (getD_mem_iff.2 ⟨n,hn,rfl⟩);have hm:=Z3M hw (l.getD n X);simp only[Z1y,bs]at hb;let y0:=atH h (l.getD n X);let y1:=h.P.getD i.toNat X;exact sF [] [] (FN 13 14 21 wdv l n (Fc 23 (@Z5p h (l.getD n X) aa oq) (Fc 27 (@Z2n (y0.1) aa) (Fc 30 (@Z1h h.C) (Fe 35 Page.dv h.P i (FeGq 47 (!(y1.K==1&&!decide (sizeH y0.1<=Z00 h.C))) Page.dv h.P i (Ffb 56 (y1.K==1&&!decide (sizeH y0.1<=Z00 h.C)||y1.K==2&&y0.1.K==0) (Fx 16 n Fz))))))))
theorem ZgU(hn:n<l.length)(hb:Z1y h i (l.getD n X)=Y):CP (rndF f199 0) (Zb5 h i l n).st .ret (Tg.st ⟨tm 61 [(6,u64 (l.getD n X))],[],60⟩):=by
 have hx:=hr (l.getD n X) (getD_mem_iff.2 ⟨n,hn,rfl⟩);have hm:=Z3M hw (l.getD n X);simp only[Z1y,bs]at hb;refine stretchE [((13:Nat),[Hint.int (l.length:Int)]),((14:Nat),[Hint.br Y]),((21:Nat),[Hint.el (wdv (l.getD n X))]),((23:Nat),[Hint.call Y (AV.tu [(atH h (l.getD n X)).1.av,int (atH h (l.getD n X)).2]) []]),((27:Nat),[Hint.call Y (int (sizeH (atH h (l.getD n X)).1)) []]),((30:Nat),[Hint.call Y (int (Z00 h.C)) []]),((35:Nat),[Hint.el (h.P.getD i.toNat X).dv]),((47:Nat),[Hint.el (h.P.getD i.toNat X).dv]),((56:Nat),[Hint.br Y]),((59:Nat),[Hint.el (wdv (l.getD n X))])] [] [] [] (φ:=(↑(Z wdv l).length:Int)=(l.length:Int)/\L ((n:Int)<(l.length:Int))=Y/\Y=Y/\((0:Int)<=(n:Int)/\(Z wdv l)[(n:Int).toNat]? = O (wdv (l.getD n X)))/\GP 83 [h.av,u64 (l.getD n X)] Y (AV.tu [(atH h (l.getD n X)).1.av,int (atH h (l.getD n X)).2]) []/\GP 75 [(atH h (l.getD n X)).1.av] Y (int (sizeH (atH h (l.getD n X)).1)) []/\GP 151 [h.C.av] Y (int (Z00 h.C)) []/\((0:Int)<=i/\(Z Page.dv h.P)[i.toNat]? = O (h.P.getD i.toNat X).dv)/\((!((h.P.getD i.toNat X).K==(1:Int)&&!decide (sizeH (atH h (l.getD n X)).1<=Z00 h.C)))=Y->(0:Int)<=i/\(Z Page.dv h.P)[i.toNat]? = O (h.P.getD i.toNat X).dv)/\((h.P.getD i.toNat X).K==(1:Int)&&!decide (sizeH (atH h (l.getD n X)).1<=Z00 h.C)||(h.P.getD i.toNat X).K==(2:Int)&&(atH h (l.getD n X)).1.K==(0:Int))=Y/\Y=Y/\(0:Int)<=(n:Int)/\(Z wdv l)[(n:Int).toNat]? = O (wdv (l.getD n X))) ?_ kr kr kr;exact⟨(by simp only[List.length_map]),(by(simp only[bs];omega)),rfl,(by exact elI oq oq oq),(@Z5p (h) (l.getD n X) aa oq),(@Z2n ((atH h (l.getD n X)).1) aa),(@Z1h (h.C)),(by exact elI oq oq oq),(by intro hg;(try simp only[bs]at hg);exact elI oq oq oq),(by(simp only[bs];omega)),rfl,(by exact elI oq oq oq)⟩
omit hw hl hi hp hr in
theorem ZmQ:CP (rndF f199 0) (Zb5 h i l l.length).st (.ext 0) (Tg.st ⟨tm 61 [(6,u64 0)],[],60⟩):=by
 exact sF [] [] (FO 13 14 wdv l Fz)
end
def Z7f{l:List Int}{f:Int->Bool}(h:l.find? f=La):∀ n,n<l.length->f (l.getD n X)=M:=by
 intro n hn;have:=Li.1 h (l.getD n X) (getD_mem_iff.2 ⟨n,hn,rfl⟩);simpa using this
def Z40{f:Int->Bool}:∀ {l:List Int} {x:Int},l.find? f=O x->∃ n,n<l.length/\l.getD n X=x/\f x=Y/\∀ m,m<n->f (l.getD m X)=M
 | [],x,h=>by simp at h
 | a::l,x,h=>by
  rw[List.find?_cons]at h;split at h
  .rename_i ha;cases h;exact⟨0,by simp,rfl,ha,λm hm=>by omega⟩
  .rename_i ha;obtain⟨n,h1,h2,h3,h4⟩:=Z40 h;refine⟨n+1,by simp;omega,by simpa using h2,h3,λm hm=>?_⟩;cases m with
   | zero=>simpa using ha
   | succ m=>simpa using h4 m oq
def Zic(h:Heap)(i:Int)(l:List Int)(hw:WOk h.W)(hl:l.length<=1048576)(hi:0<=i/\i<h.P.length)(hp:h.P.length<=1048576)(hr:∀ x∈l,0<=x/\x<=8192)(hf:l.find? (Z1y h i)=La) :
  CP (blkF f199 0) (Tg.st ⟨tm 61 [(1,int i),(2,Z01 l),(3,.pt 8003 0 0),(6,u64 0),(7,int 0)],[(8003,.box 28 h.cells)],60⟩) .nrm (Tg.st ⟨tm 61 [(6,u64 0)],[],60⟩) :=
 Z0a (S:=λn=>(Zb5 h i l n).st) l.length kr (λn hn=>ZaI h i l n hw hl hi hp hr hn (Z7f hf n hn)) (ZmQ h i l)
def Zhk(h:Heap)(i:Int)(l:List Int)(x:Int)(hw:WOk h.W)(hl:l.length<=1048576)(hi:0<=i/\i<h.P.length)(hp:h.P.length<=1048576)(hr:∀ x∈l,0<=x/\x<=8192)(hf:l.find? (Z1y h i)=O x) :
  CP (blkF f199 0) (Tg.st ⟨tm 61 [(1,int i),(2,Z01 l),(3,.pt 8003 0 0),(6,u64 0),(7,int 0)],[(8003,.box 28 h.cells)],60⟩) .ret (Tg.st ⟨tm 61 [(6,u64 x)],[],60⟩):=by
 obtain⟨n,h1,h2,h3,h4⟩:=Z40 hf;subst h2;exact Z0H (S:=λn=>(Zb5 h i l n).st) n kr (λm hm=>ZaI h i l m hw hl hi hp hr oq (h4 m hm)) (ZgU h i l n hw hl hi hp hr h1 h3)
def Z9Q(h:Heap)(i:Int)(l:List Int)(hw:WOk h.W)(hl:l.length<=1048576)(hp:h.P.length<=1048576)(hi:0<=i/\i<h.P.length)(hr:∀ x∈l,0<=x/\x<=8192):GP 199 [h.av,int i,Z01 l] Y (u64 (Z16 h i l)) []:=by
 cases hf:l.find? (Z1y h i)with
 | none =>
  have e7:Z16 h i l=0:=by rw[Z16,hf];rfl
  exact gF [] func199 (fO 6) (Fu (@Zic h i l aa aa aa aa aa aa) (Fa (by rw[e7]:0=Z16 h i l) Fz))
 | some x =>
  have e7:Z16 h i l=x:=by rw[Z16,hf];rfl
  exact gF [] func199 (fO 6) (Fu (@Zhk h i l x aa aa aa aa aa aa) (Fa (by rw[e7]:x=Z16 h i l) Fz))
def bdv(x:Bool):List DV:=[.sc (.bool x)]
def Z4F(h:Heap)(a:Int):Int:=if(atH h a).1.K=0 then 1 else sizeH (atH h a).1
def Z9n(h:Heap)(i:Int)(a:Int)(o:Nat):Bool:=L (a-4096-i*h.C.pw<=o)&&L ((o:Int)<a-4096-i*h.C.pw+Z4F h a)
def Z1M(h:Heap)(i:Int)(l:List Int):List Bool:=(Lc h.C.pw.toNat).map λo=>l.any λa=>Z9n h i a o
def Z1F(h:Heap)(i:Int)(l:List Int)(a:Int)(w:Nat):List Bool:=(Lc h.C.pw.toNat).map λ(o:Nat)=>(l.any λa=>Z9n h i a o)||(L (a-4096-i*h.C.pw<=o)&&L ((o:Int)<a-4096-i*h.C.pw+w))
def Zat(h:Heap)(i:Int)(l:List Int)(a:Int)(w:Nat):(Z1F h i l a w).length=h.C.pw.toNat:=by simp[Z1F]
def ZeE(h:Heap)(i:Int)(l:List Int)(a:Int):Z1F h i l a 0=Z1M h i l:=by
 unfold Z1F Z1M;refine Lr λo _=>?_;have:(L (a-4096-i*h.C.pw<=(o:Int))&&L ((o:Int)<a-4096-i*h.C.pw+(0:Nat)))=M:=by
  rw[Bool.and_eq_false_iff];simp;omega
 rw[this,Bool.or_false]
def Zf8{h:Heap}{i:Int}{l:List Int}{a:Int}{w:Nat}(hh:¬ (0<=a-4096+w-i*h.C.pw/\a-4096+w-i*h.C.pw<h.C.pw)):Z1F h i l a (w+1)=Z1F h i l a w:=by
 unfold Z1F;refine Lr λo ho=>?_;have ho:=Lf.1 ho;congr 1;rw[Ln];simp;omega
def ZgT{h:Heap}{i:Int}{l:List Int}{a:Int}{w:Nat}(hh:0<=a-4096+w-i*h.C.pw/\a-4096+w-i*h.C.pw<h.C.pw):(Z1F h i l a w).set (a-4096+w-i*h.C.pw).toNat Y=Z1F h i l a (w+1):=by
 apply List.ext_getElem?;intro j;rw[List.getElem?_set,Zat];unfold Z1F;by_cases hjl:j<h.C.pw.toNat
 .rw[Ll,Ll,List.getElem?_range hjl,LG,LG];by_cases hj:(a-4096+w-i*h.C.pw).toNat=j
  .rw[if_pos hj,if_pos oq];congr 1;symm;rw[Bool.or_eq_true];right;rw[Lg,decide_eq_true_eq,decide_eq_true_eq];omega
  .rw[if_neg hj];congr 2;rw[Ln,Lg,Lg,decide_eq_true_eq,decide_eq_true_eq,decide_eq_true_eq];omega
 .rw[if_neg oq,Ll,Ll,List.getElem?_eq_none qo];rfl
def ZhJ{h:Heap}{i:Int}{l:List Int}{a:Int}(hn:0<=Z4F h a):Z1F h i l a (Z4F h a).toNat=Z1M h i (l++[a]):=by
 unfold Z1F Z1M;refine Lr λo _=>?_;rw[List.any_append];congr 1;simp[Z9n];rw[Ln];simp;omega
def Zih(h:Heap)(i:Int):Z1M h i []=Lk h.C.pw.toNat M:=by
 unfold Z1M;simp[List.map_const']
def ZjE(h:Heap)(i:Int)(l:List Int)(k:Nat):Tg:=⟨tm 69 [(1,int i),(2,Z01 l),(3,.pt 8003 0 0),(7,.ow 16017),(8,int k)],[(16017,.arr 4 1 ((Z1M h i (l.take k)).map bdv)),(8003,.box 28 h.cells)],60⟩
def Ze6(h:Heap)(i:Int)(l m:List Int)(k:Nat)(n:Int)(w:Nat):Tg:=⟨tm 69 [(1,int i),(2,Z01 m),(3,.pt 8003 0 0),(7,.ow 16017),(8,int k),(11,int n),(12,int w)],[(16017,.arr 4 1 ((Z1F h i l (m.getD k X) w).map bdv)),(8003,.box 28 h.cells)],60⟩
def Zh3(h:Heap)(i:Int)(l m:List Int)(k:Nat)(n:Int)(w:Nat)(hp:Z02 h=Y)(hm:m.length<=1048576)(hi:0<=i/\i<h.P.length)(hr:0<=m.getD k X/\m.getD k X<=8192)(hk:k<m.length)(hn:n<=256)(hw:w<n):CP (rndF f209 2) (Ze6 h i l m k n w).st .nrm (Ze6 h i l m k n (w+1)).st:=by
 have po:=Z06 hp;have ap:=Z2T po.1 hi.1 oq;have hlen:=Zat h i l (m.getD k X) w;by_cases hh:0<=m.getD k X-4096+w-i*h.C.pw/\m.getD k X-4096+w-i*h.C.pw<h.C.pw
 .have e:=ZgT (l:=l) hh;let y0:=m.getD k X-4096+(w:Int)-i*h.C.pw;let y1:=Z1F h i l (m.getD k X) w;let y2:=0<=m.getD k X-4096+(w:Int)-i*h.C.pw;let y3:=y1.set y0.toNat Y;exact sF [] (fO 11) (Fh 10067 [.els (Z bdv y3)] (Ftb 40 (L ((w:Int)<n)) (Fek 45 wdv m (↑k) k (Fi 47 (m.getD k X) (Fi 48 (m.getD k X-4096) (Fi 50 (m.getD k X-4096+(w:Int)) (Fi 55 (i*h.C.pw) (Fi 56 y0 (FlG 62 (decide y2) bdv y1 (Ftb 64 (decide y2&&L (m.getD k X-4096+(w:Int)-i*h.C.pw<(y1.length:Int))) (Fa (by grind[]:0<=m.getD k X-4096+(w:Int)-i*h.C.pw/\y0.toNat<(Z bdv y1).length) (Fa (by grind[]:y0.toNat<(Z bdv y1).length) (Fa (by rw[Ls];rfl:(Z bdv y1).set y0.toNat [DV.sc (Value.bool Y)]=Z bdv y3) (Fx 42 w (Fr (4:Int) (Fa (by refine congrArg _ ?_;exact e:Z bdv y3=Z bdv (Z1F h i l (m.getD k X) (w+1))) Fz))))))))))))))))
 .have e:=Zf8 (l:=l) hh;let y4:=m.getD k X;let y5:=0<=m.getD k X-4096+(w:Int)-i*h.C.pw;exact sF [] (fO 11) (Ftb 40 (L ((w:Int)<n)) (Fek 45 wdv m (↑k) k (Fi 47 y4 (Fi 48 (m.getD k X-4096) (Fi 50 (m.getD k X-4096+(w:Int)) (Fi 55 (i*h.C.pw) (Fi 56 (m.getD k X-4096+(w:Int)-i*h.C.pw) (FlG 62 (decide y5) bdv (Z1F h i l y4 w) (Ffb 64 (decide y5&&L (m.getD k X-4096+(w:Int)-i*h.C.pw<(↑(Z1F h i l y4 w).length:Int))) (Fx 42 w (Fr (4:Int) (Fa (by refine congrArg _ ?_;rw[e]:Z bdv (Z1F h i l y4 w)=Z bdv (Z1F h i l y4 (w+1))) Fz))))))))))))
def Zmb(h:Heap)(i:Int)(l m:List Int)(k:Nat)(n:Int)(w:Nat)(hn:n<=w):CP (rndF f209 2) (Ze6 h i l m k n w).st (.ext 2) (Tg.st ⟨tm 69 [(1,int i),(2,Z01 m),(3,.pt 8003 0 0),(7,.ow 16017),(8,int k)],[(16017,.arr 4 1 ((Z1F h i l (m.getD k X) w).map bdv)),(8003,.box 28 h.cells)],60⟩):=by
 exact sF [] [] (Ffb 40 (L ((w:Int)<n)) Fz)
def Zcv(h:Heap)(i:Int)(m:List Int)(k:Nat)(n:Int)(hp:Z02 h=Y)(hm:m.length<=1048576)(hi:0<=i/\i<h.P.length)(hr:0<=m.getD k X/\m.getD k X<=8192)(hk:k<m.length)(hn:0<=n/\n<=256)(he:n=Z4F h (m.getD k X)):CP (blkF f209 2) (Tg.st ⟨tm 69 [(1,int i),(2,Z01 m),(3,.pt 8003 0 0),(7,.ow 16017),(8,int k),(11,int n),(12,int 0)],[(16017,.arr 4 1 ((Z1M h i (m.take k)).map bdv)),(8003,.box 28 h.cells)],60⟩) .nrm
  (Tg.st ⟨tm 69 [(1,int i),(2,Z01 m),(3,.pt 8003 0 0),(7,.ow 16017),(8,int k)],[(16017,.arr 4 1 ((Z1M h i (m.take (k+1))).map bdv)),(8003,.box 28 h.cells)],60⟩):=by
 have:=Z0a (S:=λw=>(Ze6 h i (m.take k) m k n w).st) n.toNat kr (λw hw=>Zh3 h i (m.take k) m k n w hp hm hi hr hk hn.2 oq) (Zmb h i (m.take k) m k n n.toNat oq)
 have e1:Z1F h i (m.take k) (m.getD k X) n.toNat=Z1M h i (m.take (k+1)):=by
  rw[Z9c hk,he];exact ZhJ oq
 rw[e1]at this;simp only[Ze6,ZeE]at this;exact this
def ZkI(h:Heap)(i:Int)(l:List Int)(k:Nat)(hw:WOk h.W)(hp:Z02 h=Y)(hl:l.length<=1048576)(hi:0<=i/\i<h.P.length)(hr:∀ x∈l,0<=x/\x<=8192)(hk:k<l.length):CP (rndF f209 0) (ZjE h i l k).st .nrm (ZjE h i l (k+1)).st:=by
 have po:=Z06 hp;have hx:=hr (l.getD k X) (getD_mem_iff.2 ⟨k,hk,rfl⟩);have hm:=Z3M hw (l.getD k X);have hs:=Z1d (atH h (l.getD k X)).1;by_cases hf:(atH h (l.getD k X)).1.K=0
 .have e:Z4F h (l.getD k X)=1:=by rw[Z4F,if_pos hf]
  exact sF [] [] (FN 20 21 28 wdv l k (Fc 30 (@Z5p h (l.getD k X) aa oq) (Fc 34 (@Z2n ((atH h (l.getD k X)).1) aa) (Ftb 37 ((atH h (l.getD k X)).1.K==0) (Fu (@Zcv h i l k (1) aa aa aa aa aa oq oq) (Fx 23 k Fz))))))
 .have e:Z4F h (l.getD k X)=sizeH (atH h (l.getD k X)).1:=by rw[Z4F,if_neg hf]
  let y0:=atH h (l.getD k X);exact sF [] [] (FN 20 21 28 wdv l k (Fc 30 (@Z5p h (l.getD k X) aa oq) (Fc 34 (@Z2n (y0.1) aa) (Ffb 37 (y0.1.K==0) (Fu (@Zcv h i l k (sizeH y0.1) aa aa aa aa aa aa oq) (Fx 23 k Fz))))))
def ZoU(h:Heap)(i:Int)(l:List Int):CP (rndF f209 0) (ZjE h i l l.length).st (.ext 0) (Tg.st ⟨tm 69 [(7,.ow 16017)],[(16017,.arr 4 1 ((Z1M h i l).map bdv))],60⟩):=by
 have e:l.take l.length=l:=LF;exact sF [] [M,Y] (FO 20 21 wdv l (Fr (4:Int) (Fa (by refine congrArg _ ?_;rw[e]:Z bdv (Z1M h i (Ld l.length l))=Z bdv (Z1M h i l)) Fz)))
def Zlk(h:Heap)(i:Int)(l:List Int)(hw:WOk h.W)(hp:Z02 h=Y)(hl:l.length<=1048576)(hi:0<=i/\i<h.P.length)(hr:∀ x∈l,0<=x/\x<=8192):CP (blkF f209 0) (Tg.st ⟨tm 69 [(1,int i),(2,Z01 l),(3,.pt 8003 0 0),(7,.ow 16017),(8,int 0)],[(16017,.arr 4 1 ((Lk h.C.pw.toNat M).map bdv)),(8003,.box 28 h.cells)],60⟩) .nrm
  (Tg.st ⟨tm 69 [(7,.ow 16017)],[(16017,.arr 4 1 ((Z1M h i l).map bdv))],60⟩):=by
 have:=Z0a (S:=λk=>(ZjE h i l k).st) l.length kr (λk hk=>ZkI h i l k hw hp hl hi hr hk) (ZoU h i l);simp only[ZjE,List.take_zero,Zih]at this;exact this
def Zgg(h:Heap)(i:Int)(l:List Int)(hw:WOk h.W)(hp:Z02 h=Y)(hl:l.length<=1048576)(hi:0<=i/\i<h.P.length)(hr:∀ x∈l,0<=x/\x<=8192):GP 209 [h.av,int i,Z01 l] M (.d (.sl 1 ((Z1M h i l).map bdv))) []:=by
 have po:=Z06 hp;exact gF [] func209 [] (Fh 17 [.els (Z bdv (Lk h.C.pw.toNat M))] (Fb (0<=h.C.pw/\h.C.pw<=h.C.pw/\h.C.pw*((↑(nat_lit 0):Int)+1)<=2^48) (Fa (by rw[List.map_replicate];rfl:Lk h.C.pw.toNat [DV.sc (Value.bool M)]=Z bdv (Lk h.C.pw.toNat M)) (Fu (@Zlk h i l aa aa aa aa aa) Fz))))
def Z2q(h:Heap)(i:Nat):List Bool:=Z1M h i (Z09 h (Z0E h.P i:Nat)).1
def Z74(h:Heap)(i:Nat):(Z2q h i).length=h.C.pw.toNat:=by simp[Z2q,Z1M]
def Zbg(l:List Page):∀ i,Z0E l i<=i
 | 0=>Nat.le_refl _
 | i+1=>by
  have:=Zbg l i;unfold Z0E;split<;>omega
def ZhI(h:Heap)(i:Nat)(u:List Bool)(k:Nat):Tg:=⟨tm 43 [(1,int i),(2,.pt 8002 0 0),(4,u64 0),(7,.d (.sl 1 (u.map bdv))),(8,int k)],[(8002,.box 28 h.cells)],60⟩
section
variable (h:Heap) (i:Nat) (u:List Bool) (k:Nat) (hp:Z02 h=Y) (hi:i<h.P.length) (hu:u.length<=64)
include hp hi hu
theorem ZdM(hk:k<u.length)(hd:u.getD k X=Y\/Z4p h i k=0):CP (rndF f200 0) (ZhI h i u k).st .nrm (ZhI h i u (k+1)).st:=by
 have po:=Z06 hp;rcases hd with hd | hd
 .exact sF [] [] (FN 23 24 29 bdv u k (FcG 36 (!u.getD k X) (λhg=>by(try simp only[bs]at hg);exact @Zcs h ((i:Int)) ((k:Int)) aa) (Ffs 38 (!u.getD k X&&Z4p h (i:Int) (k:Int) != 0) (Fx 26 k Fz))))
 .exact sF [] [] (FN 23 24 29 bdv u k (FcG 36 (!u.getD k X) (λhg=>by(try simp only[bs]at hg);exact @Zcs h ((i:Int)) ((k:Int)) aa) (Ffb 38 (!u.getD k X&&Z4p h (i:Int) (k:Int) != 0) (Fx 26 k Fz))))
theorem Zj0(hk:k<u.length)(hd:u.getD k X=M/\¬ Z4p h i k=0):CP (rndF f200 0) (ZhI h i u k).st .ret (Tg.st ⟨tm 43 [(4,u64 (4096+i*h.C.pw+k))],[],60⟩):=by
 have po:=Z06 hp;obtain⟨hd1,hd2⟩:=hd;exact sF [] [] (FN 23 24 29 bdv u k (FcG 36 (!u.getD k X) (λhg=>by(try simp only[bs]at hg);exact @Zcs h ((i:Int)) ((k:Int)) aa) (Fts 38 (!u.getD k X&&Z4p h (i:Int) (k:Int) != 0) (Fc 42 (@Zfi h ((i:Int)) ((k:Int)) aa oq oq) Fz))))
omit hp hi hu in
theorem Zoc:CP (rndF f200 0) (ZhI h i u u.length).st (.ext 0) (Tg.st ⟨tm 43 [(4,u64 0)],[],60⟩):=by
 exact sF [] [] (FO 23 24 bdv u Fz)
end
def badD(h:Heap)(i:Nat)(u:List Bool)(k:Nat):Bool:=!u.getD k X&&L (Z4p h i k≠0)
def Z32(h:Heap)(i:Nat)(u:List Bool):Int:=match (Lc u.length).find? (badD h i u)with | O k=>4096+i*h.C.pw+k | La=>0
def Zm5(h:Heap)(i:Nat)(u:List Bool)(hp:Z02 h=Y)(hi:i<h.P.length)(hu:u.length<=64)(hf:(Lc u.length).find? (badD h i u)=La) :
  CP (blkF f200 0) (Tg.st ⟨tm 43 [(1,int i),(2,.pt 8002 0 0),(4,u64 0),(7,.d (.sl 1 (u.map bdv))),(8,int 0)],[(8002,.box 28 h.cells)],60⟩) .nrm (Tg.st ⟨tm 43 [(4,u64 0)],[],60⟩):=by
 refine Z0a (S:=λk=>(ZhI h i u k).st) u.length kr (λk hk=>ZdM h i u k hp hi hu hk ?_) (Zoc h i u);have:=Li.1 hf k (Lf.2 hk);simp only[badD,bs]at this;cases hb:u.getD k X with
 | true=>exact .inl rfl
 | false =>
  rw[hb]at this;exact .inr (by simpa using this)
def ZiA(h:Heap)(i:Nat)(u:List Bool)(k:Nat)(hp:Z02 h=Y)(hi:i<h.P.length)(hu:u.length<=64)(hf:(Lc u.length).find? (badD h i u)=O k) :
  CP (blkF f200 0) (Tg.st ⟨tm 43 [(1,int i),(2,.pt 8002 0 0),(4,u64 0),(7,.d (.sl 1 (u.map bdv))),(8,int 0)],[(8002,.box 28 h.cells)],60⟩) .ret (Tg.st ⟨tm 43 [(4,u64 (4096+i*h.C.pw+k))],[],60⟩):=by
 obtain⟨h1,h2,h3⟩:=Lj.1 hf;have h2:=Lf.1 h2;refine Z0H (S:=λk=>(ZhI h i u k).st) k kr (λm hm=>ZdM h i u m hp hi hu oq ?_) (Zj0 h i u k hp hi hu h2 ?_)
 .have:=h3 m hm;simp only[badD,bs]at this;cases hb:u.getD m X with
  | true=>exact .inl rfl
  | false =>
   rw[hb]at this;exact .inr (by simpa using this)
 .simp only[badD,bs]at h1;exact⟨h1.1,h1.2⟩
def Zgt(h:Heap)(i:Nat)(hw:WOk h.W)(hp:Z02 h=Y)(hi:i<h.P.length):GP 200 [h.av,int i] Y (u64 (Z32 h i (Z2q h i))) []:=by
 have po:=Z06 hp;have hh:=Zbg h.P i;have hn:=Z3a h (Z0E h.P i:Nat);have hr:=Z2V hp (Z0E h.P i:Nat);have hl:=Z74 h i;unfold Z2q at hl ⊢;cases hf:(Lc (Z1M h i (Z09 h (Z0E h.P i:Nat)).1).length).find? (badD h i (Z1M h i (Z09 h (Z0E h.P i:Nat)).1))with
 | none =>
  have e7:Z32 h i (Z1M h i (Z09 h (Z0E h.P i:Nat)).1)=0:=by rw[Z32,hf]
  let y0:=Z09 h (↑(Z0E h.P i):Int);exact gF [] func200 (fO 6) (Fc 13 (@ZfR h i aa aa) (Fc 14 (@Z4j h ((↑(Z0E h.P i):Int)) aa) (Fc 20 (@Zgg h ((i:Int)) (y0.1) aa aa oq oq aa) (Fu (@Zm5 h i (Z1M h (i:Int) y0.1) aa aa oq aa) (Fa (by rw[e7]:0=Z32 h i (Z1M h (i:Int) y0.1)) Fz)))))
 | some k =>
  have e7:Z32 h i (Z1M h i (Z09 h (Z0E h.P i:Nat)).1)=4096+i*h.C.pw+k:=by rw[Z32,hf]
  let y1:=Z09 h (↑(Z0E h.P i):Int);exact gF [] func200 (fO 6) (Fc 13 (@ZfR h i aa aa) (Fc 14 (@Z4j h ((↑(Z0E h.P i):Int)) aa) (Fc 20 (@Zgg h ((i:Int)) (y1.1) aa aa oq oq aa) (Fu (@ZiA h i (Z1M h (i:Int) y1.1) k aa aa oq aa) (Fa (by rw[e7]:4096+(i:Int)*h.C.pw+(k:Int)=Z32 h i (Z1M h (i:Int) y1.1)) Fz)))))
structure Finding where
 fault:Int
 page:Int
 addr:Int
 deriving DecidableEq,Inhabited
def Finding.av(f:Finding):AV:=.ag [int f.fault,int f.page,u64 f.addr]
def pageF(h:Heap)(i:Nat):Finding :=
 if(h.P.getD i X).K≠0/\(h.P.getD i X).S≠h.S then⟨2,i,0⟩
 else if(Z09 h (i:Int)).2≠0 then⟨3,i,0⟩
 else if Z16 h (i:Int) (Z09 h (i:Int)).1≠0 then⟨5,i,Z16 h (i:Int) (Z09 h (i:Int)).1⟩
 else if Z32 h i (Z2q h i)≠0 then⟨4,i,Z32 h i (Z2q h i)⟩else⟨0,0,0⟩
def Zgp(h:Heap)(i:Nat)(hw:WOk h.W)(hp:Z02 h=Y)(hi:i<h.P.length):GP 179 [h.av,int i] Y (pageF h i).av []:=by
 have po:=Z06 hp;have hn:=Z3a h (i:Int);have hr:=Z2V hp (i:Int);have Q0 {h_ c_ p_} (r_:Fq h_ c_ p_):=Fek 12 Page.dv h.P (↑i) i (FeG 20 ((h.P.getD i X).K != 0) Page.dv h.P (↑i) i r_);rcases bb ((h.P.getD i X).K != 0&&(h.P.getD i X).S != h.S)with hc0 | hc0<;>have hc0p:=hc0<;>simp only[bs]at hc0p
 .obtain⟨hc0pa,hc0pb⟩:=hc0p;rw[show pageF h i=Finding.mk (2:Int) (i:Int) (0:Int)from by(simp only[pageF] ;exact sj)];exact gF [] func179 [] (Q0 (Ft 26 hc0 Fz))
 .have Q1 {h_ c_ p_} (r_:Fq h_ c_ p_):=Q0 (Ff 26 hc0 (Fc 32 (@Z4j h ((i:Int)) aa) r_));rcases bb ((Z09 h (i:Int)).2 != 0)with hc1 | hc1<;>have hc1p:=hc1<;>simp only[bs]at hc1p
  .rw[show pageF h i=Finding.mk (3:Int) (i:Int) (0:Int)from by(simp only[pageF] ;exact sj)];exact gF [] func179 [] (Q1 (Ft 36 hc1 Fz))
  .have Q2 {h_ c_ p_} (r_:Fq h_ c_ p_):=Q1 (Ff 36 hc1 (Fc 42 (@Z9Q h ((i:Int)) ((Z09 h (i:Int)).1) aa oq oq oq aa) r_));rcases bb (Z16 h (i:Int) (Z09 h (i:Int)).1 != 0)with hc2 | hc2<;>have hc2p:=hc2<;>simp only[bs]at hc2p
   .rw[show pageF h i=Finding.mk (5:Int) (i:Int) (Z16 h (i:Int) (Z09 h (i:Int)).1)from by(simp only[pageF] ;exact sj)];exact gF [] func179 [] (Q2 (Ft 44 hc2 Fz))
   .have Q3 {h_ c_ p_} (r_:Fq h_ c_ p_):=Q2 (Ff 44 hc2 (Fc 50 (@Zgt h i aa aa aa) r_));rcases bb (Z32 h i (Z2q h i) != 0)with hc3 | hc3<;>have hc3p:=hc3<;>simp only[bs]at hc3p
    .rw[show pageF h i=Finding.mk (4:Int) (i:Int) (Z32 h i (Z2q h i))from by(simp only[pageF] ;exact sj)];exact gF [] func179 [] (Q3 (Ft 52 hc3 Fz))
    .rw[show pageF h i=Finding.mk (0:Int) (0:Int) (0:Int)from by(simp only[pageF] ;exact sj)];exact gF [] func179 [] (Q3 (Ff 52 hc3 Fz))
def Zhq(h:Heap)(all:List Int)(i:Nat):Tg:=⟨tm 89 [(1,.pt 8001 0 0),(2,.pt 8002 0 0),(3,Z01 all),(5,int i)],[(8002,.box 198 [int 0,int 0,u64 0]),(8001,.box 28 h.cells)],60⟩
def Zac(hd:Header)(fs all:List Int)(k:Nat):Bool:=Z0f hd k&&L (fs.getD k X≠0)&&!decide (fs.getD k X∈all)
def Zhi(h:Heap)(all fs:List Int)(hd:Header)(i k:Nat):Tg:=⟨tm 89 [(1,.pt 8001 0 0),(2,.pt 8002 0 0),(3,Z01 all),(5,int i),(6,.pt 488006 0 0),(8,Z01 fs),(10,int k)],[(488006,.box 52 [int hd.K,int hd.length,u32 hd.map]),(8002,.box 198 [int 0,int 0,u64 0]),(8001,.box 28 h.cells)],64⟩
section
variable (h:Heap) (all fs:List Int) (hd:Header) (i k:Nat) (hm:0<=hd.map/\hd.map<=4294967295) (hl:all.length<=1048576) (hf:fs.length<=4096) (hr:0<=all.getD i X/\all.getD i X<=8192) (hi:i<all.length)
include hm hl hf hr hi
theorem Zdy(hk:k<fs.length)(hb:Zac hd fs all k=M):CP (rndF f180 2) (Zhi h all fs hd i k).st .nrm (Zhi h all fs hd i (k+1)).st:=by
 simp only[Zac,bs]at hb;rcases hb with(hb | hb) | hb
 .let y0:=Z0f hd (k:Int)&&fs.getD k X != 0;exact sF [] [] (FM 46 47 wdv fs k (Fc 52 (@Z1T hd ((k:Int)) aa) (FeG 56 (Z0f hd (k:Int)) wdv fs (↑k) k (FeG 64 y0 wdv fs (↑k) k (FcG 66 y0 (λhg=>by(try simp only[bs]at hg);exact @Z14 all (fs.getD k X) aa) (Ffs 68 (Z0f hd (k:Int)&&fs.getD k X != 0&&!decide (fs.getD k X∈all)) (Fx 49 k Fz)))))))
 .let y1:=Z0f hd (k:Int)&&fs.getD k X != 0;exact sF [] [] (FM 46 47 wdv fs k (Fc 52 (@Z1T hd ((k:Int)) aa) (FeG 56 (Z0f hd (k:Int)) wdv fs (↑k) k (FeG 64 y1 wdv fs (↑k) k (FcG 66 y1 (λhg=>by(try simp only[bs]at hg);exact @Z14 all (fs.getD k X) aa) (Ffb 68 (Z0f hd (k:Int)&&fs.getD k X != 0&&!decide (fs.getD k X∈all)) (Fx 49 k Fz)))))))
 .let y2:=Z0f hd (k:Int)&&fs.getD k X != 0;exact sF [] [] (FM 46 47 wdv fs k (Fc 52 (@Z1T hd ((k:Int)) aa) (FeG 56 (Z0f hd (k:Int)) wdv fs (↑k) k (FeG 64 y2 wdv fs (↑k) k (FcG 66 y2 (λhg=>by(try simp only[bs]at hg);exact @Z14 all (fs.getD k X) aa) (Ffs 68 (Z0f hd (k:Int)&&fs.getD k X != 0&&!decide (fs.getD k X∈all)) (Fx 49 k Fz)))))))
theorem ZiI(hk:k<fs.length)(hb:Zac hd fs all k=Y):CP (rndF f180 2) (Zhi h all fs hd i k).st .ret (Tg.st ⟨tm 89 [(2,.pt 8002 0 0)],[(8002,.box 198 [int 6,int (ofA h.C (all.getD i X+1+k)).1,u64 (all.getD i X+1+k)])],64⟩):=by
 simp only[Zac,bs]at hb;obtain⟨⟨hb1,hb2⟩,hb3⟩:=hb;let y0:=Z0f hd (k:Int)&&fs.getD k X != 0;exact sF [] [] (FM 46 47 wdv fs k (Fc 52 (@Z1T hd ((k:Int)) aa) (FeG 56 (Z0f hd (k:Int)) wdv fs (↑k) k (FeG 64 y0 wdv fs (↑k) k (FcG 66 y0 (λhg=>by(try simp only[bs]at hg);exact @Z14 all (fs.getD k X) aa) (Fts 68 (Z0f hd (k:Int)&&fs.getD k X != 0&&!decide (fs.getD k X∈all)) (Fek 71 wdv all (↑i) i (Fv 73 (all.getD i X+1) (Fv 75 (↑k) (Fv 76 (all.getD i X+1+(k:Int)) (Fc 81 (@Z56 h.C (all.getD i X+1+(k:Int)) oq oq) Fz)))))))))))
omit hm hl hf hr hi in
theorem ZoP:CP (rndF f180 2) (Zhi h all fs hd i fs.length).st (.ext 2) (Tg.st ⟨tm 89 [(1,.pt 8001 0 0),(2,.pt 8002 0 0),(3,Z01 all),(5,int i)],[(8002,.box 198 [int 0,int 0,u64 0]),(8001,.box 28 h.cells)],64⟩):=by
 exact sF [] [] (FO 46 47 wdv fs Fz)
end
section
variable (h:Heap) (all fs:List Int) (hd:Header) (i:Nat) (hm:0<=hd.map/\hd.map<=4294967295) (hl:all.length<=1048576) (hf:fs.length<=4096) (hr:0<=all.getD i X/\all.getD i X<=8192) (hi:i<all.length)
include hm hl hf hr hi
theorem Zlz(hb:(Lc fs.length).find? (Zac hd fs all)=La):CP (blkF f180 2) (Zhi h all fs hd i 0).st .nrm (Tg.st ⟨tm 89 [(1,.pt 8001 0 0),(2,.pt 8002 0 0),(3,Z01 all),(5,int i)],[(8002,.box 198 [int 0,int 0,u64 0]),(8001,.box 28 h.cells)],64⟩):=by
 refine Z0a (S:=λk=>(Zhi h all fs hd i k).st) fs.length kr (λk hk=>Zdy h all fs hd i k hm hl hf hr hi hk ?_) (ZoP h all fs hd i);have:=Li.1 hb k (Lf.2 hk);simpa using this
theorem ZiG(k:Nat)(hb:(Lc fs.length).find? (Zac hd fs all)=O k):CP (blkF f180 2) (Tg.st ⟨tm 89 [(1,.pt 8001 0 0),(2,.pt 8002 0 0),(3,Z01 all),(5,int i),(6,.pt 488006 0 0),(8,Z01 fs),(10,int 0)],[(488006,.box 52 [int hd.K,int hd.length,u32 hd.map]),(8002,.box 198 [int 0,int 0,u64 0]),(8001,.box 28 h.cells)],64⟩) .ret (Tg.st ⟨tm 89 [(2,.pt 8002 0 0)],[(8002,.box 198 [int 6,int (ofA h.C (all.getD i X+1+k)).1,u64 (all.getD i X+1+k)])],64⟩):=by
 obtain⟨h1,h2,h3⟩:=Lj.1 hb;have h2:=Lf.1 h2;refine Z0H (S:=λk=>(Zhi h all fs hd i k).st) k kr (λm hm'=>Zdy h all fs hd i m hm hl hf hr hi oq ?_) (ZiI h all fs hd i k hm hl hf hr hi h2 h1);have:=h3 m hm';simpa using this
end
def Z4W(h:Heap)(a:Int):(Z0G h a).1.length<=4096:=by
 unfold Z0G;split
 .rename_i e;have po:=Z06 (Z45 e).2.2.1;have:=Zdd h.W (a+1) (getH h a).1.length;omega
 .simp
def Z27(h:Heap)(all:List Int)(i:Nat):Option Nat:=(Lc (Z0G h (all.getD i X)).1.length).find? (Zac (getH h (all.getD i X)).1 (Z0G h (all.getD i X)).1 all)
section
variable (h:Heap) (all:List Int) (i:Nat) (hw:WOk h.W) (hl:all.length<=1048576) (hr:0<=all.getD i X/\all.getD i X<=8192) (hi:i<all.length)
include hw hl hr hi
theorem Zct(hb:Z27 h all i=La):CP (rndF f180 0) (Zhq h all i).st .nrm (Zhq h all (i+1)).st:=by
 have hm:=Z8e hw (all.getD i X);have hf:(Z0G h (all.getD i X)).1.length<=4096:=Z4W h _;unfold Z27 at hb;let y0:=all.getD i X;exact sF [] [] (FN 22 23 30 wdv all i (Fc 32 (@Z42 h y0 aa oq) (Fek 39 wdv all (↑i) i (Fc 41 (@Z7x h y0 aa oq) (Fu (@Zlz h all ((Z0G h y0).1) ((getH h y0).1) i aa aa aa aa aa aa) (Fx 25 i Fz))))))
theorem Zjr(k:Nat)(hb:Z27 h all i=O k):CP (rndF f180 0) (Zhq h all i).st .ret (Tg.st ⟨tm 89 [(2,.pt 8002 0 0)],[(8002,.box 198 [int 6,int (ofA h.C (all.getD i X+1+k)).1,u64 (all.getD i X+1+k)])],60⟩):=by
 have hm:=Z8e hw (all.getD i X);have hf:(Z0G h (all.getD i X)).1.length<=4096:=Z4W h _;unfold Z27 at hb;let y0:=all.getD i X;exact sF [] [] (FN 22 23 30 wdv all i (Fc 32 (@Z42 h y0 aa oq) (Fek 39 wdv all (↑i) i (Fc 41 (@Z7x h y0 aa oq) (Fu (@ZiG h all ((Z0G h y0).1) ((getH h y0).1) i aa aa aa aa aa k aa) Fz)))))
end
def ZnQ(h:Heap)(all:List Int):CP (rndF f180 0) (Zhq h all all.length).st (.ext 0) (Tg.st ⟨tm 89 [(2,.pt 8002 0 0)],[(8002,.box 198 [int 0,int 0,u64 0])],60⟩):=by
 exact sF [] [] (FO 22 23 wdv all Fz)
def Z13(h:Heap)(all:List Int):Finding :=
 match (Lc all.length).find? (λi=>(Z27 h all i).isSome)with
 | none=>⟨0,0,0⟩
 | some i=>⟨6,(ofA h.C (all.getD i X+1+((Z27 h all i).getD 0:Nat))).1,all.getD i X+1+((Z27 h all i).getD 0:Nat)⟩
section
variable (h:Heap) (all:List Int) (hw:WOk h.W) (hl:all.length<=1048576) (hr:∀ x∈all,0<=x/\x<=8192)
include hw hl hr
theorem Zma(hb:(Lc all.length).find? (λi=>(Z27 h all i).isSome)=La):CP (blkF f180 0) (Zhq h all 0).st .nrm (Tg.st ⟨tm 89 [(2,.pt 8002 0 0)],[(8002,.box 198 [int 0,int 0,u64 0])],60⟩):=by
 refine Z0a (S:=λk=>(Zhq h all k).st) all.length kr (λk hk=>Zct h all k hw hl (hr _ (getD_mem_iff.2 ⟨k,hk,rfl⟩)) hk ?_) (ZnQ h all);have:=Li.1 hb k (Lf.2 hk);simpa using this
theorem Zji(i k:Nat)(hb:(Lc all.length).find? (λi=>(Z27 h all i).isSome)=O i)(hk':Z27 h all i=O k):CP (blkF f180 0) (Tg.st ⟨tm 89 [(1,.pt 8001 0 0),(2,.pt 8002 0 0),(3,Z01 all),(5,int 0)],[(8002,.box 198 [int 0,int 0,u64 0]),(8001,.box 28 h.cells)],60⟩) .ret (Tg.st ⟨tm 89 [(2,.pt 8002 0 0)],[(8002,.box 198 [int 6,int (ofA h.C (all.getD i X+1+k)).1,u64 (all.getD i X+1+k)])],60⟩):=by
 obtain⟨h1,h2,h3⟩:=Lj.1 hb;have h2:=Lf.1 h2;refine Z0H (S:=λk=>(Zhq h all k).st) i kr (λm hm'=>Zct h all m hw hl (hr _ (getD_mem_iff.2 ⟨m,by omega,rfl⟩)) oq ?_) (Zjr h all i hw hl (hr _ (getD_mem_iff.2 ⟨i,h2,rfl⟩)) h2 k hk');have:=h3 m hm';simpa using this
end
def Z5e(h:Heap)(hw:WOk h.W):GP 180 [h.av] Y (Z13 h (Z05 h).1).av []:=by
 have hl:=Z23 h;have hr:=Z2N h;cases hb:(Lc (Z05 h).1.length).find? (λi=>(Z27 h (Z05 h).1 i).isSome)with
 | none =>
  have e:Z13 h (Z05 h).1=⟨0,0,0⟩:=by simp only[Z13,hb]
  rw[e];exact gF [] func180 [] (Fc 17 (@Z3n h aa) (Fu (@Zma h ((Z05 h).1) aa oq aa aa) Fz))
 | some i =>
  have h1:=(Lj.1 hb).1;obtain⟨k,hk⟩:=Option.isSome_iff_exists.1 h1;have e:Z13 h (Z05 h).1=⟨6,(ofA h.C ((Z05 h).1.getD i X+1+(k:Nat))).1,(Z05 h).1.getD i X+1+(k:Nat)⟩:=by simp only[Z13,hb,hk,Option.getD_some]
  rw[e];exact gF [] func180 [] (Fc 17 (@Z3n h aa) (Fu (@Zji h ((Z05 h).1) aa oq aa i k aa aa) Fz))
def ZmL(h:Heap)(hw:WOk h.W)(hp:Z02 h=M):GP 144 [h.av] Y (Finding.mk 1 0 0).av []:=by
 exact gF [] func144 [] (Fc 9 (@Z0m h) (Ftb 10 (!Z02 h) Fz))
def chkL(h:Heap)(i:Nat):Tg:=⟨tm 65 [(1,.pt 8001 0 0),(2,.pt 8002 0 0),(3,int i)],[(8002,.box 198 [int 0,int 0,u64 0]),(8001,.box 28 h.cells)],60⟩
section
variable (h:Heap) (i:Nat) (hw:WOk h.W) (hp:Z02 h=Y)
include hw hp
theorem Zfw(hi:i<h.P.length)(hb:(pageF h i).fault=0):CP (rndF f144 0) (chkL h i).st .nrm (chkL h (i+1)).st:=by
 have po:=Z06 hp;exact sF [] [] (FM 15 16 Page.dv h.P i (Fc 21 (@Zgp h i aa aa aa) (Ffb 24 ((pageF h i).fault != 0) (Fx 18 i Fz))))
theorem Zlj(hi:i<h.P.length)(hb:(pageF h i).fault≠0):CP (rndF f144 0) (chkL h i).st .ret (Tg.st ⟨tm 65 [(2,.pt 8002 0 0)],[(8002,.box 198 [int (pageF h i).fault,int (pageF h i).page,u64 (pageF h i).addr])],60⟩):=by
 have po:=Z06 hp;exact sF [] [] (FM 15 16 Page.dv h.P i (Fc 21 (@Zgp h i aa aa aa) (Ftb 24 ((pageF h i).fault != 0) Fz)))
end
def ZpQ(h:Heap)(hp:Z02 h=Y):CP (rndF f144 0) (chkL h h.P.length).st (.ext 0) (Tg.st ⟨tm 65 [(1,.pt 8001 0 0),(2,.pt 8002 0 0)],[(8002,.box 198 [int 0,int 0,u64 0]),(8001,.box 28 h.cells)],60⟩):=by
 have po:=Z06 hp;exact sF [] [] (FO 15 16 Page.dv h.P Fz)
def Z2Y(h:Heap):Option Nat:=(Lc h.P.length).find? (λi=>L ((pageF h i).fault≠0))
section
variable (h:Heap) (hw:WOk h.W) (hp:Z02 h=Y)
include hw hp
theorem ZeX(hb:Z2Y h=La):CP (blkF f144 0) (chkL h 0).st .nrm (Tg.st ⟨tm 65 [(1,.pt 8001 0 0),(2,.pt 8002 0 0)],[(8002,.box 198 [int 0,int 0,u64 0]),(8001,.box 28 h.cells)],60⟩):=by
 refine Z0a (S:=λk=>(chkL h k).st) h.P.length kr (λk hk=>Zfw h k hw hp hk ?_) (ZpQ h hp);have:=Li.1 hb k (Lf.2 hk);simpa using this
theorem ZlX(i:Nat)(hb:Z2Y h=O i):CP (blkF f144 0) (Tg.st ⟨tm 65 [(1,.pt 8001 0 0),(2,.pt 8002 0 0),(3,int 0)],[(8002,.box 198 [int 0,int 0,u64 0]),(8001,.box 28 h.cells)],60⟩) .ret (Tg.st ⟨tm 65 [(2,.pt 8002 0 0)],[(8002,.box 198 [int (pageF h i).fault,int (pageF h i).page,u64 (pageF h i).addr])],60⟩):=by
 obtain⟨h1,h2,h3⟩:=Lj.1 hb;have h2:=Lf.1 h2;refine Z0H (S:=λk=>(chkL h k).st) i kr (λm hm'=>Zfw h m hw hp oq ?_) (Zlj h i hw hp h2 (by simpa using h1));have:=h3 m hm';simpa using this
end
def Zjm(h:Heap)(hw:WOk h.W)(hp:Z02 h=Y)(i:Nat)(hb:Z2Y h=O i):GP 144 [h.av] Y (pageF h i).av []:=by
 exact gF [] func144 [] (Fc 9 (@Z0m h) (Ffb 10 (!Z02 h) (Fu (@ZlX h aa aa i aa) Fz)))
def Zl0(h:Heap)(hw:WOk h.W)(hp:Z02 h=Y)(hb:Z2Y h=La)(hq:(Z13 h (Z05 h).1).fault≠0):GP 144 [h.av] Y (Z13 h (Z05 h).1).av []:=by
 exact gF [] func144 [] (Fc 9 (@Z0m h) (Ffb 10 (!Z02 h) (Fu (@ZeX h aa aa aa) (Fc 27 (@Z5e h aa) (Ftb 30 ((Z13 h (Z05 h).1).fault != 0) Fz)))))
end Go.Proofs.YtdhchmlalchgeaaGreat
