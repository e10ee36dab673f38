/-
 The statement CollectWeak: part 8.
 Conditions: none.
-/
import Derived.Test.YtgedmeaemofdkaaGreatW7
set_option maxRecDepth 100000
set_option maxHeartbeats 2000000
set_option linter.all false
open Inhabited renaming default->X
open Bool renaming true->Y,false->M,and_eq_true->Lg,eq_false_or_eq_true->Lm,eq_iff_iff->Ln
open List renaming map->Z,range->Lc,take->Ld,filter->Le,mem_range->Lf,find?_eq_none->Li,find?_range_eq_some->Lj,replicate->Lk,getElem?_map->Ll,append_nil->Lp,getD->Lq,map_congr_left->Lr,map_set->Ls,append_assoc->Lw,filter_append->Lx,filter_cons->Ly,filter_nil->Lz,length_filter_le->LA,map_append->LB,map_drop->LC,map_take->LD,take_length->LF
open Decidable renaming decide->L
open Option renaming some->O,none->La,map_eq_some_iff->Lt,map_some->LG
open Int renaming toNat->Lb,fdiv_eq_ediv_of_nonneg->Lo
open Go.IntKind renaming u64->Lh,i64->Lu,u32->Lv
open Go.Proofs.Tryz
namespace Go.Proofs.YtgedmeaemofdkaaGreat
open Go.Sx
def BE(h:Heap)(n k:Int):Heap×Int×Bool:=
 if 0<=first h.P k/\Cm h.P+k<=CX h.C then(⟨h.C,h.W,(GG h.C h.P (first h.P k) h.S n).1,h.S,h.B⟩,4096+first h.P k*h.C.pw,Y)else(B7,0,M)
def Z80(h:Heap)(n k:Int)(q:Z8 h=Y)(hk:k=need h.C n)(l:1<=k):GP 167 [h.av,int n,int k] M (.tu [(BE h n k).1.av,u64 (BE h n k).2.1,bool (BE h n k).2.2]) []:=by
 have r:=B4 q;obtain⟨g,o2,o3,o4,o5,o6,o7,o8,o9⟩:=r;have hr:=Z1m h.P k;have c:0<=first h.P k->first h.P k+k<=h.P.length:=λi=>(HL i).2.1
 have j:=Z9I h.P;have m:=Z9e g;have p:=M3 h.C n;have o:0<=first h.P k->0<=first h.P k*h.C.pw/\first h.P k*h.C.pw+h.C.pw<=4096:=λf=>HV g f (by have:=c f;omega)
 by_cases a:0<=first h.P k/\Cm h.P+k<=CX h.C
 have b:BE h n k=(⟨h.C,h.W,(GG h.C h.P (first h.P k) h.S n).1,h.S,h.B⟩,4096+first h.P k*h.C.pw,Y):=by rw[BE,if_pos a]
 rw[show BE h n k=(Heap.mk h.C h.W (GG h.C h.P (first h.P k) h.S n).1 h.S h.B,(4096:Int)+first h.P k*h.C.pw,Y)from by rw[b]];let d:=!decide (first h.P k<0);exact gF [] func167 [] (Fc 13 (@AK h.P k oq) (FcG 19 d (λa=>by(try simp only[bs]at a);exact@Mp h.P oq) (FiG 21 d ((↑(Cm h.P):Int)+k) (FcG 24 d (λa=>by(try simp only[bs]at a);exact@MG h.C) (Ffb 26 (L (first h.P k<0)||L (CX h.C<(↑(Cm h.P):Int)+k)) (Fc 37 (@ZcC h.C h.P (first h.P k) h.S n oq) (Fi 46 (first h.P k*h.C.pw) (Fi 47 (4096+first h.P k*h.C.pw) (Fv 48 (4096+first h.P k*h.C.pw) Fz)))))))));have b:BE h n k=(B7,0,M):=by rw[BE,if_neg a]
 rw[b];let e:=!decide (first h.P k<0);exact gF [] func167 [] (Fc 13 (@AK h.P k oq) (FcG 19 e (λa=>by(try simp only[bs]at a);exact@Mp h.P oq) (FiG 21 e ((↑(Cm h.P):Int)+k) (FcG 24 e (λa=>by(try simp only[bs]at a);exact@MG h.C) (Ftb 26 (L (first h.P k<0)||L (CX h.C<(↑(Cm h.P):Int)+k)) (Fnl (Fnl Fz)))))))
def ZbK{h:Heap}{n:Int}(g:Z8 h=Y)(hn:1<=n/\n<=256):0<=(Bj h n).2.1/\(Bj h n).2.1<=8192/\((Bj h n).2.2=Y->(Bj h n).1.W=h.W/\4096<=(Bj h n).2.1)/\((Bj h n).2.2=M->(Bj h n).1=B7):=by
 obtain⟨m,o2,o3,o4,o5,o6,o7,o8,q⟩:=B4 g;have hb:=(I9.1 g).2.2.2.2.1;have i:=λp=>Eh g (j:=h.B.toNat) p;have a:=λc=>NU (h:=h) q c;have d:0<=h.B->0<=h.B*h.C.pw/\h.B*h.C.pw+h.C.pw<=4096:=λb=>HV m b oq;have f:0<=first h.P 1->0<=first h.P 1*h.C.pw/\first h.P 1*h.C.pw+h.C.pw<=4096:=λb=>HV m b (by have:=a b;omega)
 unfold Bj;split;rename_i c;unfold IZ at c;have o:=d c.1;have k:=i oq;refine⟨by simp only;omega,by simp only;omega,λ_=>⟨rfl,by simp only;omega⟩,λe=>by cases e⟩;split;rename_i l;have o:=f l.1;have k:=congrArg Z0.U (a l.1).2.2.2;simp only at k;refine⟨by simp only;omega,by simp only;omega,λ_=>⟨rfl,by simp only;omega⟩,λe=>by cases e⟩;exact⟨by simp,by simp,(λe=>nomatch e),λ_=>rfl⟩
def Zem{h:Heap}{n k}(b:Z8 h=Y):0<=(BE h n k).2.1/\(BE h n k).2.1<=8192/\((BE h n k).2.2=Y->(BE h n k).1.W=h.W/\4096<=(BE h n k).2.1)/\((BE h n k).2.2=M->(BE h n k).1=B7):=by obtain⟨d,o2,o3,o4,o5,o6,o7,o8,o9⟩:=B4 b;unfold BE;split;rename_i a;have h3:=(HL a.1);have h1:=HV (c:=h.C) (i:=first h.P k) d a.1 oq;exact⟨by simp only;omega,by simp only;omega,λ_=>⟨rfl,by simp only;omega⟩,λe=>by cases e⟩;exact⟨by simp,by simp,(λe=>nomatch e),λ_=>rfl⟩
def Cd(h:Heap)(a:Zw):Heap×Int×Bool:=if 0<need h.C (Z5 a)then BE h (Z5 a) (need h.C (Z5 a))else Bj h (Z5 a)
def ZU(h:Heap)(a:Zw):Heap×Int×Int:=
 if Z8 h=Y/\EY h.C a=Y then(if(Cd h a).2.2=Y then((BI (Cd h a).1 (Cd h a).2.1 a).1,(Cd h a).2.1,0)else(B7,0,3))else(B7,0,1)
def AP:Zy []:=λw h=>by simp at h
def D9{c}{a:Zw}(h:EY c a=Y):ZR a=Y/\1<=Z5 a/\Z5 a<=256/\0<=need c (Z5 a)/\a.K≠0:=by
 simp only[EY,Lg,decide_eq_true_eq]at h;have hv:=Gl.1 h.1.1;have hn:=M3 c (Z5 a);have hs:Z5 a=a.length+1:=by rw[Z5,if_pos h.1.1]
 exact⟨h.1.1,by omega,by omega,by omega,h.1.2⟩
def Z5Z(h:Heap)(a:Zw)(p:Zy h.W)(hm:0<=a.map/\a.map<=4294967295):GP 114 [h.av,a.av] M (.tu [(ZU h a).1.av,u64 (ZU h a).2.1,int (ZU h a).2.2]) []:=by
 by_cases f:Z8 h=Y;cases ha:EY h.C a with
 |false =>
  have b:ZU h a=(B7,0,1):=by rw[ZU,if_neg (by rw[ha];simp)]
  rw[b];exact gF [] func114 [] (Fc 13 (@CJ h) (FcG 19 (!!Z8 h) (λd=>by(try simp only[bs]at d);exact@DJ h.C a aa) (Fts 21 (!Z8 h||!EY h.C a) (Fnl (Fnl Fz)))))
 |true =>
  obtain⟨a1,q,r,a4,a5⟩:=D9 ha;have l:=ZbK f ⟨q,r⟩;have m:=Zem (n:=Z5 a) (k:=need h.C (Z5 a)) f;have w1:Zy (Bj h (Z5 a)).1.W:=by
   cases e:(Bj h (Z5 a)).2.2 with|true=>rw[(l.2.2.1 e).1];exact p|false=>rw[l.2.2.2 e];exact AP
  have w2:Zy (BE h (Z5 a) (need h.C (Z5 a))).1.W:=by
   cases e:(BE h (Z5 a) (need h.C (Z5 a))).2.2 with|true=>rw[(m.2.2.1 e).1];exact p|false=>rw[m.2.2.2 e];exact AP
  by_cases o:0<need h.C (Z5 a);have b:Cd h a=BE h (Z5 a) (need h.C (Z5 a)):=by rw[Cd,if_pos o]
  have i {h_ c_ p_} (g:Fq h_ c_ p_):=Fc 13 (@CJ h) (FcG 19 (!!Z8 h) (λd=>by(try simp only[bs]at d);exact@DJ h.C a aa) (Ffs 21 (!Z8 h||!EY h.C a) (Fc 24 (@I8 a aa) (Fc 28 (@Rx h.C (Z5 a)) (Fc 32 (@P5 h (Z5 a) aa oq) (Ftb 37 (L (0<need h.C (Z5 a))) (Fc 42 (@Z80 h (Z5 a) (need h.C (Z5 a)) aa (by rfl) aa) g)))))));rcases bb (!(BE h (Z5 a) (need h.C (Z5 a))).2.2)with hc0|hc0<;>have c:=hc0<;>simp only[bs]at c;exact gF [] func114 (fO 5) (i (Ft 47 hc0 (Fnl (Fnl (Fa (by simp[ZU,b,B7, *]:0=(ZU h a).1.C.pw) (Fa (by simp[ZU,b,B7, *]:0=(ZU h a).1.C.pg) (Fa (by simp[ZU,b,B7, *]:[]=Z wdv (ZU h a).1.W) (Fa (by simp[ZU,b,B7, *]:[]=Z Z0.dv (ZU h a).1.P) (Fa (by simp[ZU,b,B7, *]:0=(ZU h a).1.S) (Fa (by simp[ZU,b,B7, *]:0=(ZU h a).1.B) (Fa (by simp[ZU,b,B7, *]:0=(ZU h a).2.1) (Fa (by simp[ZU,b,B7, *]:3=(ZU h a).2.2) Fz))))))))))));rw[show ZU h a=((BI (BE h (Z5 a) (need h.C (Z5 a))).1 (BE h (Z5 a) (need h.C (Z5 a))).2.1 a).1,(BE h (Z5 a) (need h.C (Z5 a))).2.1,(0:Int))from by simp[ZU,b,B7, *]];exact gF [] func114 [] (i (Ff 47 hc0 (Fc 53 (@Z7b ((BE h (Z5 a) (need h.C (Z5 a))).1) ((BE h (Z5 a) (need h.C (Z5 a))).2.1) a aa oq aa) Fz)));have b:Cd h a=Bj h (Z5 a):=by rw[Cd,if_neg o]
  have j {h_ c_ p_} (g:Fq h_ c_ p_):=Fc 13 (@CJ h) (FcG 19 (!!Z8 h) (λd=>by(try simp only[bs]at d);exact@DJ h.C a aa) (Ffs 21 (!Z8 h||!EY h.C a) (Fc 24 (@I8 a aa) (Fc 28 (@Rx h.C (Z5 a)) (Fc 32 (@P5 h (Z5 a) aa oq) (Ffb 37 (L (0<need h.C (Z5 a))) g))))));rcases bb (!(Bj h (Z5 a)).2.2)with hc0|hc0<;>have c:=hc0<;>simp only[bs]at c;exact gF [] func114 (fO 5) (j (Ft 47 hc0 (Fnl (Fnl (Fa (by simp[ZU,b,B7, *]:0=(ZU h a).1.C.pw) (Fa (by simp[ZU,b,B7, *]:0=(ZU h a).1.C.pg) (Fa (by simp[ZU,b,B7, *]:[]=Z wdv (ZU h a).1.W) (Fa (by simp[ZU,b,B7, *]:[]=Z Z0.dv (ZU h a).1.P) (Fa (by simp[ZU,b,B7, *]:0=(ZU h a).1.S) (Fa (by simp[ZU,b,B7, *]:0=(ZU h a).1.B) (Fa (by simp[ZU,b,B7, *]:0=(ZU h a).2.1) (Fa (by simp[ZU,b,B7, *]:3=(ZU h a).2.2) Fz))))))))))));rw[show ZU h a=((BI (Bj h (Z5 a)).1 (Bj h (Z5 a)).2.1 a).1,(Bj h (Z5 a)).2.1,(0:Int))from by simp[ZU,b,B7, *]];exact gF [] func114 [] (j (Ff 47 hc0 (Fc 53 (@Z7b ((Bj h (Z5 a)).1) ((Bj h (Z5 a)).2.1) a aa oq aa) Fz)))
 have s:Z8 h=M:=by simpa using f
 have b:ZU h a=(B7,0,1):=by rw[ZU,if_neg (by rw[s];simp)]
 rw[b];exact gF [] func114 [] (Fc 13 (@CJ h) (FcG 19 (!!Z8 h) (λd=>by(try simp only[bs]at d);exact@DJ h.C a aa) (Fts 21 (!Z8 h||!EY h.C a) (Fnl (Fnl Fz)))))
def SL(h:Zw)(hm:0<=h.map/\h.map<=4294967295):GP 120 [h.av] Y (bool (ZR h)) []:=by
 have hs:=λq=>Z42 (n:=h.length) q;have ho:0<=h.length->h.length<=32->ones h.length=2^h.length.toNat-1:=λh0 h1=>by rw[ones,Nat.min_eq_left oq]
 rcases Lm (L (h.K<(0:Int))||L ((3:Int)<h.K)||L (h.length<(0:Int))||L ((255:Int)<h.length))with hc0|hc0;have a:=hc0;simp only[bs]at a;refine Zc [((20:Nat),[Hint.br Y])] [] [] dd func120 [M,M,M,M,M,M,M,M,M,Y] (φ:=(L (h.K<(0:Int))||L ((3:Int)<h.K)||L (h.length<(0:Int))||L ((255:Int)<h.length))=Y/\Y=Y/\M=ZR h) ?_ kr kr;exact⟨aa,rfl,(by(simp[ZR, *];omega))⟩;have a:=hc0;simp only[bs]at a;obtain⟨⟨⟨c,d⟩,e⟩,f⟩:=a;rcases Lm (h.K==(1:Int))with hc1|hc1;have b:=hc1;simp only[bs]at b;refine Zc [((20:Nat),[Hint.br M]),((23:Nat),[Hint.br Y]),((30:Nat),[Hint.int h.map]),((33:Nat),[Hint.call Y (u64 (ones h.length)) []])] [] [] dd func120 [M,M,M,M,M,M,M,M,M,M,M,M,M,M,M,M,Y] (φ:=(L (h.K<(0:Int))||L ((3:Int)<h.K)||L (h.length<(0:Int))||L ((255:Int)<h.length))=M/\M=M/\(h.K==(1:Int))=Y/\Y=Y/\(L (h.length<=(32:Int))=Y->Lh.wrap h.map=h.map)/\(L (h.length<=(32:Int))=Y->GP 170 [int h.length] Y (u64 (ones h.length)) [])/\(L (h.length<=(32:Int))&&L (h.map<=ones h.length))=ZR h) ?_ kr kr;exact⟨aa,rfl,aa,rfl,(by intro g;(try simp only[bs]at g);exact BB rfl oq oq),(λg=>by(try simp only[bs]at g);exact@RI (h.length)),(by grind[ZR])⟩;have b:=hc1;simp only[bs]at b;refine Zc [((20:Nat),[Hint.br M]),((23:Nat),[Hint.br M])] [] [] dd func120 [M,M,M,M,M,M,M,M,M,Y] (φ:=(L (h.K<(0:Int))||L ((3:Int)<h.K)||L (h.length<(0:Int))||L ((255:Int)<h.length))=M/\M=M/\(h.K==(1:Int))=M/\M=M/\(h.K==h.K&&(h.length==h.length&&h.map==(0:Int)))=ZR h) ?_ kr kr;exact⟨aa,rfl,aa,rfl,(by grind[ZR])⟩
def EN(h:Zw)(hm:0<=h.map/\h.map<=4294967295):GP 69 [h.av] Y (int (Z5 h)) []:=by rcases Lm (!ZR h)with hc0|hc0;have a:=hc0;simp only[bs]at a;refine Zc [((4:Nat),[Hint.call Y (Sx.bool (ZR h)) []]),((5:Nat),[Hint.br Y])] [] [] dd func69 [Y] (φ:=GP 120 [h.av] Y (Sx.bool (ZR h)) []/\(!ZR h)=Y/\Y=Y/\(0:Int)=Z5 h) ?_ kr kr;exact⟨(@SL (h) aa),aa,rfl,(by simp[Z5, *])⟩;have a:=hc0;simp only[bs]at a;have e:=Gl.1 a;obtain⟨g,⟨f,⟨d,⟨b,c⟩⟩⟩⟩:=e;refine Zc [((4:Nat),[Hint.call Y (Sx.bool (ZR h)) []]),((5:Nat),[Hint.br M]),((8:Nat),[Hint.int (h.length+(1:Int))])] [] [] dd func69 [Y] (φ:=GP 120 [h.av] Y (Sx.bool (ZR h)) []/\(!ZR h)=M/\M=M/\Lu.wrap (h.length+(1:Int))=h.length+(1:Int)/\h.length+(1:Int)=Z5 h) ?_ kr kr;exact⟨(@SL (h) aa),aa,rfl,(by exact Ze rfl oq oq),(by simp[Z5, *])⟩
def TC(ws:List Int)(a n:Int)(hw:ws.length<=1048576)(h0:0<=a/\a<=18446744073709551615):GP 169 [Z3 ws,u64 a,int n] Y (.tu [int (Zx ws a n).1,bool (Zx ws a n).2]) []:=by have e {h_ c_ p_} (f:Fq h_ c_ p_):=FvG 13 (!decide (a<4096)) (a-4096) (FlG 15 (!decide (a<4096)) wdv ws (FvG 16 (!decide (a<4096)) (↑ws.length) f));rcases bb (L (a<4096)||L ((ws.length:Int)<a-4096))with hc0|hc0<;>have b:=hc0<;>simp only[bs]at b;rw[show Zx ws a n=((0:Int),M)from by(simp[Zx, *];omega)];exact gF [] func169 [] (e (Ft 18 hc0 Fz));obtain⟨c,d⟩:=b;rw[show Zx ws a n=(a-(4096:Int),L (n<=(ws.length:Int)-(a-(4096:Int))))from by(simp[Zx, *];omega)];exact gF [] func169 [] (e (Ff 18 hc0 (Fv 20 (a-4096) (Fi 21 (a-4096) (Fl 25 wdv ws (Fi 27 ((ws.length:Int)-(a-4096)) Fz))))))
def Z9w(ws:List Int)(a:Int)(hw:ws.length<=1048576)(h0:0<=a/\a<=18446744073709551615):GP 163 [Z3 ws,u64 a] Y (.tu [int (Cg ws a).1,int (Cg ws a).2]) []:=by have c {h_ c_ p_} (d:Fq h_ c_ p_):=Fc 11 (@TC ws a (1) aa aa) d;rcases bb (!(Zx ws a 1).2)with hc0|hc0<;>have b:=hc0<;>simp only[bs]at b;rw[show Cg ws a=((0:Int),(2:Int))from by grind[Zx,Cg]];exact gF [] func163 [] (c (Ft 15 hc0 Fz));rw[show Cg ws a=((Zx ws a (1:Int)).1,(0:Int))from by grind[Zx,Cg]];exact gF [] func163 [] (c (Ff 15 hc0 Fz))
def Z04(ws:List Int)(a:Int)(hw:ws.length<=1048576)(h0:0<=a/\a<=18446744073709551615):GP 111 [Z3 ws,u64 a] Y (.tu [u64 (Z1 ws a).1,int (Z1 ws a).2]) []:=by rcases bb ((Cg ws a).2 != 0)with hc0|hc0<;>have b:=hc0<;>simp only[bs]at b;have c:=Z8d b;obtain⟨g,h⟩:=c;rw[show Z1 ws a=((0:Int),(Cg ws a).2)from by simp[Z1, *]];exact gF [] func111 [] (Fc 11 (@Z9w ws a aa aa) (Ft 15 hc0 Fz));have d:=Z8j b;obtain⟨i,⟨e,f⟩⟩:=d;rw[show Z1 ws a=(ws.getD (Cg ws a).1.toNat X,(0:Int))from by simp[Z1, *]];refine Zc [((11:Nat),[Hint.call Y (AV.tu [int (Cg ws a).1,int (Cg ws a).2]) []]),((15:Nat),[Hint.br M]),((19:Nat),[Hint.el (wdv (ws.getD (Cg ws a).1.toNat X))])] [] [] dd func111 [] (φ:=GP 163 [Z3 ws,u64 a] Y (AV.tu [int (Cg ws a).1,int (Cg ws a).2]) []/\((Cg ws a).2 != (0:Int))=M/\M=M/\(0:Int)<=(Cg ws a).1/\(Z wdv ws)[(Cg ws a).1.toNat]?=O (wdv (ws.getD (Cg ws a).1.toNat X))) ?_ kr kr;exact⟨(@Z9w (ws) (a) aa aa),aa,rfl,(by exact Zl oq oq oq)⟩
def BD(w:Int):Nat->Int|0=>w|1=>w/4|2=>w/16|3=>w/65536|_=>w/281474976710656
def ZS(w:Int):List Int:=[w%4,w/4%4,w/16%4096,w/65536%4294967296]
def O0(w:Int)(i:Nat):Tg:=⟨tm 49 [(0,u64 w),(1,ZE [2,2,12,32]),(4,.d (.sl 0 [])),(5,int 0),(6,int ([64,62,60,48,16].getD i 0)),(12,ZE [2,2,12,32]),(13,int 4),(14,int i)],[],20⟩
def ZhF w(i:Nat)(hi:i<4):CP (Zm f201 0) (O0 w i).st .nrm (O0 w (i+1)).st:=by
 have h:i=0\/i=1\/i=2\/i=3:=by omega
 rcases h with rfl|rfl|rfl|rfl;refine Zg [((16:Nat),[Hint.el (idv (2:Int))])] [] [] [] (φ:=(0:Int)<=(↑(0:Nat):Int)/\(Z idv [(2:Int),(2:Int),(12:Int),(32:Int)])[(↑(0:Nat):Int).toNat]?=O (idv (2:Int))) ?_ kr kr kr;exact(by simp[*]);refine Zg [((16:Nat),[Hint.el (idv (2:Int))])] [] [] [] (φ:=(0:Int)<=(↑(1:Nat):Int)/\(Z idv [(2:Int),(2:Int),(12:Int),(32:Int)])[(↑(1:Nat):Int).toNat]?=O (idv (2:Int))) ?_ kr kr kr;exact(by simp[*]);refine Zg [((16:Nat),[Hint.el (idv (12:Int))])] [] [] [] (φ:=(0:Int)<=(↑(2:Nat):Int)/\(Z idv [(2:Int),(2:Int),(12:Int),(32:Int)])[(↑(2:Nat):Int).toNat]?=O (idv (12:Int))) ?_ kr kr kr;exact(by simp[*]);refine Zg [((16:Nat),[Hint.el (idv (32:Int))])] [] [] [] (φ:=(0:Int)<=(↑(3:Nat):Int)/\(Z idv [(2:Int),(2:Int),(12:Int),(32:Int)])[(↑(3:Nat):Int).toNat]?=O (idv (32:Int))) ?_ kr kr kr;exact(by simp[*])
def ZbD w:CP (Zm f201 0) (O0 w 4).st (.ext 0) (Tg.st ⟨tm 49 [(0,u64 w),(1,ZE [2,2,12,32]),(4,.d (.sl 0 [])),(5,int 0)],[],60⟩):=by exact sF [] [] Fz
def Z6N(w:Int)  := Bs (S:=λi=>(O0 w i).st) 4 (by kernel_rfl) (λi a=>ZhF w i a) (ZbD w)
def Z0m(w:Int)(i:Nat):Tg:=⟨tm 49 [(0,u64 (BD w i)),(4,.d (.sl 0 [])),(5,int 0),(9,.ow 480009),(29,ZE [2,2,12,32]),(30,int 4),(31,int i)],[(480009,.arr 35 1 (((ZS w).take i).map wdv))],60⟩
def Zgk(w:Int)(i:Nat)(h0:0<=w)(h1:w<=18446744073709551615)(hi:i<4):CP (Zm f201 2) (Z0m w i).st .nrm (Z0m w (i+1)).st:=by
 have o1:ones 2=3:=by decide
 have o2:ones 12=4095:=by decide
 have o3:ones 32=4294967295:=by decide
 have a0:bits .and .u64 w (ones 2)=w%4:=by rw[o1];exact NC 2 dd dd oq oq
 have a1:bits .and .u64 (w/4) (ones 2)=w/4%4:=by rw[o1];exact NC 2 dd dd oq oq
 have a2:bits .and .u64 (w/16) (ones 12)=w/16%4096:=by rw[o2];exact NC 12 dd dd oq oq
 have a3:bits .and .u64 (w/65536) (ones 32)=w/65536%4294967296:=by rw[o3];exact NC 32 dd dd oq oq
 have f1:(w/4).fdiv 4=w/16:=by rw[Lo _ dd];omega
 have f2:(w/16).fdiv 4096=w/65536:=by rw[Lo _ dd];omega
 have f3:(w/65536).fdiv 4294967296=w/281474976710656:=by rw[Lo _ dd];omega
 have h:i=0\/i=1\/i=2\/i=3:=by omega
 rcases h with rfl|rfl|rfl|rfl;exact sF [(496041,480009)] [] (Fh 33 [.el (idv 2)] (Fa (by simp[BD,ZS, *]:0<=(↑(0:Nat):Int)/\(Z idv [2,2,12,32])[(↑(0:Nat):Int).toNat]?=O (idv 2)) (Fc 38 (@RI (2)) (Fg 39 (by assumption:bits BinOp.and Lh (BD w 0) (ones (2:Int))=BD w 0%4) (Fs 40 (Z wdv [BD w 0%4]) (Fa (by simp[BD,ZS, *]:(Z wdv (Ld 0 (ZS w))).length+(Z wdv [BD w 0%4]).length<=2^30) (Fs 41 (Z wdv [BD w 0%4]) (Fg 44 (by exact Hu rfl dd:(BD w 0).fdiv (2^min (Lb 2) 64)=BD w 0/4) (Fo ((0:Int)<=2) Fz)))))))));exact sF [(496041,480009)] [Y] (Fh 33 [.el (idv 2)] (Fa (by simp[BD,ZS, *]:0<=(↑(1:Nat):Int)/\(Z idv [2,2,12,32])[(↑(1:Nat):Int).toNat]?=O (idv 2)) (Fc 38 (@RI (2)) (Fg 39 (by assumption:bits BinOp.and Lh (BD w 1) (ones (2:Int))=BD w 1%4) (Fs 40 (Z wdv [BD w 1%4]) (Fa (by simp[BD,ZS, *]:(Z wdv (Ld 1 (ZS w))).length+(Z wdv [BD w 1%4]).length<=2^30) (Fs 41 (Z wdv [w%4,BD w 1%4]) (Fg 44 (by exact Hu rfl dd:(BD w 1).fdiv (2^min (Lb 2) 64)=BD w 1/4) (Fo ((0:Int)<=2) (Fa (by(simp[BD,ZS, *];omega):BD w 1/4=BD w (1+1)) Fz))))))))));exact sF [(496041,480009)] [Y] (Fh 33 [.el (idv 12)] (Fa (by simp[BD,ZS, *]:0<=(↑(2:Nat):Int)/\(Z idv [2,2,12,32])[(↑(2:Nat):Int).toNat]?=O (idv 12)) (Fc 38 (@RI (12)) (Fg 39 (by assumption:bits BinOp.and Lh (BD w 2) (ones (12:Int))=BD w 2%4096) (Fs 40 (Z wdv [BD w 2%4096]) (Fa (by simp[BD,ZS, *]:(Z wdv (Ld 2 (ZS w))).length+(Z wdv [BD w 2%4096]).length<=2^30) (Fs 41 (Z wdv [w%4,w/4%4,BD w 2%4096]) (Fg 44 (by exact Hu rfl dd:(BD w 2).fdiv (2^min (Lb 12) 64)=BD w 2/4096) (Fo ((0:Int)<=12) (Fa (by(simp[BD,ZS, *];omega):BD w 2/4096=BD w (2+1)) Fz))))))))));exact sF [(496041,480009)] [Y] (Fh 33 [.el (idv 32)] (Fa (by simp[BD,ZS, *]:0<=(↑(3:Nat):Int)/\(Z idv [2,2,12,32])[(↑(3:Nat):Int).toNat]?=O (idv 32)) (Fc 38 (@RI (32)) (Fg 39 (by assumption:bits BinOp.and Lh (BD w 3) (ones (32:Int))=BD w 3%4294967296) (Fs 40 (Z wdv [BD w 3%4294967296]) (Fa (by simp[BD,ZS, *]:(Z wdv (Ld 3 (ZS w))).length+(Z wdv [BD w 3%4294967296]).length<=2^30) (Fs 41 (Z wdv [w%4,w/4%4,w/16%4096,BD w 3%4294967296]) (Fg 44 (by exact Hu rfl dd:(BD w 3).fdiv (2^min (Lb 32) 64)=BD w 3/4294967296) (Fo ((0:Int)<=32) (Fa (by(simp[BD,ZS, *];omega):BD w 3/4294967296=BD w (3+1)) Fz))))))))))
def Zfn w:CP (Zm f201 2) (Z0m w 4).st (.ext 2) (Tg.st ⟨tm 49 [(0,u64 (w/281474976710656)),(4,.d (.sl 0 [])),(5,int 0),(9,.ow 480009)],[(480009,.arr 35 1 ((ZS w).map wdv))],60⟩):=by exact sF [] [] Fz
def Z6e(w:Int)(a:0<=w)(b:w<=18446744073709551615)  := Bs (S:=λi=>(Z0m w i).st) 4 (by kernel_rfl) (λi c=>Zgk w i a b c) (Zfn w)
def Z1h(w:Int)(h0:0<=w)(h1:w<=18446744073709551615)(h:w<281474976710656):GP 201 [u64 w,ZE [2,2,12,32]] Y (.tu [Z3 (ZS w),int 0]) []:=by exact gF [] func201 [] (Fh 9 [.own] (Fu (@Z6N w) (Fu (@Z6e w aa aa) (Ffb 47 (w/(281474976710656:Int) != 0) (Fa (by exact Hr _:Ci (Z wdv (ZS w))) Fz)))))
def Zey(w:Int)(h0:0<=w)(h1:w<=18446744073709551615)(h:¬ w<281474976710656):GP 201 [u64 w,ZE [2,2,12,32]] Y (.tu [Z3 [],int 2]) []:=by exact gF [] func201 [] (Fh 9 [.own] (Fu (@Z6N w) (Fu (@Z6e w aa aa) (Ftb 47 (w/(281474976710656:Int) != 0) (Fnl Fz)))))
def Zj6(w:Int)(h0:0<=w):Z7 w=if w<281474976710656/\w%4=1/\ZR (ES w)=Y then(ES w,Y)else(CW,M):=by
 have k1:(ES w).K=w/4%4:=rfl;have k2:(ES w).length=w/16%4096:=rfl;have k3:(ES w).map=w/65536%4294967296:=rfl;by_cases hv:ZR (ES w)=Y;have e:Zt (ES w)=(1+4*(ES w).K+16*(ES w).length+65536*(ES w).map,0):=by rw[Zt,if_pos hv]
 by_cases hc:w<281474976710656/\w%4=1;rw[Z7,e,if_pos ⟨rfl,by simp only;omega⟩,if_pos ⟨hc.1,hc.2,hv⟩];rw[Z7,e,if_neg (by simp only;omega),if_neg (λq=>hc ⟨q.1,q.2.1⟩)];have e:Zt (ES w)=(0,1):=by rw[Zt,if_neg hv]
 rw[Z7,e,if_neg pq,if_neg (λq=>hv q.2.2)]
def Hc(w:Int)(h0:0<=w)(h1:w<=18446744073709551615):GP 161 [u64 w] Y (.tu [(Z7 w).1.av,bool (Z7 w).2]) []:=by have hm:=Z16 w h0;rw[Zj6 w h0];have u0:(ZS w).getD 0 X=w%4:=rfl;have u1:(ZS w).getD 1 X=w/4%4:=rfl;have u2:(ZS w).getD 2 X=w/16%4096:=rfl;have u3:(ZS w).getD 3 X=w/65536%4294967296:=rfl;have uL:(ZS w).length=4:=rfl;have k1:(ES w).K=w/4%4:=rfl;have k2:(ES w).length=w/16%4096:=rfl;have k3:(ES w).map=w/65536%4294967296:=rfl;by_cases ha:w<281474976710656;by_cases hb:w%4=1;by_cases hv:ZR (ES w)=Y;rw[if_pos ⟨ha,hb,hv⟩];have hv2:ZR ⟨w/4%4,w/16%4096,w/65536%4294967296⟩=Y:=hv;exact gF [] func161 [] (Fh 17 [.el (wdv ((ZS w).getD 0 X))] (Fh 23 [.el (wdv ((ZS w).getD 1 X))] (Fh 27 [.el (wdv ((ZS w).getD 2 X))] (Fh 31 [.el (wdv ((ZS w).getD 3 X))] (Fs 9 (Z idv [2,2,12,32]) (Fc 10 (@Z1h w aa aa aa) (Fa (by intro hg;(try simp only[bs]at hg);exact Zl oq oq oq:(!(0:Int) != 0)=Y->(0:Int)<=0/\(Z wdv (ZS w))[Lb 0]?=O (wdv ((ZS w).getD 0 X))) (Ffb 20 ((ZS w).getD 0 X != 1) (Fa (by exact Zl oq oq oq:(0:Int)<=1/\(Z wdv (ZS w))[Lb 1]?=O (wdv ((ZS w).getD 1 X))) (Fi 25 ((ZS w).getD 1 X) (Fa (by exact Zl oq oq oq:(0:Int)<=2/\(Z wdv (ZS w))[Lb 2]?=O (wdv ((ZS w).getD 2 X))) (Fi 29 ((ZS w).getD 2 X) (Fa (by exact Zl oq oq oq:(0:Int)<=3/\(Z wdv (ZS w))[Lb 3]?=O (wdv ((ZS w).getD 3 X))) (Fg 33 (by exact Pw oq oq:Lv.wrap ((ZS w).getD 3 X)=(ZS w).getD 3 X) (Fc 36 (@SL (Zw.mk ((ZS w).getD 1 X) ((ZS w).getD 2 X) ((ZS w).getD 3 X)) aa) (Ffs 37 (!ZR (Zw.mk ((ZS w).getD 1 X) ((ZS w).getD 2 X) ((ZS w).getD 3 X))) Fz))))))))))))))));rw[if_neg (by simp[hv])];have hv':ZR ⟨w/4%4,w/16%4096,w/65536%4294967296⟩=M:=eq_false_of_ne_true hv;exact gF [] func161 [] (Fh 17 [.el (wdv ((ZS w).getD 0 X))] (Fh 23 [.el (wdv ((ZS w).getD 1 X))] (Fh 27 [.el (wdv ((ZS w).getD 2 X))] (Fh 31 [.el (wdv ((ZS w).getD 3 X))] (Fs 9 (Z idv [2,2,12,32]) (Fc 10 (@Z1h w aa aa aa) (Fa (by intro hg;(try simp only[bs]at hg);exact Zl oq oq oq:(!(0:Int) != 0)=Y->(0:Int)<=0/\(Z wdv (ZS w))[Lb 0]?=O (wdv ((ZS w).getD 0 X))) (Ffb 20 ((ZS w).getD 0 X != 1) (Fa (by exact Zl oq oq oq:(0:Int)<=1/\(Z wdv (ZS w))[Lb 1]?=O (wdv ((ZS w).getD 1 X))) (Fi 25 ((ZS w).getD 1 X) (Fa (by exact Zl oq oq oq:(0:Int)<=2/\(Z wdv (ZS w))[Lb 2]?=O (wdv ((ZS w).getD 2 X))) (Fi 29 ((ZS w).getD 2 X) (Fa (by exact Zl oq oq oq:(0:Int)<=3/\(Z wdv (ZS w))[Lb 3]?=O (wdv ((ZS w).getD 3 X))) (Fg 33 (by exact Pw oq oq:Lv.wrap ((ZS w).getD 3 X)=(ZS w).getD 3 X) (Fc 36 (@SL (Zw.mk ((ZS w).getD 1 X) ((ZS w).getD 2 X) ((ZS w).getD 3 X)) aa) (Fts 37 (!ZR (Zw.mk ((ZS w).getD 1 X) ((ZS w).getD 2 X) ((ZS w).getD 3 X))) Fz))))))))))))))));rw[if_neg (by simp[hb])];exact gF [] func161 [] (Fh 17 [.el (wdv ((ZS w).getD 0 X))] (Fs 9 (Z idv [2,2,12,32]) (Fc 10 (@Z1h w aa aa aa) (Fa (by intro hg;(try simp only[bs]at hg);exact Zl oq oq oq:(!(0:Int) != 0)=Y->(0:Int)<=0/\(Z wdv (ZS w))[Lb 0]?=O (wdv ((ZS w).getD 0 X))) (Ftb 20 ((ZS w).getD 0 X != 1) Fz)))));rw[if_neg (by simp[ha])];exact gF [] func161 [] (Fh 17 [.el (wdv ([].getD 0 X))] (Fs 9 (Z idv [2,2,12,32]) (Fc 10 (@Zey w aa aa aa) (Fa (by intro hg;(try simp only[bs]at hg);exact Zl oq oq oq:(!(2:Int) != 0)=Y->(0:Int)<=0/\(Z wdv [])[Lb 0]?=O (wdv ([].getD 0 X))) Fz))))
end Go.Proofs.YtgedmeaemofdkaaGreat
namespace Go.Sx
def Z0u(H:Heap)(x:AV):Option AV:=match x with|.d x=>O (.d x)|.rp e o=>O (.rp e o)|.ow b=>(match Nat.ble 8000 b with|true=>(match H b with|O (.arr _ s els)=>O (.d (.sl s els))|_=>La)|false=>La)|.os b o n=>(match Nat.ble 8000 b with|true=>(match H b with|O (.arr _ s els)=>O (.d (.sl s ((els.drop o).take n)))|_=>La)|false=>La)|_=>La
def Zdt{P f}{e0 e1:List DV}{t0 t1:Nat}{x:Value}(hx:x.oneCell'=Y)(h:GSpec P f [.rp e0 0,.rp e1 0] Y (.d (.sc x)) []) :LentSpec P f [.pt 0 0 0,.pt 1 0 0] [.box t0 (e0.map .d),.box t1 (e1.map .d)] (.d (.sc x)) [.box t0 (e0.map .d),.box t1 (e1.map .d)]:=by
 intro w Im ρ vs a0 a2 hρ a1 c z u;have box:∀(k:Nat) (e:List DV) (t:Nat) (v:Value) (p:Nat->Prop),(∀g,Im g->p g)->(∀β g,ρ k=O β->β.g=O g->p g)->(∃β,ρ k=O β/\RelB ρ w Im β (.box t (e.map .d)))->Zh ρ w Im (.pt k 0 0) v->Zh (λ_=>La) w p (.rp e 0) v:=by
  intro k e t v p hi m hb hv;obtain⟨β,hβ,r⟩:=hb;obtain⟨g,s,n,k1,rfl⟩:=Sg hv rfl;rw[hβ]at k1;cases k1;obtain⟨r1,r2,g2,cs,r3,r4,r5,r6,r7⟩:=r;cases r3;have:=@Zh.rp (λ_=>La) w p e 0 ⟨g,0,La⟩ rfl (m _ _ hβ rfl) (λj y hy=>by
   have hj:j<e.length:=(List.getElem?_eq_some_iff.1 hy).1;have hc:j<cs.size:=by rw[r5];simpa using hj
   have a:cs[j]?=O cs[j]:=Array.getElem?_eq_getElem hc;have l:=r7 j (.d y) cs[j] (by simp[hy]) a;refine⟨cs[j], ?_, ?_⟩;simp only[World.cell?,r4];simpa using a;cases l with
   |d l=>exact l.mono (Ext.refl _ _) hi)
  simpa using this
 refine(h w (λg=>Im g\/∃k β,ρ k=O β/\β.g=O g) vs ?_ a2 ?_).mono ?_;rintro g (m|⟨k,β,a,l⟩);exact a0 g m;exact(c k β g a l).1;intro i y v hy hv;cases i with
 |zero =>simp at hy;subst hy;exact box 0 e0 t0 v _ (λg m=>.inl m) (λβ g a l=>.inr ⟨0,β,a,l⟩) (z 0 _ rfl) (u 0 _ v rfl hv)
 |succ i=>cases i with
  |zero =>
   simp at hy;subst hy;exact box 1 e1 t1 v _ (λg m=>.inl m) (λβ g a l=>.inr ⟨1,β,a,l⟩) (z 1 _ rfl) (u 1 _ v rfl hv)
  |succ i=>simp at hy
 rintro e w' ⟨v,rfl,o,ρ',a3,_,_,_,_,_,_,hr⟩;have hv:=C0 hr;subst hv;have ext:Ext Im w w':=⟨o.size,λg m=>o.block g (a0 g m) (λq=>q),o.rows⟩;refine⟨_,rfl,⟨o.os,o.tape,o.output,o.size,λk a _=>o.block k a (λq=>q),o.rows⟩,ρ,Im,λ_ _ h=>h,hρ,λg m=>.inl m,λg m=>Nat.lt_of_lt_of_le (a0 g m) o.size,
  λk β g a l=>⟨Nat.lt_of_lt_of_le (c k β g a l).1 o.size,.inr ⟨k,β,a,l⟩⟩,λk β g _ a l=>(c k β g a l).2,λk k' β β' g _ _=>a1 k k' β β' g, ?_,.d (.sc _ hx)⟩
 intro k B hB;obtain⟨β,b1,b2⟩:=z k B hB;exact⟨β,b1,b2.mono ext (λ_ h=>h) (λ_ _ h=>h) (λb β g a l=>(c b β g a l).1) (λg m=>o.block g (c k β g b1 m).1 (λq=>q))⟩
def Z1R{P}{f s:Nat}{fr res news}(h:∀(p:Option Addr) (c:Nat),GSpec P f [.d (.sc (.slice p 0 c))] fr res news):GSpec P f [.d (.sl s [])] fr res news:=by
 intro w m g r a y;have h0:g.size=1:=a;obtain⟨v,q⟩:∃v,g[0]?=O v:=⟨g[0]' oq,by simp⟩;have b:∀(p:Option Addr) (c:Nat),v=.slice p 0 c->Calls P f g w λe z=>∃v,e=.returned v/\RD w m fr res news v z:=λp c e=>by
  refine h p c w m g r a λi x u k o=>?_;match i with|0 =>simp only[List.getElem?_cons_zero,Option.some.injEq]at k;rw[q]at o;cases o;subst k;subst e;exact .d (.sc _ rfl)|i+1=>simp at k
 have j:=y 0 _ v rfl q;cases j with
 |d j =>
  generalize t:([]:List (List DV))=l at j;cases j with|slNil s p c=>exact b p c rfl|sl s els p n c fn a=>subst t;simp at a;subst a;exact b _ c rfl
end Go.Sx
namespace Go.Proofs.YtgedmeaemofdkaaGreat
open Go.Sx
def Heap.dvs(h:Heap):List DV:=[.sc (.int .i64 h.C.pw),.sc (.int .i64 h.C.pg),.sl 1 (h.W.map wdv),.sl 4 (h.P.map Z0.dv),.sc (.int .i64 h.S),.sc (.int .i64 h.B)]
def Za5(h:Heap)(a:Int)(hl:h.W.length<=1048576)(h0:0<=a/\a<=18446744073709551615):GP 160 [.rp [.sc (.int .i64 h.C.pw),.sc (.int .i64 h.C.pg),.sl 1 (h.W.map wdv),.sl 4 (h.P.map Z0.dv),.sc (.int .i64 h.S),.sc (.int .i64 h.B)] 0,.rp [.sc (.int .u64 a)] 0] Y (u64 (Z1 h.W a).1) []:=by exact gF [] func160 [] (Fc 9 (@Z04 h.W a aa aa) Fz)
def IE(h:Heap)(a:Int)(hl:h.W.length<=1048576)(b:0<=a/\a<=18446744073709551615):LP 160 [.pt 0 0 0,.pt 1 0 0] [.box 28 h.cells,.box 35 [u64 a]] (u64 (Z1 h.W a).1) [.box 28 h.cells,.box 35 [u64 a]]:=
 Zdt (e0:=h.dvs) (e1:=[.sc (.int .u64 a)]) rfl (Za5 h a hl b)
def N9(h:Heap)(a:Int)(hw:Zy h.W)(h0:0<=a/\a<=18446744073709551615):GP 109 [h.av,u64 a] Y (.tu [(Z9 h a).1.av,int (Z9 h a).2]) []:=by
 have r:=G3 hw a;have hm:=IP (Z1 h.W a).1 r.1;by_cases l:Z8 h=Y;have x:=B4 l;by_cases i:(Z2 h.C a).2.2=0;have oo:=GM x.1 i;have hz:(Z7 (Z1 h.W a).1).2=Y->Z5 (Z7 (Z1 h.W a).1).1=(Z7 (Z1 h.W a).1).1.length+1/\0<=(Z7 (Z1 h.W a).1).1.length/\(Z7 (Z1 h.W a).1).1.length<=255:=λe=>by(have r:=Z2o e;have:=Gl.1 r;rw[Z5,if_pos r];omega)
 have pp:=Eh l (j:=(Z2 h.C a).1.toNat) oq;by_cases c3:((h.P.getD (Z2 h.C a).1.toNat X).K=1\/(h.P.getD (Z2 h.C a).1.toNat X).K=2)/\(Z2 h.C a).2.1<(h.P.getD (Z2 h.C a).1.toNat X).U/\(Z7 (Z1 h.W a).1).2=Y;have a1:=hz c3.2.2;by_cases c4:((h.P.getD (Z2 h.C a).1.toNat X).K=1/\(h.P.getD (Z2 h.C a).1.toNat X).U<(Z2 h.C a).2.1+Z5 (Z7 (Z1 h.W a).1).1)\/((h.P.getD (Z2 h.C a).1.toNat X).K=2/\((Z2 h.C a).2.1≠0\/Z5 (Z7 (Z1 h.W a).1).1≠(h.P.getD (Z2 h.C a).1.toNat X).U));have g:Z9 h a=(CW,19):=by rw[Z9,if_pos l,if_pos i,if_pos c3,if_pos c4]
 rw[g];have s {h_ c_ p_} (m:Fq h_ c_ p_):=Fc 15 (@Ey h) (Ffb 16 (!Z8 h) (Fc 22 (@Gq h.C a oq oq) (Ffb 27 ((Z2 h.C a).2.2 != 0) (Fe 34 Z0.dv h.P ((Z2 h.C a).1) (Fbq 38 [8002,8003] (@IE h a oq aa) (Fc 39 (@Hc ((Z1 h.W a).1) oq oq) (Fc 43 (@EN ((Z7 (Z1 h.W a).1).1) aa) m)))))));rcases bb (!(Z7 (Z1 h.W a).1).2||L ((h.P.getD (Z2 h.C a).1.toNat X).U<=(Z2 h.C a).2.1))with hc0|hc0<;>have b:=hc0<;>simp only[bs]at b;exact gF [] func109 [] (Fh 44 [.br Y] (s (Fa hc0 Fz)));obtain⟨d,f⟩:=b;rcases bb ((h.P.getD (Z2 h.C a).1.toNat X).K==1)with hc1|hc1<;>have c:=hc1<;>simp only[bs]at c;let y:=h.P.getD (Z2 h.C a).1.toNat X;exact gF [] func109 [] (Fh 44 [.br M] (Fh 76 [.br Y] (s (Fa hc0 (Fa hc1 (Fi 61 (y.U-(Z2 h.C a).2.1) (Ftb 53 (!decide (Z5 (Z7 (Z1 h.W a).1).1<=y.U-(Z2 h.C a).2.1)) Fz)))))));let z:=h.P.getD (Z2 h.C a).1.toNat X;exact gF [] func109 [] (Fh 44 [.br M] (Fh 53 [.br M] (Fh 76 [.br Y] (s (Fa hc0 (Fa hc1 (Fb ((z.K==2)=Y) (Ftb 63 (!((Z2 h.C a).2.1==0&&Z5 (Z7 (Z1 h.W a).1).1==z.U)) Fz))))))));have g:Z9 h a=((Z7 (Z1 h.W a).1).1,0):=by rw[Z9,if_pos l,if_pos i,if_pos c3,if_neg c4]
 rw[g];have t {h_ c_ p_} (m:Fq h_ c_ p_):=Fc 15 (@Ey h) (Ffb 16 (!Z8 h) (Fc 22 (@Gq h.C a oq oq) (Ffb 27 ((Z2 h.C a).2.2 != 0) (Fe 34 Z0.dv h.P ((Z2 h.C a).1) (Fbq 38 [8002,8003] (@IE h a oq aa) (Fc 39 (@Hc ((Z1 h.W a).1) oq oq) (Fc 43 (@EN ((Z7 (Z1 h.W a).1).1) aa) m)))))));rcases bb (!(Z7 (Z1 h.W a).1).2||L ((h.P.getD (Z2 h.C a).1.toNat X).U<=(Z2 h.C a).2.1))with hc0|hc0<;>have b:=hc0<;>simp only[bs]at b;exact gF [] func109 (fO 4) (Fh 44 [.br Y] (t (Fa hc0 (Fa (by grind[CW]:0=(Z7 (Z1 h.W a).1).1.K) (Fa (by grind[CW]:0=(Z7 (Z1 h.W a).1).1.length) (Fa (by grind[CW]:0=(Z7 (Z1 h.W a).1).1.map) (Fa (by grind[CW]:(19:Int)=0) Fz)))))));obtain⟨d,f⟩:=b;rcases bb ((h.P.getD (Z2 h.C a).1.toNat X).K==1)with hc1|hc1<;>have c:=hc1<;>simp only[bs]at c;let y2:=h.P.getD (Z2 h.C a).1.toNat X;exact gF [] func109 [] (Fh 53 [.br Y] (Fh 76 [.br M] (t (Fa hc0 (Fa hc1 (Fi 61 (y2.U-(Z2 h.C a).2.1) (Ffb 44 (!decide (Z5 (Z7 (Z1 h.W a).1).1<=y2.U-(Z2 h.C a).2.1)) Fz)))))));let y3:=h.P.getD (Z2 h.C a).1.toNat X;exact gF [] func109 [] (Fh 53 [.br M] (Fh 63 [.br Y] (Fh 76 [.br M] (t (Fa hc0 (Fa hc1 (Fb ((y3.K==2)=Y) (Ffb 44 (!((Z2 h.C a).2.1==0&&Z5 (Z7 (Z1 h.W a).1).1==y3.U)) Fz))))))));have g:Z9 h a=(CW,19):=by rw[Z9,if_pos l,if_pos i,if_neg c3]
 rw[g];have n {h_ c_ p_} (m:Fq h_ c_ p_):=Fc 15 (@Ey h) (Ffb 16 (!Z8 h) (Fc 22 (@Gq h.C a oq oq) (Ffb 27 ((Z2 h.C a).2.2 != 0) (Fe 34 Z0.dv h.P ((Z2 h.C a).1) (Fbq 38 [8002,8003] (@IE h a oq aa) (Fc 39 (@Hc ((Z1 h.W a).1) oq oq) (Fc 43 (@EN ((Z7 (Z1 h.W a).1).1) aa) m)))))));rcases bb (!(Z7 (Z1 h.W a).1).2||L ((h.P.getD (Z2 h.C a).1.toNat X).U<=(Z2 h.C a).2.1))with hc0|hc0<;>have b:=hc0<;>simp only[bs]at b;exact gF [] func109 [] (Fh 44 [.br Y] (n (Fa hc0 Fz)));obtain⟨d,f⟩:=b;rcases bb ((h.P.getD (Z2 h.C a).1.toNat X).K==1)with hc1|hc1<;>have c:=hc1<;>simp only[bs]at c;have w {h_ c_ p_} (m:Fq h_ c_ p_):=n (Fa hc0 (Fa hc1 (Fi 61 ((h.P.getD (Z2 h.C a).1.toNat X).U-(Z2 h.C a).2.1) m)));rcases bb (!decide (Z5 (Z7 (Z1 h.W a).1).1<=(h.P.getD (Z2 h.C a).1.toNat X).U-(Z2 h.C a).2.1))with hc2|hc2<;>have o:=hc2<;>simp only[bs]at o;exact gF [] func109 [] (Fh 44 [.br M] (Fh 76 [.br Y] (w (Ft 53 hc2 Fz))));rw[show CW=(Z7 (Z1 h.W a).1).1 from by grind[CW]];exact gF [] func109 (fO 4) (Fh 53 [.br Y] (Fh 76 [.br M] (w (Ff 44 hc2 (Fr ((Z7 (Z1 h.W a).1).1.K) (Fr ((Z7 (Z1 h.W a).1).1.length) (Fr ((Z7 (Z1 h.W a).1).1.map) (Fa (by grind[CW]:(0:Int)=19) Fz))))))));rcases bb ((h.P.getD (Z2 h.C a).1.toNat X).K==2)with hc3|hc3<;>have p:=hc3<;>simp only[bs]at p;rcases bb (!((Z2 h.C a).2.1==0&&Z5 (Z7 (Z1 h.W a).1).1==(h.P.getD (Z2 h.C a).1.toNat X).U))with hc4|hc4<;>have k:=hc4<;>simp only[bs]at k;exact gF [] func109 [] (Fh 44 [.br M] (Fh 53 [.br M] (Fh 76 [.br Y] (n (Fa hc0 (Fa hc1 (Fa hc3 (Ft 63 hc4 Fz))))))));obtain⟨u,v⟩:=k;rw[show CW=(Z7 (Z1 h.W a).1).1 from by grind[CW]];exact gF [] func109 (fO 8) (Fh 53 [.br M] (Fh 63 [.br Y] (Fh 76 [.br M] (n (Fa hc0 (Fa hc1 (Fa hc3 (Ff 44 hc4 (Fr ((Z7 (Z1 h.W a).1).1.K) (Fr ((Z7 (Z1 h.W a).1).1.length) (Fr ((Z7 (Z1 h.W a).1).1.map) (Fa (by grind[CW]:(0:Int)=19) Fz))))))))))));exact gF [] func109 [] (Fh 44 [.br M] (Fh 53 [.br M] (Fh 63 [.br M] (n (Fa hc0 (Fa hc1 (Fa hc3 Fz)))))));have g:Z9 h a=(CW,2):=by rw[Z9,if_pos l,if_neg i]
 have e2:(Z2 h.C a).2.2=2:=by(unfold Z2 at i⊢;rw[if_pos x.1]at i⊢;split at i;simp at i;rename_i q;rw[if_neg q])
 rw[g];exact gF [] func109 [Y] (Fc 15 (@Ey h) (Ffb 16 (!Z8 h) (Fc 22 (@Gq h.C a oq oq) (Ftb 27 ((Z2 h.C a).2.2 != 0) (Fr (0:Int) (Fr (0:Int) (Fr (0:Int) (Fa ‹(Z2 h.C a).2.2=2› Fz))))))));have g:Z9 h a=(CW,1):=by rw[Z9,if_neg l]
 have a0:Z8 h=M:=by simpa using l
 rw[g];exact gF [] func109 [] (Fc 15 (@Ey h) (Ftb 16 (!Z8 h) Fz))
def My{α β:Type}{f:α->β}{l:List α}(h:l≠[]):l.map f≠[]:=by simpa using h
def Z6I(ws:List Int)(hw:ws.length<=1048576)(hne:ws≠[]):GP 123 [Z3 ws] Y (.ow 0) [.arr 35 1 (ws.map wdv)]:=by exact gF [24007] func123 [] (Fa (by exact My hne:Z wdv ws≠[]) (FA 5 7 wdv ws (Fa (by exact Hr _:Ci (Z wdv ws)) Fz)))
def Zji(l:List Z0)(hl:l.length<=1048576)(hne:l≠[]):GP 124 [ZZ l] Y (ZZ l) []:=by exact gF [] func124 [] (Fa (by exact My hne:Z Z0.dv l≠[]) (FA 5 7 Z0.dv l (Fa (by exact IC _:Ci (Z Z0.dv l)) Fz)))
def A7{α:Type}{l:List α}(h:0<l.length):l≠[]:=by rintro rfl;simp at h
def pg(h:Heap)(i:Int):Z0:=h.P.getD i.toNat X
def Bb(h:Heap)(i o:Int):Int:=(address h.C i o).1
def DD{h:Heap}(b:Zr h.C=Y)(i o:Int):0<=Bb h i o/\Bb h i o<=8192:=by have ha:=HN b;unfold Bb address;rw[if_pos b];split;rename_i a;have a:=HQ.1 a;have:=OM b a.1 a.2.1 a.2.2.1 a.2.2.2;simp only;omega;simp
def Em(h:Heap)(i:Int):Nat->Int->Option (List Int)|0,_=>O []|f+1,o=>if o<(pg h i).U then(if(Z9 h (Bb h i o)).2=0 then(if(pg h i).K=2 then O [Bb h i o]else(Em h i f (o+Z5 (Z9 h (Bb h i o)).1)).map (Bb h i o :: ·))else La)else O []
def Aj(h:Heap)(i o:Int)(acc:List Int):Tg:=⟨tm 70 [(1,int i),(2,.pt 8002 0 0),(4,.d (.sl 0 [])),(5,int 0),(6,.pt 32006 0 0),(7,.ow 48007),(8,int o)],
 [(48007,.arr 35 1 (acc.map wdv)),(32006,.box 86 [int (pg h i).K,int (pg h i).S,int (pg h i).U,int (pg h i).N]),(8002,.box 28 h.cells)],60⟩
def M0(acc:List Int):Tg:=⟨tm 70 [(7,.ow 48007)],[(48007,.arr 35 1 (acc.map wdv))],60⟩
section
variable (h:Heap) (i o:Int) (acc:List Int) (b:Zy h.W) (a:Z8 h=Y) (hl:acc.length<=1048576) (c:0<=o/\o<=1000)
include b a hl c
theorem Zh4(h1:o<(pg h i).U)(f:(Z9 h (Bb h i o)).2=0)(h3:(pg h i).K≠2):CP (Zm f147 0) (Aj h i o acc).st .nrm (Aj h i (o+Z5 (Z9 h (Bb h i o)).1) (acc++[Bb h i o])).st:=by have j:=B4 a;have e:=DD j.1 i o;have k:=HZ (Z9 h (Bb h i o)).1;have g:=IB b (Bb h i o);unfold Bb at e k g f;let d:=address h.C i o;exact sF [(512061,48007)] [] (Fh 61 [.els (Z wdv (acc++[d.1]))] (Ftb 41 (L (o<(pg h i).U)) (Fc 47 (@Z0y h.C i o) (Fc 53 (@Nj h (d.1) aa oq) (Ffb 57 ((Z9 h d.1).2 != 0) (Fs 60 (Z wdv [d.1]) (Fa (by(simp[Bb, *];omega):(Z wdv acc).length+(Z wdv [d.1]).length<=2^30) (Fa (by simp[Bb,LD,LC,Ls,LB,wdv,idv]:Z wdv acc++Z wdv [d.1]=Z wdv (acc++[d.1])) (Ffb 64 ((pg h i).K==2) (Fc 67 (@I8 ((Z9 h d.1).1) aa) (Fi 68 (o+Z5 (Z9 h d.1).1) Fz)))))))))))
theorem Zg1(h1:o<(pg h i).U)(f:(Z9 h (Bb h i o)).2=0)(h3:(pg h i).K=2):CP (Zm f147 0) (Aj h i o acc).st (.ext 0) (M0 (acc++[Bb h i o])).st:=by have j:=B4 a;have e:=DD j.1 i o;have g:=IB b (Bb h i o);unfold Bb at e g f;let d:=address h.C i o;exact sF [(512061,48007)] [] (Fh 61 [.els (Z wdv (acc++[d.1]))] (Ftb 41 (L (o<(pg h i).U)) (Fc 47 (@Z0y h.C i o) (Fc 53 (@Nj h (d.1) aa oq) (Ffb 57 ((Z9 h d.1).2 != 0) (Fs 60 (Z wdv [d.1]) (Fa (by(simp[Bb, *];omega):(Z wdv acc).length+(Z wdv [d.1]).length<=2^30) (Fa (by simp[Bb,LD,LC,Ls,LB,wdv,idv]:Z wdv acc++Z wdv [d.1]=Z wdv (acc++[d.1])) (Ftb 64 ((pg h i).K==2) Fz)))))))))
theorem Zkr(h1:o<(pg h i).U)(e:¬ (Z9 h (Bb h i o)).2=0):CP (Zm f147 0) (Aj h i o acc).st .ret (Tg.st ⟨tm 70 [(4,.d (.sl 0 [])),(5,int 19)],[],60⟩):=by have f:=B4 a;have d:=DD f.1 i o;unfold Bb at d e;exact sF [] [] (Ftb 41 (L (o<(pg h i).U)) (Fc 47 (@Z0y h.C i o) (Fc 53 (@Nj h ((address h.C i o).1) aa oq) (Ftb 57 ((Z9 h (address h.C i o).1).2 != 0) Fz))))
omit b a hl c in
theorem Z8I(h1:(pg h i).U<=o):CP (Zm f147 0) (Aj h i o acc).st (.ext 0) (M0 acc).st:=by exact sF [] [] (Ffb 41 (L (o<(pg h i).U)) Fz)
end
def Z21{h a}(e:(Z9 h a).2=0):1<=Z5 (Z9 h a).1:=by have:=TU e;rw[Z5,if_pos this.2.2.2.2.1];omega
def Z4c(h:Heap) i(j:Zy h.W)(g:Z8 h=Y)(hu:(pg h i).U<=256):∀(f:Nat) (o:Int) (acc:List Int),(pg h i).U-o<=f->0<=o->o<=1000->(acc.length:Int)+f<=1000 -> (∀l,Em h i f o=O l->Gg prog f147 0 (Aj h i o acc).st (.ext 0) (M0 (acc++l)).st) /\ (Em h i f o=La->Gg prog f147 0 (Aj h i o acc).st .ret (Tg.st ⟨tm 70 [(4,.d (.sl 0 [])),(5,int 19)],[],60⟩)):=by
 intro f;induction f with
 |zero =>intro o acc n d p q;refine⟨λl a=>?_,λa=>by cases a⟩;simp only[Em,Option.some.injEq]at a;subst a;rw[Lp];exact .endx (Z8I h i o acc oq)
 |succ f u =>
  intro o acc n d p q;unfold Em;by_cases c:o<(pg h i).U;rw[if_pos c];by_cases b:(Z9 h (Bb h i o)).2=0;rw[if_pos b];by_cases e:(pg h i).K=2;rw[if_pos e];refine⟨λl a=>?_,λa=>by cases a⟩;cases a;exact .endx (Zg1 h i o acc j g oq ⟨d,by omega⟩ c b e);rw[if_neg e];have hs:=Z21 b;have hb:=HZ (Z9 h (Bb h i o)).1;have k:=Zh4 h i o acc j g oq ⟨d,by omega⟩ c b e;obtain⟨s,t⟩:=u (o+Z5 (Z9 h (Bb h i o)).1) (acc++[Bb h i o]) oq oq oq qo;refine⟨λl a=>?_,λa=>?_⟩
  .rw[Lt]at a;obtain⟨m,r,rfl⟩:=a;have:=s m r;rw[Lw]at this;exact .next k this
  .rw[Option.map_eq_none_iff]at a;exact .next k (t a)
  rw[if_neg b];exact⟨λl a=>(by cases a),λ_=>.endr (Zkr h i o acc j g oq ⟨d,by omega⟩ c b)⟩;rw[if_neg c];refine⟨λl a=>?_,λa=>by cases a⟩;cases a;rw[Lp];exact .endx (Z8I h i o acc oq)
def ZcZ(h:Heap) i(l:List Int)(c:Zy h.W)(a:Z8 h=Y)(b:(pg h i).U<=256)(hl:Em h i 256 0=O l):CP (Zi f147 0) (Tg.st ⟨tm 70 [(1,int i),(2,.pt 8002 0 0),(4,.d (.sl 0 [])),(5,int 0),(6,.pt 32006 0 0),(7,.ow 48007),(8,int 0)], [(48007,.arr 35 1 []),(32006,.box 86 [int (h.P.getD i.toNat X).K,int (h.P.getD i.toNat X).S,int (h.P.getD i.toNat X).U,int (h.P.getD i.toNat X).N]),(8002,.box 28 h.cells)],60⟩) .nrm (M0 l).st:=
 ((Z4c h i c a b 256 0 [] oq oq oq pq).1 l hl).ext kr
def Zav(h:Heap) i(c:Zy h.W)(a:Z8 h=Y)(b:(pg h i).U<=256)(hl:Em h i 256 0=La):CP (Zi f147 0) (Tg.st ⟨tm 70 [(1,int i),(2,.pt 8002 0 0),(4,.d (.sl 0 [])),(5,int 0),(6,.pt 32006 0 0),(7,.ow 48007),(8,int 0)], [(48007,.arr 35 1 []),(32006,.box 86 [int (h.P.getD i.toNat X).K,int (h.P.getD i.toNat X).S,int (h.P.getD i.toNat X).U,int (h.P.getD i.toNat X).N]),(8002,.box 28 h.cells)],60⟩) .ret (Tg.st ⟨tm 70 [(4,.d (.sl 0 [])),(5,int 19)],[],60⟩):=
 ((Z4c h i c a b 256 0 [] oq oq oq pq).2 hl).ret kr
def Zd(h:Heap)(i:Int):List Int×Int:=
 if Z8 h=Y then(if 0<=i/\i<h.P.length then(if(pg h i).K=0\/(pg h i).K=3 then([],0)else(match Em h i 256 0 with|O l=>(l,0)|La=>([],19)))else([],2))else([],1)
def SJ(h:Heap) i(hw:Zy h.W):GP 147 [h.av,int i] M (.tu [Z3 (Zd h i).1,int (Zd h i).2]) []:=by
 cases hp:Z8 h with
 |false =>
  have b:Zd h i=([],1):=by rw[Zd,if_neg (by rw[hp];simp)]
  rw[b];exact gF [] func147 [] (Fc 14 (@CJ h) (Ftb 15 (!Z8 h) (Fnl Fz)))
 |true =>
  have po:=B4 hp;by_cases e:0<=i/\i<h.P.length;have m:=Eh hp (j:=i.toNat) oq;have hu:(pg h i).U<=256:=m.2.2.2.2.2.2.2.1;cases hwk:Em h i 256 0 with
  |none =>
   have b:Zd h i=if(h.P.getD i.toNat X).K=0\/(h.P.getD i.toNat X).K=3 then([],0)else([],19):=by rw[Zd,if_pos hp,if_pos e,hwk];rfl
   have g {h_ c_ p_} (f:Fq h_ c_ p_):=Fc 14 (@CJ h) (Ffb 15 (!Z8 h) (FlG 22 (!decide (i<0)) Z0.dv h.P (Ffb 24 (L (i<0)||L ((h.P.length:Int)<=i)) (Fe 28 Z0.dv h.P i f))));rcases bb ((h.P.getD i.toNat X).K==0||(h.P.getD i.toNat X).K==3)with hc0|hc0<;>have a:=hc0<;>simp only[bs]at a;exact gF [] func147 (fO 8) (g (Ft 37 hc0 (Fnl (Fa (by rw[b,if_pos oq];rfl:[]=Z wdv (Zd h i).1) (Fa (by rw[b,if_pos oq]:0=(Zd h i).2) Fz)))));obtain⟨c,d⟩:=a;exact gF [] func147 (fO 18) (Fh 7 [.own] (g (Ff 37 hc0 (Fu (@Zav h i aa aa aa aa) (Fnl (Fa (by rw[b,if_neg oq];rfl:[]=Z wdv (Zd h i).1) (Fa (by rw[b,if_neg oq]:19=(Zd h i).2) Fz)))))))
  |some l =>
   have b:Zd h i=if(h.P.getD i.toNat X).K=0\/(h.P.getD i.toNat X).K=3 then([],0)else(l,0):=by rw[Zd,if_pos hp,if_pos e,hwk];rfl
   have k {h_ c_ p_} (f:Fq h_ c_ p_):=Fc 14 (@CJ h) (Ffb 15 (!Z8 h) (FlG 22 (!decide (i<0)) Z0.dv h.P (Ffb 24 (L (i<0)||L ((h.P.length:Int)<=i)) (Fe 28 Z0.dv h.P i f))));rcases bb ((h.P.getD i.toNat X).K==0||(h.P.getD i.toNat X).K==3)with hc0|hc0<;>have a:=hc0<;>simp only[bs]at a;exact gF [] func147 (fO 8) (k (Ft 37 hc0 (Fnl (Fa (by rw[b,if_pos oq];rfl:[]=Z wdv (Zd h i).1) (Fa (by rw[b,if_pos oq]:0=(Zd h i).2) Fz)))));obtain⟨c,d⟩:=a;exact gF [] func147 (fO 18) (Fh 7 [.own] (k (Ff 37 hc0 (Fu (@ZcZ h i l aa aa aa aa) (Fa (by refine congrArg _ ?_;rw[b,if_neg oq]:Z wdv l=Z wdv (Zd h i).1) (Fa (by rw[b,if_neg oq]:0=(Zd h i).2) Fz))))))
  have b:Zd h i=([],2):=by rw[Zd,if_pos hp,if_neg e]
  rw[b];exact gF [] func147 [] (Fc 14 (@CJ h) (Ffb 15 (!Z8 h) (FlG 22 (!decide (i<0)) Z0.dv h.P (Ftb 24 (L (i<0)||L ((h.P.length:Int)<=i)) (Fnl Fz)))))
def Du(l:List Int)(v:Int)(i:Nat):Tg:=⟨tm 18 [(0,Z3 l),(1,u64 v),(4,bool M),(5,int i)],[],60⟩
def Z8w(l:List Int)(v:Int)(i:Nat)(hl:l.length<=1048576)(hi:i<l.length)(hv:¬ l.getD i X=v):CP (Zm f17 0) (Du l v i).st .nrm (Du l v (i+1)).st:=by exact sF [] [] (FN 8 9 14 wdv l i (Ffb 17 (l.getD i X==v) (Fx 11 i Fz)))
def Zkm(l:List Int)(v:Int)(i:Nat)(hl:l.length<=1048576)(hi:i<l.length)(hv:l.getD i X=v):CP (Zm f17 0) (Du l v i).st .ret (Tg.st ⟨tm 18 [(4,bool Y)],[],60⟩):=by exact sF [] [] (FN 8 9 14 wdv l i (Ftb 17 (l.getD i X==v) Fz))
def hasEnd l v:CP (Zm f17 0) (Du l v l.length).st (.ext 0) (Tg.st ⟨tm 18 [],[],60⟩):=by exact sF [] [] (FO 8 9 wdv l Fz)
theorem Be{l:List Int}{v:Int}:v∈l↔∃i,i<l.length/\l.getD i X=v:=by rw[List.mem_iff_getElem];constructor;rintro⟨i,h,e⟩;exact⟨i,h,by simp[Lq,h,e]⟩;rintro⟨i,h,e⟩;exact⟨i,h,by simpa[Lq,h]using e⟩
def Zez(l:List Int)(v:Int)(hl:l.length<=1048576)(h:v∉l)  := Bs (S:=λi=>(Du l v i).st) l.length (by kernel_rfl) (λi a=>Z8w l v i hl a λe=>h (Be.2 ⟨i,a,e⟩)) (hasEnd l v)
def Z9V(l:List Int)(v:Int)(hl:l.length<=1048576)(h:v∈l):CP (Zi f17 0) (Tg.st ⟨tm 18 [(0,Z3 l),(1,u64 v),(4,bool M),(5,int 0)],[],60⟩) .ret (Tg.st ⟨tm 18 [(4,bool Y)],[],60⟩):=by obtain⟨i,a,b⟩:=Z3n (Be.1 h);exact G5 (S:=λi=>(Du l v i).st) i kr (λj hj=>Z8w l v j hl oq λe=>by have:=b j ⟨by omega,e⟩;omega) (Zkm l v i hl a.1 a.2)
def CN(l:List Int) v(hl:l.length<=1048576):GP 17 [Z3 l,u64 v] Y (bool (L (v∈l))) []:=by by_cases h:v∈l;rw[decide_eq_true h];exact gF [] func17 [] (Fu (@Z9V l v aa aa) Fz);rw[decide_eq_false h];exact gF [] func17 [] (Fu (@Zez l v aa aa) Fz)
def Z3R{h i}:∀{f:Nat} {o:Int} {l:List Int},Em h i f o=O l->l.length<=f
 |0,o,l,e=>by simp[Em]at e;subst e;simp
 |f+1,o,l,e=>by
  unfold Em at e;split at e
  .split at e
   .split at e
    .cases e;simp
    .rw[Lt]at e;obtain⟨m,a,rfl⟩:=e;have:=Z3R a;simp;omega
   .cases e
  .cases e;simp
def R2(h:Heap) i:(Zd h i).1.length<=256:=by
 unfold Zd;repeat' split
 all_goals first|(simp;done)|(rename_i e;exact Z3R e)
def Cn(h:Heap):Nat->Nat->List Int×Int|0,_=>([],0)|f+1,i=>if(Zd h i).2=0 then(if(Cn h f (i+1)).2=0 then((Zd h i).1++(Cn h f (i+1)).1,0)else([],(Cn h f (i+1)).2))else([],(Zd h i).2)
def CG(h:Heap):List Int×Int:=if Z8 h=Y then Cn h h.P.length 0 else([],1)
def DZ(h:Heap)(i:Nat)(acc:List Int):Tg:=⟨tm 31 [(1,.pt 8001 0 0),(2,.d (.sl 0 [])),(3,int 0),(4,.ow 24004),(5,int i)],[(24004,.arr 35 1 (acc.map wdv)),(8001,.box 28 h.cells)],60⟩
section
variable (h:Heap) (i:Nat) (acc:List Int) (b:Zy h.W) (hl:h.P.length<=1048576) (a:acc.length<=1048576)
include b hl a
theorem ZiI(hi:i<h.P.length)(e:(Zd h i).2=0):CP (Zm f90 0) (DZ h i acc).st .nrm (DZ h (i+1) (acc++(Zd h i).1)).st:=by have hn:=R2 h i;exact sF [(504029,24004)] [] (Fh 29 [.els (Z wdv (acc++(Zd h (i:Int)).1))] (FM 14 15 Z0.dv h.P i (Fc 21 (@SJ h ((i:Int)) aa) (Ffb 25 ((Zd h (i:Int)).2 != 0) (Fa (by(simp[*];omega):(Z wdv acc).length+(Z wdv (Zd h (i:Int)).1).length<=2^30) (Fa (ms:Z wdv acc++Z wdv (Zd h (i:Int)).1=Z wdv (acc++(Zd h (i:Int)).1)) (Fx 17 i Fz)))))))
theorem Zar(hi:i<h.P.length)(e:¬ (Zd h i).2=0):CP (Zm f90 0) (DZ h i acc).st .ret (Tg.st ⟨tm 31 [(2,.d (.sl 0 [])),(3,int (Zd h i).2)],[],60⟩):=by exact sF [] [] (FM 14 15 Z0.dv h.P i (Fc 21 (@SJ h ((i:Int)) aa) (Ftb 25 ((Zd h (i:Int)).2 != 0) Fz)))
omit b hl a in
theorem ZfU:CP (Zm f90 0) (DZ h h.P.length acc).st (.ext 0) (Tg.st ⟨tm 31 [(4,.ow 24004)],[(24004,.arr 35 1 (acc.map wdv))],60⟩):=by exact sF [] [] (FO 14 15 Z0.dv h.P Fz)
end
def Z3I(h:Heap)(c:Zy h.W)(hl:h.P.length<=1048576):∀(f i:Nat) (acc:List Int),i+f=h.P.length->acc.length+256*f<=1048576 -> ((Cn h f i).2=0->Gg prog f90 0 (DZ h i acc).st (.ext 0) (Tg.st ⟨tm 31 [(4,.ow 24004)],[(24004,.arr 35 1 ((acc++(Cn h f i).1).map wdv))],60⟩)) /\ (¬ (Cn h f i).2=0->Gg prog f90 0 (DZ h i acc).st .ret (Tg.st ⟨tm 31 [(2,.d (.sl 0 [])),(3,int (Cn h f i).2)],[],60⟩)):=by
 intro f;induction f with
 |zero =>
  intro i acc g _;have:i=h.P.length:=by omega
  subst this;refine⟨λ_=>?_,λe=>absurd rfl e⟩;rw[Cn,Lp];exact .endx (ZfU h acc)
 |succ f l =>
  intro i acc g hb;have hn:=R2 h i;unfold Cn;by_cases e:(Zd h i).2=0;rw[if_pos e];have b:=ZiI h i acc c hl oq oq e;obtain⟨j,k⟩:=l (i+1) (acc++(Zd h i).1) oq qo;by_cases a:(Cn h f (i+1)).2=0
  .rw[if_pos a];refine⟨λ_=>?_,λe=>absurd rfl e⟩;have:=j a;rw[Lw]at this;exact .next b this
  rw[if_neg a];exact⟨λe=>absurd e a,λ_=>.next b (k a)⟩;rw[if_neg e];exact⟨λd=>absurd d e,λ_=>.endr (Zar h i acc c hl oq oq e)⟩
def Zju(h:Heap)(a:Zy h.W)(hl:h.P.length<=64)(e:(Cn h h.P.length 0).2=0):CP (Zi f90 0) (Tg.st ⟨tm 31 [(1,.pt 8001 0 0),(2,.d (.sl 0 [])),(3,int 0),(4,.ow 24004),(5,int 0)],[(24004,.arr 35 1 []),(8001,.box 28 h.cells)],60⟩) .nrm (Tg.st ⟨tm 31 [(4,.ow 24004)],[(24004,.arr 35 1 ((Cn h h.P.length 0).1.map wdv))],60⟩):=
 ((Z3I h a oq h.P.length 0 [] oq qo).1 e).ext kr
def Zal(h:Heap)(a:Zy h.W)(hl:h.P.length<=64)(e:¬ (Cn h h.P.length 0).2=0):CP (Zi f90 0) (Tg.st ⟨tm 31 [(1,.pt 8001 0 0),(2,.d (.sl 0 [])),(3,int 0),(4,.ow 24004),(5,int 0)],[(24004,.arr 35 1 []),(8001,.box 28 h.cells)],60⟩) .ret (Tg.st ⟨tm 31 [(2,.d (.sl 0 [])),(3,int (Cn h h.P.length 0).2)],[],60⟩):=
 ((Z3I h a oq h.P.length 0 [] oq qo).2 e).ret kr
def Zj4(h:Heap):∀(f i:Nat),¬ (Cn h f i).2=0->(Cn h f i).1=[]
 |0,i,e=>absurd rfl e
 |f+1,i,e=>by
  unfold Cn at e⊢;split at e
  .rename_i a;rw[if_pos a];split at e
   .exact absurd rfl e
   .rename_i b;rw[if_neg b]
  .rename_i a;rw[if_neg a]
def Zdo(h:Heap)(hw:Zy h.W):GP 90 [h.av] M (.tu [Z3 (CG h).1,int (CG h).2]) []:=by
 cases hp:Z8 h with
 |false =>
  have a:CG h=([],1):=by rw[CG,if_neg (by rw[hp];simp)]
  rw[a];exact gF [] func90 [] (Fc 9 (@CJ h) (Ftb 10 (!Z8 h) (Fnl Fz)))
 |true =>
  have po:=B4 hp;have a:CG h=Cn h h.P.length 0:=by rw[CG,if_pos hp]
  by_cases e:(Cn h h.P.length 0).2=0;rw[show CG h=((Cn h h.P.length (0:Nat)).1,(0:Int))from by grind[]];exact gF [] func90 [] (Fh 4 [.own] (Fc 9 (@CJ h) (Ffb 10 (!Z8 h) (Fu (@Zju h aa oq aa) Fz))));have b:=Zj4 h _ _ e;exact gF [] func90 (fO 7) (Fh 4 [.own] (Fc 9 (@CJ h) (Ffb 10 (!Z8 h) (Fu (@Zal h aa oq aa) (Fnl (Fa (by rw[a,b];rfl:[]=Z wdv (CG h).1) (Fa (by rw[a]:(Cn h h.P.length 0).2=(CG h).2) Fz)))))))
def Z6K{h:Heap}(c:Zr h.C=Y){i}:∀{f:Nat} {o:Int} {l:List Int},Em h i f o=O l->∀x∈l,0<=x/\x<=8192
 |0,o,l,e=>by simp[Em]at e;subst e;simp
 |f+1,o,l,e=>by
  have b:=DD c i o;unfold Em at e;split at e
  .split at e
   .split at e
    .cases e;intro x a;simp at a;subst a;exact b
    .rw[Lt]at e;obtain⟨m,d,rfl⟩:=e;intro x a;rcases List.mem_cons.1 a with rfl|a
     .exact b
     .exact Z6K c d x a
   .cases e
  .cases e;simp
def Ao{h:Heap}(a:Z8 h=Y) i:∀x∈(Zd h i).1,0<=x/\x<=8192:=by
 have b:=(B4 a).1;unfold Zd;repeat' split
 all_goals first|(simp;done)|(rename_i e;exact Z6K b e)
def Z44{h:Heap}(b:Z8 h=Y):∀(f i:Nat),∀x∈(Cn h f i).1,0<=x/\x<=8192
 |0,i=>by simp[Cn]
 |f+1,i=>by
  unfold Cn;split
  .split
   .intro x a;rcases List.mem_append.1 a with a|a
    .exact Ao b i x a
    .exact Z44 b f (i+1) x a
   .simp
  .simp
def Z8Q(h:Heap):∀(f i:Nat),(Cn h f i).1.length<=256*f
 |0,i=>by simp[Cn]
 |f+1,i=>by
  have h1:=R2 h i;have h2:=Z8Q h f (i+1);unfold Cn;split
  .split
   .simp;omega
   .simp
  .simp
def Z8x(h:Heap):∀x∈(CG h).1,0<=x/\x<=8192:=by unfold CG;split;exact Z44 aa _ _;simp
def Z92(h:Heap):(CG h).1.length<=16384:=by unfold CG;split;rename_i a;have:=Z8Q h h.P.length 0;have:=B4 a;omega;simp
def CU(h:Heap)(a:Int):Bool:=L ((Z9 h a).1.K≠0)
def Zq(h:Heap):List Int×Int:=((CG h).1.filter (CU h),(CG h).2)
def Ma(h:Heap):∀x∈(Zq h).1,0<=x/\x<=8192:=λx a=>Z8x h x (List.mem_filter.1 a).1
def RA(h:Heap):(Zq h).1.length<=16384:=Nat.le_trans (LA _ _) (Z92 h)
def TY{l:List Int}{i:Nat}(a:i<l.length):l.take (i+1)=l.take i++[l.getD i X]:=by rw[List.take_succ];simp[Lq,a]
def Pb(h:Heap)(l:List Int)(a:Int)(i:Nat):Tg:=⟨tm 42 [(1,.pt 8001 0 0),(4,Z3 l),(5,int a),(6,.ow 24006),(7,int i)],[(24006,.arr 35 1 (((l.take i).filter (CU h)).map wdv)),(8001,.box 28 h.cells)],60⟩
def Zgl(h:Heap)(l:List Int) b(i:Nat)(hw:Zy h.W)(hl:l.length<=1048576)(j:∀x∈l,0<=x/\x<=8192)(c:i<l.length):CP (Zm f43 0) (Pb h l b i).st .nrm (Pb h l b (i+1)).st:=by
 have hx:=j (l.getD i X) (Be.2 ⟨i,c,rfl⟩);have g:((l.take i).filter (CU h)).length<=l.length:=Nat.le_trans (LA _ _) qo;have f:=TY c;by_cases d:(Z9 h (l.getD i X)).1.K=0;have e:(l.take (i+1)).filter (CU h)=(l.take i).filter (CU h):=by(have a:CU h (l.getD i X)=M:=decide_eq_false (by simpa using d);rw[f,Lx,Ly,a,Lz];simp)
 exact sF [] (fO 5) (FN 17 18 25 wdv l i (Fc 27 (@Nj h (l.getD i X) aa oq) (Ffb 32 ((Z9 h (l.getD i X)).1.K != 0) (Fx 20 i (Fr (35:Int) (Fa (by refine congrArg _ ?_;rw[e]:Z wdv (Le (CU h) (Ld i l))=Z wdv (Le (CU h) (Ld (i+1) l))) Fz))))));have e:(l.take (i+1)).filter (CU h)=(l.take i).filter (CU h)++[l.getD i X]:=by(have a:CU h (l.getD i X)=Y:=decide_eq_true d;rw[f,Lx,Ly,a,Lz];simp)
 exact sF [(504039,24006)] (fO 5) (Fh 39 [.els (Z wdv (Le (CU h) (Ld i l)++[l.getD i X]))] (FN 17 18 25 wdv l i (Fc 27 (@Nj h (l.getD i X) aa oq) (Ftb 32 ((Z9 h (l.getD i X)).1.K != 0) (Fek 36 wdv l (↑i) i (Fs 38 (Z wdv [l.getD i X]) (Fa (by(simp[*];omega):(Z wdv (Le (CU h) (Ld i l))).length+(Z wdv [l.getD i X]).length<=2^30) (Fa (ms:Z wdv (Le (CU h) (Ld i l))++Z wdv [l.getD i X]=Z wdv (Le (CU h) (Ld i l)++[l.getD i X])) (Fx 20 i (Fr (35:Int) (Fa (by refine congrArg _ ?_;rw[e]:Z wdv (Le (CU h) (Ld i l)++[l.getD i X])=Z wdv (Le (CU h) (Ld (i+1) l))) Fz)))))))))))
def Zbe(h:Heap) l a:CP (Zm f43 0) (Pb h l a l.length).st (.ext 0) (Tg.st ⟨tm 42 [(5,int a),(6,.ow 24006)],[(24006,.arr 35 1 ((l.filter (CU h)).map wdv))],60⟩):=by have e:l.take l.length=l:=LF;exact sF [] (fO 2) (FO 17 18 wdv l (Fr (35:Int) (Fa (by refine congrArg _ ?_;rw[e]:Z wdv (Le (CU h) (Ld l.length l))=Z wdv (Le (CU h) l)) Fz)))
def Zg0(h:Heap)(l:List Int) a(d:Zy h.W)(hl:l.length<=1048576)(c:∀x∈l,0<=x/\x<=8192):CP (Zi f43 0) (Tg.st ⟨tm 42 [(1,.pt 8001 0 0),(4,Z3 l),(5,int a),(6,.ow 24006),(7,int 0)],[(24006,.arr 35 1 []),(8001,.box 28 h.cells)],60⟩) .nrm (Tg.st ⟨tm 42 [(5,int a),(6,.ow 24006)],[(24006,.arr 35 1 ((l.filter (CU h)).map wdv))],60⟩):=
 Bs (S:=λi=>(Pb h l a i).st) l.length kr (λi b=>Zgl h l a i d hl c b) (Zbe h l a)
def Df(h:Heap)(hw:Zy h.W):GP 43 [h.av] M (.tu [Z3 (Zq h).1,int (Zq h).2]) []:=by have hl:=Z92 h;have hr:=Z8x h;exact gF [] func43 [] (Fh 6 [.own] (Fc 12 (@Zdo h aa) (Fu (@Zg0 h ((CG h).1) ((CG h).2) aa oq aa) Fz)))
def Gs(h:Heap)(p o:Int):Int:=(Z1 h.W (address h.C p o).1).1
def ZaL{c:B3}(b:Zr c=Y) p o:0<=(address c p o).1/\(address c p o).1<=8192:=by have ha:=HN b;unfold address;rw[if_pos b];split;rename_i a;have a:=HQ.1 a;have:=OM b a.1 a.2.1 a.2.2.1 a.2.2.2;simp only;omega;simp
def ZdW(h:Heap) p o(a:Z8 h=Y):GP 235 [h.av,int p,int o] Y (u64 (Gs h p o)) []:=by have b:=B4 a;have ar:=ZaL b.1 p o;exact gF [] func235 [] (Fc 16 (@Z0y h.C p o) (Fc 23 (@HG h.W ((address h.C p o).1) oq oq) Fz))
def Z2S(h:Heap) p o(hp:Z8 h=Y):GP 220 [h.av,int p,int o] Y (u64 (Gs h p o)) []:=by exact gF [] func220 [] (Fc 10 (@ZdW h p o aa) Fz)
def Zc7(h:Heap)(p o:Int)(b:Z8 h=Y)(a:0<=p/\p<h.C.pg)(h1:0<=o/\o<=64):GP 221 [h.av,int p,int o] Y (u64 (4096+p*h.C.pw+o)) []:=by have c:=B4 b;have ap:=HV c.1 a.1 a.2;exact gF [] func221 [] (Fi 11 (p*h.C.pw) (Fi 12 (4096+p*h.C.pw) (Fi 14 (4096+p*h.C.pw+o) (Fv 15 (4096+p*h.C.pw+o) Fz))))
def ZY(l:List Z0):Nat->Nat|0=>0|i+1=>if(l.getD (i+1) X).K=3 then ZY l i else i+1
def Z3O{h:Heap}(a:Z8 h=Y):(h.P.getD 0 X).K≠3:=by have d:=I9.1 a;have po:=B4 a;have b:=d.2.2.2.2.2;rw[Z1V oq oq,Lg]at b;have c:=of_decide_eq_true b.1;unfold Gc at c;omega
def SS(h:Heap)(i:Nat):Tg:=⟨tm 15 [(1,int i),(2,.pt 8002 0 0)],[(8002,.box 28 h.cells)],60⟩
def ZjB(h:Heap)(i:Nat)(hi:i+1<h.P.length)(hl:h.P.length<=1048576)(hk:(h.P.getD (i+1) X).K=3):CP (Zm f218 0) (SS h (i+1)).st .nrm (SS h i).st:=by
 have ei:((i+1:Nat):Int)-1=(i:Int):=by omega
 exact sF [] [] (Fek 8 Z0.dv h.P (↑(i+1):Int) (i+1) (Ftb 11 ((h.P.getD (i+1) X).K==3) (Fg 13 (by rw[E6 oq oq];omega:Lu.wrap ((↑(i+1):Int)-1)=(i:Int)) Fz)))
def Z5T(h:Heap)(i:Nat)(hi:i<h.P.length)(hl:h.P.length<=1048576)(hk:¬ (h.P.getD i X).K=3):CP (Zm f218 0) (SS h i).st (.ext 0) (Tg.st ⟨tm 15 [(1,int i)],[],60⟩):=by exact sF [] [] (Fek 8 Z0.dv h.P (↑i) i (Ffb 11 ((h.P.getD i X).K==3) Fz))
def Z6g(h:Heap)(b:Z8 h=Y)(hl:h.P.length<=1048576):∀i,i<h.P.length->Gg prog f218 0 (SS h i).st (.ext 0) (Tg.st ⟨tm 15 [(1,int (ZY h.P i))],[],60⟩)
 |0,hi=>.endx (Z5T h 0 hi hl (Z3O b))
 |i+1,hi=>by
  unfold ZY;by_cases a:(h.P.getD (i+1) X).K=3
  .rw[if_pos a];exact .next (ZjB h i hi hl a) (Z6g h b hl i oq)
  .rw[if_neg a];exact .endx (Z5T h (i+1) hi hl a)
def ZhN(h:Heap)(i:Nat)(b:Z8 h=Y)(a:i<h.P.length)(hl:h.P.length<=1048576):CP (Zi f218 0) (SS h i).st .nrm (Tg.st ⟨tm 15 [(1,int (ZY h.P i))],[],60⟩):=
 (Z6g h b hl i a).ext kr
def Z5X(h:Heap)(i:Nat)(a:Z8 h=Y)(hi:i<h.P.length):GP 218 [h.av,int i] Y (int (ZY h.P i)) []:=by have po:=B4 a;exact gF [] func218 [] (Fu (@ZhN h i aa aa oq) Fz)
def Gk(h:Heap)(i:Int)(a:Int):Bool:=(L ((h.P.getD i.toNat X).K=1)&&L (Zb h.C<Z5 (Z9 h a).1))||(L ((h.P.getD i.toNat X).K=2)&&L ((Z9 h a).1.K=0))
def Cq(h:Heap)(i:Int)(l:List Int):Int:=(l.find? (Gk h i)).getD 0
def DF(h:Heap)(i:Int)(l:List Int)(n:Nat):Tg:=⟨tm 61 [(1,int i),(2,Z3 l),(3,.pt 8003 0 0),(6,u64 0),(7,int n)],[(8003,.box 28 h.cells)],60⟩
section
variable (h:Heap) (i:Int) (l:List Int) (n:Nat) (b:Zy h.W) (hl:l.length<=1048576) (c:0<=i/\i<h.P.length) (d:h.P.length<=1048576) (a:∀x∈l,0<=x/\x<=8192)
include b hl c d a
theorem Z7G(j:n<l.length)(g:Gk h i (l.getD n X)=M):CP (Zm f192 0) (DF h i l n).st .nrm (DF h i l (n+1)).st:=by have hx:=a (l.getD n X) (Be.2 ⟨n,j,rfl⟩);have hm:=IB b (l.getD n X);simp only[Gk,bs]at g;let e:=Z9 h (l.getD n X);let f:=h.P.getD i.toNat X;exact sF [] [] (FN 13 14 21 wdv l n (Fc 23 (@Nj h (l.getD n X) aa oq) (Fc 27 (@I8 (e.1) aa) (Fc 30 (@Nl h.C) (Fe 35 Z0.dv h.P i (FeGq 47 (!(f.K==1&&!decide (Z5 e.1<=Zb h.C))) Z0.dv h.P i (Ffb 56 (f.K==1&&!decide (Z5 e.1<=Zb h.C)||f.K==2&&e.1.K==0) (Fx 16 n Fz))))))))
theorem Zjh(g:n<l.length)(e:Gk h i (l.getD n X)=Y):CP (Zm f192 0) (DF h i l n).st .ret (Tg.st ⟨tm 61 [(6,u64 (l.getD n X))],[],60⟩):=by have hx:=a (l.getD n X) (Be.2 ⟨n,g,rfl⟩);have hm:=IB b (l.getD n X);simp only[Gk,bs]at e;refine Zg [((13:Nat),[Hint.int (l.length:Int)]),((14:Nat),[Hint.br Y]),((21:Nat),[Hint.el (wdv (l.getD n X))]),((23:Nat),[Hint.call Y (AV.tu [(Z9 h (l.getD n X)).1.av,int (Z9 h (l.getD n X)).2]) []]),((27:Nat),[Hint.call Y (int (Z5 (Z9 h (l.getD n X)).1)) []]),((30:Nat),[Hint.call Y (int (Zb h.C)) []]),((35:Nat),[Hint.el (h.P.getD i.toNat X).dv]),((47:Nat),[Hint.el (h.P.getD i.toNat X).dv]),((56:Nat),[Hint.br Y]),((59:Nat),[Hint.el (wdv (l.getD n X))])] [] [] [] (φ:=(↑(Z wdv l).length:Int)=(l.length:Int)/\L ((n:Int)<(l.length:Int))=Y/\Y=Y/\((0:Int)<=(n:Int)/\(Z wdv l)[(n:Int).toNat]?=O (wdv (l.getD n X)))/\GP 91 [h.av,u64 (l.getD n X)] Y (AV.tu [(Z9 h (l.getD n X)).1.av,int (Z9 h (l.getD n X)).2]) []/\GP 70 [(Z9 h (l.getD n X)).1.av] Y (int (Z5 (Z9 h (l.getD n X)).1)) []/\GP 93 [h.C.av] Y (int (Zb h.C)) []/\((0:Int)<=i/\(Z Z0.dv h.P)[i.toNat]?=O (h.P.getD i.toNat X).dv)/\((!((h.P.getD i.toNat X).K==(1:Int)&&!decide (Z5 (Z9 h (l.getD n X)).1<=Zb h.C)))=Y->(0:Int)<=i/\(Z Z0.dv h.P)[i.toNat]?=O (h.P.getD i.toNat X).dv)/\((h.P.getD i.toNat X).K==(1:Int)&&!decide (Z5 (Z9 h (l.getD n X)).1<=Zb h.C)||(h.P.getD i.toNat X).K==(2:Int)&&(Z9 h (l.getD n X)).1.K==(0:Int))=Y/\Y=Y/\(0:Int)<=(n:Int)/\(Z wdv l)[(n:Int).toNat]?=O (wdv (l.getD n X))) ?_ kr kr kr;exact⟨(by simp only[List.length_map]),(by(simp only[bs];omega)),rfl,(by exact Zl oq oq oq),(@Nj (h) (l.getD n X) aa oq),(@I8 ((Z9 h (l.getD n X)).1) aa),(@Nl (h.C)),(by exact Zl oq oq oq),(by intro f;(try simp only[bs]at f);exact Zl oq oq oq),(by(simp only[bs];omega)),rfl,(by exact Zl oq oq oq)⟩
omit b hl c d a in
theorem Zbk:CP (Zm f192 0) (DF h i l l.length).st (.ext 0) (Tg.st ⟨tm 61 [(6,u64 0)],[],60⟩):=by exact sF [] [] (FO 13 14 wdv l Fz)
end
def Oa{l:List Int}{f:Int->Bool}(h:l.find? f=La):∀n,n<l.length->f (l.getD n X)=M:=by intro n a;have:=Li.1 h (l.getD n X) (Be.2 ⟨n,a,rfl⟩);simpa using this
def Ap{f:Int->Bool}:∀{l:List Int} {x:Int},l.find? f=O x->∃n,n<l.length/\l.getD n X=x/\f x=Y/\∀m,m<n->f (l.getD m X)=M
 |[],x,h=>by simp at h
 |a::l,x,h=>by
  rw[List.find?_cons]at h;split at h
  .rename_i b;cases h;exact⟨0,by simp,rfl,b,λm g=>by omega⟩
  .rename_i b;obtain⟨n,h1,c,d,e⟩:=Ap h;refine⟨n+1,by simp;omega,by simpa using c,d,λm g=>?_⟩;cases m with|zero=>simpa using b|succ m=>simpa using e m oq
def Zjz(h:Heap)(i:Int)(l:List Int)(f:Zy h.W)(hl:l.length<=1048576)(c:0<=i/\i<h.P.length)(d:h.P.length<=1048576)(e:∀x∈l,0<=x/\x<=8192)(b:l.find? (Gk h i)=La) :CP (Zi f192 0) (Tg.st ⟨tm 61 [(1,int i),(2,Z3 l),(3,.pt 8003 0 0),(6,u64 0),(7,int 0)],[(8003,.box 28 h.cells)],60⟩) .nrm (Tg.st ⟨tm 61 [(6,u64 0)],[],60⟩):=
 Bs (S:=λn=>(DF h i l n).st) l.length kr (λn a=>Z7G h i l n f hl c d e a (Oa b n a)) (Zbk h i l)
def Zl4(h:Heap)(i:Int)(l:List Int)(x:Int)(d:Zy h.W)(hl:l.length<=1048576)(a:0<=i/\i<h.P.length)(b:h.P.length<=1048576)(c:∀x∈l,0<=x/\x<=8192)(k:l.find? (Gk h i)=O x) :CP (Zi f192 0) (Tg.st ⟨tm 61 [(1,int i),(2,Z3 l),(3,.pt 8003 0 0),(6,u64 0),(7,int 0)],[(8003,.box 28 h.cells)],60⟩) .ret (Tg.st ⟨tm 61 [(6,u64 x)],[],60⟩):=by obtain⟨n,e,f,g,j⟩:=Ap k;subst f;exact G5 (S:=λn=>(DF h i l n).st) n kr (λm o=>Z7G h i l m d hl a b c oq (j m o)) (Zjh h i l n d hl a b c e g)
def Z3D(h:Heap)(i:Int)(l:List Int)(hw:Zy h.W)(hl:l.length<=1048576)(hp:h.P.length<=1048576)(hi:0<=i/\i<h.P.length)(hr:∀x∈l,0<=x/\x<=8192):GP 192 [h.av,int i,Z3 l] Y (u64 (Cq h i l)) []:=by
 cases hf:l.find? (Gk h i)with
 |none =>
  have a:Cq h i l=0:=by rw[Cq,hf];rfl
  exact gF [] func192 (fO 6) (Fu (@Zjz h i l aa aa aa aa aa aa) (Fa (by rw[a]:0=Cq h i l) Fz))
 |some x =>
  have a:Cq h i l=x:=by rw[Cq,hf];rfl
  exact gF [] func192 (fO 6) (Fu (@Zl4 h i l x aa aa aa aa aa aa) (Fa (by rw[a]:x=Cq h i l) Fz))
def BV(x:Bool):List DV:=[.sc (.bool x)]
def GC(h:Heap)(a:Int):Int:=if(Z9 h a).1.K=0 then 1 else Z5 (Z9 h a).1
def Dl(h:Heap)(i:Int)(a:Int)(o:Nat):Bool:=L (a-4096-i*h.C.pw<=o)&&L ((o:Int)<a-4096-i*h.C.pw+GC h a)
def Cu(h:Heap)(i:Int)(l:List Int):List Bool:=(Lc h.C.pw.toNat).map λo=>l.any λa=>Dl h i a o
def Et(h:Heap)(i:Int)(l:List Int)(a:Int)(w:Nat):List Bool:=(Lc h.C.pw.toNat).map λ(o:Nat)=>(l.any λa=>Dl h i a o)||(L (a-4096-i*h.C.pw<=o)&&L ((o:Int)<a-4096-i*h.C.pw+w))
def Z5a(h:Heap) i l a w:(Et h i l a w).length=h.C.pw.toNat:=by simp[Et]
def ZaW(h:Heap) i l a:Et h i l a 0=Cu h i l:=by
 unfold Et Cu;refine Lr λo _=>?_;have:(L (a-4096-i*h.C.pw<=(o:Int))&&L ((o:Int)<a-4096-i*h.C.pw+(0:Nat)))=M:=by(rw[Bool.and_eq_false_iff];simp;omega)
 rw[this,Bool.or_false]
def Ziv{h:Heap}{i:Int}{l}{a:Int}{w:Nat}(hh:¬ (0<=a-4096+w-i*h.C.pw/\a-4096+w-i*h.C.pw<h.C.pw)):Et h i l a (w+1)=Et h i l a w:=by unfold Et;refine Lr λo b=>?_;have b:=Lf.1 b;congr 1;rw[Ln];simp;omega
def Zhh{h:Heap}{i:Int}{l}{a:Int}{w:Nat}(hh:0<=a-4096+w-i*h.C.pw/\a-4096+w-i*h.C.pw<h.C.pw):(Et h i l a w).set (a-4096+w-i*h.C.pw).toNat Y=Et h i l a (w+1):=by
 apply List.ext_getElem?;intro j;rw[List.getElem?_set,Z5a];unfold Et;by_cases b:j<h.C.pw.toNat
 rw[Ll,Ll,List.getElem?_range b,LG,LG];by_cases c:(a-4096+w-i*h.C.pw).toNat=j;rw[if_pos c,if_pos oq];congr 1;symm;rw[Bool.or_eq_true];right;rw[Lg,decide_eq_true_eq,decide_eq_true_eq];omega;rw[if_neg c];congr 2;rw[Ln,Lg,Lg,decide_eq_true_eq,decide_eq_true_eq,decide_eq_true_eq];omega;rw[if_neg oq,Ll,Ll,List.getElem?_eq_none qo];rfl
def Zka{h i l a}(hn:0<=GC h a):Et h i l a (GC h a).toNat=Cu h i (l++[a]):=by unfold Et Cu;refine Lr λo _=>?_;rw[List.any_append];congr 1;simp[Dl];rw[Ln];simp;omega
def ZbI(h:Heap) i:Cu h i []=Lk h.C.pw.toNat M:=by unfold Cu;simp[List.map_const']
def TQ(h:Heap)(i:Int)(l:List Int)(k:Nat):Tg:=⟨tm 69 [(1,int i),(2,Z3 l),(3,.pt 8003 0 0),(7,.ow 16017),(8,int k)],[(16017,.arr 4 1 ((Cu h i (l.take k)).map BV)),(8003,.box 28 h.cells)],60⟩
def TM(h:Heap)(i:Int)(l m:List Int)(k:Nat)(n:Int)(w:Nat):Tg:=⟨tm 69 [(1,int i),(2,Z3 m),(3,.pt 8003 0 0),(7,.ow 16017),(8,int k),(11,int n),(12,int w)],[(16017,.arr 4 1 ((Et h i l (m.getD k X) w).map BV)),(8003,.box 28 h.cells)],60⟩
def ZfS(h:Heap)(i:Int)(l m:List Int)(k:Nat)(n:Int)(w:Nat)(q:Z8 h=Y)(hm:m.length<=1048576)(p:0<=i/\i<h.P.length)(hr:0<=m.getD k X/\m.getD k X<=8192)(hk:k<m.length)(hn:n<=256)(hw:w<n):CP (Zm f219 2) (TM h i l m k n w).st .nrm (TM h i l m k n (w+1)).st:=by have r:=B4 q;have ap:=HV r.1 p.1 oq;have g:=Z5a h i l (m.getD k X) w;by_cases f:0<=m.getD k X-4096+w-i*h.C.pw/\m.getD k X-4096+w-i*h.C.pw<h.C.pw;have e:=Zhh (l:=l) f;let b:=m.getD k X-4096+(w:Int)-i*h.C.pw;let a:=Et h i l (m.getD k X) w;let j:=0<=m.getD k X-4096+(w:Int)-i*h.C.pw;let d:=a.set b.toNat Y;exact sF [] (fO 11) (Fh 10067 [.els (Z BV d)] (Ftb 40 (L ((w:Int)<n)) (Fek 45 wdv m (↑k) k (Fi 47 (m.getD k X) (Fi 48 (m.getD k X-4096) (Fi 50 (m.getD k X-4096+(w:Int)) (Fi 55 (i*h.C.pw) (Fi 56 b (FlG 62 (decide j) BV a (Ftb 64 (decide j&&L (m.getD k X-4096+(w:Int)-i*h.C.pw<(a.length:Int))) (Fa (by grind[]:0<=m.getD k X-4096+(w:Int)-i*h.C.pw/\b.toNat<(Z BV a).length) (Fa (by grind[]:b.toNat<(Z BV a).length) (Fa (by rw[Ls];rfl:(Z BV a).set b.toNat [DV.sc (Value.bool Y)]=Z BV d) (Fx 42 w (Fr (4:Int) (Fa (by refine congrArg _ ?_;exact e:Z BV d=Z BV (Et h i l (m.getD k X) (w+1))) Fz))))))))))))))));have e:=Ziv (l:=l) f;let c:=m.getD k X;let o:=0<=m.getD k X-4096+(w:Int)-i*h.C.pw;exact sF [] (fO 11) (Ftb 40 (L ((w:Int)<n)) (Fek 45 wdv m (↑k) k (Fi 47 c (Fi 48 (m.getD k X-4096) (Fi 50 (m.getD k X-4096+(w:Int)) (Fi 55 (i*h.C.pw) (Fi 56 (m.getD k X-4096+(w:Int)-i*h.C.pw) (FlG 62 (decide o) BV (Et h i l c w) (Ffb 64 (decide o&&L (m.getD k X-4096+(w:Int)-i*h.C.pw<(↑(Et h i l c w).length:Int))) (Fx 42 w (Fr (4:Int) (Fa (by refine congrArg _ ?_;rw[e]:Z BV (Et h i l c w)=Z BV (Et h i l c (w+1))) Fz))))))))))))
def Zhn(h:Heap) i l m k(n:Int)(w:Nat)(hn:n<=w):CP (Zm f219 2) (TM h i l m k n w).st (.ext 2) (Tg.st ⟨tm 69 [(1,int i),(2,Z3 m),(3,.pt 8003 0 0),(7,.ow 16017),(8,int k)],[(16017,.arr 4 1 ((Et h i l (m.getD k X) w).map BV)),(8003,.box 28 h.cells)],60⟩):=by exact sF [] [] (Ffb 40 (L ((w:Int)<n)) Fz)
def Z95(h:Heap)(i:Int)(m:List Int)(k:Nat)(n:Int)(g:Z8 h=Y)(e:m.length<=1048576)(d:0<=i/\i<h.P.length)(j:0<=m.getD k X/\m.getD k X<=8192)(a:k<m.length)(f:0<=n/\n<=256)(c:n=GC h (m.getD k X)):CP (Zi f219 2) (Tg.st ⟨tm 69 [(1,int i),(2,Z3 m),(3,.pt 8003 0 0),(7,.ow 16017),(8,int k),(11,int n),(12,int 0)],[(16017,.arr 4 1 ((Cu h i (m.take k)).map BV)),(8003,.box 28 h.cells)],60⟩) .nrm (Tg.st ⟨tm 69 [(1,int i),(2,Z3 m),(3,.pt 8003 0 0),(7,.ow 16017),(8,int k)],[(16017,.arr 4 1 ((Cu h i (m.take (k+1))).map BV)),(8003,.box 28 h.cells)],60⟩):=by
 have:=Bs (S:=λw=>(TM h i (m.take k) m k n w).st) n.toNat kr (λw hw=>ZfS h i (m.take k) m k n w g e d j a f.2 oq) (Zhn h i (m.take k) m k n n.toNat oq);have b:Et h i (m.take k) (m.getD k X) n.toNat=Cu h i (m.take (k+1)):=by(rw[TY a,c];exact Zka oq)
 rw[b]at this;simp only[TM,ZaW]at this;exact this
def ZkI(h:Heap)(i:Int)(l:List Int)(k:Nat)(g:Zy h.W)(d:Z8 h=Y)(hl:l.length<=1048576)(hi:0<=i/\i<h.P.length)(f:∀x∈l,0<=x/\x<=8192)(c:k<l.length):CP (Zm f219 0) (TQ h i l k).st .nrm (TQ h i l (k+1)).st:=by
 have po:=B4 d;have hx:=f (l.getD k X) (Be.2 ⟨k,c,rfl⟩);have hm:=IB g (l.getD k X);have hs:=HZ (Z9 h (l.getD k X)).1;by_cases b:(Z9 h (l.getD k X)).1.K=0;have e:GC h (l.getD k X)=1:=by rw[GC,if_pos b]
 exact sF [] [] (FN 20 21 28 wdv l k (Fc 30 (@Nj h (l.getD k X) aa oq) (Fc 34 (@I8 ((Z9 h (l.getD k X)).1) aa) (Ftb 37 ((Z9 h (l.getD k X)).1.K==0) (Fu (@Z95 h i l k (1) aa aa aa aa aa oq oq) (Fx 23 k Fz))))));have e:GC h (l.getD k X)=Z5 (Z9 h (l.getD k X)).1:=by rw[GC,if_neg b]
 let a:=l.getD k X;exact sF [] [] (FN 20 21 28 wdv l k (Fc 30 (@Nj h a aa oq) (Fc 34 (@I8 ((Z9 h a).1) aa) (Ffb 37 ((Z9 h a).1.K==0) (Fu (@Z95 h i l k (Z5 (Z9 h a).1) aa aa aa aa aa aa oq) (Fx 23 k Fz))))))
def Zjs(h:Heap) i l:CP (Zm f219 0) (TQ h i l l.length).st (.ext 0) (Tg.st ⟨tm 69 [(7,.ow 16017)],[(16017,.arr 4 1 ((Cu h i l).map BV))],60⟩):=by have e:l.take l.length=l:=LF;exact sF [] [M,Y] (FO 20 21 wdv l (Fr (4:Int) (Fa (by refine congrArg _ ?_;rw[e]:Z BV (Cu h i (Ld l.length l))=Z BV (Cu h i l)) Fz)))
def ZgJ(h:Heap)(i:Int)(l:List Int)(e:Zy h.W)(c:Z8 h=Y)(hl:l.length<=1048576)(a:0<=i/\i<h.P.length)(d:∀x∈l,0<=x/\x<=8192):CP (Zi f219 0) (Tg.st ⟨tm 69 [(1,int i),(2,Z3 l),(3,.pt 8003 0 0),(7,.ow 16017),(8,int 0)],[(16017,.arr 4 1 ((Lk h.C.pw.toNat M).map BV)),(8003,.box 28 h.cells)],60⟩) .nrm (Tg.st ⟨tm 69 [(7,.ow 16017)],[(16017,.arr 4 1 ((Cu h i l).map BV))],60⟩):=by have:=Bs (S:=λk=>(TQ h i l k).st) l.length kr (λk b=>ZkI h i l k e c hl a d b) (Zjs h i l);simp only[TQ,List.take_zero,ZbI]at this;exact this
def Z5R(h:Heap)(i:Int)(l:List Int)(hw:Zy h.W)(a:Z8 h=Y)(hl:l.length<=1048576)(hi:0<=i/\i<h.P.length)(hr:∀x∈l,0<=x/\x<=8192):GP 219 [h.av,int i,Z3 l] M (.d (.sl 1 ((Cu h i l).map BV))) []:=by have po:=B4 a;exact gF [] func219 [] (Fh 17 [.els (Z BV (Lk h.C.pw.toNat M))] (Fb (0<=h.C.pw/\h.C.pw<=h.C.pw/\h.C.pw*((↑(nat_lit 0):Int)+1)<=2^48) (Fa (by rw[List.map_replicate];rfl:Lk h.C.pw.toNat [DV.sc (Value.bool M)]=Z BV (Lk h.C.pw.toNat M)) (Fu (@ZgJ h i l aa aa aa aa aa) Fz))))
def CL(h:Heap)(i:Nat):List Bool:=Cu h i (Zd h (ZY h.P i:Nat)).1
def Tt(h:Heap) i:(CL h i).length=h.C.pw.toNat:=by simp[CL,Cu]
def Z2t l:∀i,ZY l i<=i
 |0=>Nat.le_refl _
 |i+1=>by
  have:=Z2t l i;unfold ZY;split<;>omega
def AY(h:Heap)(i:Nat)(u:List Bool)(k:Nat):Tg:=⟨tm 43 [(1,int i),(2,.pt 8002 0 0),(4,u64 0),(7,.d (.sl 1 (u.map BV))),(8,int k)],[(8002,.box 28 h.cells)],60⟩
section
variable (h:Heap) (i:Nat) (u:List Bool) (k:Nat) (a:Z8 h=Y) (b:i<h.P.length) (c:u.length<=64)
include a b c
theorem Z5H(hk:k<u.length)(d:u.getD k X=Y\/Gs h i k=0):CP (Zm f193 0) (AY h i u k).st .nrm (AY h i u (k+1)).st:=by have po:=B4 a;rcases d with d|d;exact sF [] [] (FN 23 24 29 BV u k (FcG 36 (!u.getD k X) (λe=>by(try simp only[bs]at e);exact@Z2S h ((i:Int)) ((k:Int)) aa) (Ffs 38 (!u.getD k X&&Gs h (i:Int) (k:Int) != 0) (Fx 26 k Fz))));exact sF [] [] (FN 23 24 29 BV u k (FcG 36 (!u.getD k X) (λe=>by(try simp only[bs]at e);exact@Z2S h ((i:Int)) ((k:Int)) aa) (Ffb 38 (!u.getD k X&&Gs h (i:Int) (k:Int) != 0) (Fx 26 k Fz))))
theorem Zbl(hk:k<u.length)(d:u.getD k X=M/\¬ Gs h i k=0):CP (Zm f193 0) (AY h i u k).st .ret (Tg.st ⟨tm 43 [(4,u64 (4096+i*h.C.pw+k))],[],60⟩):=by have po:=B4 a;obtain⟨e,f⟩:=d;exact sF [] [] (FN 23 24 29 BV u k (FcG 36 (!u.getD k X) (λg=>by(try simp only[bs]at g);exact@Z2S h ((i:Int)) ((k:Int)) aa) (Fts 38 (!u.getD k X&&Gs h (i:Int) (k:Int) != 0) (Fc 42 (@Zc7 h ((i:Int)) ((k:Int)) aa oq oq) Fz))))
omit a b c in
theorem Zjc:CP (Zm f193 0) (AY h i u u.length).st (.ext 0) (Tg.st ⟨tm 43 [(4,u64 0)],[],60⟩):=by exact sF [] [] (FO 23 24 BV u Fz)
end
def Hw(h:Heap)(i:Nat)(u:List Bool)(k:Nat):Bool:=!u.getD k X&&L (Gs h i k≠0)
def Es(h:Heap)(i:Nat)(u:List Bool):Int:=match (Lc u.length).find? (Hw h i u)with|O k=>4096+i*h.C.pw+k|La=>0
def ZiJ(h:Heap)(i:Nat)(u:List Bool)(d:Z8 h=Y)(c:i<h.P.length)(e:u.length<=64)(b:(Lc u.length).find? (Hw h i u)=La) :CP (Zi f193 0) (Tg.st ⟨tm 43 [(1,int i),(2,.pt 8002 0 0),(4,u64 0),(7,.d (.sl 1 (u.map BV))),(8,int 0)],[(8002,.box 28 h.cells)],60⟩) .nrm (Tg.st ⟨tm 43 [(4,u64 0)],[],60⟩):=by
 refine Bs (S:=λk=>(AY h i u k).st) u.length kr (λk a=>Z5H h i u k d c e a ?_) (Zjc h i u);have:=Li.1 b k (Lf.2 a);simp only[Hw,bs]at this;cases hb:u.getD k X with|true=>exact .inl rfl|false =>rw[hb]at this;exact .inr (by simpa using this)
def ZgG(h:Heap)(i:Nat)(u:List Bool)(k:Nat)(d:Z8 h=Y)(c:i<h.P.length)(e:u.length<=64)(g:(Lc u.length).find? (Hw h i u)=O k) :CP (Zi f193 0) (Tg.st ⟨tm 43 [(1,int i),(2,.pt 8002 0 0),(4,u64 0),(7,.d (.sl 1 (u.map BV))),(8,int 0)],[(8002,.box 28 h.cells)],60⟩) .ret (Tg.st ⟨tm 43 [(4,u64 (4096+i*h.C.pw+k))],[],60⟩):=by
 obtain⟨a,b,f⟩:=Lj.1 g;have b:=Lf.1 b;refine G5 (S:=λk=>(AY h i u k).st) k kr (λm j=>Z5H h i u m d c e oq ?_) (Zbl h i u k d c e b ?_);have:=f m j;simp only[Hw,bs]at this;cases hb:u.getD m X with|true=>exact .inl rfl|false =>rw[hb]at this;exact .inr (by simpa using this)
 simp only[Hw,bs]at a;exact⟨a.1,a.2⟩
def Z5k(h:Heap)(i:Nat)(hw:Zy h.W)(d:Z8 h=Y)(hi:i<h.P.length):GP 193 [h.av,int i] Y (u64 (Es h i (CL h i))) []:=by
 have po:=B4 d;have hh:=Z2t h.P i;have hn:=R2 h (ZY h.P i:Nat);have hr:=Ao d (ZY h.P i:Nat);have e:=Tt h i;unfold CL at e⊢;cases hf:(Lc (Cu h i (Zd h (ZY h.P i:Nat)).1).length).find? (Hw h i (Cu h i (Zd h (ZY h.P i:Nat)).1))with
 |none =>
  have a:Es h i (Cu h i (Zd h (ZY h.P i:Nat)).1)=0:=by rw[Es,hf]
  let b:=Zd h (↑(ZY h.P i):Int);exact gF [] func193 (fO 6) (Fc 13 (@Z5X h i aa aa) (Fc 14 (@SJ h ((↑(ZY h.P i):Int)) aa) (Fc 20 (@Z5R h ((i:Int)) (b.1) aa aa oq oq aa) (Fu (@ZiJ h i (Cu h (i:Int) b.1) aa aa oq aa) (Fa (by rw[a]:0=Es h i (Cu h (i:Int) b.1)) Fz)))))
 |some k =>
  have a:Es h i (Cu h i (Zd h (ZY h.P i:Nat)).1)=4096+i*h.C.pw+k:=by rw[Es,hf]
  let c:=Zd h (↑(ZY h.P i):Int);exact gF [] func193 (fO 6) (Fc 13 (@Z5X h i aa aa) (Fc 14 (@SJ h ((↑(ZY h.P i):Int)) aa) (Fc 20 (@Z5R h ((i:Int)) (c.1) aa aa oq oq aa) (Fu (@ZgG h i (Cu h (i:Int) c.1) k aa aa oq aa) (Fa (by rw[a]:4096+(i:Int)*h.C.pw+(k:Int)=Es h i (Cu h (i:Int) c.1)) Fz)))))
structure Cc where
 fault:Int
 page:Int
 addr:Int
 deriving DecidableEq,Inhabited
def Cc.av(f:Cc):AV:=.ag [int f.fault,int f.page,u64 f.addr]
def pageF(h:Heap)(i:Nat):Cc:=
 if(h.P.getD i X).K≠0/\(h.P.getD i X).S≠h.S then⟨2,i,0⟩
 else if(Zd h (i:Int)).2≠0 then⟨3,i,0⟩
 else if Cq h (i:Int) (Zd h (i:Int)).1≠0 then⟨5,i,Cq h (i:Int) (Zd h (i:Int)).1⟩
 else if Es h i (CL h i)≠0 then⟨4,i,Es h i (CL h i)⟩else⟨0,0,0⟩
def Z56(h:Heap)(i:Nat)(hw:Zy h.W)(n:Z8 h=Y)(hi:i<h.P.length):GP 145 [h.av,int i] Y (pageF h i).av []:=by have po:=B4 n;have hn:=R2 h (i:Int);have hr:=Ao n (i:Int);have j {h_ c_ p_} (b:Fq h_ c_ p_):=Fek 12 Z0.dv h.P (↑i) i (FeG 20 ((h.P.getD i X).K != 0) Z0.dv h.P (↑i) i b);rcases bb ((h.P.getD i X).K != 0&&(h.P.getD i X).S != h.S)with hc0|hc0<;>have a:=hc0<;>simp only[bs]at a;obtain⟨f,g⟩:=a;rw[show pageF h i=Cc.mk (2:Int) (i:Int) (0:Int)from by(simp only[pageF] ;exact sj)];exact gF [] func145 [] (j (Ft 26 hc0 Fz));have k {h_ c_ p_} (b:Fq h_ c_ p_):=j (Ff 26 hc0 (Fc 32 (@SJ h ((i:Int)) aa) b));rcases bb ((Zd h (i:Int)).2 != 0)with hc1|hc1<;>have c:=hc1<;>simp only[bs]at c;rw[show pageF h i=Cc.mk (3:Int) (i:Int) (0:Int)from by(simp only[pageF] ;exact sj)];exact gF [] func145 [] (k (Ft 36 hc1 Fz));have l {h_ c_ p_} (b:Fq h_ c_ p_):=k (Ff 36 hc1 (Fc 42 (@Z3D h ((i:Int)) ((Zd h (i:Int)).1) aa oq oq oq aa) b));rcases bb (Cq h (i:Int) (Zd h (i:Int)).1 != 0)with hc2|hc2<;>have d:=hc2<;>simp only[bs]at d;rw[show pageF h i=Cc.mk (5:Int) (i:Int) (Cq h (i:Int) (Zd h (i:Int)).1)from by(simp only[pageF] ;exact sj)];exact gF [] func145 [] (l (Ft 44 hc2 Fz));have m {h_ c_ p_} (b:Fq h_ c_ p_):=l (Ff 44 hc2 (Fc 50 (@Z5k h i aa aa aa) b));rcases bb (Es h i (CL h i) != 0)with hc3|hc3<;>have e:=hc3<;>simp only[bs]at e;rw[show pageF h i=Cc.mk (4:Int) (i:Int) (Es h i (CL h i))from by(simp only[pageF] ;exact sj)];exact gF [] func145 [] (m (Ft 52 hc3 Fz));rw[show pageF h i=Cc.mk (0:Int) (0:Int) (0:Int)from by(simp only[pageF] ;exact sj)];exact gF [] func145 [] (m (Ff 52 hc3 Fz))
def DX(h:Heap)(a:List Int)(i:Nat):Tg:=⟨tm 89 [(1,.pt 8001 0 0),(2,.pt 8002 0 0),(3,Z3 a),(5,int i)],[(8002,.box 148 [int 0,int 0,u64 0]),(8001,.box 28 h.cells)],60⟩
def IW(c:Zw)(b a:List Int)(k:Nat):Bool:=Bl c k&&L (b.getD k X≠0)&&!decide (b.getD k X∈a)
def AL(h:Heap)(a c:List Int)(b:Zw)(i k:Nat):Tg:=⟨tm 89 [(1,.pt 8001 0 0),(2,.pt 8002 0 0),(3,Z3 a),(5,int i),(6,.pt 488006 0 0),(8,Z3 c),(10,int k)],[(488006,.box 52 [int b.K,int b.length,u32 b.map]),(8002,.box 148 [int 0,int 0,u64 0]),(8001,.box 28 h.cells)],64⟩
section
variable (h:Heap) (a b:List Int) (c:Zw) (i k:Nat) (f:0<=c.map/\c.map<=4294967295) (hl:a.length<=1048576) (d:b.length<=4096) (g:0<=a.getD i X/\a.getD i X<=8192) (e:i<a.length)
include f hl d g e
theorem Z90(hk:k<b.length)(j:IW c b a k=M):CP (Zm f146 2) (AL h a b c i k).st .nrm (AL h a b c i (k+1)).st:=by simp only[IW,bs]at j;rcases j with(j|j)|j;let m:=Bl c (k:Int)&&b.getD k X != 0;exact sF [] [] (FM 46 47 wdv b k (Fc 52 (@NL c ((k:Int)) aa) (FeG 56 (Bl c (k:Int)) wdv b (↑k) k (FeG 64 m wdv b (↑k) k (FcG 66 m (λl=>by(try simp only[bs]at l);exact@CN a (b.getD k X) aa) (Ffs 68 (Bl c (k:Int)&&b.getD k X != 0&&!decide (b.getD k X∈a)) (Fx 49 k Fz)))))));let n:=Bl c (k:Int)&&b.getD k X != 0;exact sF [] [] (FM 46 47 wdv b k (Fc 52 (@NL c ((k:Int)) aa) (FeG 56 (Bl c (k:Int)) wdv b (↑k) k (FeG 64 n wdv b (↑k) k (FcG 66 n (λl=>by(try simp only[bs]at l);exact@CN a (b.getD k X) aa) (Ffb 68 (Bl c (k:Int)&&b.getD k X != 0&&!decide (b.getD k X∈a)) (Fx 49 k Fz)))))));let o:=Bl c (k:Int)&&b.getD k X != 0;exact sF [] [] (FM 46 47 wdv b k (Fc 52 (@NL c ((k:Int)) aa) (FeG 56 (Bl c (k:Int)) wdv b (↑k) k (FeG 64 o wdv b (↑k) k (FcG 66 o (λl=>by(try simp only[bs]at l);exact@CN a (b.getD k X) aa) (Ffs 68 (Bl c (k:Int)&&b.getD k X != 0&&!decide (b.getD k X∈a)) (Fx 49 k Fz)))))))
theorem ZgL(hk:k<b.length)(j:IW c b a k=Y):CP (Zm f146 2) (AL h a b c i k).st .ret (Tg.st ⟨tm 89 [(2,.pt 8002 0 0)],[(8002,.box 148 [int 6,int (Z2 h.C (a.getD i X+1+k)).1,u64 (a.getD i X+1+k)])],64⟩):=by simp only[IW,bs]at j;obtain⟨⟨m,n⟩,o⟩:=j;let l:=Bl c (k:Int)&&b.getD k X != 0;exact sF [] [] (FM 46 47 wdv b k (Fc 52 (@NL c ((k:Int)) aa) (FeG 56 (Bl c (k:Int)) wdv b (↑k) k (FeG 64 l wdv b (↑k) k (FcG 66 l (λp=>by(try simp only[bs]at p);exact@CN a (b.getD k X) aa) (Fts 68 (Bl c (k:Int)&&b.getD k X != 0&&!decide (b.getD k X∈a)) (Fek 71 wdv a (↑i) i (Fv 73 (a.getD i X+1) (Fv 75 (↑k) (Fv 76 (a.getD i X+1+(k:Int)) (Fc 81 (@Hn h.C (a.getD i X+1+(k:Int)) oq oq) Fz)))))))))))
omit f hl d g e in
theorem ZgC:CP (Zm f146 2) (AL h a b c i b.length).st (.ext 2) (Tg.st ⟨tm 89 [(1,.pt 8001 0 0),(2,.pt 8002 0 0),(3,Z3 a),(5,int i)],[(8002,.box 148 [int 0,int 0,u64 0]),(8001,.box 28 h.cells)],64⟩):=by exact sF [] [] (FO 46 47 wdv b Fz)
end
section
variable (h:Heap) (a b:List Int) (c:Zw) (i:Nat) (f:0<=c.map/\c.map<=4294967295) (hl:a.length<=1048576) (d:b.length<=4096) (g:0<=a.getD i X/\a.getD i X<=8192) (e:i<a.length)
include f hl d g e
theorem Zdq(l:(Lc b.length).find? (IW c b a)=La):CP (Zi f146 2) (AL h a b c i 0).st .nrm (Tg.st ⟨tm 89 [(1,.pt 8001 0 0),(2,.pt 8002 0 0),(3,Z3 a),(5,int i)],[(8002,.box 148 [int 0,int 0,u64 0]),(8001,.box 28 h.cells)],64⟩):=by refine Bs (S:=λk=>(AL h a b c i k).st) b.length kr (λk j=>Z90 h a b c i k f hl d g e j ?_) (ZgC h a b c i);have:=Li.1 l k (Lf.2 j);simpa using this
theorem ZhJ(k:Nat)(p:(Lc b.length).find? (IW c b a)=O k):CP (Zi f146 2) (Tg.st ⟨tm 89 [(1,.pt 8001 0 0),(2,.pt 8002 0 0),(3,Z3 a),(5,int i),(6,.pt 488006 0 0),(8,Z3 b),(10,int 0)],[(488006,.box 52 [int c.K,int c.length,u32 c.map]),(8002,.box 148 [int 0,int 0,u64 0]),(8001,.box 28 h.cells)],64⟩) .ret (Tg.st ⟨tm 89 [(2,.pt 8002 0 0)],[(8002,.box 148 [int 6,int (Z2 h.C (a.getD i X+1+k)).1,u64 (a.getD i X+1+k)])],64⟩):=by obtain⟨n,j,o⟩:=Lj.1 p;have j:=Lf.1 j;refine G5 (S:=λk=>(AL h a b c i k).st) k kr (λm l=>Z90 h a b c i m f hl d g e oq ?_) (ZgL h a b c i k f hl d g e j n);have:=o m l;simpa using this
end
def ON(h:Heap) a:(BW h a).1.length<=4096:=by unfold BW;split;rename_i e;have po:=B4 (NA e).2.2.1;have:=Z5G h.W (a+1) (Zs h a).1.length;omega;simp
def HA(h:Heap)(a:List Int)(i:Nat):Option Nat:=(Lc (BW h (a.getD i X)).1.length).find? (IW (Zs h (a.getD i X)).1 (BW h (a.getD i X)).1 a)
section
variable (h:Heap) (a:List Int) (i:Nat) (b:Zy h.W) (hl:a.length<=1048576) (hr:0<=a.getD i X/\a.getD i X<=8192) (hi:i<a.length)
include b hl hr hi
theorem Z8g(d:HA h a i=La):CP (Zm f146 0) (DX h a i).st .nrm (DX h a (i+1)).st:=by have hm:=OU b (a.getD i X);have hf:(BW h (a.getD i X)).1.length<=4096:=ON h _;unfold HA at d;let c:=a.getD i X;exact sF [] [] (FN 22 23 30 wdv a i (Fc 32 (@Nf h c aa oq) (Fek 39 wdv a (↑i) i (Fc 41 (@Z3F h c aa oq) (Fu (@Zdq h a ((BW h c).1) ((Zs h c).1) i aa aa aa aa aa aa) (Fx 25 i Fz))))))
theorem Zk1(k:Nat)(d:HA h a i=O k):CP (Zm f146 0) (DX h a i).st .ret (Tg.st ⟨tm 89 [(2,.pt 8002 0 0)],[(8002,.box 148 [int 6,int (Z2 h.C (a.getD i X+1+k)).1,u64 (a.getD i X+1+k)])],60⟩):=by have hm:=OU b (a.getD i X);have hf:(BW h (a.getD i X)).1.length<=4096:=ON h _;unfold HA at d;let c:=a.getD i X;exact sF [] [] (FN 22 23 30 wdv a i (Fc 32 (@Nf h c aa oq) (Fek 39 wdv a (↑i) i (Fc 41 (@Z3F h c aa oq) (Fu (@ZhJ h a ((BW h c).1) ((Zs h c).1) i aa aa aa aa aa k aa) Fz)))))
end
def ZjH(h:Heap) a:CP (Zm f146 0) (DX h a a.length).st (.ext 0) (Tg.st ⟨tm 89 [(2,.pt 8002 0 0)],[(8002,.box 148 [int 0,int 0,u64 0])],60⟩):=by exact sF [] [] (FO 22 23 wdv a Fz)
def EG(h:Heap)(a:List Int):Cc:=
 match (Lc a.length).find? (λi=>(HA h a i).isSome)with|none=>⟨0,0,0⟩|some i=>⟨6,(Z2 h.C (a.getD i X+1+((HA h a i).getD 0:Nat))).1,a.getD i X+1+((HA h a i).getD 0:Nat)⟩
section
variable (h:Heap) (a:List Int) (c:Zy h.W) (hl:a.length<=1048576) (b:∀x∈a,0<=x/\x<=8192)
include c hl b
theorem Zl2(e:(Lc a.length).find? (λi=>(HA h a i).isSome)=La):CP (Zi f146 0) (DX h a 0).st .nrm (Tg.st ⟨tm 89 [(2,.pt 8002 0 0)],[(8002,.box 148 [int 0,int 0,u64 0])],60⟩):=by refine Bs (S:=λk=>(DX h a k).st) a.length kr (λk d=>Z8g h a k c hl (b _ (Be.2 ⟨k,d,rfl⟩)) d ?_) (ZjH h a);have:=Li.1 e k (Lf.2 d);simpa using this
theorem ZfA(i k:Nat)(j:(Lc a.length).find? (λi=>(HA h a i).isSome)=O i)(e:HA h a i=O k):CP (Zi f146 0) (Tg.st ⟨tm 89 [(1,.pt 8001 0 0),(2,.pt 8002 0 0),(3,Z3 a),(5,int 0)],[(8002,.box 148 [int 0,int 0,u64 0]),(8001,.box 28 h.cells)],60⟩) .ret (Tg.st ⟨tm 89 [(2,.pt 8002 0 0)],[(8002,.box 148 [int 6,int (Z2 h.C (a.getD i X+1+k)).1,u64 (a.getD i X+1+k)])],60⟩):=by obtain⟨h1,d,g⟩:=Lj.1 j;have d:=Lf.1 d;refine G5 (S:=λk=>(DX h a k).st) i kr (λm f=>Z8g h a m c hl (b _ (Be.2 ⟨m,by omega,rfl⟩)) oq ?_) (Zk1 h a i c hl (b _ (Be.2 ⟨i,d,rfl⟩)) d k e);have:=g m f;simpa using this
end
def Z0E(h:Heap)(hw:Zy h.W):GP 146 [h.av] Y (EG h (Zq h).1).av []:=by
 have hl:=RA h;have hr:=Ma h;cases hb:(Lc (Zq h).1.length).find? (λi=>(HA h (Zq h).1 i).isSome)with
 |none =>
  have e:EG h (Zq h).1=⟨0,0,0⟩:=by simp only[EG,hb]
  rw[e];exact gF [] func146 [] (Fc 17 (@Df h aa) (Fu (@Zl2 h ((Zq h).1) aa oq aa aa) Fz))
 |some i =>
  have a:=(Lj.1 hb).1;obtain⟨k,b⟩:=Option.isSome_iff_exists.1 a;have e:EG h (Zq h).1=⟨6,(Z2 h.C ((Zq h).1.getD i X+1+(k:Nat))).1,(Zq h).1.getD i X+1+(k:Nat)⟩:=by simp only[EG,hb,b,Option.getD_some]
  rw[e];exact gF [] func146 [] (Fc 17 (@Df h aa) (Fu (@ZfA h ((Zq h).1) aa oq aa i k aa aa) Fz))
def Zha(h:Heap)(hw:Zy h.W)(hp:Z8 h=M):GP 89 [h.av] Y (Cc.mk 1 0 0).av []:=by exact gF [] func89 [] (Fc 9 (@CJ h) (Ftb 10 (!Z8 h) Fz))
def DK(h:Heap)(i:Nat):Tg:=⟨tm 65 [(1,.pt 8001 0 0),(2,.pt 8002 0 0),(3,int i)],[(8002,.box 148 [int 0,int 0,u64 0]),(8001,.box 28 h.cells)],60⟩
section
variable (h:Heap) (i:Nat) (hw:Zy h.W) (a:Z8 h=Y)
include hw a
theorem Z4p(hi:i<h.P.length)(hb:(pageF h i).fault=0):CP (Zm f89 0) (DK h i).st .nrm (DK h (i+1)).st:=by have po:=B4 a;exact sF [] [] (FM 15 16 Z0.dv h.P i (Fc 21 (@Z56 h i aa aa aa) (Ffb 24 ((pageF h i).fault != 0) (Fx 18 i Fz))))
theorem ZkC(hi:i<h.P.length)(hb:(pageF h i).fault≠0):CP (Zm f89 0) (DK h i).st .ret (Tg.st ⟨tm 65 [(2,.pt 8002 0 0)],[(8002,.box 148 [int (pageF h i).fault,int (pageF h i).page,u64 (pageF h i).addr])],60⟩):=by have po:=B4 a;exact sF [] [] (FM 15 16 Z0.dv h.P i (Fc 21 (@Z56 h i aa aa aa) (Ftb 24 ((pageF h i).fault != 0) Fz)))
end
def ZiM(h:Heap)(a:Z8 h=Y):CP (Zm f89 0) (DK h h.P.length).st (.ext 0) (Tg.st ⟨tm 65 [(1,.pt 8001 0 0),(2,.pt 8002 0 0)],[(8002,.box 148 [int 0,int 0,u64 0]),(8001,.box 28 h.cells)],60⟩):=by have po:=B4 a;exact sF [] [] (FO 15 16 Z0.dv h.P Fz)
def Gv(h:Heap):Option Nat:=(Lc h.P.length).find? (λi=>L ((pageF h i).fault≠0))
section
variable (h:Heap) (b:Zy h.W) (a:Z8 h=Y)
include b a
theorem Z3c(d:Gv h=La):CP (Zi f89 0) (DK h 0).st .nrm (Tg.st ⟨tm 65 [(1,.pt 8001 0 0),(2,.pt 8002 0 0)],[(8002,.box 148 [int 0,int 0,u64 0]),(8001,.box 28 h.cells)],60⟩):=by refine Bs (S:=λk=>(DK h k).st) h.P.length kr (λk c=>Z4p h k b a c ?_) (ZiM h a);have:=Li.1 d k (Lf.2 c);simpa using this
theorem ZaM(i:Nat)(g:Gv h=O i):CP (Zi f89 0) (Tg.st ⟨tm 65 [(1,.pt 8001 0 0),(2,.pt 8002 0 0),(3,int 0)],[(8002,.box 148 [int 0,int 0,u64 0]),(8001,.box 28 h.cells)],60⟩) .ret (Tg.st ⟨tm 65 [(2,.pt 8002 0 0)],[(8002,.box 148 [int (pageF h i).fault,int (pageF h i).page,u64 (pageF h i).addr])],60⟩):=by obtain⟨e,c,f⟩:=Lj.1 g;have c:=Lf.1 c;refine G5 (S:=λk=>(DK h k).st) i kr (λm d=>Z4p h m b a oq ?_) (ZkC h i b a c (by simpa using e));have:=f m d;simpa using this
end
def ZbB(h:Heap)(hw:Zy h.W)(hp:Z8 h=Y)(i:Nat)(hb:Gv h=O i):GP 89 [h.av] Y (pageF h i).av []:=by exact gF [] func89 [] (Fc 9 (@CJ h) (Ffb 10 (!Z8 h) (Fu (@ZaM h aa aa i aa) Fz)))
def Zl5(h:Heap)(hw:Zy h.W)(hp:Z8 h=Y)(hb:Gv h=La)(hq:(EG h (Zq h).1).fault≠0):GP 89 [h.av] Y (EG h (Zq h).1).av []:=by exact gF [] func89 [] (Fc 9 (@CJ h) (Ffb 10 (!Z8 h) (Fu (@Z3c h aa aa aa) (Fc 27 (@Z0E h aa) (Ftb 30 ((EG h (Zq h).1).fault != 0) Fz)))))
end Go.Proofs.YtgedmeaemofdkaaGreat
