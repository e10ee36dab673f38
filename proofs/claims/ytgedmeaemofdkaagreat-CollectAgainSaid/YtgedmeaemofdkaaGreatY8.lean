/-
 The statement CollectAgain: part 8.
 Conditions: none.
-/
import Derived.Test.YtgedmeaemofdkaaGreatY7
set_option maxRecDepth 100000
set_option maxHeartbeats 2000000
set_option linter.all false
open Inhabited renaming default->X
open Bool renaming true->Y,false->M,and_eq_true->Lg,eq_false_or_eq_true->Lm,eq_iff_iff->Ln
open List renaming map->Z,range->Lc,take->Ld,filter->Le,mem_range->Lf,find?_eq_none->Li,find?_range_eq_some->Lj,replicate->Lk,getElem?_map->Ll,append_nil->Lp,getD->Lq,map_congr_left->Lr,map_set->Ls,append_assoc->Lw,filter_append->Lx,filter_cons->Ly,filter_nil->Lz,length_filter_le->LA,map_append->LB,map_drop->LC,map_take->LD,take_length->LF
open Decidable renaming decide->L
open Option renaming some->O,none->La,map_eq_some_iff->Lt,map_some->LG
open Int renaming toNat->Lb,fdiv_eq_ediv_of_nonneg->Lo
open Go.IntKind renaming u64->Lh,i64->Lu,u32->Lv
open Go.Proofs.Tryz
namespace Go.Proofs.YtgedmeaemofdkaaGreat
open Go.Sx
def BG(h:Heap)(n k:Int):Heap×Int×Bool:=
 if 0<=first h.P k/\Cq h.P+k<=E9 h.C then(⟨h.C,h.W,(GZ h.C h.P (first h.P k) h.S n).1,h.S,h.B⟩,4096+first h.P k*h.C.pw,Y)else(B9,0,M)
def Z7B(h:Heap)(n k:Int)(q:Z9 h=Y)(hk:k=need h.C n)(l:1<=k):GP 167 [h.av,nI n,nI k] M (.tu [(BG h n k).1.av,uU (BG h n k).2.1,bL (BG h n k).2.2]) []:=by
 have r:=B5 q;obtain⟨g,o2,o3,o4,o5,o6,o7,o8,o9⟩:=r;have hr:=Z1N h.P k;have c:0<=first h.P k->first h.P k+k<=h.P.length:=λi=>(Io i).2.1
 have j:=Z8x h.P;have m:=Z81 g;have p:=Di h.C n;have o:0<=first h.P k->0<=first h.P k*h.C.pw/\first h.P k*h.C.pw+h.C.pw<=4096:=λf=>Ih g f (by have:=c f;omega)
 by_cases a:0<=first h.P k/\Cq h.P+k<=E9 h.C
 have b:BG h n k=(⟨h.C,h.W,(GZ h.C h.P (first h.P k) h.S n).1,h.S,h.B⟩,4096+first h.P k*h.C.pw,Y):=by rw[BG,if_pos a]
 rw[show BG h n k=(Heap.mk h.C h.W (GZ h.C h.P (first h.P k) h.S n).1 h.S h.B,(4096:Int)+first h.P k*h.C.pw,Y)from by rw[b]];let d:=!decide (first h.P k<0);exact gF [] func167 []<|Fc 13 (@Mc h.P k oq)<|FcG 19 d (λa=>by(try simp only[bs]at a);exact@MR h.P oq)<|FiG 21 d ((↑(Cq h.P):Int)+k)<|FcG 24 d (λa=>by(try simp only[bs]at a);exact@TV h.C)<|Ffb 26 (L (first h.P k<0)||L (E9 h.C<(↑(Cq h.P):Int)+k))<|Fc 37 (@Zhm h.C h.P (first h.P k) h.S n oq)<|Fi 46 (first h.P k*h.C.pw)<|Fi 47 (4096+first h.P k*h.C.pw)<|Fv 48 (4096+first h.P k*h.C.pw) Fz;have b:BG h n k=(B9,0,M):=by rw[BG,if_neg a]
 rw[b];let e:=!decide (first h.P k<0);exact gF [] func167 []<|Fc 13 (@Mc h.P k oq)<|FcG 19 e (λa=>by(try simp only[bs]at a);exact@MR h.P oq)<|FiG 21 e ((↑(Cq h.P):Int)+k)<|FcG 24 e (λa=>by(try simp only[bs]at a);exact@TV h.C)<|Ftb 26 (L (first h.P k<0)||L (E9 h.C<(↑(Cq h.P):Int)+k))<|Fnl (Fnl Fz)
def Zdu{h:Heap}{n:Int}(g:Z9 h=Y)(hn:1<=n/\n<=256):0<=(Bm h n).2.1/\(Bm h n).2.1<=8192/\((Bm h n).2.2=Y->(Bm h n).1.W=h.W/\4096<=(Bm h n).2.1)/\((Bm h n).2.2=M->(Bm h n).1=B9):=by
 obtain⟨m,o2,o3,o4,o5,o6,o7,o8,q⟩:=B5 g;have hb:=(Iy.1 g).2.2.2.2.1;have i:=λp=>Ew g (j:=h.B.toNat) p;have a:=λc=>Ri (h:=h) q c;have d:0<=h.B->0<=h.B*h.C.pw/\h.B*h.C.pw+h.C.pw<=4096:=λb=>Ih m b oq;have f:0<=first h.P 1->0<=first h.P 1*h.C.pw/\first h.P 1*h.C.pw+h.C.pw<=4096:=λb=>Ih m b (by have:=a b;omega)
 unfold Bm;split;rename_i c;unfold N6 at c;have o:=d c.1;have k:=i oq;refine⟨by simp only;omega,by simp only;omega,λ_=>⟨rfl,by simp only;omega⟩,λe=>by cases e⟩;split;rename_i l;have o:=f l.1;have k:=congrArg Z0.U (a l.1).2.2.2;simp only at k;refine⟨by simp only;omega,by simp only;omega,λ_=>⟨rfl,by simp only;omega⟩,λe=>by cases e⟩;exact⟨by simp,by simp,(λe=>nomatch e),λ_=>rfl⟩
def Zhn{h:Heap}{n k}(b:Z9 h=Y):0<=(BG h n k).2.1/\(BG h n k).2.1<=8192/\((BG h n k).2.2=Y->(BG h n k).1.W=h.W/\4096<=(BG h n k).2.1)/\((BG h n k).2.2=M->(BG h n k).1=B9):=by obtain⟨d,o2,o3,o4,o5,o6,o7,o8,o9⟩:=B5 b;unfold BG;split;rename_i a;have h3:=(Io a.1);have h1:=Ih (c:=h.C) (i:=first h.P k) d a.1 oq;exact⟨by simp only;omega,by simp only;omega,λ_=>⟨rfl,by simp only;omega⟩,λe=>by cases e⟩;exact⟨by simp,by simp,(λe=>nomatch e),λ_=>rfl⟩
def Cw(h:Heap)(a:Zy):Heap×Int×Bool:=if 0<need h.C (Z5 a)then BG h (Z5 a) (need h.C (Z5 a))else Bm h (Z5 a)
def B2(h:Heap)(a:Zy):Heap×Int×Int:=
 if Z9 h=Y/\G6 h.C a=Y then(if(Cw h a).2.2=Y then((BR (Cw h a).1 (Cw h a).2.1 a).1,(Cw h a).2.1,0)else(B9,0,3))else(B9,0,1)
def Mn:Zw []:=λw h=>by simp at h
def TN{c}{a:Zy}(h:G6 c a=Y):ZX a=Y/\1<=Z5 a/\Z5 a<=256/\0<=need c (Z5 a)/\a.K≠0:=by
 simp only[G6,Lg,decide_eq_true_eq]at h;have hv:=GB.1 h.1.1;have hn:=Di c (Z5 a);have hs:Z5 a=a.length+1:=by rw[Z5,if_pos h.1.1]
 exact⟨h.1.1,by omega,by omega,by omega,h.1.2⟩
def ZaI(h:Heap)(a:Zy)(p:Zw h.W)(hm:0<=a.map/\a.map<=4294967295):GP 114 [h.av,a.av] M (.tu [(B2 h a).1.av,uU (B2 h a).2.1,nI (B2 h a).2.2]) []:=by
 by_cases f:Z9 h=Y;cases ha:G6 h.C a with
 |false =>
  have b:B2 h a=(B9,0,1):=by rw[B2,if_neg (by rw[ha];simp)]
  rw[b];exact gF [] func114 []<|Fc 13 (@CC h)<|FcG 19 (!!Z9 h) (λd=>by(try simp only[bs]at d);exact@Mb h.C a aa)<|Fts 21 (!Z9 h||!G6 h.C a)<|Fnl (Fnl Fz)
 |true =>
  obtain⟨a1,q,r,a4,a5⟩:=TN ha;have l:=Zdu f ⟨q,r⟩;have m:=Zhn (n:=Z5 a) (k:=need h.C (Z5 a)) f;have w1:Zw (Bm h (Z5 a)).1.W:=by
   cases e:(Bm h (Z5 a)).2.2 with|true=>rw[(l.2.2.1 e).1];exact p|false=>rw[l.2.2.2 e];exact Mn
  have w2:Zw (BG h (Z5 a) (need h.C (Z5 a))).1.W:=by
   cases e:(BG h (Z5 a) (need h.C (Z5 a))).2.2 with|true=>rw[(m.2.2.1 e).1];exact p|false=>rw[m.2.2.2 e];exact Mn
  by_cases o:0<need h.C (Z5 a);have b:Cw h a=BG h (Z5 a) (need h.C (Z5 a)):=by rw[Cw,if_pos o]
  have i {h_ c_ p_} (g:Fq h_ c_ p_):=Fc 13 (@CC h)<|FcG 19 (!!Z9 h) (λd=>by(try simp only[bs]at d);exact@Mb h.C a aa)<|Ffs 21 (!Z9 h||!G6 h.C a)<|Fc 24 (@IF a aa)<|Fc 28 (@Sn h.C (Z5 a))<|Fc 32 (@Z0W h (Z5 a) aa oq)<|Ftb 37 (L (0<need h.C (Z5 a)))<|Fc 42 (@Z7B h (Z5 a) (need h.C (Z5 a)) aa (by rfl) aa) g;rcases bb (!(BG h (Z5 a) (need h.C (Z5 a))).2.2)with hc0|hc0<;>have c:=hc0<;>simp only[bs]at c;exact gF [] func114 (fO 5) (i (Ft 47 hc0<|Fnl (Fnl (Fa (by simp[B2,b,B9, *]:0=(B2 h a).1.C.pw)<|Fa (by simp[B2,b,B9, *]:0=(B2 h a).1.C.pg)<|Fa (by simp[B2,b,B9, *]:[]=Z wD (B2 h a).1.W)<|Fa (by simp[B2,b,B9, *]:[]=Z Z0.dv (B2 h a).1.P)<|Fa (by simp[B2,b,B9, *]:0=(B2 h a).1.S)<|Fa (by simp[B2,b,B9, *]:0=(B2 h a).1.B)<|Fa (by simp[B2,b,B9, *]:0=(B2 h a).2.1)<|Fa (by simp[B2,b,B9, *]:3=(B2 h a).2.2) Fz))));rw[show B2 h a=((BR (BG h (Z5 a) (need h.C (Z5 a))).1 (BG h (Z5 a) (need h.C (Z5 a))).2.1 a).1,(BG h (Z5 a) (need h.C (Z5 a))).2.1,(0:Int))from by simp[B2,b,B9, *]];exact gF [] func114 [] (i (Ff 47 hc0<|Fc 53 (@Z7T ((BG h (Z5 a) (need h.C (Z5 a))).1) ((BG h (Z5 a) (need h.C (Z5 a))).2.1) a aa oq aa) Fz));have b:Cw h a=Bm h (Z5 a):=by rw[Cw,if_neg o]
  have j {h_ c_ p_} (g:Fq h_ c_ p_):=Fc 13 (@CC h)<|FcG 19 (!!Z9 h) (λd=>by(try simp only[bs]at d);exact@Mb h.C a aa)<|Ffs 21 (!Z9 h||!G6 h.C a)<|Fc 24 (@IF a aa)<|Fc 28 (@Sn h.C (Z5 a))<|Fc 32 (@Z0W h (Z5 a) aa oq)<|Ffb 37 (L (0<need h.C (Z5 a))) g;rcases bb (!(Bm h (Z5 a)).2.2)with hc0|hc0<;>have c:=hc0<;>simp only[bs]at c;exact gF [] func114 (fO 5) (j (Ft 47 hc0<|Fnl (Fnl (Fa (by simp[B2,b,B9, *]:0=(B2 h a).1.C.pw)<|Fa (by simp[B2,b,B9, *]:0=(B2 h a).1.C.pg)<|Fa (by simp[B2,b,B9, *]:[]=Z wD (B2 h a).1.W)<|Fa (by simp[B2,b,B9, *]:[]=Z Z0.dv (B2 h a).1.P)<|Fa (by simp[B2,b,B9, *]:0=(B2 h a).1.S)<|Fa (by simp[B2,b,B9, *]:0=(B2 h a).1.B)<|Fa (by simp[B2,b,B9, *]:0=(B2 h a).2.1)<|Fa (by simp[B2,b,B9, *]:3=(B2 h a).2.2) Fz))));rw[show B2 h a=((BR (Bm h (Z5 a)).1 (Bm h (Z5 a)).2.1 a).1,(Bm h (Z5 a)).2.1,(0:Int))from by simp[B2,b,B9, *]];exact gF [] func114 [] (j (Ff 47 hc0<|Fc 53 (@Z7T ((Bm h (Z5 a)).1) ((Bm h (Z5 a)).2.1) a aa oq aa) Fz))
 have s:Z9 h=M:=by simpa using f
 have b:B2 h a=(B9,0,1):=by rw[B2,if_neg (by rw[s];simp)]
 rw[b];exact gF [] func114 []<|Fc 13 (@CC h)<|FcG 19 (!!Z9 h) (λd=>by(try simp only[bs]at d);exact@Mb h.C a aa)<|Fts 21 (!Z9 h||!G6 h.C a)<|Fnl (Fnl Fz)
def SL(h:Zy)(hm:0<=h.map/\h.map<=4294967295):GP 120 [h.av] Y (bL (ZX h)) []:=by
 have hs:=λq=>Z6b (n:=h.length) q;have ho:0<=h.length->h.length<=32->ones h.length=2^h.length.toNat-1:=λh0 h1=>by rw[ones,Nat.min_eq_left oq]
 rcases Lm (L (h.K<(0:Int))||L ((3:Int)<h.K)||L (h.length<(0:Int))||L ((255:Int)<h.length))with hc0|hc0;have a:=hc0;simp only[bs]at a;refine Zc [((20:Nat),[Hint.br Y])] [] [] dd func120 [M,M,M,M,M,M,M,M,M,Y] (φ:=(L (h.K<(0:Int))||L ((3:Int)<h.K)||L (h.length<(0:Int))||L ((255:Int)<h.length))=Y/\Y=Y/\M=ZX h) ?_ kr kr;exact⟨aa,rfl,(by(simp[ZX, *];omega))⟩;have a:=hc0;simp only[bs]at a;obtain⟨⟨⟨c,d⟩,e⟩,f⟩:=a;rcases Lm (h.K==(1:Int))with hc1|hc1;have b:=hc1;simp only[bs]at b;refine Zc [((20:Nat),[Hint.br M]),((23:Nat),[Hint.br Y]),((30:Nat),[Hint.int h.map]),((33:Nat),[Hint.call Y (uU (ones h.length)) []])] [] [] dd func120 [M,M,M,M,M,M,M,M,M,M,M,M,M,M,M,M,Y] (φ:=(L (h.K<(0:Int))||L ((3:Int)<h.K)||L (h.length<(0:Int))||L ((255:Int)<h.length))=M/\M=M/\(h.K==(1:Int))=Y/\Y=Y/\(L (h.length<=(32:Int))=Y->Lh.wrap h.map=h.map)/\(L (h.length<=(32:Int))=Y->GP 170 [nI h.length] Y (uU (ones h.length)) [])/\(L (h.length<=(32:Int))&&L (h.map<=ones h.length))=ZX h) ?_ kr kr;exact⟨aa,rfl,aa,rfl,(by intro g;(try simp only[bs]at g);exact Bt rfl oq oq),(λg=>by(try simp only[bs]at g);exact@RS (h.length)),(by grind[ZX])⟩;have b:=hc1;simp only[bs]at b;refine Zc [((20:Nat),[Hint.br M]),((23:Nat),[Hint.br M])] [] [] dd func120 [M,M,M,M,M,M,M,M,M,Y] (φ:=(L (h.K<(0:Int))||L ((3:Int)<h.K)||L (h.length<(0:Int))||L ((255:Int)<h.length))=M/\M=M/\(h.K==(1:Int))=M/\M=M/\(h.K==h.K&&(h.length==h.length&&h.map==(0:Int)))=ZX h) ?_ kr kr;exact⟨aa,rfl,aa,rfl,(by grind[ZX])⟩
def EZ(h:Zy)(hm:0<=h.map/\h.map<=4294967295):GP 69 [h.av] Y (nI (Z5 h)) []:=by rcases Lm (!ZX h)with hc0|hc0;have a:=hc0;simp only[bs]at a;refine Zc [((4:Nat),[Hint.call Y (bL (ZX h)) []]),((5:Nat),[Hint.br Y])] [] [] dd func69 [Y] (φ:=GP 120 [h.av] Y (bL (ZX h)) []/\(!ZX h)=Y/\Y=Y/\(0:Int)=Z5 h) ?_ kr kr;exact⟨(@SL (h) aa),aa,rfl,(by simp[Z5, *])⟩;have a:=hc0;simp only[bs]at a;have e:=GB.1 a;obtain⟨g,⟨f,⟨d,⟨b,c⟩⟩⟩⟩:=e;refine Zc [((4:Nat),[Hint.call Y (bL (ZX h)) []]),((5:Nat),[Hint.br M]),((8:Nat),[Hint.int (h.length+(1:Int))])] [] [] dd func69 [Y] (φ:=GP 120 [h.av] Y (bL (ZX h)) []/\(!ZX h)=M/\M=M/\Lu.wrap (h.length+(1:Int))=h.length+(1:Int)/\h.length+(1:Int)=Z5 h) ?_ kr kr;exact⟨(@SL (h) aa),aa,rfl,(by exact Zf rfl oq oq),(by simp[Z5, *])⟩
def P0(ws:List Int)(a n:Int)(hw:ws.length<=1048576)(h0:0<=a/\a<=18446744073709551615):GP 169 [Z2 ws,uU a,nI n] Y (.tu [nI (Zt ws a n).1,bL (Zt ws a n).2]) []:=by have e {h_ c_ p_} (f:Fq h_ c_ p_):=FvG 13 (!decide (a<4096)) (a-4096)<|FlG 15 (!decide (a<4096)) wD ws<|FvG 16 (!decide (a<4096)) (↑ws.length) f;rcases bb (L (a<4096)||L ((ws.length:Int)<a-4096))with hc0|hc0<;>have b:=hc0<;>simp only[bs]at b;rw[show Zt ws a n=((0:Int),M)from by(simp[Zt, *];omega)];exact gF [] func169 [] (e (Ft 18 hc0 Fz));obtain⟨c,d⟩:=b;rw[show Zt ws a n=(a-(4096:Int),L (n<=(ws.length:Int)-(a-(4096:Int))))from by(simp[Zt, *];omega)];exact gF [] func169 [] (e (Ff 18 hc0<|Fv 20 (a-4096)<|Fi 21 (a-4096)<|Fl 25 wD ws<|Fi 27 ((ws.length:Int)-(a-4096)) Fz))
def Z9Y(ws:List Int)(a:Int)(hw:ws.length<=1048576)(h0:0<=a/\a<=18446744073709551615):GP 163 [Z2 ws,uU a] Y (.tu [nI (Cj ws a).1,nI (Cj ws a).2]) []:=by have c {h_ c_ p_} (d:Fq h_ c_ p_):=Fc 11 (@P0 ws a (1) aa aa) d;rcases bb (!(Zt ws a 1).2)with hc0|hc0<;>have b:=hc0<;>simp only[bs]at b;rw[show Cj ws a=((0:Int),(2:Int))from by grind[Zt,Cj]];exact gF [] func163 [] (c (Ft 15 hc0 Fz));rw[show Cj ws a=((Zt ws a (1:Int)).1,(0:Int))from by grind[Zt,Cj]];exact gF [] func163 [] (c (Ff 15 hc0 Fz))
def Ml(ws:List Int)(a:Int)(hw:ws.length<=1048576)(h0:0<=a/\a<=18446744073709551615):GP 111 [Z2 ws,uU a] Y (.tu [uU (Z1 ws a).1,nI (Z1 ws a).2]) []:=by rcases bb ((Cj ws a).2 != 0)with hc0|hc0<;>have b:=hc0<;>simp only[bs]at b;have c:=Z9V b;obtain⟨g,h⟩:=c;rw[show Z1 ws a=((0:Int),(Cj ws a).2)from by simp[Z1, *]];exact gF [] func111 []<|Fc 11 (@Z9Y ws a aa aa)<|Ft 15 hc0 Fz;have d:=Z4X b;obtain⟨i,⟨e,f⟩⟩:=d;rw[show Z1 ws a=(ws.getD (Cj ws a).1.toNat X,(0:Int))from by simp[Z1, *]];refine Zc [((11:Nat),[Hint.call Y (AV.tu [nI (Cj ws a).1,nI (Cj ws a).2]) []]),((15:Nat),[Hint.br M]),((19:Nat),[Hint.el (wD (ws.getD (Cj ws a).1.toNat X))])] [] [] dd func111 [] (φ:=GP 163 [Z2 ws,uU a] Y (AV.tu [nI (Cj ws a).1,nI (Cj ws a).2]) []/\((Cj ws a).2 != (0:Int))=M/\M=M/\(0:Int)<=(Cj ws a).1/\(Z wD ws)[(Cj ws a).1.toNat]?=O (wD (ws.getD (Cj ws a).1.toNat X))) ?_ kr kr;exact⟨(@Z9Y (ws) (a) aa aa),aa,rfl,(by exact Zo oq oq oq)⟩
def BF(w:Int):Nat->Int|0=>w|1=>w/4|2=>w/16|3=>w/65536|_=>w/281474976710656
def ZV(w:Int):List Int:=[w%4,w/4%4,w/16%4096,w/65536%4294967296]
def OZ(w:Int)(i:Nat):Tg:=⟨tm 49 [(0,uU w),(1,ZD [2,2,12,32]),(4,.d (.sl 0 [])),(5,nI 0),(6,nI ([64,62,60,48,16].getD i 0)),(12,ZD [2,2,12,32]),(13,nI 4),(14,nI i)],[],20⟩
def ZhH w(i:Nat)(hi:i<4):CP (Zm f201 0) (OZ w i).st .nrm (OZ w (i+1)).st:=by
 have h:i=0\/i=1\/i=2\/i=3:=by omega
 rcases h with rfl|rfl|rfl|rfl;refine Zg [((16:Nat),[Hint.el (iD (2:Int))])] [] [] [] (φ:=(0:Int)<=(↑(0:Nat):Int)/\(Z iD [(2:Int),(2:Int),(12:Int),(32:Int)])[(↑(0:Nat):Int).toNat]?=O (iD (2:Int))) ?_ kr kr kr;exact(by simp[*]);refine Zg [((16:Nat),[Hint.el (iD (2:Int))])] [] [] [] (φ:=(0:Int)<=(↑(1:Nat):Int)/\(Z iD [(2:Int),(2:Int),(12:Int),(32:Int)])[(↑(1:Nat):Int).toNat]?=O (iD (2:Int))) ?_ kr kr kr;exact(by simp[*]);refine Zg [((16:Nat),[Hint.el (iD (12:Int))])] [] [] [] (φ:=(0:Int)<=(↑(2:Nat):Int)/\(Z iD [(2:Int),(2:Int),(12:Int),(32:Int)])[(↑(2:Nat):Int).toNat]?=O (iD (12:Int))) ?_ kr kr kr;exact(by simp[*]);refine Zg [((16:Nat),[Hint.el (iD (32:Int))])] [] [] [] (φ:=(0:Int)<=(↑(3:Nat):Int)/\(Z iD [(2:Int),(2:Int),(12:Int),(32:Int)])[(↑(3:Nat):Int).toNat]?=O (iD (32:Int))) ?_ kr kr kr;exact(by simp[*])
def Zfq w:CP (Zm f201 0) (OZ w 4).st (.ext 0) (Tg.st ⟨tm 49 [(0,uU w),(1,ZD [2,2,12,32]),(4,.d (.sl 0 [])),(5,nI 0)],[],60⟩):=by exact sF [] [] Fz
def Z6w(w:Int)  := Bo (S:=λi=>(OZ w i).st) 4 (by kernel_rfl) (λi a=>ZhH w i a) (Zfq w)
def O5(w:Int)(i:Nat):Tg:=⟨tm 49 [(0,uU (BF w i)),(4,.d (.sl 0 [])),(5,nI 0),(9,.ow 480009),(29,ZD [2,2,12,32]),(30,nI 4),(31,nI i)],[(480009,.arr 35 1 (((ZV w).take i).map wD))],60⟩
def Zbo(w:Int)(i:Nat)(h0:0<=w)(h1:w<=18446744073709551615)(hi:i<4):CP (Zm f201 2) (O5 w i).st .nrm (O5 w (i+1)).st:=by
 have o1:ones 2=3:=by decide
 have o2:ones 12=4095:=by decide
 have o3:ones 32=4294967295:=by decide
 have a0:bits .and .u64 w (ones 2)=w%4:=by rw[o1];exact R7 2 dd dd oq oq
 have a1:bits .and .u64 (w/4) (ones 2)=w/4%4:=by rw[o1];exact R7 2 dd dd oq oq
 have a2:bits .and .u64 (w/16) (ones 12)=w/16%4096:=by rw[o2];exact R7 12 dd dd oq oq
 have a3:bits .and .u64 (w/65536) (ones 32)=w/65536%4294967296:=by rw[o3];exact R7 32 dd dd oq oq
 have f1:(w/4).fdiv 4=w/16:=by rw[Lo _ dd];omega
 have f2:(w/16).fdiv 4096=w/65536:=by rw[Lo _ dd];omega
 have f3:(w/65536).fdiv 4294967296=w/281474976710656:=by rw[Lo _ dd];omega
 have h:i=0\/i=1\/i=2\/i=3:=by omega
 rcases h with rfl|rfl|rfl|rfl;exact sF [(496041,480009)] []<|Fh 33 [.el (iD 2)]<|Fa (by simp[BF,ZV, *]:0<=(↑(0:Nat):Int)/\(Z iD [2,2,12,32])[(↑(0:Nat):Int).toNat]?=O (iD 2))<|Fc 38 (@RS (2))<|Fg 39 (by assumption:bits BinOp.and Lh (BF w 0) (ones (2:Int))=BF w 0%4)<|Fs 40 (Z wD [BF w 0%4])<|Fa (by simp[BF,ZV, *]:(Z wD (Ld 0 (ZV w))).length+(Z wD [BF w 0%4]).length<=2^30)<|Fs 41 (Z wD [BF w 0%4])<|Fg 44 (HP rfl dd:(BF w 0).fdiv (2^min (Lb 2) 64)=BF w 0/4)<|Fo ((0:Int)<=2) Fz;exact sF [(496041,480009)] [Y]<|Fh 33 [.el (iD 2)]<|Fa (by simp[BF,ZV, *]:0<=(↑(1:Nat):Int)/\(Z iD [2,2,12,32])[(↑(1:Nat):Int).toNat]?=O (iD 2))<|Fc 38 (@RS (2))<|Fg 39 (by assumption:bits BinOp.and Lh (BF w 1) (ones (2:Int))=BF w 1%4)<|Fs 40 (Z wD [BF w 1%4])<|Fa (by simp[BF,ZV, *]:(Z wD (Ld 1 (ZV w))).length+(Z wD [BF w 1%4]).length<=2^30)<|Fs 41 (Z wD [w%4,BF w 1%4])<|Fg 44 (HP rfl dd:(BF w 1).fdiv (2^min (Lb 2) 64)=BF w 1/4)<|Fo ((0:Int)<=2)<|Fa (by(simp[BF,ZV, *];omega):BF w 1/4=BF w (1+1)) Fz;exact sF [(496041,480009)] [Y]<|Fh 33 [.el (iD 12)]<|Fa (by simp[BF,ZV, *]:0<=(↑(2:Nat):Int)/\(Z iD [2,2,12,32])[(↑(2:Nat):Int).toNat]?=O (iD 12))<|Fc 38 (@RS (12))<|Fg 39 (by assumption:bits BinOp.and Lh (BF w 2) (ones (12:Int))=BF w 2%4096)<|Fs 40 (Z wD [BF w 2%4096])<|Fa (by simp[BF,ZV, *]:(Z wD (Ld 2 (ZV w))).length+(Z wD [BF w 2%4096]).length<=2^30)<|Fs 41 (Z wD [w%4,w/4%4,BF w 2%4096])<|Fg 44 (HP rfl dd:(BF w 2).fdiv (2^min (Lb 12) 64)=BF w 2/4096)<|Fo ((0:Int)<=12)<|Fa (by(simp[BF,ZV, *];omega):BF w 2/4096=BF w (2+1)) Fz;exact sF [(496041,480009)] [Y]<|Fh 33 [.el (iD 32)]<|Fa (by simp[BF,ZV, *]:0<=(↑(3:Nat):Int)/\(Z iD [2,2,12,32])[(↑(3:Nat):Int).toNat]?=O (iD 32))<|Fc 38 (@RS (32))<|Fg 39 (by assumption:bits BinOp.and Lh (BF w 3) (ones (32:Int))=BF w 3%4294967296)<|Fs 40 (Z wD [BF w 3%4294967296])<|Fa (by simp[BF,ZV, *]:(Z wD (Ld 3 (ZV w))).length+(Z wD [BF w 3%4294967296]).length<=2^30)<|Fs 41 (Z wD [w%4,w/4%4,w/16%4096,BF w 3%4294967296])<|Fg 44 (HP rfl dd:(BF w 3).fdiv (2^min (Lb 32) 64)=BF w 3/4294967296)<|Fo ((0:Int)<=32)<|Fa (by(simp[BF,ZV, *];omega):BF w 3/4294967296=BF w (3+1)) Fz
def Zj6 w:CP (Zm f201 2) (O5 w 4).st (.ext 2) (Tg.st ⟨tm 49 [(0,uU (w/281474976710656)),(4,.d (.sl 0 [])),(5,nI 0),(9,.ow 480009)],[(480009,.arr 35 1 ((ZV w).map wD))],60⟩):=by exact sF [] [] Fz
def Z9W(w:Int)(a:0<=w)(b:w<=18446744073709551615)  := Bo (S:=λi=>(O5 w i).st) 4 (by kernel_rfl) (λi c=>Zbo w i a b c) (Zj6 w)
def Z3S(w:Int)(h0:0<=w)(h1:w<=18446744073709551615)(h:w<281474976710656):GP 201 [uU w,ZD [2,2,12,32]] Y (.tu [Z2 (ZV w),nI 0]) []:=by exact gF [] func201 []<|Fh 9 [.own]<|Fu (@Z6w w)<|Fu (@Z9W w aa aa)<|Ffb 47 (w/(281474976710656:Int) != 0)<|Fa (H9 _:Cf (Z wD (ZV w))) Fz
def Zis(w:Int)(h0:0<=w)(h1:w<=18446744073709551615)(h:¬ w<281474976710656):GP 201 [uU w,ZD [2,2,12,32]] Y (.tu [Z2 [],nI 2]) []:=by exact gF [] func201 []<|Fh 9 [.own]<|Fu (@Z6w w)<|Fu (@Z9W w aa aa)<|Ftb 47 (w/(281474976710656:Int) != 0)<|Fnl Fz
def ZfO(w:Int)(h0:0<=w):Z8 w=if w<281474976710656/\w%4=1/\ZX (G1 w)=Y then(G1 w,Y)else(Ec,M):=by
 have k1:(G1 w).K=w/4%4:=rfl;have k2:(G1 w).length=w/16%4096:=rfl;have k3:(G1 w).map=w/65536%4294967296:=rfl;by_cases hv:ZX (G1 w)=Y;have e:Zx (G1 w)=(1+4*(G1 w).K+16*(G1 w).length+65536*(G1 w).map,0):=by rw[Zx,if_pos hv]
 by_cases hc:w<281474976710656/\w%4=1;rw[Z8,e,if_pos ⟨rfl,by simp only;omega⟩,if_pos ⟨hc.1,hc.2,hv⟩];rw[Z8,e,if_neg (by simp only;omega),if_neg (λq=>hc ⟨q.1,q.2.1⟩)];have e:Zx (G1 w)=(0,1):=by rw[Zx,if_neg hv]
 rw[Z8,e,if_neg pq,if_neg (λq=>hv q.2.2)]
def Hm(w:Int)(h0:0<=w)(h1:w<=18446744073709551615):GP 161 [uU w] Y (.tu [(Z8 w).1.av,bL (Z8 w).2]) []:=by have hm:=Z3B w h0;rw[ZfO w h0];have u0:(ZV w).getD 0 X=w%4:=rfl;have u1:(ZV w).getD 1 X=w/4%4:=rfl;have u2:(ZV w).getD 2 X=w/16%4096:=rfl;have u3:(ZV w).getD 3 X=w/65536%4294967296:=rfl;have uL:(ZV w).length=4:=rfl;have k1:(G1 w).K=w/4%4:=rfl;have k2:(G1 w).length=w/16%4096:=rfl;have k3:(G1 w).map=w/65536%4294967296:=rfl;by_cases ha:w<281474976710656;by_cases hb:w%4=1;by_cases hv:ZX (G1 w)=Y;rw[if_pos ⟨ha,hb,hv⟩];have hv2:ZX ⟨w/4%4,w/16%4096,w/65536%4294967296⟩=Y:=hv;exact gF [] func161 []<|Fh 17 [.el (wD ((ZV w).getD 0 X))]<|Fh 23 [.el (wD ((ZV w).getD 1 X))]<|Fh 27 [.el (wD ((ZV w).getD 2 X))]<|Fh 31 [.el (wD ((ZV w).getD 3 X))]<|Fs 9 (Z iD [2,2,12,32])<|Fc 10 (@Z3S w aa aa aa)<|Fa (by intro hg;(try simp only[bs]at hg);exact Zo oq oq oq:(!(0:Int) != 0)=Y->(0:Int)<=0/\(Z wD (ZV w))[Lb 0]?=O (wD ((ZV w).getD 0 X)))<|Ffb 20 ((ZV w).getD 0 X != 1)<|Fa (Zo oq oq oq:(0:Int)<=1/\(Z wD (ZV w))[Lb 1]?=O (wD ((ZV w).getD 1 X)))<|Fi 25 ((ZV w).getD 1 X)<|Fa (Zo oq oq oq:(0:Int)<=2/\(Z wD (ZV w))[Lb 2]?=O (wD ((ZV w).getD 2 X)))<|Fi 29 ((ZV w).getD 2 X)<|Fa (Zo oq oq oq:(0:Int)<=3/\(Z wD (ZV w))[Lb 3]?=O (wD ((ZV w).getD 3 X)))<|Fg 33 (Z0y oq oq:Lv.wrap ((ZV w).getD 3 X)=(ZV w).getD 3 X)<|Fc 36 (@SL (Zy.mk ((ZV w).getD 1 X) ((ZV w).getD 2 X) ((ZV w).getD 3 X)) aa)<|Ffs 37 (!ZX (Zy.mk ((ZV w).getD 1 X) ((ZV w).getD 2 X) ((ZV w).getD 3 X))) Fz;rw[if_neg (by simp[hv])];have hv':ZX ⟨w/4%4,w/16%4096,w/65536%4294967296⟩=M:=eq_false_of_ne_true hv;exact gF [] func161 []<|Fh 17 [.el (wD ((ZV w).getD 0 X))]<|Fh 23 [.el (wD ((ZV w).getD 1 X))]<|Fh 27 [.el (wD ((ZV w).getD 2 X))]<|Fh 31 [.el (wD ((ZV w).getD 3 X))]<|Fs 9 (Z iD [2,2,12,32])<|Fc 10 (@Z3S w aa aa aa)<|Fa (by intro hg;(try simp only[bs]at hg);exact Zo oq oq oq:(!(0:Int) != 0)=Y->(0:Int)<=0/\(Z wD (ZV w))[Lb 0]?=O (wD ((ZV w).getD 0 X)))<|Ffb 20 ((ZV w).getD 0 X != 1)<|Fa (Zo oq oq oq:(0:Int)<=1/\(Z wD (ZV w))[Lb 1]?=O (wD ((ZV w).getD 1 X)))<|Fi 25 ((ZV w).getD 1 X)<|Fa (Zo oq oq oq:(0:Int)<=2/\(Z wD (ZV w))[Lb 2]?=O (wD ((ZV w).getD 2 X)))<|Fi 29 ((ZV w).getD 2 X)<|Fa (Zo oq oq oq:(0:Int)<=3/\(Z wD (ZV w))[Lb 3]?=O (wD ((ZV w).getD 3 X)))<|Fg 33 (Z0y oq oq:Lv.wrap ((ZV w).getD 3 X)=(ZV w).getD 3 X)<|Fc 36 (@SL (Zy.mk ((ZV w).getD 1 X) ((ZV w).getD 2 X) ((ZV w).getD 3 X)) aa)<|Fts 37 (!ZX (Zy.mk ((ZV w).getD 1 X) ((ZV w).getD 2 X) ((ZV w).getD 3 X))) Fz;rw[if_neg (by simp[hb])];exact gF [] func161 []<|Fh 17 [.el (wD ((ZV w).getD 0 X))]<|Fs 9 (Z iD [2,2,12,32])<|Fc 10 (@Z3S w aa aa aa)<|Fa (by intro hg;(try simp only[bs]at hg);exact Zo oq oq oq:(!(0:Int) != 0)=Y->(0:Int)<=0/\(Z wD (ZV w))[Lb 0]?=O (wD ((ZV w).getD 0 X)))<|Ftb 20 ((ZV w).getD 0 X != 1) Fz;rw[if_neg (by simp[ha])];exact gF [] func161 []<|Fh 17 [.el (wD ([].getD 0 X))]<|Fs 9 (Z iD [2,2,12,32])<|Fc 10 (@Zis w aa aa aa)<|Fa (by intro hg;(try simp only[bs]at hg);exact Zo oq oq oq:(!(2:Int) != 0)=Y->(0:Int)<=0/\(Z wD [])[Lb 0]?=O (wD ([].getD 0 X))) Fz
end Go.Proofs.YtgedmeaemofdkaaGreat
namespace Go.Sx
def Z0X(H:Heap)(x:AV):Option AV:=match x with|.d x=>O (.d x)|.rp e o=>O (.rp e o)|.ow b=>(match Nat.ble 8000 b with|true=>(match H b with|O (.arr _ s els)=>O (.d (.sl s els))|_=>La)|false=>La)|.os b o n=>(match Nat.ble 8000 b with|true=>(match H b with|O (.arr _ s els)=>O (.d (.sl s ((els.drop o).take n)))|_=>La)|false=>La)|_=>La
def ZlD{P f}{e0 e1:List DV}{t0 t1:Nat}{x:Value}(hx:x.oneCell'=Y)(h:GSpec P f [.rp e0 0,.rp e1 0] Y (.d (.sc x)) []) :LentSpec P f [.pt 0 0 0,.pt 1 0 0] [.box t0 (e0.map .d),.box t1 (e1.map .d)] (.d (.sc x)) [.box t0 (e0.map .d),.box t1 (e1.map .d)]:=by
 intro w Im ρ vs a0 a2 hρ a1 c z u;have box:∀(k:Nat) (e:List DV) (t:Nat) (v:Value) (p:Nat->Prop),(∀g,Im g->p g)->(∀β g,ρ k=O β->β.g=O g->p g)->(∃β,ρ k=O β/\RelB ρ w Im β (.box t (e.map .d)))->Zk ρ w Im (.pt k 0 0) v->Zk (λ_=>La) w p (.rp e 0) v:=by
  intro k e t v p hi m hb hv;obtain⟨β,hβ,r⟩:=hb;obtain⟨g,s,n,k1,rfl⟩:=Sw hv rfl;rw[hβ]at k1;cases k1;obtain⟨r1,r2,g2,cs,r3,r4,r5,r6,r7⟩:=r;cases r3;have:=@Zk.rp (λ_=>La) w p e 0 ⟨g,0,La⟩ rfl (m _ _ hβ rfl) (λj y hy=>by
   have hj:j<e.length:=(List.getElem?_eq_some_iff.1 hy).1;have hc:j<cs.size:=by rw[r5];simpa using hj
   have a:cs[j]?=O cs[j]:=Array.getElem?_eq_getElem hc;have l:=r7 j (.d y) cs[j] (by simp[hy]) a;refine⟨cs[j], ?_, ?_⟩;simp only[World.cell?,r4];simpa using a;cases l with
   |d l=>exact l.mono (Ext.refl _ _) hi)
  simpa using this
 refine(h w (λg=>Im g\/∃k β,ρ k=O β/\β.g=O g) vs ?_ a2 ?_).mono ?_;rintro g (m|⟨k,β,a,l⟩);exact a0 g m;exact(c k β g a l).1;intro i y v hy hv;cases i with
 |zero =>simp at hy;subst hy;exact box 0 e0 t0 v _ (λg m=>.inl m) (λβ g a l=>.inr ⟨0,β,a,l⟩) (z 0 _ rfl) (u 0 _ v rfl hv)
 |succ i=>cases i with
  |zero =>
   simp at hy;subst hy;exact box 1 e1 t1 v _ (λg m=>.inl m) (λβ g a l=>.inr ⟨1,β,a,l⟩) (z 1 _ rfl) (u 1 _ v rfl hv)
  |succ i=>simp at hy
 rintro e w' ⟨v,rfl,o,ρ',a3,_,_,_,_,_,_,hr⟩;have hv:=C7 hr;subst hv;have ext:Ext Im w w':=⟨o.size,λg m=>o.block g (a0 g m) (λq=>q),o.rows⟩;refine⟨_,rfl,⟨o.os,o.tape,o.output,o.size,λk a _=>o.block k a (λq=>q),o.rows⟩,ρ,Im,λ_ _ h=>h,hρ,λg m=>.inl m,λg m=>Nat.lt_of_lt_of_le (a0 g m) o.size,
  λk β g a l=>⟨Nat.lt_of_lt_of_le (c k β g a l).1 o.size,.inr ⟨k,β,a,l⟩⟩,λk β g _ a l=>(c k β g a l).2,λk k' β β' g _ _=>a1 k k' β β' g, ?_,.d (.sc _ hx)⟩
 intro k B hB;obtain⟨β,b1,b2⟩:=z k B hB;exact⟨β,b1,b2.mono ext (λ_ h=>h) (λ_ _ h=>h) (λb β g a l=>(c b β g a l).1) (λg m=>o.block g (c k β g b1 m).1 (λq=>q))⟩
def Z3p{P}{f s:Nat}{fr res news}(h:∀(p:Option Addr) (c:Nat),GSpec P f [.d (.sc (.slice p 0 c))] fr res news):GSpec P f [.d (.sl s [])] fr res news:=by
 intro w m g r a y;have h0:g.size=1:=a;obtain⟨v,q⟩:∃v,g[0]?=O v:=⟨g[0]' oq,by simp⟩;have b:∀(p:Option Addr) (c:Nat),v=.slice p 0 c->Calls P f g w λe z=>∃v,e=.returned v/\Rv w m fr res news v z:=λp c e=>by
  refine h p c w m g r a λi x u k o=>?_;match i with|0 =>simp only[List.getElem?_cons_zero,Option.some.injEq]at k;rw[q]at o;cases o;subst k;subst e;exact .d (.sc _ rfl)|i+1=>simp at k
 have j:=y 0 _ v rfl q;cases j with
 |d j =>
  generalize t:([]:List (List DV))=l at j;cases j with|slNil s p c=>exact b p c rfl|sl s els p n c fn a=>subst t;simp at a;subst a;exact b _ c rfl
end Go.Sx
namespace Go.Proofs.YtgedmeaemofdkaaGreat
open Go.Sx
def Heap.dvs(h:Heap):List DV:=[.sc (.int .i64 h.C.pw),.sc (.int .i64 h.C.pg),.sl 1 (h.W.map wD),.sl 4 (h.P.map Z0.dv),.sc (.int .i64 h.S),.sc (.int .i64 h.B)]
def Zeb(h:Heap)(a:Int)(hl:h.W.length<=1048576)(h0:0<=a/\a<=18446744073709551615):GP 160 [.rp [.sc (.int .i64 h.C.pw),.sc (.int .i64 h.C.pg),.sl 1 (h.W.map wD),.sl 4 (h.P.map Z0.dv),.sc (.int .i64 h.S),.sc (.int .i64 h.B)] 0,.rp [.sc (.int .u64 a)] 0] Y (uU (Z1 h.W a).1) []:=by exact gF [] func160 []<|Fc 9 (@Ml h.W a aa aa) Fz
def Nq(h:Heap)(a:Int)(hl:h.W.length<=1048576)(b:0<=a/\a<=18446744073709551615):LP 160 [.pt 0 0 0,.pt 1 0 0] [.box 28 h.cells,.box 35 [uU a]] (uU (Z1 h.W a).1) [.box 28 h.cells,.box 35 [uU a]]:=
 ZlD (e0:=h.dvs) (e1:=[.sc (.int .u64 a)]) rfl (Zeb h a hl b)
def IJ(h:Heap)(a:Int)(hw:Zw h.W)(h0:0<=a/\a<=18446744073709551615):GP 109 [h.av,uU a] Y (.tu [(Z6 h a).1.av,nI (Z6 h a).2]) []:=by
 have r:=ES hw a;have hm:=Nb (Z1 h.W a).1 r.1;by_cases l:Z9 h=Y;have x:=B5 l;by_cases i:(Z4 h.C a).2.2=0;have oo:=GY x.1 i;have hz:(Z8 (Z1 h.W a).1).2=Y->Z5 (Z8 (Z1 h.W a).1).1=(Z8 (Z1 h.W a).1).1.length+1/\0<=(Z8 (Z1 h.W a).1).1.length/\(Z8 (Z1 h.W a).1).1.length<=255:=λe=>by(have r:=Z1P e;have:=GB.1 r;rw[Z5,if_pos r];omega)
 have pp:=Ew l (j:=(Z4 h.C a).1.toNat) oq;by_cases c3:((h.P.getD (Z4 h.C a).1.toNat X).K=1\/(h.P.getD (Z4 h.C a).1.toNat X).K=2)/\(Z4 h.C a).2.1<(h.P.getD (Z4 h.C a).1.toNat X).U/\(Z8 (Z1 h.W a).1).2=Y;have a1:=hz c3.2.2;by_cases c4:((h.P.getD (Z4 h.C a).1.toNat X).K=1/\(h.P.getD (Z4 h.C a).1.toNat X).U<(Z4 h.C a).2.1+Z5 (Z8 (Z1 h.W a).1).1)\/((h.P.getD (Z4 h.C a).1.toNat X).K=2/\((Z4 h.C a).2.1≠0\/Z5 (Z8 (Z1 h.W a).1).1≠(h.P.getD (Z4 h.C a).1.toNat X).U));have g:Z6 h a=(Ec,19):=by rw[Z6,if_pos l,if_pos i,if_pos c3,if_pos c4]
 rw[g];have s {h_ c_ p_} (m:Fq h_ c_ p_):=Fc 15 (@Ei h)<|Ffb 16 (!Z9 h)<|Fc 22 (@GA h.C a oq oq)<|Ffb 27 ((Z4 h.C a).2.2 != 0)<|Fe 34 Z0.dv h.P ((Z4 h.C a).1)<|Fbq 38 [8002,8003] (@Nq h a oq aa)<|Fc 39 (@Hm ((Z1 h.W a).1) oq oq)<|Fc 43 (@EZ ((Z8 (Z1 h.W a).1).1) aa) m;rcases bb (!(Z8 (Z1 h.W a).1).2||L ((h.P.getD (Z4 h.C a).1.toNat X).U<=(Z4 h.C a).2.1))with hc0|hc0<;>have b:=hc0<;>simp only[bs]at b;exact gF [] func109 []<|Fh 44 [.br Y] (s (Fa hc0 Fz));obtain⟨d,f⟩:=b;rcases bb ((h.P.getD (Z4 h.C a).1.toNat X).K==1)with hc1|hc1<;>have c:=hc1<;>simp only[bs]at c;let y:=h.P.getD (Z4 h.C a).1.toNat X;exact gF [] func109 []<|Fh 44 [.br M]<|Fh 76 [.br Y] (s (Fa hc0<|Fa hc1<|Fi 61 (y.U-(Z4 h.C a).2.1)<|Ftb 53 (!decide (Z5 (Z8 (Z1 h.W a).1).1<=y.U-(Z4 h.C a).2.1)) Fz));let z:=h.P.getD (Z4 h.C a).1.toNat X;exact gF [] func109 []<|Fh 44 [.br M]<|Fh 53 [.br M]<|Fh 76 [.br Y] (s (Fa hc0<|Fa hc1<|Fb ((z.K==2)=Y)<|Ftb 63 (!((Z4 h.C a).2.1==0&&Z5 (Z8 (Z1 h.W a).1).1==z.U)) Fz));have g:Z6 h a=((Z8 (Z1 h.W a).1).1,0):=by rw[Z6,if_pos l,if_pos i,if_pos c3,if_neg c4]
 rw[g];have t {h_ c_ p_} (m:Fq h_ c_ p_):=Fc 15 (@Ei h)<|Ffb 16 (!Z9 h)<|Fc 22 (@GA h.C a oq oq)<|Ffb 27 ((Z4 h.C a).2.2 != 0)<|Fe 34 Z0.dv h.P ((Z4 h.C a).1)<|Fbq 38 [8002,8003] (@Nq h a oq aa)<|Fc 39 (@Hm ((Z1 h.W a).1) oq oq)<|Fc 43 (@EZ ((Z8 (Z1 h.W a).1).1) aa) m;rcases bb (!(Z8 (Z1 h.W a).1).2||L ((h.P.getD (Z4 h.C a).1.toNat X).U<=(Z4 h.C a).2.1))with hc0|hc0<;>have b:=hc0<;>simp only[bs]at b;exact gF [] func109 (fO 4)<|Fh 44 [.br Y] (t (Fa hc0<|Fa (by grind[Ec]:0=(Z8 (Z1 h.W a).1).1.K)<|Fa (by grind[Ec]:0=(Z8 (Z1 h.W a).1).1.length)<|Fa (by grind[Ec]:0=(Z8 (Z1 h.W a).1).1.map)<|Fa (by grind[Ec]:(19:Int)=0) Fz));obtain⟨d,f⟩:=b;rcases bb ((h.P.getD (Z4 h.C a).1.toNat X).K==1)with hc1|hc1<;>have c:=hc1<;>simp only[bs]at c;let y2:=h.P.getD (Z4 h.C a).1.toNat X;exact gF [] func109 []<|Fh 53 [.br Y]<|Fh 76 [.br M] (t (Fa hc0<|Fa hc1<|Fi 61 (y2.U-(Z4 h.C a).2.1)<|Ffb 44 (!decide (Z5 (Z8 (Z1 h.W a).1).1<=y2.U-(Z4 h.C a).2.1)) Fz));let y3:=h.P.getD (Z4 h.C a).1.toNat X;exact gF [] func109 []<|Fh 53 [.br M]<|Fh 63 [.br Y]<|Fh 76 [.br M] (t (Fa hc0<|Fa hc1<|Fb ((y3.K==2)=Y)<|Ffb 44 (!((Z4 h.C a).2.1==0&&Z5 (Z8 (Z1 h.W a).1).1==y3.U)) Fz));have g:Z6 h a=(Ec,19):=by rw[Z6,if_pos l,if_pos i,if_neg c3]
 rw[g];have n {h_ c_ p_} (m:Fq h_ c_ p_):=Fc 15 (@Ei h)<|Ffb 16 (!Z9 h)<|Fc 22 (@GA h.C a oq oq)<|Ffb 27 ((Z4 h.C a).2.2 != 0)<|Fe 34 Z0.dv h.P ((Z4 h.C a).1)<|Fbq 38 [8002,8003] (@Nq h a oq aa)<|Fc 39 (@Hm ((Z1 h.W a).1) oq oq)<|Fc 43 (@EZ ((Z8 (Z1 h.W a).1).1) aa) m;rcases bb (!(Z8 (Z1 h.W a).1).2||L ((h.P.getD (Z4 h.C a).1.toNat X).U<=(Z4 h.C a).2.1))with hc0|hc0<;>have b:=hc0<;>simp only[bs]at b;exact gF [] func109 []<|Fh 44 [.br Y] (n (Fa hc0 Fz));obtain⟨d,f⟩:=b;rcases bb ((h.P.getD (Z4 h.C a).1.toNat X).K==1)with hc1|hc1<;>have c:=hc1<;>simp only[bs]at c;have w {h_ c_ p_} (m:Fq h_ c_ p_):=n<|Fa hc0<|Fa hc1<|Fi 61 ((h.P.getD (Z4 h.C a).1.toNat X).U-(Z4 h.C a).2.1) m;rcases bb (!decide (Z5 (Z8 (Z1 h.W a).1).1<=(h.P.getD (Z4 h.C a).1.toNat X).U-(Z4 h.C a).2.1))with hc2|hc2<;>have o:=hc2<;>simp only[bs]at o;exact gF [] func109 []<|Fh 44 [.br M]<|Fh 76 [.br Y] (w (Ft 53 hc2 Fz));rw[show Ec=(Z8 (Z1 h.W a).1).1 from by grind[Ec]];exact gF [] func109 (fO 4)<|Fh 53 [.br Y]<|Fh 76 [.br M] (w (Ff 44 hc2<|Fr ((Z8 (Z1 h.W a).1).1.K)<|Fr ((Z8 (Z1 h.W a).1).1.length)<|Fr ((Z8 (Z1 h.W a).1).1.map)<|Fa (by grind[Ec]:(0:Int)=19) Fz));rcases bb ((h.P.getD (Z4 h.C a).1.toNat X).K==2)with hc3|hc3<;>have p:=hc3<;>simp only[bs]at p;rcases bb (!((Z4 h.C a).2.1==0&&Z5 (Z8 (Z1 h.W a).1).1==(h.P.getD (Z4 h.C a).1.toNat X).U))with hc4|hc4<;>have k:=hc4<;>simp only[bs]at k;exact gF [] func109 []<|Fh 44 [.br M]<|Fh 53 [.br M]<|Fh 76 [.br Y] (n (Fa hc0<|Fa hc1<|Fa hc3<|Ft 63 hc4 Fz));obtain⟨u,v⟩:=k;rw[show Ec=(Z8 (Z1 h.W a).1).1 from by grind[Ec]];exact gF [] func109 (fO 8)<|Fh 53 [.br M]<|Fh 63 [.br Y]<|Fh 76 [.br M] (n (Fa hc0<|Fa hc1<|Fa hc3<|Ff 44 hc4<|Fr ((Z8 (Z1 h.W a).1).1.K)<|Fr ((Z8 (Z1 h.W a).1).1.length)<|Fr ((Z8 (Z1 h.W a).1).1.map)<|Fa (by grind[Ec]:(0:Int)=19) Fz));exact gF [] func109 []<|Fh 44 [.br M]<|Fh 53 [.br M]<|Fh 63 [.br M] (n (Fa hc0<|Fa hc1<|Fa hc3 Fz));have g:Z6 h a=(Ec,2):=by rw[Z6,if_pos l,if_neg i]
 have e2:(Z4 h.C a).2.2=2:=by(unfold Z4 at i⊢;rw[if_pos x.1]at i⊢;split at i;simp at i;rename_i q;rw[if_neg q])
 rw[g];exact gF [] func109 [Y]<|Fc 15 (@Ei h)<|Ffb 16 (!Z9 h)<|Fc 22 (@GA h.C a oq oq)<|Ftb 27 ((Z4 h.C a).2.2 != 0)<|Fr (0:Int)<|Fr (0:Int)<|Fr (0:Int)<|Fa ‹(Z4 h.C a).2.2=2› Fz;have g:Z6 h a=(Ec,1):=by rw[Z6,if_neg l]
 have a0:Z9 h=M:=by simpa using l
 rw[g];exact gF [] func109 []<|Fc 15 (@Ei h)<|Ftb 16 (!Z9 h) Fz
def PK{α β:Type}{f:α->β}{l:List α}(h:l≠[]):l.map f≠[]:=by simpa using h
def Z4G(ws:List Int)(hw:ws.length<=1048576)(hne:ws≠[]):GP 123 [Z2 ws] Y (.ow 0) [.arr 35 1 (ws.map wD)]:=by exact gF [24007] func123 []<|Fa (PK hne:Z wD ws≠[])<|FA 5 7 wD ws<|Fa (H9 _:Cf (Z wD ws)) Fz
def Zmh(l:List Z0)(hl:l.length<=1048576)(hne:l≠[]):GP 124 [B3 l] Y (B3 l) []:=by exact gF [] func124 []<|Fa (PK hne:Z Z0.dv l≠[])<|FA 5 7 Z0.dv l<|Fa (Nn _:Cf (Z Z0.dv l)) Fz
def Da{α:Type}{l:List α}(h:0<l.length):l≠[]:=by rintro rfl;simp at h
def pg(h:Heap)(i:Int):Z0:=h.P.getD i.toNat X
def Be(h:Heap)(i o:Int):Int:=(address h.C i o).1
def Mw{h:Heap}(b:Zu h.C=Y)(i o:Int):0<=Be h i o/\Be h i o<=8192:=by have ha:=I7 b;unfold Be address;rw[if_pos b];split;rename_i a;have a:=Il.1 a;have:=Z0j b a.1 a.2.1 a.2.2.1 a.2.2.2;simp only;omega;simp
def EE(h:Heap)(i:Int):Nat->Int->Option (List Int)|0,_=>O []|f+1,o=>if o<(pg h i).U then(if(Z6 h (Be h i o)).2=0 then(if(pg h i).K=2 then O [Be h i o]else(EE h i f (o+Z5 (Z6 h (Be h i o)).1)).map (Be h i o :: ·))else La)else O []
def Av(h:Heap)(i o:Int)(acc:List Int):Tg:=⟨tm 70 [(1,nI i),(2,.pt 8002 0 0),(4,.d (.sl 0 [])),(5,nI 0),(6,.pt 32006 0 0),(7,.ow 48007),(8,nI o)],
 [(48007,.arr 35 1 (acc.map wD)),(32006,.box 86 [nI (pg h i).K,nI (pg h i).S,nI (pg h i).U,nI (pg h i).N]),(8002,.box 28 h.cells)],60⟩
def Mx(acc:List Int):Tg:=⟨tm 70 [(7,.ow 48007)],[(48007,.arr 35 1 (acc.map wD))],60⟩
section
variable(h:Heap)(i o:Int)(acc:List Int)(b:Zw h.W)(a:Z9 h=Y)(hl:acc.length<=1048576)(c:0<=o/\o<=1000)
include b a hl c
theorem ZfR(h1:o<(pg h i).U)(f:(Z6 h (Be h i o)).2=0)(h3:(pg h i).K≠2):CP (Zm f147 0) (Av h i o acc).st .nrm (Av h i (o+Z5 (Z6 h (Be h i o)).1) (acc++[Be h i o])).st:=by have j:=B5 a;have e:=Mw j.1 i o;have k:=Ip (Z6 h (Be h i o)).1;have g:=Hv b (Be h i o);unfold Be at e k g f;let d:=address h.C i o;exact sF [(512061,48007)] []<|Fh 61 [.els (Z wD (acc++[d.1]))]<|Ftb 41 (L (o<(pg h i).U))<|Fc 47 (@Z0o h.C i o)<|Fc 53 (@Nv h (d.1) aa oq)<|Ffb 57 ((Z6 h d.1).2 != 0)<|Fs 60 (Z wD [d.1])<|Fa (by(simp[Be, *];omega):(Z wD acc).length+(Z wD [d.1]).length<=2^30)<|Fa (by simp[Be,LD,LC,Ls,LB,wD,iD]:Z wD acc++Z wD [d.1]=Z wD (acc++[d.1]))<|Ffb 64 ((pg h i).K==2)<|Fc 67 (@IF ((Z6 h d.1).1) aa)<|Fi 68 (o+Z5 (Z6 h d.1).1) Fz
theorem Zlj(h1:o<(pg h i).U)(f:(Z6 h (Be h i o)).2=0)(h3:(pg h i).K=2):CP (Zm f147 0) (Av h i o acc).st (.ext 0) (Mx (acc++[Be h i o])).st:=by have j:=B5 a;have e:=Mw j.1 i o;have g:=Hv b (Be h i o);unfold Be at e g f;let d:=address h.C i o;exact sF [(512061,48007)] []<|Fh 61 [.els (Z wD (acc++[d.1]))]<|Ftb 41 (L (o<(pg h i).U))<|Fc 47 (@Z0o h.C i o)<|Fc 53 (@Nv h (d.1) aa oq)<|Ffb 57 ((Z6 h d.1).2 != 0)<|Fs 60 (Z wD [d.1])<|Fa (by(simp[Be, *];omega):(Z wD acc).length+(Z wD [d.1]).length<=2^30)<|Fa (by simp[Be,LD,LC,Ls,LB,wD,iD]:Z wD acc++Z wD [d.1]=Z wD (acc++[d.1]))<|Ftb 64 ((pg h i).K==2) Fz
theorem ZcK(h1:o<(pg h i).U)(e:¬ (Z6 h (Be h i o)).2=0):CP (Zm f147 0) (Av h i o acc).st .ret (Tg.st ⟨tm 70 [(4,.d (.sl 0 [])),(5,nI 19)],[],60⟩):=by have f:=B5 a;have d:=Mw f.1 i o;unfold Be at d e;exact sF [] []<|Ftb 41 (L (o<(pg h i).U))<|Fc 47 (@Z0o h.C i o)<|Fc 53 (@Nv h ((address h.C i o).1) aa oq)<|Ftb 57 ((Z6 h (address h.C i o).1).2 != 0) Fz
omit b a hl c in
theorem Z8r(h1:(pg h i).U<=o):CP (Zm f147 0) (Av h i o acc).st (.ext 0) (Mx acc).st:=by exact sF [] []<|Ffb 41 (L (o<(pg h i).U)) Fz
end
def Z35{h a}(e:(Z6 h a).2=0):1<=Z5 (Z6 h a).1:=by have:=Ty e;rw[Z5,if_pos this.2.2.2.2.1];omega
def Z7Y(h:Heap) i(j:Zw h.W)(g:Z9 h=Y)(hu:(pg h i).U<=256):∀(f:Nat) (o:Int) (acc:List Int),(pg h i).U-o<=f->0<=o->o<=1000->(acc.length:Int)+f<=1000 -> (∀l,EE h i f o=O l->Gl prog f147 0 (Av h i o acc).st (.ext 0) (Mx (acc++l)).st) /\ (EE h i f o=La->Gl prog f147 0 (Av h i o acc).st .ret (Tg.st ⟨tm 70 [(4,.d (.sl 0 [])),(5,nI 19)],[],60⟩)):=by
 intro f;induction f with
 |zero =>intro o acc n d p q;refine⟨λl a=>?_,λa=>by cases a⟩;simp only[EE,Option.some.injEq]at a;subst a;rw[Lp];exact .endx (Z8r h i o acc oq)
 |succ f u =>
  intro o acc n d p q;unfold EE;by_cases c:o<(pg h i).U;rw[if_pos c];by_cases b:(Z6 h (Be h i o)).2=0;rw[if_pos b];by_cases e:(pg h i).K=2;rw[if_pos e];refine⟨λl a=>?_,λa=>by cases a⟩;cases a;exact .endx (Zlj h i o acc j g oq ⟨d,by omega⟩ c b e);rw[if_neg e];have hs:=Z35 b;have hb:=Ip (Z6 h (Be h i o)).1;have k:=ZfR h i o acc j g oq ⟨d,by omega⟩ c b e;obtain⟨s,t⟩:=u (o+Z5 (Z6 h (Be h i o)).1) (acc++[Be h i o]) oq oq oq qo;refine⟨λl a=>?_,λa=>?_⟩
  .rw[Lt]at a;obtain⟨m,r,rfl⟩:=a;have:=s m r;rw[Lw]at this;exact .next k this
  .rw[Option.map_eq_none_iff]at a;exact .next k (t a)
  rw[if_neg b];exact⟨λl a=>(by cases a),λ_=>.endr (ZcK h i o acc j g oq ⟨d,by omega⟩ c b)⟩;rw[if_neg c];refine⟨λl a=>?_,λa=>by cases a⟩;cases a;rw[Lp];exact .endx (Z8r h i o acc oq)
def Zg5(h:Heap) i(l:List Int)(c:Zw h.W)(a:Z9 h=Y)(b:(pg h i).U<=256)(hl:EE h i 256 0=O l):CP (Zi f147 0) (Tg.st ⟨tm 70 [(1,nI i),(2,.pt 8002 0 0),(4,.d (.sl 0 [])),(5,nI 0),(6,.pt 32006 0 0),(7,.ow 48007),(8,nI 0)], [(48007,.arr 35 1 []),(32006,.box 86 [nI (h.P.getD i.toNat X).K,nI (h.P.getD i.toNat X).S,nI (h.P.getD i.toNat X).U,nI (h.P.getD i.toNat X).N]),(8002,.box 28 h.cells)],60⟩) .nrm (Mx l).st:=
 ((Z7Y h i c a b 256 0 [] oq oq oq pq).1 l hl).ext kr
def ZjS(h:Heap) i(c:Zw h.W)(a:Z9 h=Y)(b:(pg h i).U<=256)(hl:EE h i 256 0=La):CP (Zi f147 0) (Tg.st ⟨tm 70 [(1,nI i),(2,.pt 8002 0 0),(4,.d (.sl 0 [])),(5,nI 0),(6,.pt 32006 0 0),(7,.ow 48007),(8,nI 0)], [(48007,.arr 35 1 []),(32006,.box 86 [nI (h.P.getD i.toNat X).K,nI (h.P.getD i.toNat X).S,nI (h.P.getD i.toNat X).U,nI (h.P.getD i.toNat X).N]),(8002,.box 28 h.cells)],60⟩) .ret (Tg.st ⟨tm 70 [(4,.d (.sl 0 [])),(5,nI 19)],[],60⟩):=
 ((Z7Y h i c a b 256 0 [] oq oq oq pq).2 hl).ret kr
def Ze(h:Heap)(i:Int):List Int×Int:=
 if Z9 h=Y then(if 0<=i/\i<h.P.length then(if(pg h i).K=0\/(pg h i).K=3 then([],0)else(match EE h i 256 0 with|O l=>(l,0)|La=>([],19)))else([],2))else([],1)
def Aa(h:Heap) i(hw:Zw h.W):GP 147 [h.av,nI i] M (.tu [Z2 (Ze h i).1,nI (Ze h i).2]) []:=by
 cases hp:Z9 h with
 |false =>
  have b:Ze h i=([],1):=by rw[Ze,if_neg (by rw[hp];simp)]
  rw[b];exact gF [] func147 []<|Fc 14 (@CC h)<|Ftb 15 (!Z9 h)<|Fnl Fz
 |true =>
  have po:=B5 hp;by_cases e:0<=i/\i<h.P.length;have m:=Ew hp (j:=i.toNat) oq;have hu:(pg h i).U<=256:=m.2.2.2.2.2.2.2.1;cases hwk:EE h i 256 0 with
  |none =>
   have b:Ze h i=if(h.P.getD i.toNat X).K=0\/(h.P.getD i.toNat X).K=3 then([],0)else([],19):=by rw[Ze,if_pos hp,if_pos e,hwk];rfl
   have g {h_ c_ p_} (f:Fq h_ c_ p_):=Fc 14 (@CC h)<|Ffb 15 (!Z9 h)<|FlG 22 (!decide (i<0)) Z0.dv h.P<|Ffb 24 (L (i<0)||L ((h.P.length:Int)<=i))<|Fe 28 Z0.dv h.P i f;rcases bb ((h.P.getD i.toNat X).K==0||(h.P.getD i.toNat X).K==3)with hc0|hc0<;>have a:=hc0<;>simp only[bs]at a;exact gF [] func147 (fO 8) (g (Ft 37 hc0<|Fnl (Fa (by rw[b,if_pos oq];rfl:[]=Z wD (Ze h i).1)<|Fa (by rw[b,if_pos oq]:0=(Ze h i).2) Fz)));obtain⟨c,d⟩:=a;exact gF [] func147 (fO 18)<|Fh 7 [.own] (g (Ff 37 hc0<|Fu (@ZjS h i aa aa aa aa)<|Fnl (Fa (by rw[b,if_neg oq];rfl:[]=Z wD (Ze h i).1)<|Fa (by rw[b,if_neg oq]:19=(Ze h i).2) Fz)))
  |some l =>
   have b:Ze h i=if(h.P.getD i.toNat X).K=0\/(h.P.getD i.toNat X).K=3 then([],0)else(l,0):=by rw[Ze,if_pos hp,if_pos e,hwk];rfl
   have k {h_ c_ p_} (f:Fq h_ c_ p_):=Fc 14 (@CC h)<|Ffb 15 (!Z9 h)<|FlG 22 (!decide (i<0)) Z0.dv h.P<|Ffb 24 (L (i<0)||L ((h.P.length:Int)<=i))<|Fe 28 Z0.dv h.P i f;rcases bb ((h.P.getD i.toNat X).K==0||(h.P.getD i.toNat X).K==3)with hc0|hc0<;>have a:=hc0<;>simp only[bs]at a;exact gF [] func147 (fO 8) (k (Ft 37 hc0<|Fnl (Fa (by rw[b,if_pos oq];rfl:[]=Z wD (Ze h i).1)<|Fa (by rw[b,if_pos oq]:0=(Ze h i).2) Fz)));obtain⟨c,d⟩:=a;exact gF [] func147 (fO 18)<|Fh 7 [.own] (k (Ff 37 hc0<|Fu (@Zg5 h i l aa aa aa aa)<|Fa (by refine congrArg _ ?_;rw[b,if_neg oq]:Z wD l=Z wD (Ze h i).1)<|Fa (by rw[b,if_neg oq]:0=(Ze h i).2) Fz))
  have b:Ze h i=([],2):=by rw[Ze,if_pos hp,if_neg e]
  rw[b];exact gF [] func147 []<|Fc 14 (@CC h)<|Ffb 15 (!Z9 h)<|FlG 22 (!decide (i<0)) Z0.dv h.P<|Ftb 24 (L (i<0)||L ((h.P.length:Int)<=i))<|Fnl Fz
def DJ(l:List Int)(v:Int)(i:Nat):Tg:=⟨tm 18 [(0,Z2 l),(1,uU v),(4,bL M),(5,nI i)],[],60⟩
def Z9a(l:List Int)(v:Int)(i:Nat)(hl:l.length<=1048576)(hi:i<l.length)(hv:¬ l.getD i X=v):CP (Zm f17 0) (DJ l v i).st .nrm (DJ l v (i+1)).st:=by exact sF [] []<|FN 8 9 14 wD l i<|Ffb 17 (l.getD i X==v)<|Fx 11 i Fz
def ZcR(l:List Int)(v:Int)(i:Nat)(hl:l.length<=1048576)(hi:i<l.length)(hv:l.getD i X=v):CP (Zm f17 0) (DJ l v i).st .ret (Tg.st ⟨tm 18 [(4,bL Y)],[],60⟩):=by exact sF [] []<|FN 8 9 14 wD l i<|Ftb 17 (l.getD i X==v) Fz
def hasEnd l v:CP (Zm f17 0) (DJ l v l.length).st (.ext 0) (Tg.st ⟨tm 18 [],[],60⟩):=by exact sF [] []<|FO 8 9 wD l Fz
theorem ZT{l:List Int}{v:Int}:v∈l↔∃i,i<l.length/\l.getD i X=v:=by rw[List.mem_iff_getElem];constructor;rintro⟨i,h,e⟩;exact⟨i,h,by simp[Lq,h,e]⟩;rintro⟨i,h,e⟩;exact⟨i,h,by simpa[Lq,h]using e⟩
def Zkb(l:List Int)(v:Int)(hl:l.length<=1048576)(h:v∉l)  := Bo (S:=λi=>(DJ l v i).st) l.length (by kernel_rfl) (λi a=>Z9a l v i hl a λe=>h (ZT.2 ⟨i,a,e⟩)) (hasEnd l v)
def Zlk(l:List Int)(v:Int)(hl:l.length<=1048576)(h:v∈l):CP (Zi f17 0) (Tg.st ⟨tm 18 [(0,Z2 l),(1,uU v),(4,bL M),(5,nI 0)],[],60⟩) .ret (Tg.st ⟨tm 18 [(4,bL Y)],[],60⟩):=by obtain⟨i,a,b⟩:=Z33 (ZT.1 h);exact EM (S:=λi=>(DJ l v i).st) i kr (λj hj=>Z9a l v j hl oq λe=>by have:=b j ⟨by omega,e⟩;omega) (ZcR l v i hl a.1 a.2)
def E0(l:List Int) v(hl:l.length<=1048576):GP 17 [Z2 l,uU v] Y (bL (L (v∈l))) []:=by by_cases h:v∈l;rw[decide_eq_true h];exact gF [] func17 []<|Fu (@Zlk l v aa aa) Fz;rw[decide_eq_false h];exact gF [] func17 []<|Fu (@Zkb l v aa aa) Fz
def Z9l{h i}:∀{f:Nat} {o:Int} {l:List Int},EE h i f o=O l->l.length<=f
 |0,o,l,e=>by simp[EE]at e;subst e;simp
 |f+1,o,l,e=>by
  unfold EE at e;split at e
  .split at e
   .split at e
    .cases e;simp
    .rw[Lt]at e;obtain⟨m,a,rfl⟩:=e;have:=Z9l a;simp;omega
   .cases e
  .cases e;simp
def Re(h:Heap) i:(Ze h i).1.length<=256:=by
 unfold Ze;repeat' split
 all_goals first|(simp;done)|(rename_i e;exact Z9l e)
def Cs(h:Heap):Nat->Nat->List Int×Int|0,_=>([],0)|f+1,i=>if(Ze h i).2=0 then(if(Cs h f (i+1)).2=0 then((Ze h i).1++(Cs h f (i+1)).1,0)else([],(Cs h f (i+1)).2))else([],(Ze h i).2)
def CR(h:Heap):List Int×Int:=if Z9 h=Y then Cs h h.P.length 0 else([],1)
def Ds(h:Heap)(i:Nat)(acc:List Int):Tg:=⟨tm 31 [(1,.pt 8001 0 0),(2,.d (.sl 0 [])),(3,nI 0),(4,.ow 24004),(5,nI i)],[(24004,.arr 35 1 (acc.map wD)),(8001,.box 28 h.cells)],60⟩
section
variable(h:Heap)(i:Nat)(acc:List Int)(b:Zw h.W)(hl:h.P.length<=1048576)(a:acc.length<=1048576)
include b hl a
theorem Zki(hi:i<h.P.length)(e:(Ze h i).2=0):CP (Zm f90 0) (Ds h i acc).st .nrm (Ds h (i+1) (acc++(Ze h i).1)).st:=by have hn:=Re h i;exact sF [(504029,24004)] []<|Fh 29 [.els (Z wD (acc++(Ze h (i:Int)).1))]<|FM 14 15 Z0.dv h.P i<|Fc 21 (@Aa h ((i:Int)) aa)<|Ffb 25 ((Ze h (i:Int)).2 != 0)<|Fa (by(simp[*];omega):(Z wD acc).length+(Z wD (Ze h (i:Int)).1).length<=2^30)<|Fa (ms:Z wD acc++Z wD (Ze h (i:Int)).1=Z wD (acc++(Ze h (i:Int)).1))<|Fx 17 i Fz
theorem Zlc(hi:i<h.P.length)(e:¬ (Ze h i).2=0):CP (Zm f90 0) (Ds h i acc).st .ret (Tg.st ⟨tm 31 [(2,.d (.sl 0 [])),(3,nI (Ze h i).2)],[],60⟩):=by exact sF [] []<|FM 14 15 Z0.dv h.P i<|Fc 21 (@Aa h ((i:Int)) aa)<|Ftb 25 ((Ze h (i:Int)).2 != 0) Fz
omit b hl a in
theorem Zhp:CP (Zm f90 0) (Ds h h.P.length acc).st (.ext 0) (Tg.st ⟨tm 31 [(4,.ow 24004)],[(24004,.arr 35 1 (acc.map wD))],60⟩):=by exact sF [] []<|FO 14 15 Z0.dv h.P Fz
end
def Zag(h:Heap)(c:Zw h.W)(hl:h.P.length<=1048576):∀(f i:Nat) (acc:List Int),i+f=h.P.length->acc.length+256*f<=1048576 -> ((Cs h f i).2=0->Gl prog f90 0 (Ds h i acc).st (.ext 0) (Tg.st ⟨tm 31 [(4,.ow 24004)],[(24004,.arr 35 1 ((acc++(Cs h f i).1).map wD))],60⟩)) /\ (¬ (Cs h f i).2=0->Gl prog f90 0 (Ds h i acc).st .ret (Tg.st ⟨tm 31 [(2,.d (.sl 0 [])),(3,nI (Cs h f i).2)],[],60⟩)):=by
 intro f;induction f with
 |zero =>
  intro i acc g _;have:i=h.P.length:=by omega
  subst this;refine⟨λ_=>?_,λe=>absurd rfl e⟩;rw[Cs,Lp];exact .endx (Zhp h acc)
 |succ f l =>
  intro i acc g hb;have hn:=Re h i;unfold Cs;by_cases e:(Ze h i).2=0;rw[if_pos e];have b:=Zki h i acc c hl oq oq e;obtain⟨j,k⟩:=l (i+1) (acc++(Ze h i).1) oq qo;by_cases a:(Cs h f (i+1)).2=0
  .rw[if_pos a];refine⟨λ_=>?_,λe=>absurd rfl e⟩;have:=j a;rw[Lw]at this;exact .next b this
  rw[if_neg a];exact⟨λe=>absurd e a,λ_=>.next b (k a)⟩;rw[if_neg e];exact⟨λd=>absurd d e,λ_=>.endr (Zlc h i acc c hl oq oq e)⟩
def ZiZ(h:Heap)(a:Zw h.W)(hl:h.P.length<=64)(e:(Cs h h.P.length 0).2=0):CP (Zi f90 0) (Tg.st ⟨tm 31 [(1,.pt 8001 0 0),(2,.d (.sl 0 [])),(3,nI 0),(4,.ow 24004),(5,nI 0)],[(24004,.arr 35 1 []),(8001,.box 28 h.cells)],60⟩) .nrm (Tg.st ⟨tm 31 [(4,.ow 24004)],[(24004,.arr 35 1 ((Cs h h.P.length 0).1.map wD))],60⟩):=
 ((Zag h a oq h.P.length 0 [] oq qo).1 e).ext kr
def ZjK(h:Heap)(a:Zw h.W)(hl:h.P.length<=64)(e:¬ (Cs h h.P.length 0).2=0):CP (Zi f90 0) (Tg.st ⟨tm 31 [(1,.pt 8001 0 0),(2,.d (.sl 0 [])),(3,nI 0),(4,.ow 24004),(5,nI 0)],[(24004,.arr 35 1 []),(8001,.box 28 h.cells)],60⟩) .ret (Tg.st ⟨tm 31 [(2,.d (.sl 0 [])),(3,nI (Cs h h.P.length 0).2)],[],60⟩):=
 ((Zag h a oq h.P.length 0 [] oq qo).2 e).ret kr
def ZlM(h:Heap):∀(f i:Nat),¬ (Cs h f i).2=0->(Cs h f i).1=[]
 |0,i,e=>absurd rfl e
 |f+1,i,e=>by
  unfold Cs at e⊢;split at e
  .rename_i a;rw[if_pos a];split at e
   .exact absurd rfl e
   .rename_i b;rw[if_neg b]
  .rename_i a;rw[if_neg a]
def ZhD(h:Heap)(hw:Zw h.W):GP 90 [h.av] M (.tu [Z2 (CR h).1,nI (CR h).2]) []:=by
 cases hp:Z9 h with
 |false =>
  have a:CR h=([],1):=by rw[CR,if_neg (by rw[hp];simp)]
  rw[a];exact gF [] func90 []<|Fc 9 (@CC h)<|Ftb 10 (!Z9 h)<|Fnl Fz
 |true =>
  have po:=B5 hp;have a:CR h=Cs h h.P.length 0:=by rw[CR,if_pos hp]
  by_cases e:(Cs h h.P.length 0).2=0;rw[show CR h=((Cs h h.P.length (0:Nat)).1,(0:Int))from by grind[]];exact gF [] func90 []<|Fh 4 [.own]<|Fc 9 (@CC h)<|Ffb 10 (!Z9 h)<|Fu (@ZiZ h aa oq aa) Fz;have b:=ZlM h _ _ e;exact gF [] func90 (fO 7)<|Fh 4 [.own]<|Fc 9 (@CC h)<|Ffb 10 (!Z9 h)<|Fu (@ZjK h aa oq aa)<|Fnl (Fa (by rw[a,b];rfl:[]=Z wD (CR h).1)<|Fa (by rw[a]:(Cs h h.P.length 0).2=(CR h).2) Fz)
def Z9o{h:Heap}(c:Zu h.C=Y){i}:∀{f:Nat} {o:Int} {l:List Int},EE h i f o=O l->∀x∈l,0<=x/\x<=8192
 |0,o,l,e=>by simp[EE]at e;subst e;simp
 |f+1,o,l,e=>by
  have b:=Mw c i o;unfold EE at e;split at e
  .split at e
   .split at e
    .cases e;intro x a;simp at a;subst a;exact b
    .rw[Lt]at e;obtain⟨m,d,rfl⟩:=e;intro x a;rcases List.mem_cons.1 a with rfl|a
     .exact b
     .exact Z9o c d x a
   .cases e
  .cases e;simp
def AU{h:Heap}(a:Z9 h=Y) i:∀x∈(Ze h i).1,0<=x/\x<=8192:=by
 have b:=(B5 a).1;unfold Ze;repeat' split
 all_goals first|(simp;done)|(rename_i e;exact Z9o b e)
def Z4F{h:Heap}(b:Z9 h=Y):∀(f i:Nat),∀x∈(Cs h f i).1,0<=x/\x<=8192
 |0,i=>by simp[Cs]
 |f+1,i=>by
  unfold Cs;split
  .split
   .intro x a;rcases List.mem_append.1 a with a|a
    .exact AU b i x a
    .exact Z4F b f (i+1) x a
   .simp
  .simp
def Z8O(h:Heap):∀(f i:Nat),(Cs h f i).1.length<=256*f
 |0,i=>by simp[Cs]
 |f+1,i=>by
  have h1:=Re h i;have h2:=Z8O h f (i+1);unfold Cs;split
  .split
   .simp;omega
   .simp
  .simp
def Z6l(h:Heap):∀x∈(CR h).1,0<=x/\x<=8192:=by unfold CR;split;exact Z4F aa _ _;simp
def Z9p(h:Heap):(CR h).1.length<=16384:=by unfold CR;split;rename_i a;have:=Z8O h h.P.length 0;have:=B5 a;omega;simp
def E3(h:Heap)(a:Int):Bool:=L ((Z6 h a).1.K≠0)
def Zb(h:Heap):List Int×Int:=((CR h).1.filter (E3 h),(CR h).2)
def IG(h:Heap):∀x∈(Zb h).1,0<=x/\x<=8192:=λx a=>Z6l h x (List.mem_filter.1 a).1
def H3(h:Heap):(Zb h).1.length<=16384:=Nat.le_trans (LA _ _) (Z9p h)
def RX{l:List Int}{i:Nat}(hi:i<l.length):l.take (i+1)=l.take i++[l.getD i X]:=by rw[List.take_succ];simp[Lq,hi]
def Z0N(h:Heap)(l:List Int)(a:Int)(i:Nat):Tg:=⟨tm 42 [(1,.pt 8001 0 0),(4,Z2 l),(5,nI a),(6,.ow 24006),(7,nI i)],[(24006,.arr 35 1 (((l.take i).filter (E3 h)).map wD)),(8001,.box 28 h.cells)],60⟩
def Zgz(h:Heap)(l:List Int) b(i:Nat)(hw:Zw h.W)(hl:l.length<=1048576)(g:∀x∈l,0<=x/\x<=8192)(hi:i<l.length):CP (Zm f43 0) (Z0N h l b i).st .nrm (Z0N h l b (i+1)).st:=by
 have hx:=g (l.getD i X) (ZT.2 ⟨i,hi,rfl⟩);have f:((l.take i).filter (E3 h)).length<=l.length:=Nat.le_trans (LA _ _) qo;have d:=RX hi;by_cases c:(Z6 h (l.getD i X)).1.K=0;have e:(l.take (i+1)).filter (E3 h)=(l.take i).filter (E3 h):=by(have a:E3 h (l.getD i X)=M:=decide_eq_false (by simpa using c);rw[d,Lx,Ly,a,Lz];simp)
 exact sF [] (fO 5)<|FN 17 18 25 wD l i<|Fc 27 (@Nv h (l.getD i X) aa oq)<|Ffb 32 ((Z6 h (l.getD i X)).1.K != 0)<|Fx 20 i<|Fr (35:Int)<|Fa (by refine congrArg _ ?_;rw[e]:Z wD (Le (E3 h) (Ld i l))=Z wD (Le (E3 h) (Ld (i+1) l))) Fz;have e:(l.take (i+1)).filter (E3 h)=(l.take i).filter (E3 h)++[l.getD i X]:=by(have a:E3 h (l.getD i X)=Y:=decide_eq_true c;rw[d,Lx,Ly,a,Lz];simp)
 exact sF [(504039,24006)] (fO 5)<|Fh 39 [.els (Z wD (Le (E3 h) (Ld i l)++[l.getD i X]))]<|FN 17 18 25 wD l i<|Fc 27 (@Nv h (l.getD i X) aa oq)<|Ftb 32 ((Z6 h (l.getD i X)).1.K != 0)<|Fek 36 wD l (↑i) i<|Fs 38 (Z wD [l.getD i X])<|Fa (by(simp[*];omega):(Z wD (Le (E3 h) (Ld i l))).length+(Z wD [l.getD i X]).length<=2^30)<|Fa (ms:Z wD (Le (E3 h) (Ld i l))++Z wD [l.getD i X]=Z wD (Le (E3 h) (Ld i l)++[l.getD i X]))<|Fx 20 i<|Fr (35:Int)<|Fa (by refine congrArg _ ?_;rw[e]:Z wD (Le (E3 h) (Ld i l)++[l.getD i X])=Z wD (Le (E3 h) (Ld (i+1) l))) Fz
def Zm7(h:Heap) l a:CP (Zm f43 0) (Z0N h l a l.length).st (.ext 0) (Tg.st ⟨tm 42 [(5,nI a),(6,.ow 24006)],[(24006,.arr 35 1 ((l.filter (E3 h)).map wD))],60⟩):=by have e:l.take l.length=l:=LF;exact sF [] (fO 2)<|FO 17 18 wD l<|Fr (35:Int)<|Fa (by refine congrArg _ ?_;rw[e]:Z wD (Le (E3 h) (Ld l.length l))=Z wD (Le (E3 h) l)) Fz
def Zlv(h:Heap)(l:List Int) a(d:Zw h.W)(hl:l.length<=1048576)(c:∀x∈l,0<=x/\x<=8192):CP (Zi f43 0) (Tg.st ⟨tm 42 [(1,.pt 8001 0 0),(4,Z2 l),(5,nI a),(6,.ow 24006),(7,nI 0)],[(24006,.arr 35 1 []),(8001,.box 28 h.cells)],60⟩) .nrm (Tg.st ⟨tm 42 [(5,nI a),(6,.ow 24006)],[(24006,.arr 35 1 ((l.filter (E3 h)).map wD))],60⟩):=
 Bo (S:=λi=>(Z0N h l a i).st) l.length kr (λi b=>Zgz h l a i d hl c b) (Zm7 h l a)
def RQ(h:Heap)(hw:Zw h.W):GP 43 [h.av] M (.tu [Z2 (Zb h).1,nI (Zb h).2]) []:=by have hl:=Z9p h;have hr:=Z6l h;exact gF [] func43 []<|Fh 6 [.own]<|Fc 12 (@ZhD h aa)<|Fu (@Zlv h ((CR h).1) ((CR h).2) aa oq aa) Fz
def GF(h:Heap)(p o:Int):Int:=(Z1 h.W (address h.C p o).1).1
def Zms{c:B7}(b:Zu c=Y) p o:0<=(address c p o).1/\(address c p o).1<=8192:=by have ha:=I7 b;unfold address;rw[if_pos b];split;rename_i a;have a:=Il.1 a;have:=Z0j b a.1 a.2.1 a.2.2.1 a.2.2.2;simp only;omega;simp
def Zdr(h:Heap) p o(a:Z9 h=Y):GP 235 [h.av,nI p,nI o] Y (uU (GF h p o)) []:=by have b:=B5 a;have ar:=Zms b.1 p o;exact gF [] func235 []<|Fc 16 (@Z0o h.C p o)<|Fc 23 (@HT h.W ((address h.C p o).1) oq oq) Fz
def Z3N(h:Heap) p o(hp:Z9 h=Y):GP 220 [h.av,nI p,nI o] Y (uU (GF h p o)) []:=by exact gF [] func220 []<|Fc 10 (@Zdr h p o aa) Fz
def ZcD(h:Heap)(p o:Int)(b:Z9 h=Y)(a:0<=p/\p<h.C.pg)(h1:0<=o/\o<=64):GP 221 [h.av,nI p,nI o] Y (uU (4096+p*h.C.pw+o)) []:=by have c:=B5 b;have ap:=Ih c.1 a.1 a.2;exact gF [] func221 []<|Fi 11 (p*h.C.pw)<|Fi 12 (4096+p*h.C.pw)<|Fi 14 (4096+p*h.C.pw+o)<|Fv 15 (4096+p*h.C.pw+o) Fz
def B4(l:List Z0):Nat->Nat|0=>0|i+1=>if(l.getD (i+1) X).K=3 then B4 l i else i+1
def Z8d{h:Heap}(a:Z9 h=Y):(h.P.getD 0 X).K≠3:=by have d:=Iy.1 a;have po:=B5 a;have b:=d.2.2.2.2.2;rw[Z4l oq oq,Lg]at b;have c:=of_decide_eq_true b.1;unfold Gk at c;omega
def D3(h:Heap)(i:Nat):Tg:=⟨tm 15 [(1,nI i),(2,.pt 8002 0 0)],[(8002,.box 28 h.cells)],60⟩
def Zn2(h:Heap)(i:Nat)(hi:i+1<h.P.length)(hl:h.P.length<=1048576)(hk:(h.P.getD (i+1) X).K=3):CP (Zm f218 0) (D3 h (i+1)).st .nrm (D3 h i).st:=by
 have ei:((i+1:Nat):Int)-1=(i:Int):=by omega
 exact sF [] []<|Fek 8 Z0.dv h.P (↑(i+1):Int) (i+1)<|Ftb 11 ((h.P.getD (i+1) X).K==3)<|Fg 13 (by rw[Eg oq oq];omega:Lu.wrap ((↑(i+1):Int)-1)=(i:Int)) Fz
def Z7D(h:Heap)(i:Nat)(hi:i<h.P.length)(hl:h.P.length<=1048576)(hk:¬ (h.P.getD i X).K=3):CP (Zm f218 0) (D3 h i).st (.ext 0) (Tg.st ⟨tm 15 [(1,nI i)],[],60⟩):=by exact sF [] []<|Fek 8 Z0.dv h.P (↑i) i<|Ffb 11 ((h.P.getD i X).K==3) Fz
def Z66(h:Heap)(b:Z9 h=Y)(hl:h.P.length<=1048576):∀i,i<h.P.length->Gl prog f218 0 (D3 h i).st (.ext 0) (Tg.st ⟨tm 15 [(1,nI (B4 h.P i))],[],60⟩)
 |0,hi=>.endx (Z7D h 0 hi hl (Z8d b))
 |i+1,hi=>by
  unfold B4;by_cases a:(h.P.getD (i+1) X).K=3
  .rw[if_pos a];exact .next (Zn2 h i hi hl a) (Z66 h b hl i oq)
  .rw[if_neg a];exact .endx (Z7D h (i+1) hi hl a)
def Zc9(h:Heap)(i:Nat)(a:Z9 h=Y)(hi:i<h.P.length)(hl:h.P.length<=1048576):CP (Zi f218 0) (D3 h i).st .nrm (Tg.st ⟨tm 15 [(1,nI (B4 h.P i))],[],60⟩):=
 (Z66 h a hl i hi).ext kr
def Z6L(h:Heap)(i:Nat)(a:Z9 h=Y)(hi:i<h.P.length):GP 218 [h.av,nI i] Y (nI (B4 h.P i)) []:=by have po:=B5 a;exact gF [] func218 []<|Fu (@Zc9 h i aa aa oq) Fz
def Gw(h:Heap)(i:Int)(a:Int):Bool:=(L ((h.P.getD i.toNat X).K=1)&&L (Zd h.C<Z5 (Z6 h a).1))||(L ((h.P.getD i.toNat X).K=2)&&L ((Z6 h a).1.K=0))
def Cv(h:Heap)(i:Int)(l:List Int):Int:=(l.find? (Gw h i)).getD 0
def My(h:Heap)(i:Int)(l:List Int)(n:Nat):Tg:=⟨tm 61 [(1,nI i),(2,Z2 l),(3,.pt 8003 0 0),(6,uU 0),(7,nI n)],[(8003,.box 28 h.cells)],60⟩
section
variable(h:Heap)(i:Int)(l:List Int)(n:Nat)(b:Zw h.W)(hl:l.length<=1048576)(hi:0<=i/\i<h.P.length)(c:h.P.length<=1048576)(a:∀x∈l,0<=x/\x<=8192)
include b hl hi c a
theorem Z5Y(g:n<l.length)(f:Gw h i (l.getD n X)=M):CP (Zm f192 0) (My h i l n).st .nrm (My h i l (n+1)).st:=by have hx:=a (l.getD n X) (ZT.2 ⟨n,g,rfl⟩);have hm:=Hv b (l.getD n X);simp only[Gw,bs]at f;let d:=Z6 h (l.getD n X);let e:=h.P.getD i.toNat X;exact sF [] []<|FN 13 14 21 wD l n<|Fc 23 (@Nv h (l.getD n X) aa oq)<|Fc 27 (@IF (d.1) aa)<|Fc 30 (@NI h.C)<|Fe 35 Z0.dv h.P i<|FeGq 47 (!(e.K==1&&!decide (Z5 d.1<=Zd h.C))) Z0.dv h.P i<|Ffb 56 (e.K==1&&!decide (Z5 d.1<=Zd h.C)||e.K==2&&d.1.K==0)<|Fx 16 n Fz
theorem ZfW(f:n<l.length)(d:Gw h i (l.getD n X)=Y):CP (Zm f192 0) (My h i l n).st .ret (Tg.st ⟨tm 61 [(6,uU (l.getD n X))],[],60⟩):=by have hx:=a (l.getD n X) (ZT.2 ⟨n,f,rfl⟩);have hm:=Hv b (l.getD n X);simp only[Gw,bs]at d;refine Zg [((13:Nat),[Hint.int (l.length:Int)]),((14:Nat),[Hint.br Y]),((21:Nat),[Hint.el (wD (l.getD n X))]),((23:Nat),[Hint.call Y (AV.tu [(Z6 h (l.getD n X)).1.av,nI (Z6 h (l.getD n X)).2]) []]),((27:Nat),[Hint.call Y (nI (Z5 (Z6 h (l.getD n X)).1)) []]),((30:Nat),[Hint.call Y (nI (Zd h.C)) []]),((35:Nat),[Hint.el (h.P.getD i.toNat X).dv]),((47:Nat),[Hint.el (h.P.getD i.toNat X).dv]),((56:Nat),[Hint.br Y]),((59:Nat),[Hint.el (wD (l.getD n X))])] [] [] [] (φ:=(↑(Z wD l).length:Int)=(l.length:Int)/\L ((n:Int)<(l.length:Int))=Y/\Y=Y/\((0:Int)<=(n:Int)/\(Z wD l)[(n:Int).toNat]?=O (wD (l.getD n X)))/\GP 91 [h.av,uU (l.getD n X)] Y (AV.tu [(Z6 h (l.getD n X)).1.av,nI (Z6 h (l.getD n X)).2]) []/\GP 70 [(Z6 h (l.getD n X)).1.av] Y (nI (Z5 (Z6 h (l.getD n X)).1)) []/\GP 93 [h.C.av] Y (nI (Zd h.C)) []/\((0:Int)<=i/\(Z Z0.dv h.P)[i.toNat]?=O (h.P.getD i.toNat X).dv)/\((!((h.P.getD i.toNat X).K==(1:Int)&&!decide (Z5 (Z6 h (l.getD n X)).1<=Zd h.C)))=Y->(0:Int)<=i/\(Z Z0.dv h.P)[i.toNat]?=O (h.P.getD i.toNat X).dv)/\((h.P.getD i.toNat X).K==(1:Int)&&!decide (Z5 (Z6 h (l.getD n X)).1<=Zd h.C)||(h.P.getD i.toNat X).K==(2:Int)&&(Z6 h (l.getD n X)).1.K==(0:Int))=Y/\Y=Y/\(0:Int)<=(n:Int)/\(Z wD l)[(n:Int).toNat]?=O (wD (l.getD n X))) ?_ kr kr kr;exact⟨(by simp only[List.length_map]),(by(simp only[bs];omega)),rfl,(by exact Zo oq oq oq),(@Nv (h) (l.getD n X) aa oq),(@IF ((Z6 h (l.getD n X)).1) aa),(@NI (h.C)),(by exact Zo oq oq oq),(by intro e;(try simp only[bs]at e);exact Zo oq oq oq),(by(simp only[bs];omega)),rfl,(by exact Zo oq oq oq)⟩
omit b hl hi c a in
theorem Zfm:CP (Zm f192 0) (My h i l l.length).st (.ext 0) (Tg.st ⟨tm 61 [(6,uU 0)],[],60⟩):=by exact sF [] []<|FO 13 14 wD l Fz
end
def OM{l:List Int}{f:Int->Bool}(h:l.find? f=La):∀n,n<l.length->f (l.getD n X)=M:=by intro n a;have:=Li.1 h (l.getD n X) (ZT.2 ⟨n,a,rfl⟩);simpa using this
def D6{f:Int->Bool}:∀{l:List Int} {x:Int},l.find? f=O x->∃n,n<l.length/\l.getD n X=x/\f x=Y/\∀m,m<n->f (l.getD m X)=M
 |[],x,h=>by simp at h
 |a::l,x,h=>by
  rw[List.find?_cons]at h;split at h
  .rename_i b;cases h;exact⟨0,by simp,rfl,b,λm g=>by omega⟩
  .rename_i b;obtain⟨n,h1,c,d,e⟩:=D6 h;refine⟨n+1,by simp;omega,by simpa using c,d,λm g=>?_⟩;cases m with|zero=>simpa using b|succ m=>simpa using e m oq
def ZhN(h:Heap)(i:Int)(l:List Int)(e:Zw h.W)(hl:l.length<=1048576)(hi:0<=i/\i<h.P.length)(c:h.P.length<=1048576)(d:∀x∈l,0<=x/\x<=8192)(b:l.find? (Gw h i)=La) :CP (Zi f192 0) (Tg.st ⟨tm 61 [(1,nI i),(2,Z2 l),(3,.pt 8003 0 0),(6,uU 0),(7,nI 0)],[(8003,.box 28 h.cells)],60⟩) .nrm (Tg.st ⟨tm 61 [(6,uU 0)],[],60⟩):=
 Bo (S:=λn=>(My h i l n).st) l.length kr (λn a=>Z5Y h i l n e hl hi c d a (OM b n a)) (Zfm h i l)
def Zec(h:Heap)(i:Int)(l:List Int)(x:Int)(c:Zw h.W)(hl:l.length<=1048576)(hi:0<=i/\i<h.P.length)(a:h.P.length<=1048576)(b:∀x∈l,0<=x/\x<=8192)(j:l.find? (Gw h i)=O x) :CP (Zi f192 0) (Tg.st ⟨tm 61 [(1,nI i),(2,Z2 l),(3,.pt 8003 0 0),(6,uU 0),(7,nI 0)],[(8003,.box 28 h.cells)],60⟩) .ret (Tg.st ⟨tm 61 [(6,uU x)],[],60⟩):=by obtain⟨n,d,e,f,g⟩:=D6 j;subst e;exact EM (S:=λn=>(My h i l n).st) n kr (λm k=>Z5Y h i l m c hl hi a b oq (g m k)) (ZfW h i l n c hl hi a b d f)
def Z39(h:Heap)(i:Int)(l:List Int)(hw:Zw h.W)(hl:l.length<=1048576)(hp:h.P.length<=1048576)(hi:0<=i/\i<h.P.length)(hr:∀x∈l,0<=x/\x<=8192):GP 192 [h.av,nI i,Z2 l] Y (uU (Cv h i l)) []:=by
 cases hf:l.find? (Gw h i)with
 |none =>
  have a:Cv h i l=0:=by rw[Cv,hf];rfl
  exact gF [] func192 (fO 6)<|Fu (@ZhN h i l aa aa aa aa aa aa)<|Fa (by rw[a]:0=Cv h i l) Fz
 |some x =>
  have a:Cv h i l=x:=by rw[Cv,hf];rfl
  exact gF [] func192 (fO 6)<|Fu (@Zec h i l x aa aa aa aa aa aa)<|Fa (by rw[a]:x=Cv h i l) Fz
def C1(x:Bool):List DV:=[.sc (.bool x)]
def GJ(h:Heap)(a:Int):Int:=if(Z6 h a).1.K=0 then 1 else Z5 (Z6 h a).1
def DL(h:Heap)(i:Int)(a:Int)(o:Nat):Bool:=L (a-4096-i*h.C.pw<=o)&&L ((o:Int)<a-4096-i*h.C.pw+GJ h a)
def Cz(h:Heap)(i:Int)(l:List Int):List Bool:=(Lc h.C.pw.toNat).map λo=>l.any λa=>DL h i a o
def EA(h:Heap)(i:Int)(l:List Int)(a:Int)(w:Nat):List Bool:=(Lc h.C.pw.toNat).map λ(o:Nat)=>(l.any λa=>DL h i a o)||(L (a-4096-i*h.C.pw<=o)&&L ((o:Int)<a-4096-i*h.C.pw+w))
def Z9j(h:Heap) i l a w:(EA h i l a w).length=h.C.pw.toNat:=by simp[EA]
def ZjC(h:Heap) i l a:EA h i l a 0=Cz h i l:=by
 unfold EA Cz;refine Lr λo _=>?_;have:(L (a-4096-i*h.C.pw<=(o:Int))&&L ((o:Int)<a-4096-i*h.C.pw+(0:Nat)))=M:=by(rw[Bool.and_eq_false_iff];simp;omega)
 rw[this,Bool.or_false]
def Zgr{h:Heap}{i:Int}{l}{a:Int}{w:Nat}(hh:¬ (0<=a-4096+w-i*h.C.pw/\a-4096+w-i*h.C.pw<h.C.pw)):EA h i l a (w+1)=EA h i l a w:=by unfold EA;refine Lr λo b=>?_;have b:=Lf.1 b;congr 1;rw[Ln];simp;omega
def Zn8{h:Heap}{i:Int}{l}{a:Int}{w:Nat}(hh:0<=a-4096+w-i*h.C.pw/\a-4096+w-i*h.C.pw<h.C.pw):(EA h i l a w).set (a-4096+w-i*h.C.pw).toNat Y=EA h i l a (w+1):=by
 apply List.ext_getElem?;intro j;rw[List.getElem?_set,Z9j];unfold EA;by_cases b:j<h.C.pw.toNat
 rw[Ll,Ll,List.getElem?_range b,LG,LG];by_cases c:(a-4096+w-i*h.C.pw).toNat=j;rw[if_pos c,if_pos oq];congr 1;symm;rw[Bool.or_eq_true];right;rw[Lg,decide_eq_true_eq,decide_eq_true_eq];omega;rw[if_neg c];congr 2;rw[Ln,Lg,Lg,decide_eq_true_eq,decide_eq_true_eq,decide_eq_true_eq];omega;rw[if_neg oq,Ll,Ll,List.getElem?_eq_none qo];rfl
def Zl1{h i l a}(hn:0<=GJ h a):EA h i l a (GJ h a).toNat=Cz h i (l++[a]):=by unfold EA Cz;refine Lr λo _=>?_;rw[List.any_append];congr 1;simp[DL];rw[Ln];simp;omega
def Zmc(h:Heap) i:Cz h i []=Lk h.C.pw.toNat M:=by unfold Cz;simp[List.map_const']
def T8(h:Heap)(i:Int)(l:List Int)(k:Nat):Tg:=⟨tm 69 [(1,nI i),(2,Z2 l),(3,.pt 8003 0 0),(7,.ow 16017),(8,nI k)],[(16017,.arr 4 1 ((Cz h i (l.take k)).map C1)),(8003,.box 28 h.cells)],60⟩
def PG(h:Heap)(i:Int)(l m:List Int)(k:Nat)(n:Int)(w:Nat):Tg:=⟨tm 69 [(1,nI i),(2,Z2 m),(3,.pt 8003 0 0),(7,.ow 16017),(8,nI k),(11,nI n),(12,nI w)],[(16017,.arr 4 1 ((EA h i l (m.getD k X) w).map C1)),(8003,.box 28 h.cells)],60⟩
def ZhL(h:Heap)(i:Int)(l m:List Int)(k:Nat)(n:Int)(w:Nat)(p:Z9 h=Y)(hm:m.length<=1048576)(hi:0<=i/\i<h.P.length)(hr:0<=m.getD k X/\m.getD k X<=8192)(hk:k<m.length)(hn:n<=256)(hw:w<n):CP (Zm f219 2) (PG h i l m k n w).st .nrm (PG h i l m k n (w+1)).st:=by have q:=B5 p;have ap:=Ih q.1 hi.1 oq;have g:=Z9j h i l (m.getD k X) w;by_cases f:0<=m.getD k X-4096+w-i*h.C.pw/\m.getD k X-4096+w-i*h.C.pw<h.C.pw;have e:=Zn8 (l:=l) f;let b:=m.getD k X-4096+(w:Int)-i*h.C.pw;let a:=EA h i l (m.getD k X) w;let j:=0<=m.getD k X-4096+(w:Int)-i*h.C.pw;let d:=a.set b.toNat Y;exact sF [] (fO 11)<|Fh 10067 [.els (Z C1 d)]<|Ftb 40 (L ((w:Int)<n))<|Fek 45 wD m (↑k) k<|Fi 47 (m.getD k X)<|Fi 48 (m.getD k X-4096)<|Fi 50 (m.getD k X-4096+(w:Int))<|Fi 55 (i*h.C.pw)<|Fi 56 b<|FlG 62 (decide j) C1 a<|Ftb 64 (decide j&&L (m.getD k X-4096+(w:Int)-i*h.C.pw<(a.length:Int)))<|Fa (by grind[]:0<=m.getD k X-4096+(w:Int)-i*h.C.pw/\b.toNat<(Z C1 a).length)<|Fa (by grind[]:b.toNat<(Z C1 a).length)<|Fa (by rw[Ls];rfl:(Z C1 a).set b.toNat [DV.sc (Value.bool Y)]=Z C1 d)<|Fx 42 w<|Fr (4:Int)<|Fa (by refine congrArg _ ?_;exact e:Z C1 d=Z C1 (EA h i l (m.getD k X) (w+1))) Fz;have e:=Zgr (l:=l) f;let c:=m.getD k X;let o:=0<=m.getD k X-4096+(w:Int)-i*h.C.pw;exact sF [] (fO 11)<|Ftb 40 (L ((w:Int)<n))<|Fek 45 wD m (↑k) k<|Fi 47 c<|Fi 48 (m.getD k X-4096)<|Fi 50 (m.getD k X-4096+(w:Int))<|Fi 55 (i*h.C.pw)<|Fi 56 (m.getD k X-4096+(w:Int)-i*h.C.pw)<|FlG 62 (decide o) C1 (EA h i l c w)<|Ffb 64 (decide o&&L (m.getD k X-4096+(w:Int)-i*h.C.pw<(↑(EA h i l c w).length:Int)))<|Fx 42 w<|Fr (4:Int)<|Fa (by refine congrArg _ ?_;rw[e]:Z C1 (EA h i l c w)=Z C1 (EA h i l c (w+1))) Fz
def Zjw(h:Heap) i l m k(n:Int)(w:Nat)(hn:n<=w):CP (Zm f219 2) (PG h i l m k n w).st (.ext 2) (Tg.st ⟨tm 69 [(1,nI i),(2,Z2 m),(3,.pt 8003 0 0),(7,.ow 16017),(8,nI k)],[(16017,.arr 4 1 ((EA h i l (m.getD k X) w).map C1)),(8003,.box 28 h.cells)],60⟩):=by exact sF [] []<|Ffb 40 (L ((w:Int)<n)) Fz
def Z4R(h:Heap)(i:Int)(m:List Int)(k:Nat)(n:Int)(f:Z9 h=Y)(d:m.length<=1048576)(hi:0<=i/\i<h.P.length)(g:0<=m.getD k X/\m.getD k X<=8192)(a:k<m.length)(e:0<=n/\n<=256)(c:n=GJ h (m.getD k X)):CP (Zi f219 2) (Tg.st ⟨tm 69 [(1,nI i),(2,Z2 m),(3,.pt 8003 0 0),(7,.ow 16017),(8,nI k),(11,nI n),(12,nI 0)],[(16017,.arr 4 1 ((Cz h i (m.take k)).map C1)),(8003,.box 28 h.cells)],60⟩) .nrm (Tg.st ⟨tm 69 [(1,nI i),(2,Z2 m),(3,.pt 8003 0 0),(7,.ow 16017),(8,nI k)],[(16017,.arr 4 1 ((Cz h i (m.take (k+1))).map C1)),(8003,.box 28 h.cells)],60⟩):=by
 have:=Bo (S:=λw=>(PG h i (m.take k) m k n w).st) n.toNat kr (λw hw=>ZhL h i (m.take k) m k n w f d hi g a e.2 oq) (Zjw h i (m.take k) m k n n.toNat oq);have b:EA h i (m.take k) (m.getD k X) n.toNat=Cz h i (m.take (k+1)):=by(rw[RX a,c];exact Zl1 oq)
 rw[b]at this;simp only[PG,ZjC]at this;exact this
def Zgk(h:Heap)(i:Int)(l:List Int)(k:Nat)(g:Zw h.W)(d:Z9 h=Y)(hl:l.length<=1048576)(hi:0<=i/\i<h.P.length)(f:∀x∈l,0<=x/\x<=8192)(c:k<l.length):CP (Zm f219 0) (T8 h i l k).st .nrm (T8 h i l (k+1)).st:=by
 have po:=B5 d;have hx:=f (l.getD k X) (ZT.2 ⟨k,c,rfl⟩);have hm:=Hv g (l.getD k X);have hs:=Ip (Z6 h (l.getD k X)).1;by_cases b:(Z6 h (l.getD k X)).1.K=0;have e:GJ h (l.getD k X)=1:=by rw[GJ,if_pos b]
 exact sF [] []<|FN 20 21 28 wD l k<|Fc 30 (@Nv h (l.getD k X) aa oq)<|Fc 34 (@IF ((Z6 h (l.getD k X)).1) aa)<|Ftb 37 ((Z6 h (l.getD k X)).1.K==0)<|Fu (@Z4R h i l k (1) aa aa aa aa aa oq oq)<|Fx 23 k Fz;have e:GJ h (l.getD k X)=Z5 (Z6 h (l.getD k X)).1:=by rw[GJ,if_neg b]
 let a:=l.getD k X;exact sF [] []<|FN 20 21 28 wD l k<|Fc 30 (@Nv h a aa oq)<|Fc 34 (@IF ((Z6 h a).1) aa)<|Ffb 37 ((Z6 h a).1.K==0)<|Fu (@Z4R h i l k (Z5 (Z6 h a).1) aa aa aa aa aa aa oq)<|Fx 23 k Fz
def ZkP(h:Heap) i l:CP (Zm f219 0) (T8 h i l l.length).st (.ext 0) (Tg.st ⟨tm 69 [(7,.ow 16017)],[(16017,.arr 4 1 ((Cz h i l).map C1))],60⟩):=by have e:l.take l.length=l:=LF;exact sF [] [M,Y]<|FO 20 21 wD l<|Fr (4:Int)<|Fa (by refine congrArg _ ?_;rw[e]:Z C1 (Cz h i (Ld l.length l))=Z C1 (Cz h i l)) Fz
def ZiH(h:Heap)(i:Int)(l:List Int)(d:Zw h.W)(b:Z9 h=Y)(hl:l.length<=1048576)(hi:0<=i/\i<h.P.length)(c:∀x∈l,0<=x/\x<=8192):CP (Zi f219 0) (Tg.st ⟨tm 69 [(1,nI i),(2,Z2 l),(3,.pt 8003 0 0),(7,.ow 16017),(8,nI 0)],[(16017,.arr 4 1 ((Lk h.C.pw.toNat M).map C1)),(8003,.box 28 h.cells)],60⟩) .nrm (Tg.st ⟨tm 69 [(7,.ow 16017)],[(16017,.arr 4 1 ((Cz h i l).map C1))],60⟩):=by have:=Bo (S:=λk=>(T8 h i l k).st) l.length kr (λk a=>Zgk h i l k d b hl hi c a) (ZkP h i l);simp only[T8,List.take_zero,Zmc]at this;exact this
def Z4O(h:Heap)(i:Int)(l:List Int)(hw:Zw h.W)(a:Z9 h=Y)(hl:l.length<=1048576)(hi:0<=i/\i<h.P.length)(hr:∀x∈l,0<=x/\x<=8192):GP 219 [h.av,nI i,Z2 l] M (.d (.sl 1 ((Cz h i l).map C1))) []:=by have po:=B5 a;exact gF [] func219 []<|Fh 17 [.els (Z C1 (Lk h.C.pw.toNat M))]<|Fb (0<=h.C.pw/\h.C.pw<=h.C.pw/\h.C.pw*((↑(nat_lit 0):Int)+1)<=2^48)<|Fa (by rw[List.map_replicate];rfl:Lk h.C.pw.toNat [DV.sc (Value.bool M)]=Z C1 (Lk h.C.pw.toNat M))<|Fu (@ZiH h i l aa aa aa aa aa) Fz
def CW(h:Heap)(i:Nat):List Bool:=Cz h i (Ze h (B4 h.P i:Nat)).1
def PF(h:Heap) i:(CW h i).length=h.C.pw.toNat:=by simp[CW,Cz]
def Z2v l:∀i,B4 l i<=i
 |0=>Nat.le_refl _
 |i+1=>by
  have:=Z2v l i;unfold B4;split<;>omega
def Mo(h:Heap)(i:Nat)(u:List Bool)(k:Nat):Tg:=⟨tm 43 [(1,nI i),(2,.pt 8002 0 0),(4,uU 0),(7,.d (.sl 1 (u.map C1))),(8,nI k)],[(8002,.box 28 h.cells)],60⟩
section
variable(h:Heap)(i:Nat)(u:List Bool)(k:Nat)(a:Z9 h=Y)(hi:i<h.P.length)(b:u.length<=64)
include a hi b
theorem Z96(hk:k<u.length)(c:u.getD k X=Y\/GF h i k=0):CP (Zm f193 0) (Mo h i u k).st .nrm (Mo h i u (k+1)).st:=by have po:=B5 a;rcases c with c|c;exact sF [] []<|FN 23 24 29 C1 u k<|FcG 36 (!u.getD k X) (λd=>by(try simp only[bs]at d);exact@Z3N h ((i:Int)) ((k:Int)) aa)<|Ffs 38 (!u.getD k X&&GF h (i:Int) (k:Int) != 0)<|Fx 26 k Fz;exact sF [] []<|FN 23 24 29 C1 u k<|FcG 36 (!u.getD k X) (λd=>by(try simp only[bs]at d);exact@Z3N h ((i:Int)) ((k:Int)) aa)<|Ffb 38 (!u.getD k X&&GF h (i:Int) (k:Int) != 0)<|Fx 26 k Fz
theorem Zn7(hk:k<u.length)(c:u.getD k X=M/\¬ GF h i k=0):CP (Zm f193 0) (Mo h i u k).st .ret (Tg.st ⟨tm 43 [(4,uU (4096+i*h.C.pw+k))],[],60⟩):=by have po:=B5 a;obtain⟨d,e⟩:=c;exact sF [] []<|FN 23 24 29 C1 u k<|FcG 36 (!u.getD k X) (λf=>by(try simp only[bs]at f);exact@Z3N h ((i:Int)) ((k:Int)) aa)<|Fts 38 (!u.getD k X&&GF h (i:Int) (k:Int) != 0)<|Fc 42 (@ZcD h ((i:Int)) ((k:Int)) aa oq oq) Fz
omit a hi b in
theorem ZjM:CP (Zm f193 0) (Mo h i u u.length).st (.ext 0) (Tg.st ⟨tm 43 [(4,uU 0)],[],60⟩):=by exact sF [] []<|FO 23 24 C1 u Fz
end
def HM(h:Heap)(i:Nat)(u:List Bool)(k:Nat):Bool:=!u.getD k X&&L (GF h i k≠0)
def EC(h:Heap)(i:Nat)(u:List Bool):Int:=match (Lc u.length).find? (HM h i u)with|O k=>4096+i*h.C.pw+k|La=>0
def Zgt(h:Heap)(i:Nat)(u:List Bool)(c:Z9 h=Y)(hi:i<h.P.length)(d:u.length<=64)(b:(Lc u.length).find? (HM h i u)=La) :CP (Zi f193 0) (Tg.st ⟨tm 43 [(1,nI i),(2,.pt 8002 0 0),(4,uU 0),(7,.d (.sl 1 (u.map C1))),(8,nI 0)],[(8002,.box 28 h.cells)],60⟩) .nrm (Tg.st ⟨tm 43 [(4,uU 0)],[],60⟩):=by
 refine Bo (S:=λk=>(Mo h i u k).st) u.length kr (λk a=>Z96 h i u k c hi d a ?_) (ZjM h i u);have:=Li.1 b k (Lf.2 a);simp only[HM,bs]at this;cases hb:u.getD k X with|true=>exact .inl rfl|false =>rw[hb]at this;exact .inr (by simpa using this)
def ZeJ(h:Heap)(i:Nat)(u:List Bool)(k:Nat)(c:Z9 h=Y)(hi:i<h.P.length)(d:u.length<=64)(f:(Lc u.length).find? (HM h i u)=O k) :CP (Zi f193 0) (Tg.st ⟨tm 43 [(1,nI i),(2,.pt 8002 0 0),(4,uU 0),(7,.d (.sl 1 (u.map C1))),(8,nI 0)],[(8002,.box 28 h.cells)],60⟩) .ret (Tg.st ⟨tm 43 [(4,uU (4096+i*h.C.pw+k))],[],60⟩):=by
 obtain⟨a,b,e⟩:=Lj.1 f;have b:=Lf.1 b;refine EM (S:=λk=>(Mo h i u k).st) k kr (λm g=>Z96 h i u m c hi d oq ?_) (Zn7 h i u k c hi d b ?_);have:=e m g;simp only[HM,bs]at this;cases hb:u.getD m X with|true=>exact .inl rfl|false =>rw[hb]at this;exact .inr (by simpa using this)
 simp only[HM,bs]at a;exact⟨a.1,a.2⟩
def Z7p(h:Heap)(i:Nat)(hw:Zw h.W)(d:Z9 h=Y)(hi:i<h.P.length):GP 193 [h.av,nI i] Y (uU (EC h i (CW h i))) []:=by
 have po:=B5 d;have hh:=Z2v h.P i;have hn:=Re h (B4 h.P i:Nat);have hr:=AU d (B4 h.P i:Nat);have e:=PF h i;unfold CW at e⊢;cases hf:(Lc (Cz h i (Ze h (B4 h.P i:Nat)).1).length).find? (HM h i (Cz h i (Ze h (B4 h.P i:Nat)).1))with
 |none =>
  have a:EC h i (Cz h i (Ze h (B4 h.P i:Nat)).1)=0:=by rw[EC,hf]
  let b:=Ze h (↑(B4 h.P i):Int);exact gF [] func193 (fO 6)<|Fc 13 (@Z6L h i aa aa)<|Fc 14 (@Aa h ((↑(B4 h.P i):Int)) aa)<|Fc 20 (@Z4O h ((i:Int)) (b.1) aa aa oq oq aa)<|Fu (@Zgt h i (Cz h (i:Int) b.1) aa aa oq aa)<|Fa (by rw[a]:0=EC h i (Cz h (i:Int) b.1)) Fz
 |some k =>
  have a:EC h i (Cz h i (Ze h (B4 h.P i:Nat)).1)=4096+i*h.C.pw+k:=by rw[EC,hf]
  let c:=Ze h (↑(B4 h.P i):Int);exact gF [] func193 (fO 6)<|Fc 13 (@Z6L h i aa aa)<|Fc 14 (@Aa h ((↑(B4 h.P i):Int)) aa)<|Fc 20 (@Z4O h ((i:Int)) (c.1) aa aa oq oq aa)<|Fu (@ZeJ h i (Cz h (i:Int) c.1) k aa aa oq aa)<|Fa (by rw[a]:4096+(i:Int)*h.C.pw+(k:Int)=EC h i (Cz h (i:Int) c.1)) Fz
structure Ck where
 fault:Int
 page:Int
 addr:Int
 deriving DecidableEq,Inhabited
def Ck.av(f:Ck):AV:=.ag [nI f.fault,nI f.page,uU f.addr]
def pageF(h:Heap)(i:Nat):Ck:=
 if(h.P.getD i X).K≠0/\(h.P.getD i X).S≠h.S then⟨2,i,0⟩
 else if(Ze h (i:Int)).2≠0 then⟨3,i,0⟩
 else if Cv h (i:Int) (Ze h (i:Int)).1≠0 then⟨5,i,Cv h (i:Int) (Ze h (i:Int)).1⟩
 else if EC h i (CW h i)≠0 then⟨4,i,EC h i (CW h i)⟩else⟨0,0,0⟩
def Z8Y(h:Heap)(i:Nat)(hw:Zw h.W)(n:Z9 h=Y)(hi:i<h.P.length):GP 145 [h.av,nI i] Y (pageF h i).av []:=by have po:=B5 n;have hn:=Re h (i:Int);have hr:=AU n (i:Int);have j {h_ c_ p_} (b:Fq h_ c_ p_):=Fek 12 Z0.dv h.P (↑i) i<|FeG 20 ((h.P.getD i X).K != 0) Z0.dv h.P (↑i) i b;rcases bb ((h.P.getD i X).K != 0&&(h.P.getD i X).S != h.S)with hc0|hc0<;>have a:=hc0<;>simp only[bs]at a;obtain⟨f,g⟩:=a;rw[show pageF h i=Ck.mk (2:Int) (i:Int) (0:Int)from by(simp only[pageF] ;exact sj)];exact gF [] func145 [] (j (Ft 26 hc0 Fz));have k {h_ c_ p_} (b:Fq h_ c_ p_):=j<|Ff 26 hc0<|Fc 32 (@Aa h ((i:Int)) aa) b;rcases bb ((Ze h (i:Int)).2 != 0)with hc1|hc1<;>have c:=hc1<;>simp only[bs]at c;rw[show pageF h i=Ck.mk (3:Int) (i:Int) (0:Int)from by(simp only[pageF] ;exact sj)];exact gF [] func145 [] (k (Ft 36 hc1 Fz));have l {h_ c_ p_} (b:Fq h_ c_ p_):=k<|Ff 36 hc1<|Fc 42 (@Z39 h ((i:Int)) ((Ze h (i:Int)).1) aa oq oq oq aa) b;rcases bb (Cv h (i:Int) (Ze h (i:Int)).1 != 0)with hc2|hc2<;>have d:=hc2<;>simp only[bs]at d;rw[show pageF h i=Ck.mk (5:Int) (i:Int) (Cv h (i:Int) (Ze h (i:Int)).1)from by(simp only[pageF] ;exact sj)];exact gF [] func145 [] (l (Ft 44 hc2 Fz));have m {h_ c_ p_} (b:Fq h_ c_ p_):=l<|Ff 44 hc2<|Fc 50 (@Z7p h i aa aa aa) b;rcases bb (EC h i (CW h i) != 0)with hc3|hc3<;>have e:=hc3<;>simp only[bs]at e;rw[show pageF h i=Ck.mk (4:Int) (i:Int) (EC h i (CW h i))from by(simp only[pageF] ;exact sj)];exact gF [] func145 [] (m (Ft 52 hc3 Fz));rw[show pageF h i=Ck.mk (0:Int) (0:Int) (0:Int)from by(simp only[pageF] ;exact sj)];exact gF [] func145 [] (m (Ff 52 hc3 Fz))
def DD(h:Heap)(all:List Int)(i:Nat):Tg:=⟨tm 89 [(1,.pt 8001 0 0),(2,.pt 8002 0 0),(3,Z2 all),(5,nI i)],[(8002,.box 148 [nI 0,nI 0,uU 0]),(8001,.box 28 h.cells)],60⟩
def N7(b:Zy)(a all:List Int)(k:Nat):Bool:=Ba b k&&L (a.getD k X≠0)&&!decide (a.getD k X∈all)
def Mf(h:Heap)(all b:List Int)(a:Zy)(i k:Nat):Tg:=⟨tm 89 [(1,.pt 8001 0 0),(2,.pt 8002 0 0),(3,Z2 all),(5,nI i),(6,.pt 488006 0 0),(8,Z2 b),(10,nI k)],[(488006,.box 52 [nI a.K,nI a.length,u32 a.map]),(8002,.box 148 [nI 0,nI 0,uU 0]),(8001,.box 28 h.cells)],64⟩
section
variable(h:Heap)(all a:List Int)(b:Zy)(i k:Nat)(d:0<=b.map/\b.map<=4294967295)(hl:all.length<=1048576)(c:a.length<=4096)(e:0<=all.getD i X/\all.getD i X<=8192)(hi:i<all.length)
include d hl c e hi
theorem Z9I(hk:k<a.length)(f:N7 b a all k=M):CP (Zm f146 2) (Mf h all a b i k).st .nrm (Mf h all a b i (k+1)).st:=by simp only[N7,bs]at f;rcases f with(f|f)|f;let j:=Ba b (k:Int)&&a.getD k X != 0;exact sF [] []<|FM 46 47 wD a k<|Fc 52 (@Nh b ((k:Int)) aa)<|FeG 56 (Ba b (k:Int)) wD a (↑k) k<|FeG 64 j wD a (↑k) k<|FcG 66 j (λg=>by(try simp only[bs]at g);exact@E0 all (a.getD k X) aa)<|Ffs 68 (Ba b (k:Int)&&a.getD k X != 0&&!decide (a.getD k X∈all))<|Fx 49 k Fz;let l:=Ba b (k:Int)&&a.getD k X != 0;exact sF [] []<|FM 46 47 wD a k<|Fc 52 (@Nh b ((k:Int)) aa)<|FeG 56 (Ba b (k:Int)) wD a (↑k) k<|FeG 64 l wD a (↑k) k<|FcG 66 l (λg=>by(try simp only[bs]at g);exact@E0 all (a.getD k X) aa)<|Ffb 68 (Ba b (k:Int)&&a.getD k X != 0&&!decide (a.getD k X∈all))<|Fx 49 k Fz;let m:=Ba b (k:Int)&&a.getD k X != 0;exact sF [] []<|FM 46 47 wD a k<|Fc 52 (@Nh b ((k:Int)) aa)<|FeG 56 (Ba b (k:Int)) wD a (↑k) k<|FeG 64 m wD a (↑k) k<|FcG 66 m (λg=>by(try simp only[bs]at g);exact@E0 all (a.getD k X) aa)<|Ffs 68 (Ba b (k:Int)&&a.getD k X != 0&&!decide (a.getD k X∈all))<|Fx 49 k Fz
theorem ZjV(hk:k<a.length)(f:N7 b a all k=Y):CP (Zm f146 2) (Mf h all a b i k).st .ret (Tg.st ⟨tm 89 [(2,.pt 8002 0 0)],[(8002,.box 148 [nI 6,nI (Z4 h.C (all.getD i X+1+k)).1,uU (all.getD i X+1+k)])],64⟩):=by simp only[N7,bs]at f;obtain⟨⟨j,l⟩,m⟩:=f;let g:=Ba b (k:Int)&&a.getD k X != 0;exact sF [] []<|FM 46 47 wD a k<|Fc 52 (@Nh b ((k:Int)) aa)<|FeG 56 (Ba b (k:Int)) wD a (↑k) k<|FeG 64 g wD a (↑k) k<|FcG 66 g (λn=>by(try simp only[bs]at n);exact@E0 all (a.getD k X) aa)<|Fts 68 (Ba b (k:Int)&&a.getD k X != 0&&!decide (a.getD k X∈all))<|Fek 71 wD all (↑i) i<|Fv 73 (all.getD i X+1)<|Fv 75 (↑k)<|Fv 76 (all.getD i X+1+(k:Int))<|Fc 81 (@Hx h.C (all.getD i X+1+(k:Int)) oq oq) Fz
omit d hl c e hi in
theorem Zlt:CP (Zm f146 2) (Mf h all a b i a.length).st (.ext 2) (Tg.st ⟨tm 89 [(1,.pt 8001 0 0),(2,.pt 8002 0 0),(3,Z2 all),(5,nI i)],[(8002,.box 148 [nI 0,nI 0,uU 0]),(8001,.box 28 h.cells)],64⟩):=by exact sF [] []<|FO 46 47 wD a Fz
end
section
variable(h:Heap)(all a:List Int)(b:Zy)(i:Nat)(d:0<=b.map/\b.map<=4294967295)(hl:all.length<=1048576)(c:a.length<=4096)(e:0<=all.getD i X/\all.getD i X<=8192)(hi:i<all.length)
include d hl c e hi
theorem Zfw(g:(Lc a.length).find? (N7 b a all)=La):CP (Zi f146 2) (Mf h all a b i 0).st .nrm (Tg.st ⟨tm 89 [(1,.pt 8001 0 0),(2,.pt 8002 0 0),(3,Z2 all),(5,nI i)],[(8002,.box 148 [nI 0,nI 0,uU 0]),(8001,.box 28 h.cells)],64⟩):=by refine Bo (S:=λk=>(Mf h all a b i k).st) a.length kr (λk f=>Z9I h all a b i k d hl c e hi f ?_) (Zlt h all a b i);have:=Li.1 g k (Lf.2 f);simpa using this
theorem ZbD(k:Nat)(n:(Lc a.length).find? (N7 b a all)=O k):CP (Zi f146 2) (Tg.st ⟨tm 89 [(1,.pt 8001 0 0),(2,.pt 8002 0 0),(3,Z2 all),(5,nI i),(6,.pt 488006 0 0),(8,Z2 a),(10,nI 0)],[(488006,.box 52 [nI b.K,nI b.length,u32 b.map]),(8002,.box 148 [nI 0,nI 0,uU 0]),(8001,.box 28 h.cells)],64⟩) .ret (Tg.st ⟨tm 89 [(2,.pt 8002 0 0)],[(8002,.box 148 [nI 6,nI (Z4 h.C (all.getD i X+1+k)).1,uU (all.getD i X+1+k)])],64⟩):=by obtain⟨j,f,l⟩:=Lj.1 n;have f:=Lf.1 f;refine EM (S:=λk=>(Mf h all a b i k).st) k kr (λm g=>Z9I h all a b i m d hl c e hi oq ?_) (ZjV h all a b i k d hl c e hi f j);have:=l m g;simpa using this
end
def Z4o(h:Heap) a:(C0 h a).1.length<=4096:=by unfold C0;split;rename_i e;have po:=B5 (Iu e).2.2.1;have:=Z9R h.W (a+1) (Zv h a).1.length;omega;simp
def HH(h:Heap)(all:List Int)(i:Nat):Option Nat:=(Lc (C0 h (all.getD i X)).1.length).find? (N7 (Zv h (all.getD i X)).1 (C0 h (all.getD i X)).1 all)
section
variable(h:Heap)(all:List Int)(i:Nat)(a:Zw h.W)(hl:all.length<=1048576)(hr:0<=all.getD i X/\all.getD i X<=8192)(hi:i<all.length)
include a hl hr hi
theorem Z7i(c:HH h all i=La):CP (Zm f146 0) (DD h all i).st .nrm (DD h all (i+1)).st:=by have hm:=Z0r a (all.getD i X);have hf:(C0 h (all.getD i X)).1.length<=4096:=Z4o h _;unfold HH at c;let b:=all.getD i X;exact sF [] []<|FN 22 23 30 wD all i<|Fc 32 (@Nc h b aa oq)<|Fek 39 wD all (↑i) i<|Fc 41 (@Z1q h b aa oq)<|Fu (@Zfw h all ((C0 h b).1) ((Zv h b).1) i aa aa aa aa aa aa)<|Fx 25 i Fz
theorem Zfh(k:Nat)(c:HH h all i=O k):CP (Zm f146 0) (DD h all i).st .ret (Tg.st ⟨tm 89 [(2,.pt 8002 0 0)],[(8002,.box 148 [nI 6,nI (Z4 h.C (all.getD i X+1+k)).1,uU (all.getD i X+1+k)])],60⟩):=by have hm:=Z0r a (all.getD i X);have hf:(C0 h (all.getD i X)).1.length<=4096:=Z4o h _;unfold HH at c;let b:=all.getD i X;exact sF [] []<|FN 22 23 30 wD all i<|Fc 32 (@Nc h b aa oq)<|Fek 39 wD all (↑i) i<|Fc 41 (@Z1q h b aa oq)<|Fu (@ZbD h all ((C0 h b).1) ((Zv h b).1) i aa aa aa aa aa k aa) Fz
end
def Zbw(h:Heap) all:CP (Zm f146 0) (DD h all all.length).st (.ext 0) (Tg.st ⟨tm 89 [(2,.pt 8002 0 0)],[(8002,.box 148 [nI 0,nI 0,uU 0])],60⟩):=by exact sF [] []<|FO 22 23 wD all Fz
def EW(h:Heap)(all:List Int):Ck:=
 match (Lc all.length).find? (λi=>(HH h all i).isSome)with|none=>⟨0,0,0⟩|some i=>⟨6,(Z4 h.C (all.getD i X+1+((HH h all i).getD 0:Nat))).1,all.getD i X+1+((HH h all i).getD 0:Nat)⟩
section
variable(h:Heap)(all:List Int)(b:Zw h.W)(hl:all.length<=1048576)(a:∀x∈all,0<=x/\x<=8192)
include b hl a
theorem Zhw(d:(Lc all.length).find? (λi=>(HH h all i).isSome)=La):CP (Zi f146 0) (DD h all 0).st .nrm (Tg.st ⟨tm 89 [(2,.pt 8002 0 0)],[(8002,.box 148 [nI 0,nI 0,uU 0])],60⟩):=by refine Bo (S:=λk=>(DD h all k).st) all.length kr (λk c=>Z7i h all k b hl (a _ (ZT.2 ⟨k,c,rfl⟩)) c ?_) (Zbw h all);have:=Li.1 d k (Lf.2 c);simpa using this
theorem Zcu(i k:Nat)(g:(Lc all.length).find? (λi=>(HH h all i).isSome)=O i)(d:HH h all i=O k):CP (Zi f146 0) (Tg.st ⟨tm 89 [(1,.pt 8001 0 0),(2,.pt 8002 0 0),(3,Z2 all),(5,nI 0)],[(8002,.box 148 [nI 0,nI 0,uU 0]),(8001,.box 28 h.cells)],60⟩) .ret (Tg.st ⟨tm 89 [(2,.pt 8002 0 0)],[(8002,.box 148 [nI 6,nI (Z4 h.C (all.getD i X+1+k)).1,uU (all.getD i X+1+k)])],60⟩):=by obtain⟨h1,c,f⟩:=Lj.1 g;have c:=Lf.1 c;refine EM (S:=λk=>(DD h all k).st) i kr (λm e=>Z7i h all m b hl (a _ (ZT.2 ⟨m,by omega,rfl⟩)) oq ?_) (Zfh h all i b hl (a _ (ZT.2 ⟨i,c,rfl⟩)) c k d);have:=f m e;simpa using this
end
def Z3J(h:Heap)(hw:Zw h.W):GP 146 [h.av] Y (EW h (Zb h).1).av []:=by
 have hl:=H3 h;have hr:=IG h;cases hb:(Lc (Zb h).1.length).find? (λi=>(HH h (Zb h).1 i).isSome)with
 |none =>
  have e:EW h (Zb h).1=⟨0,0,0⟩:=by simp only[EW,hb]
  rw[e];exact gF [] func146 []<|Fc 17 (@RQ h aa)<|Fu (@Zhw h ((Zb h).1) aa oq aa aa) Fz
 |some i =>
  have a:=(Lj.1 hb).1;obtain⟨k,b⟩:=Option.isSome_iff_exists.1 a;have e:EW h (Zb h).1=⟨6,(Z4 h.C ((Zb h).1.getD i X+1+(k:Nat))).1,(Zb h).1.getD i X+1+(k:Nat)⟩:=by simp only[EW,hb,b,Option.getD_some]
  rw[e];exact gF [] func146 []<|Fc 17 (@RQ h aa)<|Fu (@Zcu h ((Zb h).1) aa oq aa i k aa aa) Fz
def ZfN(h:Heap)(hw:Zw h.W)(hp:Z9 h=M):GP 89 [h.av] Y (Ck.mk 1 0 0).av []:=by exact gF [] func89 []<|Fc 9 (@CC h)<|Ftb 10 (!Z9 h) Fz
def M1(h:Heap)(i:Nat):Tg:=⟨tm 65 [(1,.pt 8001 0 0),(2,.pt 8002 0 0),(3,nI i)],[(8002,.box 148 [nI 0,nI 0,uU 0]),(8001,.box 28 h.cells)],60⟩
section
variable(h:Heap)(i:Nat)(hw:Zw h.W)(a:Z9 h=Y)
include hw a
theorem Z5m(hi:i<h.P.length)(hb:(pageF h i).fault=0):CP (Zm f89 0) (M1 h i).st .nrm (M1 h (i+1)).st:=by have po:=B5 a;exact sF [] []<|FM 15 16 Z0.dv h.P i<|Fc 21 (@Z8Y h i aa aa aa)<|Ffb 24 ((pageF h i).fault != 0)<|Fx 18 i Fz
theorem ZiE(hi:i<h.P.length)(hb:(pageF h i).fault≠0):CP (Zm f89 0) (M1 h i).st .ret (Tg.st ⟨tm 65 [(2,.pt 8002 0 0)],[(8002,.box 148 [nI (pageF h i).fault,nI (pageF h i).page,uU (pageF h i).addr])],60⟩):=by have po:=B5 a;exact sF [] []<|FM 15 16 Z0.dv h.P i<|Fc 21 (@Z8Y h i aa aa aa)<|Ftb 24 ((pageF h i).fault != 0) Fz
end
def ZcH(h:Heap)(a:Z9 h=Y):CP (Zm f89 0) (M1 h h.P.length).st (.ext 0) (Tg.st ⟨tm 65 [(1,.pt 8001 0 0),(2,.pt 8002 0 0)],[(8002,.box 148 [nI 0,nI 0,uU 0]),(8001,.box 28 h.cells)],60⟩):=by have po:=B5 a;exact sF [] []<|FO 15 16 Z0.dv h.P Fz
def GI(h:Heap):Option Nat:=(Lc h.P.length).find? (λi=>L ((pageF h i).fault≠0))
section
variable(h:Heap)(b:Zw h.W)(a:Z9 h=Y)
include b a
theorem Z1w(d:GI h=La):CP (Zi f89 0) (M1 h 0).st .nrm (Tg.st ⟨tm 65 [(1,.pt 8001 0 0),(2,.pt 8002 0 0)],[(8002,.box 148 [nI 0,nI 0,uU 0]),(8001,.box 28 h.cells)],60⟩):=by refine Bo (S:=λk=>(M1 h k).st) h.P.length kr (λk c=>Z5m h k b a c ?_) (ZcH h a);have:=Li.1 d k (Lf.2 c);simpa using this
theorem ZmT(i:Nat)(g:GI h=O i):CP (Zi f89 0) (Tg.st ⟨tm 65 [(1,.pt 8001 0 0),(2,.pt 8002 0 0),(3,nI 0)],[(8002,.box 148 [nI 0,nI 0,uU 0]),(8001,.box 28 h.cells)],60⟩) .ret (Tg.st ⟨tm 65 [(2,.pt 8002 0 0)],[(8002,.box 148 [nI (pageF h i).fault,nI (pageF h i).page,uU (pageF h i).addr])],60⟩):=by obtain⟨e,c,f⟩:=Lj.1 g;have c:=Lf.1 c;refine EM (S:=λk=>(M1 h k).st) i kr (λm d=>Z5m h m b a oq ?_) (ZiE h i b a c (by simpa using e));have:=f m d;simpa using this
end
def Zml(h:Heap)(hw:Zw h.W)(hp:Z9 h=Y)(i:Nat)(hb:GI h=O i):GP 89 [h.av] Y (pageF h i).av []:=by exact gF [] func89 []<|Fc 9 (@CC h)<|Ffb 10 (!Z9 h)<|Fu (@ZmT h aa aa i aa) Fz
def Zj2(h:Heap)(hw:Zw h.W)(hp:Z9 h=Y)(hb:GI h=La)(hq:(EW h (Zb h).1).fault≠0):GP 89 [h.av] Y (EW h (Zb h).1).av []:=by exact gF [] func89 []<|Fc 9 (@CC h)<|Ffb 10 (!Z9 h)<|Fu (@Z1w h aa aa aa)<|Fc 27 (@Z3J h aa)<|Ftb 30 ((EW h (Zb h).1).fault != 0) Fz
end Go.Proofs.YtgedmeaemofdkaaGreat
