/-
 The statement CollectReclaims: part 8.
 Conditions: none.
-/
import Derived.Test.YtgedmeaemofdkaaGreatZ7
set_option maxRecDepth 100000
set_option maxHeartbeats 2000000
set_option linter.all false
open Inhabited renaming default->X
open Bool renaming true->Y,false->M,and_eq_true->Lg,eq_false_or_eq_true->Lm,eq_iff_iff->Ln
open List renaming map->Z,range->Lc,take->Ld,filter->Le,mem_range->Lf,find?_eq_none->Li,find?_range_eq_some->Lj,replicate->Lk,getElem?_map->Ll,append_nil->Lp,getD->Lq,map_congr_left->Lr,map_set->Ls,append_assoc->Lw,filter_append->Lx,filter_cons->Ly,filter_nil->Lz,length_filter_le->LA,map_append->LB,map_drop->LC,map_take->LD,take_length->LF
open Decidable renaming decide->L
open Option renaming some->O,none->La,map_eq_some_iff->Lt,map_some->LG
open Int renaming toNat->Lb,fdiv_eq_ediv_of_nonneg->Lo
open Go.IntKind renaming u64->Lh,i64->Lu,u32->Lv
open Go.Proofs.Tryz
namespace Go.Proofs.YtgedmeaemofdkaaGreat
open Go.Sx
def BE(h:Heap)(n k:Int):Heap×Int×Bool:=
 if 0<=first h.P k/\Cl h.P+k<=E6 h.C then(⟨h.C,h.W,(GJ h.C h.P (first h.P k) h.S n).1,h.S,h.B⟩,4096+first h.P k*h.C.pw,Y)else(B8,0,M)
def Z5W(h:Heap)(n k:Int)(q:Z8 h=Y)(hk:k=need h.C n)(l:1<=k):GP 167 [h.av,nI n,nI k] M (.tu [(BE h n k).1.av,uU (BE h n k).2.1,bL (BE h n k).2.2]) []:=by
 have r:=B4 q;obtain⟨g,o2,o3,o4,o5,o6,o7,o8,o9⟩:=r;have hr:=Z1U h.P k;have c:0<=first h.P k->first h.P k+k<=h.P.length:=λi=>(HN i).2.1
 have j:=Z4T h.P;have m:=Z5r g;have p:=DU h.C n;have o:0<=first h.P k->0<=first h.P k*h.C.pw/\first h.P k*h.C.pw+h.C.pw<=4096:=λf=>HW g f (by have:=c f;omega)
 by_cases a:0<=first h.P k/\Cl h.P+k<=E6 h.C
 have b:BE h n k=(⟨h.C,h.W,(GJ h.C h.P (first h.P k) h.S n).1,h.S,h.B⟩,4096+first h.P k*h.C.pw,Y):=by rw[BE,if_pos a]
 rw[show BE h n k=(Heap.mk h.C h.W (GJ h.C h.P (first h.P k) h.S n).1 h.S h.B,(4096:Int)+first h.P k*h.C.pw,Y)from by rw[b]];let d:=!decide (first h.P k<0);exact gF [] func167 []<|Fc 13 (@Df h.P k oq)<|FcG 19 d (λa=>by(try simp only[bs]at a);exact@TY h.P oq)<|FiG 21 d ((↑(Cl h.P):Int)+k)<|FcG 24 d (λa=>by(try simp only[bs]at a);exact@MW h.C)<|Ffb 26 (L (first h.P k<0)||L (E6 h.C<(↑(Cl h.P):Int)+k))<|Fc 37 (@ZkL h.C h.P (first h.P k) h.S n oq)<|Fi 46 (first h.P k*h.C.pw)<|Fi 47 (4096+first h.P k*h.C.pw)<|Fv 48 (4096+first h.P k*h.C.pw) Fz;have b:BE h n k=(B8,0,M):=by rw[BE,if_neg a]
 rw[b];let e:=!decide (first h.P k<0);exact gF [] func167 []<|Fc 13 (@Df h.P k oq)<|FcG 19 e (λa=>by(try simp only[bs]at a);exact@TY h.P oq)<|FiG 21 e ((↑(Cl h.P):Int)+k)<|FcG 24 e (λa=>by(try simp only[bs]at a);exact@MW h.C)<|Ftb 26 (L (first h.P k<0)||L (E6 h.C<(↑(Cl h.P):Int)+k))<|Fnl (Fnl Fz)
def Zgl{h:Heap}{n:Int}(g:Z8 h=Y)(hn:1<=n/\n<=256):0<=(Bl h n).2.1/\(Bl h n).2.1<=8192/\((Bl h n).2.2=Y->(Bl h n).1.W=h.W/\4096<=(Bl h n).2.1)/\((Bl h n).2.2=M->(Bl h n).1=B8):=by
 obtain⟨m,o2,o3,o4,o5,o6,o7,o8,q⟩:=B4 g;have hb:=(I7.1 g).2.2.2.2.1;have i:=λp=>En g (j:=h.B.toNat) p;have a:=λc=>NF (h:=h) q c;have d:0<=h.B->0<=h.B*h.C.pw/\h.B*h.C.pw+h.C.pw<=4096:=λb=>HW m b oq;have f:0<=first h.P 1->0<=first h.P 1*h.C.pw/\first h.P 1*h.C.pw+h.C.pw<=4096:=λb=>HW m b (by have:=a b;omega)
 unfold Bl;split;rename_i c;unfold IU at c;have o:=d c.1;have k:=i oq;refine⟨by simp only;omega,by simp only;omega,λ_=>⟨rfl,by simp only;omega⟩,λe=>by cases e⟩;split;rename_i l;have o:=f l.1;have k:=congrArg Z0.U (a l.1).2.2.2;simp only at k;refine⟨by simp only;omega,by simp only;omega,λ_=>⟨rfl,by simp only;omega⟩,λe=>by cases e⟩;exact⟨by simp,by simp,(λe=>nomatch e),λ_=>rfl⟩
def ZbN{h:Heap}{n k}(b:Z8 h=Y):0<=(BE h n k).2.1/\(BE h n k).2.1<=8192/\((BE h n k).2.2=Y->(BE h n k).1.W=h.W/\4096<=(BE h n k).2.1)/\((BE h n k).2.2=M->(BE h n k).1=B8):=by obtain⟨d,o2,o3,o4,o5,o6,o7,o8,o9⟩:=B4 b;unfold BE;split;rename_i a;have h3:=(HN a.1);have h1:=HW (c:=h.C) (i:=first h.P k) d a.1 oq;exact⟨by simp only;omega,by simp only;omega,λ_=>⟨rfl,by simp only;omega⟩,λe=>by cases e⟩;exact⟨by simp,by simp,(λe=>nomatch e),λ_=>rfl⟩
def Co(h:Heap)(a:Zv):Heap×Int×Bool:=if 0<need h.C (Z5 a)then BE h (Z5 a) (need h.C (Z5 a))else Bl h (Z5 a)
def ZY(h:Heap)(a:Zv):Heap×Int×Int:=
 if Z8 h=Y/\G3 h.C a=Y then(if(Co h a).2.2=Y then((BI (Co h a).1 (Co h a).2.1 a).1,(Co h a).2.1,0)else(B8,0,3))else(B8,0,1)
def Dc:Zz []:=λw h=>by simp at h
def MB{c}{a:Zv}(h:G3 c a=Y):ZT a=Y/\1<=Z5 a/\Z5 a<=256/\0<=need c (Z5 a)/\a.K≠0:=by
 simp only[G3,Lg,decide_eq_true_eq]at h;have hv:=Gq.1 h.1.1;have hn:=DU c (Z5 a);have hs:Z5 a=a.length+1:=by rw[Z5,if_pos h.1.1]
 exact⟨h.1.1,by omega,by omega,by omega,h.1.2⟩
def Z87(h:Heap)(a:Zv)(p:Zz h.W)(hm:0<=a.map/\a.map<=4294967295):GP 114 [h.av,a.av] M (.tu [(ZY h a).1.av,uU (ZY h a).2.1,nI (ZY h a).2.2]) []:=by
 by_cases f:Z8 h=Y;cases ha:G3 h.C a with
 |false =>
  have b:ZY h a=(B8,0,1):=by rw[ZY,if_neg (by rw[ha];simp)]
  rw[b];exact gF [] func114 []<|Fc 13 (@Cy h)<|FcG 19 (!!Z8 h) (λd=>by(try simp only[bs]at d);exact@AU h.C a aa)<|Fts 21 (!Z8 h||!G3 h.C a)<|Fnl (Fnl Fz)
 |true =>
  obtain⟨a1,q,r,a4,a5⟩:=MB ha;have l:=Zgl f ⟨q,r⟩;have m:=ZbN (n:=Z5 a) (k:=need h.C (Z5 a)) f;have w1:Zz (Bl h (Z5 a)).1.W:=by
   cases e:(Bl h (Z5 a)).2.2 with|true=>rw[(l.2.2.1 e).1];exact p|false=>rw[l.2.2.2 e];exact Dc
  have w2:Zz (BE h (Z5 a) (need h.C (Z5 a))).1.W:=by
   cases e:(BE h (Z5 a) (need h.C (Z5 a))).2.2 with|true=>rw[(m.2.2.1 e).1];exact p|false=>rw[m.2.2.2 e];exact Dc
  by_cases o:0<need h.C (Z5 a);have b:Co h a=BE h (Z5 a) (need h.C (Z5 a)):=by rw[Co,if_pos o]
  have i {h_ c_ p_} (g:Fq h_ c_ p_):=Fc 13 (@Cy h)<|FcG 19 (!!Z8 h) (λd=>by(try simp only[bs]at d);exact@AU h.C a aa)<|Ffs 21 (!Z8 h||!G3 h.C a)<|Fc 24 (@Il a aa)<|Fc 28 (@Rq h.C (Z5 a))<|Fc 32 (@Pr h (Z5 a) aa oq)<|Ftb 37 (L (0<need h.C (Z5 a)))<|Fc 42 (@Z5W h (Z5 a) (need h.C (Z5 a)) aa (by rfl) aa) g;rcases bb (!(BE h (Z5 a) (need h.C (Z5 a))).2.2)with hc0|hc0<;>have c:=hc0<;>simp only[bs]at c;exact gF [] func114 (fO 5) (i (Ft 47 hc0<|Fnl (Fnl (Fa (by simp[ZY,b,B8, *]:0=(ZY h a).1.C.pw)<|Fa (by simp[ZY,b,B8, *]:0=(ZY h a).1.C.pg)<|Fa (by simp[ZY,b,B8, *]:[]=Z wD (ZY h a).1.W)<|Fa (by simp[ZY,b,B8, *]:[]=Z Z0.dv (ZY h a).1.P)<|Fa (by simp[ZY,b,B8, *]:0=(ZY h a).1.S)<|Fa (by simp[ZY,b,B8, *]:0=(ZY h a).1.B)<|Fa (by simp[ZY,b,B8, *]:0=(ZY h a).2.1)<|Fa (by simp[ZY,b,B8, *]:3=(ZY h a).2.2) Fz))));rw[show ZY h a=((BI (BE h (Z5 a) (need h.C (Z5 a))).1 (BE h (Z5 a) (need h.C (Z5 a))).2.1 a).1,(BE h (Z5 a) (need h.C (Z5 a))).2.1,(0:Int))from by simp[ZY,b,B8, *]];exact gF [] func114 [] (i (Ff 47 hc0<|Fc 53 (@Z5C ((BE h (Z5 a) (need h.C (Z5 a))).1) ((BE h (Z5 a) (need h.C (Z5 a))).2.1) a aa oq aa) Fz));have b:Co h a=Bl h (Z5 a):=by rw[Co,if_neg o]
  have j {h_ c_ p_} (g:Fq h_ c_ p_):=Fc 13 (@Cy h)<|FcG 19 (!!Z8 h) (λd=>by(try simp only[bs]at d);exact@AU h.C a aa)<|Ffs 21 (!Z8 h||!G3 h.C a)<|Fc 24 (@Il a aa)<|Fc 28 (@Rq h.C (Z5 a))<|Fc 32 (@Pr h (Z5 a) aa oq)<|Ffb 37 (L (0<need h.C (Z5 a))) g;rcases bb (!(Bl h (Z5 a)).2.2)with hc0|hc0<;>have c:=hc0<;>simp only[bs]at c;exact gF [] func114 (fO 5) (j (Ft 47 hc0<|Fnl (Fnl (Fa (by simp[ZY,b,B8, *]:0=(ZY h a).1.C.pw)<|Fa (by simp[ZY,b,B8, *]:0=(ZY h a).1.C.pg)<|Fa (by simp[ZY,b,B8, *]:[]=Z wD (ZY h a).1.W)<|Fa (by simp[ZY,b,B8, *]:[]=Z Z0.dv (ZY h a).1.P)<|Fa (by simp[ZY,b,B8, *]:0=(ZY h a).1.S)<|Fa (by simp[ZY,b,B8, *]:0=(ZY h a).1.B)<|Fa (by simp[ZY,b,B8, *]:0=(ZY h a).2.1)<|Fa (by simp[ZY,b,B8, *]:3=(ZY h a).2.2) Fz))));rw[show ZY h a=((BI (Bl h (Z5 a)).1 (Bl h (Z5 a)).2.1 a).1,(Bl h (Z5 a)).2.1,(0:Int))from by simp[ZY,b,B8, *]];exact gF [] func114 [] (j (Ff 47 hc0<|Fc 53 (@Z5C ((Bl h (Z5 a)).1) ((Bl h (Z5 a)).2.1) a aa oq aa) Fz))
 have s:Z8 h=M:=by simpa using f
 have b:ZY h a=(B8,0,1):=by rw[ZY,if_neg (by rw[s];simp)]
 rw[b];exact gF [] func114 []<|Fc 13 (@Cy h)<|FcG 19 (!!Z8 h) (λd=>by(try simp only[bs]at d);exact@AU h.C a aa)<|Fts 21 (!Z8 h||!G3 h.C a)<|Fnl (Fnl Fz)
def SE(h:Zv)(hm:0<=h.map/\h.map<=4294967295):GP 120 [h.av] Y (bL (ZT h)) []:=by
 have hs:=λq=>Za1 (n:=h.length) q;have ho:0<=h.length->h.length<=32->ones h.length=2^h.length.toNat-1:=λh0 h1=>by rw[ones,Nat.min_eq_left oq]
 rcases Lm (L (h.K<(0:Int))||L ((3:Int)<h.K)||L (h.length<(0:Int))||L ((255:Int)<h.length))with hc0|hc0;have a:=hc0;simp only[bs]at a;refine Zb [((20:Nat),[Hint.br Y])] [] [] dd func120 [M,M,M,M,M,M,M,M,M,Y] (φ:=(L (h.K<(0:Int))||L ((3:Int)<h.K)||L (h.length<(0:Int))||L ((255:Int)<h.length))=Y/\Y=Y/\M=ZT h) ?_ kr kr;exact⟨aa,rfl,(by(simp[ZT, *];omega))⟩;have a:=hc0;simp only[bs]at a;obtain⟨⟨⟨c,d⟩,e⟩,f⟩:=a;rcases Lm (h.K==(1:Int))with hc1|hc1;have b:=hc1;simp only[bs]at b;refine Zb [((20:Nat),[Hint.br M]),((23:Nat),[Hint.br Y]),((30:Nat),[Hint.int h.map]),((33:Nat),[Hint.call Y (uU (ones h.length)) []])] [] [] dd func120 [M,M,M,M,M,M,M,M,M,M,M,M,M,M,M,M,Y] (φ:=(L (h.K<(0:Int))||L ((3:Int)<h.K)||L (h.length<(0:Int))||L ((255:Int)<h.length))=M/\M=M/\(h.K==(1:Int))=Y/\Y=Y/\(L (h.length<=(32:Int))=Y->Lh.wrap h.map=h.map)/\(L (h.length<=(32:Int))=Y->GP 170 [nI h.length] Y (uU (ones h.length)) [])/\(L (h.length<=(32:Int))&&L (h.map<=ones h.length))=ZT h) ?_ kr kr;exact⟨aa,rfl,aa,rfl,(by intro g;(try simp only[bs]at g);exact BA rfl oq oq),(λg=>by(try simp only[bs]at g);exact@RX (h.length)),(by grind[ZT])⟩;have b:=hc1;simp only[bs]at b;refine Zb [((20:Nat),[Hint.br M]),((23:Nat),[Hint.br M])] [] [] dd func120 [M,M,M,M,M,M,M,M,M,Y] (φ:=(L (h.K<(0:Int))||L ((3:Int)<h.K)||L (h.length<(0:Int))||L ((255:Int)<h.length))=M/\M=M/\(h.K==(1:Int))=M/\M=M/\(h.K==h.K&&(h.length==h.length&&h.map==(0:Int)))=ZT h) ?_ kr kr;exact⟨aa,rfl,aa,rfl,(by grind[ZT])⟩
def ET(h:Zv)(hm:0<=h.map/\h.map<=4294967295):GP 69 [h.av] Y (nI (Z5 h)) []:=by rcases Lm (!ZT h)with hc0|hc0;have a:=hc0;simp only[bs]at a;refine Zb [((4:Nat),[Hint.call Y (bL (ZT h)) []]),((5:Nat),[Hint.br Y])] [] [] dd func69 [Y] (φ:=GP 120 [h.av] Y (bL (ZT h)) []/\(!ZT h)=Y/\Y=Y/\(0:Int)=Z5 h) ?_ kr kr;exact⟨(@SE (h) aa),aa,rfl,(by simp[Z5, *])⟩;have a:=hc0;simp only[bs]at a;have e:=Gq.1 a;obtain⟨g,⟨f,⟨d,⟨b,c⟩⟩⟩⟩:=e;refine Zb [((4:Nat),[Hint.call Y (bL (ZT h)) []]),((5:Nat),[Hint.br M]),((8:Nat),[Hint.int (h.length+(1:Int))])] [] [] dd func69 [Y] (φ:=GP 120 [h.av] Y (bL (ZT h)) []/\(!ZT h)=M/\M=M/\Lu.wrap (h.length+(1:Int))=h.length+(1:Int)/\h.length+(1:Int)=Z5 h) ?_ kr kr;exact⟨(@SE (h) aa),aa,rfl,(by exact Ze rfl oq oq),(by simp[Z5, *])⟩
def Ti(ws:List Int)(a n:Int)(hw:ws.length<=1048576)(h0:0<=a/\a<=18446744073709551615):GP 169 [Z2 ws,uU a,nI n] Y (.tu [nI (ZA ws a n).1,bL (ZA ws a n).2]) []:=by have e {h_ c_ p_} (f:Fq h_ c_ p_):=FvG 13 (!decide (a<4096)) (a-4096)<|FlG 15 (!decide (a<4096)) wD ws<|FvG 16 (!decide (a<4096)) (↑ws.length) f;rcases bb (L (a<4096)||L ((ws.length:Int)<a-4096))with hc0|hc0<;>have b:=hc0<;>simp only[bs]at b;rw[show ZA ws a n=((0:Int),M)from by(simp[ZA, *];omega)];exact gF [] func169 [] (e (Ft 18 hc0 Fz));obtain⟨c,d⟩:=b;rw[show ZA ws a n=(a-(4096:Int),L (n<=(ws.length:Int)-(a-(4096:Int))))from by(simp[ZA, *];omega)];exact gF [] func169 [] (e (Ff 18 hc0<|Fv 20 (a-4096)<|Fi 21 (a-4096)<|Fl 25 wD ws<|Fi 27 ((ws.length:Int)-(a-4096)) Fz))
def Z8C(ws:List Int)(a:Int)(hw:ws.length<=1048576)(h0:0<=a/\a<=18446744073709551615):GP 163 [Z2 ws,uU a] Y (.tu [nI (Cc ws a).1,nI (Cc ws a).2]) []:=by have c {h_ c_ p_} (d:Fq h_ c_ p_):=Fc 11 (@Ti ws a (1) aa aa) d;rcases bb (!(ZA ws a 1).2)with hc0|hc0<;>have b:=hc0<;>simp only[bs]at b;rw[show Cc ws a=((0:Int),(2:Int))from by grind[ZA,Cc]];exact gF [] func163 [] (c (Ft 15 hc0 Fz));rw[show Cc ws a=((ZA ws a (1:Int)).1,(0:Int))from by grind[ZA,Cc]];exact gF [] func163 [] (c (Ff 15 hc0 Fz))
def OK(ws:List Int)(a:Int)(hw:ws.length<=1048576)(h0:0<=a/\a<=18446744073709551615):GP 111 [Z2 ws,uU a] Y (.tu [uU (Z1 ws a).1,nI (Z1 ws a).2]) []:=by rcases bb ((Cc ws a).2 != 0)with hc0|hc0<;>have b:=hc0<;>simp only[bs]at b;have c:=Z7P b;obtain⟨g,h⟩:=c;rw[show Z1 ws a=((0:Int),(Cc ws a).2)from by simp[Z1, *]];exact gF [] func111 []<|Fc 11 (@Z8C ws a aa aa)<|Ft 15 hc0 Fz;have d:=Z6T b;obtain⟨i,⟨e,f⟩⟩:=d;rw[show Z1 ws a=(ws.getD (Cc ws a).1.toNat X,(0:Int))from by simp[Z1, *]];refine Zb [((11:Nat),[Hint.call Y (AV.tu [nI (Cc ws a).1,nI (Cc ws a).2]) []]),((15:Nat),[Hint.br M]),((19:Nat),[Hint.el (wD (ws.getD (Cc ws a).1.toNat X))])] [] [] dd func111 [] (φ:=GP 163 [Z2 ws,uU a] Y (AV.tu [nI (Cc ws a).1,nI (Cc ws a).2]) []/\((Cc ws a).2 != (0:Int))=M/\M=M/\(0:Int)<=(Cc ws a).1/\(Z wD ws)[(Cc ws a).1.toNat]?=O (wD (ws.getD (Cc ws a).1.toNat X))) ?_ kr kr;exact⟨(@Z8C (ws) (a) aa aa),aa,rfl,(by exact Zo oq oq oq)⟩
def BF(w:Int):Nat->Int|0=>w|1=>w/4|2=>w/16|3=>w/65536|_=>w/281474976710656
def ZS(w:Int):List Int:=[w%4,w/4%4,w/16%4096,w/65536%4294967296]
def Z0D(w:Int)(i:Nat):Tg:=⟨tm 49 [(0,uU w),(1,ZF [2,2,12,32]),(4,.d (.sl 0 [])),(5,nI 0),(6,nI ([64,62,60,48,16].getD i 0)),(12,ZF [2,2,12,32]),(13,nI 4),(14,nI i)],[],20⟩
def Zlb w(i:Nat)(hi:i<4):CP (Zn f201 0) (Z0D w i).st .nrm (Z0D w (i+1)).st:=by
 have h:i=0\/i=1\/i=2\/i=3:=by omega
 rcases h with rfl|rfl|rfl|rfl;refine Zg [((16:Nat),[Hint.el (iD (2:Int))])] [] [] [] (φ:=(0:Int)<=(↑(0:Nat):Int)/\(Z iD [(2:Int),(2:Int),(12:Int),(32:Int)])[(↑(0:Nat):Int).toNat]?=O (iD (2:Int))) ?_ kr kr kr;exact(by simp[*]);refine Zg [((16:Nat),[Hint.el (iD (2:Int))])] [] [] [] (φ:=(0:Int)<=(↑(1:Nat):Int)/\(Z iD [(2:Int),(2:Int),(12:Int),(32:Int)])[(↑(1:Nat):Int).toNat]?=O (iD (2:Int))) ?_ kr kr kr;exact(by simp[*]);refine Zg [((16:Nat),[Hint.el (iD (12:Int))])] [] [] [] (φ:=(0:Int)<=(↑(2:Nat):Int)/\(Z iD [(2:Int),(2:Int),(12:Int),(32:Int)])[(↑(2:Nat):Int).toNat]?=O (iD (12:Int))) ?_ kr kr kr;exact(by simp[*]);refine Zg [((16:Nat),[Hint.el (iD (32:Int))])] [] [] [] (φ:=(0:Int)<=(↑(3:Nat):Int)/\(Z iD [(2:Int),(2:Int),(12:Int),(32:Int)])[(↑(3:Nat):Int).toNat]?=O (iD (32:Int))) ?_ kr kr kr;exact(by simp[*])
def Zay w:CP (Zn f201 0) (Z0D w 4).st (.ext 0) (Tg.st ⟨tm 49 [(0,uU w),(1,ZF [2,2,12,32]),(4,.d (.sl 0 [])),(5,nI 0)],[],60⟩):=by exact sF [] [] Fz
def Z4i(w:Int)  := Bt (S:=λi=>(Z0D w i).st) 4 (by kernel_rfl) (λi a=>Zlb w i a) (Zay w)
def OY(w:Int)(i:Nat):Tg:=⟨tm 49 [(0,uU (BF w i)),(4,.d (.sl 0 [])),(5,nI 0),(9,.ow 480009),(29,ZF [2,2,12,32]),(30,nI 4),(31,nI i)],[(480009,.arr 35 1 (((ZS w).take i).map wD))],60⟩
def Zb2(w:Int)(i:Nat)(h0:0<=w)(h1:w<=18446744073709551615)(hi:i<4):CP (Zn f201 2) (OY w i).st .nrm (OY w (i+1)).st:=by
 have o1:ones 2=3:=by decide
 have o2:ones 12=4095:=by decide
 have o3:ones 32=4294967295:=by decide
 have a0:bits .and .u64 w (ones 2)=w%4:=by rw[o1];exact NQ 2 dd dd oq oq
 have a1:bits .and .u64 (w/4) (ones 2)=w/4%4:=by rw[o1];exact NQ 2 dd dd oq oq
 have a2:bits .and .u64 (w/16) (ones 12)=w/16%4096:=by rw[o2];exact NQ 12 dd dd oq oq
 have a3:bits .and .u64 (w/65536) (ones 32)=w/65536%4294967296:=by rw[o3];exact NQ 32 dd dd oq oq
 have f1:(w/4).fdiv 4=w/16:=by rw[Lo _ dd];omega
 have f2:(w/16).fdiv 4096=w/65536:=by rw[Lo _ dd];omega
 have f3:(w/65536).fdiv 4294967296=w/281474976710656:=by rw[Lo _ dd];omega
 have h:i=0\/i=1\/i=2\/i=3:=by omega
 rcases h with rfl|rfl|rfl|rfl;exact sF [(496041,480009)] []<|Fh 33 [.el (iD 2)]<|Fa (by simp[BF,ZS, *]:0<=(↑(0:Nat):Int)/\(Z iD [2,2,12,32])[(↑(0:Nat):Int).toNat]?=O (iD 2))<|Fc 38 (@RX (2))<|Fg 39 (by assumption:bits BinOp.and Lh (BF w 0) (ones (2:Int))=BF w 0%4)<|Fs 40 (Z wD [BF w 0%4])<|Fa (by simp[BF,ZS, *]:(Z wD (Ld 0 (ZS w))).length+(Z wD [BF w 0%4]).length<=2^30)<|Fs 41 (Z wD [BF w 0%4])<|Fg 44 (Ht rfl dd:(BF w 0).fdiv (2^min (Lb 2) 64)=BF w 0/4)<|Fo ((0:Int)<=2) Fz;exact sF [(496041,480009)] [Y]<|Fh 33 [.el (iD 2)]<|Fa (by simp[BF,ZS, *]:0<=(↑(1:Nat):Int)/\(Z iD [2,2,12,32])[(↑(1:Nat):Int).toNat]?=O (iD 2))<|Fc 38 (@RX (2))<|Fg 39 (by assumption:bits BinOp.and Lh (BF w 1) (ones (2:Int))=BF w 1%4)<|Fs 40 (Z wD [BF w 1%4])<|Fa (by simp[BF,ZS, *]:(Z wD (Ld 1 (ZS w))).length+(Z wD [BF w 1%4]).length<=2^30)<|Fs 41 (Z wD [w%4,BF w 1%4])<|Fg 44 (Ht rfl dd:(BF w 1).fdiv (2^min (Lb 2) 64)=BF w 1/4)<|Fo ((0:Int)<=2)<|Fa (by(simp[BF,ZS, *];omega):BF w 1/4=BF w (1+1)) Fz;exact sF [(496041,480009)] [Y]<|Fh 33 [.el (iD 12)]<|Fa (by simp[BF,ZS, *]:0<=(↑(2:Nat):Int)/\(Z iD [2,2,12,32])[(↑(2:Nat):Int).toNat]?=O (iD 12))<|Fc 38 (@RX (12))<|Fg 39 (by assumption:bits BinOp.and Lh (BF w 2) (ones (12:Int))=BF w 2%4096)<|Fs 40 (Z wD [BF w 2%4096])<|Fa (by simp[BF,ZS, *]:(Z wD (Ld 2 (ZS w))).length+(Z wD [BF w 2%4096]).length<=2^30)<|Fs 41 (Z wD [w%4,w/4%4,BF w 2%4096])<|Fg 44 (Ht rfl dd:(BF w 2).fdiv (2^min (Lb 12) 64)=BF w 2/4096)<|Fo ((0:Int)<=12)<|Fa (by(simp[BF,ZS, *];omega):BF w 2/4096=BF w (2+1)) Fz;exact sF [(496041,480009)] [Y]<|Fh 33 [.el (iD 32)]<|Fa (by simp[BF,ZS, *]:0<=(↑(3:Nat):Int)/\(Z iD [2,2,12,32])[(↑(3:Nat):Int).toNat]?=O (iD 32))<|Fc 38 (@RX (32))<|Fg 39 (by assumption:bits BinOp.and Lh (BF w 3) (ones (32:Int))=BF w 3%4294967296)<|Fs 40 (Z wD [BF w 3%4294967296])<|Fa (by simp[BF,ZS, *]:(Z wD (Ld 3 (ZS w))).length+(Z wD [BF w 3%4294967296]).length<=2^30)<|Fs 41 (Z wD [w%4,w/4%4,w/16%4096,BF w 3%4294967296])<|Fg 44 (Ht rfl dd:(BF w 3).fdiv (2^min (Lb 32) 64)=BF w 3/4294967296)<|Fo ((0:Int)<=32)<|Fa (by(simp[BF,ZS, *];omega):BF w 3/4294967296=BF w (3+1)) Fz
def ZgC w:CP (Zn f201 2) (OY w 4).st (.ext 2) (Tg.st ⟨tm 49 [(0,uU (w/281474976710656)),(4,.d (.sl 0 [])),(5,nI 0),(9,.ow 480009)],[(480009,.arr 35 1 ((ZS w).map wD))],60⟩):=by exact sF [] [] Fz
def Z7v(w:Int)(a:0<=w)(b:w<=18446744073709551615)  := Bt (S:=λi=>(OY w i).st) 4 (by kernel_rfl) (λi c=>Zb2 w i a b c) (ZgC w)
def Z1L(w:Int)(h0:0<=w)(h1:w<=18446744073709551615)(h:w<281474976710656):GP 201 [uU w,ZF [2,2,12,32]] Y (.tu [Z2 (ZS w),nI 0]) []:=by exact gF [] func201 []<|Fh 9 [.own]<|Fu (@Z4i w)<|Fu (@Z7v w aa aa)<|Ffb 47 (w/(281474976710656:Int) != 0)<|Fa (Hn _:Ci (Z wD (ZS w))) Fz
def Zid(w:Int)(h0:0<=w)(h1:w<=18446744073709551615)(h:¬ w<281474976710656):GP 201 [uU w,ZF [2,2,12,32]] Y (.tu [Z2 [],nI 2]) []:=by exact gF [] func201 []<|Fh 9 [.own]<|Fu (@Z4i w)<|Fu (@Z7v w aa aa)<|Ftb 47 (w/(281474976710656:Int) != 0)<|Fnl Fz
def Zfj(w:Int)(h0:0<=w):Z7 w=if w<281474976710656/\w%4=1/\ZT (EU w)=Y then(EU w,Y)else(E4,M):=by
 have k1:(EU w).K=w/4%4:=rfl;have k2:(EU w).length=w/16%4096:=rfl;have k3:(EU w).map=w/65536%4294967296:=rfl;by_cases hv:ZT (EU w)=Y;have e:Zu (EU w)=(1+4*(EU w).K+16*(EU w).length+65536*(EU w).map,0):=by rw[Zu,if_pos hv]
 by_cases hc:w<281474976710656/\w%4=1;rw[Z7,e,if_pos ⟨rfl,by simp only;omega⟩,if_pos ⟨hc.1,hc.2,hv⟩];rw[Z7,e,if_neg (by simp only;omega),if_neg (λq=>hc ⟨q.1,q.2.1⟩)];have e:Zu (EU w)=(0,1):=by rw[Zu,if_neg hv]
 rw[Z7,e,if_neg pq,if_neg (λq=>hv q.2.2)]
def H8(w:Int)(h0:0<=w)(h1:w<=18446744073709551615):GP 161 [uU w] Y (.tu [(Z7 w).1.av,bL (Z7 w).2]) []:=by have hm:=Z3G w h0;rw[Zfj w h0];have u0:(ZS w).getD 0 X=w%4:=rfl;have u1:(ZS w).getD 1 X=w/4%4:=rfl;have u2:(ZS w).getD 2 X=w/16%4096:=rfl;have u3:(ZS w).getD 3 X=w/65536%4294967296:=rfl;have uL:(ZS w).length=4:=rfl;have k1:(EU w).K=w/4%4:=rfl;have k2:(EU w).length=w/16%4096:=rfl;have k3:(EU w).map=w/65536%4294967296:=rfl;by_cases ha:w<281474976710656;by_cases hb:w%4=1;by_cases hv:ZT (EU w)=Y;rw[if_pos ⟨ha,hb,hv⟩];have hv2:ZT ⟨w/4%4,w/16%4096,w/65536%4294967296⟩=Y:=hv;exact gF [] func161 []<|Fh 17 [.el (wD ((ZS w).getD 0 X))]<|Fh 23 [.el (wD ((ZS w).getD 1 X))]<|Fh 27 [.el (wD ((ZS w).getD 2 X))]<|Fh 31 [.el (wD ((ZS w).getD 3 X))]<|Fs 9 (Z iD [2,2,12,32])<|Fc 10 (@Z1L w aa aa aa)<|Fa (by intro hg;(try simp only[bs]at hg);exact Zo oq oq oq:(!(0:Int) != 0)=Y->(0:Int)<=0/\(Z wD (ZS w))[Lb 0]?=O (wD ((ZS w).getD 0 X)))<|Ffb 20 ((ZS w).getD 0 X != 1)<|Fa (Zo oq oq oq:(0:Int)<=1/\(Z wD (ZS w))[Lb 1]?=O (wD ((ZS w).getD 1 X)))<|Fi 25 ((ZS w).getD 1 X)<|Fa (Zo oq oq oq:(0:Int)<=2/\(Z wD (ZS w))[Lb 2]?=O (wD ((ZS w).getD 2 X)))<|Fi 29 ((ZS w).getD 2 X)<|Fa (Zo oq oq oq:(0:Int)<=3/\(Z wD (ZS w))[Lb 3]?=O (wD ((ZS w).getD 3 X)))<|Fg 33 (Z0J oq oq:Lv.wrap ((ZS w).getD 3 X)=(ZS w).getD 3 X)<|Fc 36 (@SE (Zv.mk ((ZS w).getD 1 X) ((ZS w).getD 2 X) ((ZS w).getD 3 X)) aa)<|Ffs 37 (!ZT (Zv.mk ((ZS w).getD 1 X) ((ZS w).getD 2 X) ((ZS w).getD 3 X))) Fz;rw[if_neg (by simp[hv])];have hv':ZT ⟨w/4%4,w/16%4096,w/65536%4294967296⟩=M:=eq_false_of_ne_true hv;exact gF [] func161 []<|Fh 17 [.el (wD ((ZS w).getD 0 X))]<|Fh 23 [.el (wD ((ZS w).getD 1 X))]<|Fh 27 [.el (wD ((ZS w).getD 2 X))]<|Fh 31 [.el (wD ((ZS w).getD 3 X))]<|Fs 9 (Z iD [2,2,12,32])<|Fc 10 (@Z1L w aa aa aa)<|Fa (by intro hg;(try simp only[bs]at hg);exact Zo oq oq oq:(!(0:Int) != 0)=Y->(0:Int)<=0/\(Z wD (ZS w))[Lb 0]?=O (wD ((ZS w).getD 0 X)))<|Ffb 20 ((ZS w).getD 0 X != 1)<|Fa (Zo oq oq oq:(0:Int)<=1/\(Z wD (ZS w))[Lb 1]?=O (wD ((ZS w).getD 1 X)))<|Fi 25 ((ZS w).getD 1 X)<|Fa (Zo oq oq oq:(0:Int)<=2/\(Z wD (ZS w))[Lb 2]?=O (wD ((ZS w).getD 2 X)))<|Fi 29 ((ZS w).getD 2 X)<|Fa (Zo oq oq oq:(0:Int)<=3/\(Z wD (ZS w))[Lb 3]?=O (wD ((ZS w).getD 3 X)))<|Fg 33 (Z0J oq oq:Lv.wrap ((ZS w).getD 3 X)=(ZS w).getD 3 X)<|Fc 36 (@SE (Zv.mk ((ZS w).getD 1 X) ((ZS w).getD 2 X) ((ZS w).getD 3 X)) aa)<|Fts 37 (!ZT (Zv.mk ((ZS w).getD 1 X) ((ZS w).getD 2 X) ((ZS w).getD 3 X))) Fz;rw[if_neg (by simp[hb])];exact gF [] func161 []<|Fh 17 [.el (wD ((ZS w).getD 0 X))]<|Fs 9 (Z iD [2,2,12,32])<|Fc 10 (@Z1L w aa aa aa)<|Fa (by intro hg;(try simp only[bs]at hg);exact Zo oq oq oq:(!(0:Int) != 0)=Y->(0:Int)<=0/\(Z wD (ZS w))[Lb 0]?=O (wD ((ZS w).getD 0 X)))<|Ftb 20 ((ZS w).getD 0 X != 1) Fz;rw[if_neg (by simp[ha])];exact gF [] func161 []<|Fh 17 [.el (wD ([].getD 0 X))]<|Fs 9 (Z iD [2,2,12,32])<|Fc 10 (@Zid w aa aa aa)<|Fa (by intro hg;(try simp only[bs]at hg);exact Zo oq oq oq:(!(2:Int) != 0)=Y->(0:Int)<=0/\(Z wD [])[Lb 0]?=O (wD ([].getD 0 X))) Fz
end Go.Proofs.YtgedmeaemofdkaaGreat
namespace Go.Sx
def Pz(H:Heap)(x:AV):Option AV:=match x with|.d x=>O (.d x)|.rp e o=>O (.rp e o)|.ow b=>(match Nat.ble 8000 b with|true=>(match H b with|O (.arr _ s els)=>O (.d (.sl s els))|_=>La)|false=>La)|.os b o n=>(match Nat.ble 8000 b with|true=>(match H b with|O (.arr _ s els)=>O (.d (.sl s ((els.drop o).take n)))|_=>La)|false=>La)|_=>La
def Zeq{P f}{e0 e1:List DV}{t0 t1:Nat}{x:Value}(hx:x.oneCell'=Y)(h:GSpec P f [.rp e0 0,.rp e1 0] Y (.d (.sc x)) []) :LentSpec P f [.pt 0 0 0,.pt 1 0 0] [.box t0 (e0.map .d),.box t1 (e1.map .d)] (.d (.sc x)) [.box t0 (e0.map .d),.box t1 (e1.map .d)]:=by
 intro w Im ρ vs a0 a2 hρ a1 c z u;have box:∀(k:Nat) (e:List DV) (t:Nat) (v:Value) (p:Nat->Prop),(∀g,Im g->p g)->(∀β g,ρ k=O β->β.g=O g->p g)->(∃β,ρ k=O β/\RelB ρ w Im β (.box t (e.map .d)))->Zi ρ w Im (.pt k 0 0) v->Zi (λ_=>La) w p (.rp e 0) v:=by
  intro k e t v p hi m hb hv;obtain⟨β,hβ,r⟩:=hb;obtain⟨g,s,n,k1,rfl⟩:=Se hv rfl;rw[hβ]at k1;cases k1;obtain⟨r1,r2,g2,cs,r3,r4,r5,r6,r7⟩:=r;cases r3;have:=@Zi.rp (λ_=>La) w p e 0 ⟨g,0,La⟩ rfl (m _ _ hβ rfl) (λj y hy=>by
   have hj:j<e.length:=(List.getElem?_eq_some_iff.1 hy).1;have hc:j<cs.size:=by rw[r5];simpa using hj
   have a:cs[j]?=O cs[j]:=Array.getElem?_eq_getElem hc;have l:=r7 j (.d y) cs[j] (by simp[hy]) a;refine⟨cs[j], ?_, ?_⟩;simp only[World.cell?,r4];simpa using a;cases l with
   |d l=>exact l.mono (Ext.refl _ _) hi)
  simpa using this
 refine(h w (λg=>Im g\/∃k β,ρ k=O β/\β.g=O g) vs ?_ a2 ?_).mono ?_;rintro g (m|⟨k,β,a,l⟩);exact a0 g m;exact(c k β g a l).1;intro i y v hy hv;cases i with
 |zero =>simp at hy;subst hy;exact box 0 e0 t0 v _ (λg m=>.inl m) (λβ g a l=>.inr ⟨0,β,a,l⟩) (z 0 _ rfl) (u 0 _ v rfl hv)
 |succ i=>cases i with
  |zero =>
   simp at hy;subst hy;exact box 1 e1 t1 v _ (λg m=>.inl m) (λβ g a l=>.inr ⟨1,β,a,l⟩) (z 1 _ rfl) (u 1 _ v rfl hv)
  |succ i=>simp at hy
 rintro e w' ⟨v,rfl,o,ρ',a3,_,_,_,_,_,_,hr⟩;have hv:=C1 hr;subst hv;have ext:Ext Im w w':=⟨o.size,λg m=>o.block g (a0 g m) (λq=>q),o.rows⟩;refine⟨_,rfl,⟨o.os,o.tape,o.output,o.size,λk a _=>o.block k a (λq=>q),o.rows⟩,ρ,Im,λ_ _ h=>h,hρ,λg m=>.inl m,λg m=>Nat.lt_of_lt_of_le (a0 g m) o.size,
  λk β g a l=>⟨Nat.lt_of_lt_of_le (c k β g a l).1 o.size,.inr ⟨k,β,a,l⟩⟩,λk β g _ a l=>(c k β g a l).2,λk k' β β' g _ _=>a1 k k' β β' g, ?_,.d (.sc _ hx)⟩
 intro k B hB;obtain⟨β,b1,b2⟩:=z k B hB;exact⟨β,b1,b2.mono ext (λ_ h=>h) (λ_ _ h=>h) (λb β g a l=>(c b β g a l).1) (λg m=>o.block g (c k β g b1 m).1 (λq=>q))⟩
def Z1P{P}{f s:Nat}{fr res news}(h:∀(p:Option Addr) (c:Nat),GSpec P f [.d (.sc (.slice p 0 c))] fr res news):GSpec P f [.d (.sl s [])] fr res news:=by
 intro w m g r a y;have h0:g.size=1:=a;obtain⟨v,q⟩:∃v,g[0]?=O v:=⟨g[0]' oq,by simp⟩;have b:∀(p:Option Addr) (c:Nat),v=.slice p 0 c->Calls P f g w λe z=>∃v,e=.returned v/\RV w m fr res news v z:=λp c e=>by
  refine h p c w m g r a λi x u k o=>?_;match i with|0 =>simp only[List.getElem?_cons_zero,Option.some.injEq]at k;rw[q]at o;cases o;subst k;subst e;exact .d (.sc _ rfl)|i+1=>simp at k
 have j:=y 0 _ v rfl q;cases j with
 |d j =>
  generalize t:([]:List (List DV))=l at j;cases j with|slNil s p c=>exact b p c rfl|sl s els p n c fn a=>subst t;simp at a;subst a;exact b _ c rfl
end Go.Sx
namespace Go.Proofs.YtgedmeaemofdkaaGreat
open Go.Sx
def Heap.dvs(h:Heap):List DV:=[.sc (.int .i64 h.C.pw),.sc (.int .i64 h.C.pg),.sl 1 (h.W.map wD),.sl 4 (h.P.map Z0.dv),.sc (.int .i64 h.S),.sc (.int .i64 h.B)]
def ZiV(h:Heap)(a:Int)(hl:h.W.length<=1048576)(h0:0<=a/\a<=18446744073709551615):GP 160 [.rp [.sc (.int .i64 h.C.pw),.sc (.int .i64 h.C.pg),.sl 1 (h.W.map wD),.sl 4 (h.P.map Z0.dv),.sc (.int .i64 h.S),.sc (.int .i64 h.B)] 0,.rp [.sc (.int .u64 a)] 0] Y (uU (Z1 h.W a).1) []:=by exact gF [] func160 []<|Fc 9 (@OK h.W a aa aa) Fz
def IZ(h:Heap)(a:Int)(hl:h.W.length<=1048576)(b:0<=a/\a<=18446744073709551615):LP 160 [.pt 0 0 0,.pt 1 0 0] [.box 28 h.cells,.box 35 [uU a]] (uU (Z1 h.W a).1) [.box 28 h.cells,.box 35 [uU a]]:=
 Zeq (e0:=h.dvs) (e1:=[.sc (.int .u64 a)]) rfl (ZiV h a hl b)
def Ns(h:Heap)(a:Int)(hw:Zz h.W)(h0:0<=a/\a<=18446744073709551615):GP 109 [h.av,uU a] Y (.tu [(Z9 h a).1.av,nI (Z9 h a).2]) []:=by
 have r:=EW hw a;have hm:=IK (Z1 h.W a).1 r.1;by_cases l:Z8 h=Y;have x:=B4 l;by_cases i:(Z3 h.C a).2.2=0;have oo:=GL x.1 i;have hz:(Z7 (Z1 h.W a).1).2=Y->Z5 (Z7 (Z1 h.W a).1).1=(Z7 (Z1 h.W a).1).1.length+1/\0<=(Z7 (Z1 h.W a).1).1.length/\(Z7 (Z1 h.W a).1).1.length<=255:=λe=>by(have r:=Z10 e;have:=Gq.1 r;rw[Z5,if_pos r];omega)
 have pp:=En l (j:=(Z3 h.C a).1.toNat) oq;by_cases c3:((h.P.getD (Z3 h.C a).1.toNat X).K=1\/(h.P.getD (Z3 h.C a).1.toNat X).K=2)/\(Z3 h.C a).2.1<(h.P.getD (Z3 h.C a).1.toNat X).U/\(Z7 (Z1 h.W a).1).2=Y;have a1:=hz c3.2.2;by_cases c4:((h.P.getD (Z3 h.C a).1.toNat X).K=1/\(h.P.getD (Z3 h.C a).1.toNat X).U<(Z3 h.C a).2.1+Z5 (Z7 (Z1 h.W a).1).1)\/((h.P.getD (Z3 h.C a).1.toNat X).K=2/\((Z3 h.C a).2.1≠0\/Z5 (Z7 (Z1 h.W a).1).1≠(h.P.getD (Z3 h.C a).1.toNat X).U));have g:Z9 h a=(E4,19):=by rw[Z9,if_pos l,if_pos i,if_pos c3,if_pos c4]
 rw[g];have s {h_ c_ p_} (m:Fq h_ c_ p_):=Fc 15 (@EF h)<|Ffb 16 (!Z8 h)<|Fc 22 (@Gp h.C a oq oq)<|Ffb 27 ((Z3 h.C a).2.2 != 0)<|Fe 34 Z0.dv h.P ((Z3 h.C a).1)<|Fbq 38 [8002,8003] (@IZ h a oq aa)<|Fc 39 (@H8 ((Z1 h.W a).1) oq oq)<|Fc 43 (@ET ((Z7 (Z1 h.W a).1).1) aa) m;rcases bb (!(Z7 (Z1 h.W a).1).2||L ((h.P.getD (Z3 h.C a).1.toNat X).U<=(Z3 h.C a).2.1))with hc0|hc0<;>have b:=hc0<;>simp only[bs]at b;exact gF [] func109 []<|Fh 44 [.br Y] (s (Fa hc0 Fz));obtain⟨d,f⟩:=b;rcases bb ((h.P.getD (Z3 h.C a).1.toNat X).K==1)with hc1|hc1<;>have c:=hc1<;>simp only[bs]at c;let y:=h.P.getD (Z3 h.C a).1.toNat X;exact gF [] func109 []<|Fh 44 [.br M]<|Fh 76 [.br Y] (s (Fa hc0<|Fa hc1<|Fi 61 (y.U-(Z3 h.C a).2.1)<|Ftb 53 (!decide (Z5 (Z7 (Z1 h.W a).1).1<=y.U-(Z3 h.C a).2.1)) Fz));let z:=h.P.getD (Z3 h.C a).1.toNat X;exact gF [] func109 []<|Fh 44 [.br M]<|Fh 53 [.br M]<|Fh 76 [.br Y] (s (Fa hc0<|Fa hc1<|Fb ((z.K==2)=Y)<|Ftb 63 (!((Z3 h.C a).2.1==0&&Z5 (Z7 (Z1 h.W a).1).1==z.U)) Fz));have g:Z9 h a=((Z7 (Z1 h.W a).1).1,0):=by rw[Z9,if_pos l,if_pos i,if_pos c3,if_neg c4]
 rw[g];have t {h_ c_ p_} (m:Fq h_ c_ p_):=Fc 15 (@EF h)<|Ffb 16 (!Z8 h)<|Fc 22 (@Gp h.C a oq oq)<|Ffb 27 ((Z3 h.C a).2.2 != 0)<|Fe 34 Z0.dv h.P ((Z3 h.C a).1)<|Fbq 38 [8002,8003] (@IZ h a oq aa)<|Fc 39 (@H8 ((Z1 h.W a).1) oq oq)<|Fc 43 (@ET ((Z7 (Z1 h.W a).1).1) aa) m;rcases bb (!(Z7 (Z1 h.W a).1).2||L ((h.P.getD (Z3 h.C a).1.toNat X).U<=(Z3 h.C a).2.1))with hc0|hc0<;>have b:=hc0<;>simp only[bs]at b;exact gF [] func109 (fO 4)<|Fh 44 [.br Y] (t (Fa hc0<|Fa (by grind[E4]:0=(Z7 (Z1 h.W a).1).1.K)<|Fa (by grind[E4]:0=(Z7 (Z1 h.W a).1).1.length)<|Fa (by grind[E4]:0=(Z7 (Z1 h.W a).1).1.map)<|Fa (by grind[E4]:(19:Int)=0) Fz));obtain⟨d,f⟩:=b;rcases bb ((h.P.getD (Z3 h.C a).1.toNat X).K==1)with hc1|hc1<;>have c:=hc1<;>simp only[bs]at c;let y2:=h.P.getD (Z3 h.C a).1.toNat X;exact gF [] func109 []<|Fh 53 [.br Y]<|Fh 76 [.br M] (t (Fa hc0<|Fa hc1<|Fi 61 (y2.U-(Z3 h.C a).2.1)<|Ffb 44 (!decide (Z5 (Z7 (Z1 h.W a).1).1<=y2.U-(Z3 h.C a).2.1)) Fz));let y3:=h.P.getD (Z3 h.C a).1.toNat X;exact gF [] func109 []<|Fh 53 [.br M]<|Fh 63 [.br Y]<|Fh 76 [.br M] (t (Fa hc0<|Fa hc1<|Fb ((y3.K==2)=Y)<|Ffb 44 (!((Z3 h.C a).2.1==0&&Z5 (Z7 (Z1 h.W a).1).1==y3.U)) Fz));have g:Z9 h a=(E4,19):=by rw[Z9,if_pos l,if_pos i,if_neg c3]
 rw[g];have n {h_ c_ p_} (m:Fq h_ c_ p_):=Fc 15 (@EF h)<|Ffb 16 (!Z8 h)<|Fc 22 (@Gp h.C a oq oq)<|Ffb 27 ((Z3 h.C a).2.2 != 0)<|Fe 34 Z0.dv h.P ((Z3 h.C a).1)<|Fbq 38 [8002,8003] (@IZ h a oq aa)<|Fc 39 (@H8 ((Z1 h.W a).1) oq oq)<|Fc 43 (@ET ((Z7 (Z1 h.W a).1).1) aa) m;rcases bb (!(Z7 (Z1 h.W a).1).2||L ((h.P.getD (Z3 h.C a).1.toNat X).U<=(Z3 h.C a).2.1))with hc0|hc0<;>have b:=hc0<;>simp only[bs]at b;exact gF [] func109 []<|Fh 44 [.br Y] (n (Fa hc0 Fz));obtain⟨d,f⟩:=b;rcases bb ((h.P.getD (Z3 h.C a).1.toNat X).K==1)with hc1|hc1<;>have c:=hc1<;>simp only[bs]at c;have w {h_ c_ p_} (m:Fq h_ c_ p_):=n<|Fa hc0<|Fa hc1<|Fi 61 ((h.P.getD (Z3 h.C a).1.toNat X).U-(Z3 h.C a).2.1) m;rcases bb (!decide (Z5 (Z7 (Z1 h.W a).1).1<=(h.P.getD (Z3 h.C a).1.toNat X).U-(Z3 h.C a).2.1))with hc2|hc2<;>have o:=hc2<;>simp only[bs]at o;exact gF [] func109 []<|Fh 44 [.br M]<|Fh 76 [.br Y] (w (Ft 53 hc2 Fz));rw[show E4=(Z7 (Z1 h.W a).1).1 from by grind[E4]];exact gF [] func109 (fO 4)<|Fh 53 [.br Y]<|Fh 76 [.br M] (w (Ff 44 hc2<|Fr ((Z7 (Z1 h.W a).1).1.K)<|Fr ((Z7 (Z1 h.W a).1).1.length)<|Fr ((Z7 (Z1 h.W a).1).1.map)<|Fa (by grind[E4]:(0:Int)=19) Fz));rcases bb ((h.P.getD (Z3 h.C a).1.toNat X).K==2)with hc3|hc3<;>have p:=hc3<;>simp only[bs]at p;rcases bb (!((Z3 h.C a).2.1==0&&Z5 (Z7 (Z1 h.W a).1).1==(h.P.getD (Z3 h.C a).1.toNat X).U))with hc4|hc4<;>have k:=hc4<;>simp only[bs]at k;exact gF [] func109 []<|Fh 44 [.br M]<|Fh 53 [.br M]<|Fh 76 [.br Y] (n (Fa hc0<|Fa hc1<|Fa hc3<|Ft 63 hc4 Fz));obtain⟨u,v⟩:=k;rw[show E4=(Z7 (Z1 h.W a).1).1 from by grind[E4]];exact gF [] func109 (fO 8)<|Fh 53 [.br M]<|Fh 63 [.br Y]<|Fh 76 [.br M] (n (Fa hc0<|Fa hc1<|Fa hc3<|Ff 44 hc4<|Fr ((Z7 (Z1 h.W a).1).1.K)<|Fr ((Z7 (Z1 h.W a).1).1.length)<|Fr ((Z7 (Z1 h.W a).1).1.map)<|Fa (by grind[E4]:(0:Int)=19) Fz));exact gF [] func109 []<|Fh 44 [.br M]<|Fh 53 [.br M]<|Fh 63 [.br M] (n (Fa hc0<|Fa hc1<|Fa hc3 Fz));have g:Z9 h a=(E4,2):=by rw[Z9,if_pos l,if_neg i]
 have e2:(Z3 h.C a).2.2=2:=by(unfold Z3 at i⊢;rw[if_pos x.1]at i⊢;split at i;simp at i;rename_i q;rw[if_neg q])
 rw[g];exact gF [] func109 [Y]<|Fc 15 (@EF h)<|Ffb 16 (!Z8 h)<|Fc 22 (@Gp h.C a oq oq)<|Ftb 27 ((Z3 h.C a).2.2 != 0)<|Fr (0:Int)<|Fr (0:Int)<|Fr (0:Int)<|Fa ‹(Z3 h.C a).2.2=2› Fz;have g:Z9 h a=(E4,1):=by rw[Z9,if_neg l]
 have a0:Z8 h=M:=by simpa using l
 rw[g];exact gF [] func109 []<|Fc 15 (@EF h)<|Ftb 16 (!Z8 h) Fz
def Mv{α β:Type}{f:α->β}{l:List α}(h:l≠[]):l.map f≠[]:=by simpa using h
def Z8F(ws:List Int)(hw:ws.length<=1048576)(hne:ws≠[]):GP 123 [Z2 ws] Y (.ow 0) [.arr 35 1 (ws.map wD)]:=by exact gF [24007] func123 []<|Fa (Mv hne:Z wD ws≠[])<|FA 5 7 wD ws<|Fa (Hn _:Ci (Z wD ws)) Fz
def ZkN(l:List Z0)(hl:l.length<=1048576)(hne:l≠[]):GP 124 [ZZ l] Y (ZZ l) []:=by exact gF [] func124 []<|Fa (Mv hne:Z Z0.dv l≠[])<|FA 5 7 Z0.dv l<|Fa (IY _:Ci (Z Z0.dv l)) Fz
def AH{α:Type}{l:List α}(h:0<l.length):l≠[]:=by rintro rfl;simp at h
def pg(h:Heap)(i:Int):Z0:=h.P.getD i.toNat X
def Bc(h:Heap)(i o:Int):Int:=(address h.C i o).1
def AS{h:Heap}(b:Zs h.C=Y)(i o:Int):0<=Bc h i o/\Bc h i o<=8192:=by have ha:=HE b;unfold Bc address;rw[if_pos b];split;rename_i a;have a:=HT.1 a;have:=OH b a.1 a.2.1 a.2.2.1 a.2.2.2;simp only;omega;simp
def Ev(h:Heap)(i:Int):Nat->Int->Option (List Int)|0,_=>O []|f+1,o=>if o<(pg h i).U then(if(Z9 h (Bc h i o)).2=0 then(if(pg h i).K=2 then O [Bc h i o]else(Ev h i f (o+Z5 (Z9 h (Bc h i o)).1)).map (Bc h i o :: ·))else La)else O []
def Az(h:Heap)(i o:Int)(acc:List Int):Tg:=⟨tm 70 [(1,nI i),(2,.pt 8002 0 0),(4,.d (.sl 0 [])),(5,nI 0),(6,.pt 32006 0 0),(7,.ow 48007),(8,nI o)],
 [(48007,.arr 35 1 (acc.map wD)),(32006,.box 86 [nI (pg h i).K,nI (pg h i).S,nI (pg h i).U,nI (pg h i).N]),(8002,.box 28 h.cells)],60⟩
def AT(acc:List Int):Tg:=⟨tm 70 [(7,.ow 48007)],[(48007,.arr 35 1 (acc.map wD))],60⟩
section
variable(h:Heap)(i o:Int)(acc:List Int)(b:Zz h.W)(a:Z8 h=Y)(hl:acc.length<=1048576)(c:0<=o/\o<=1000)
include b a hl c
theorem ZiE(h1:o<(pg h i).U)(f:(Z9 h (Bc h i o)).2=0)(h3:(pg h i).K≠2):CP (Zn f147 0) (Az h i o acc).st .nrm (Az h i (o+Z5 (Z9 h (Bc h i o)).1) (acc++[Bc h i o])).st:=by have j:=B4 a;have e:=AS j.1 i o;have k:=Ib (Z9 h (Bc h i o)).1;have g:=Iv b (Bc h i o);unfold Bc at e k g f;let d:=address h.C i o;exact sF [(512061,48007)] []<|Fh 61 [.els (Z wD (acc++[d.1]))]<|Ftb 41 (L (o<(pg h i).U))<|Fc 47 (@OT h.C i o)<|Fc 53 (@Nk h (d.1) aa oq)<|Ffb 57 ((Z9 h d.1).2 != 0)<|Fs 60 (Z wD [d.1])<|Fa (by(simp[Bc, *];omega):(Z wD acc).length+(Z wD [d.1]).length<=2^30)<|Fa (by simp[Bc,LD,LC,Ls,LB,wD,iD]:Z wD acc++Z wD [d.1]=Z wD (acc++[d.1]))<|Ffb 64 ((pg h i).K==2)<|Fc 67 (@Il ((Z9 h d.1).1) aa)<|Fi 68 (o+Z5 (Z9 h d.1).1) Fz
theorem ZeO(h1:o<(pg h i).U)(f:(Z9 h (Bc h i o)).2=0)(h3:(pg h i).K=2):CP (Zn f147 0) (Az h i o acc).st (.ext 0) (AT (acc++[Bc h i o])).st:=by have j:=B4 a;have e:=AS j.1 i o;have g:=Iv b (Bc h i o);unfold Bc at e g f;let d:=address h.C i o;exact sF [(512061,48007)] []<|Fh 61 [.els (Z wD (acc++[d.1]))]<|Ftb 41 (L (o<(pg h i).U))<|Fc 47 (@OT h.C i o)<|Fc 53 (@Nk h (d.1) aa oq)<|Ffb 57 ((Z9 h d.1).2 != 0)<|Fs 60 (Z wD [d.1])<|Fa (by(simp[Bc, *];omega):(Z wD acc).length+(Z wD [d.1]).length<=2^30)<|Fa (by simp[Bc,LD,LC,Ls,LB,wD,iD]:Z wD acc++Z wD [d.1]=Z wD (acc++[d.1]))<|Ftb 64 ((pg h i).K==2) Fz
theorem Zdp(h1:o<(pg h i).U)(e:¬ (Z9 h (Bc h i o)).2=0):CP (Zn f147 0) (Az h i o acc).st .ret (Tg.st ⟨tm 70 [(4,.d (.sl 0 [])),(5,nI 19)],[],60⟩):=by have f:=B4 a;have d:=AS f.1 i o;unfold Bc at d e;exact sF [] []<|Ftb 41 (L (o<(pg h i).U))<|Fc 47 (@OT h.C i o)<|Fc 53 (@Nk h ((address h.C i o).1) aa oq)<|Ftb 57 ((Z9 h (address h.C i o).1).2 != 0) Fz
omit b a hl c in
theorem Z8l(h1:(pg h i).U<=o):CP (Zn f147 0) (Az h i o acc).st (.ext 0) (AT acc).st:=by exact sF [] []<|Ffb 41 (L (o<(pg h i).U)) Fz
end
def Z2n{h a}(e:(Z9 h a).2=0):1<=Z5 (Z9 h a).1:=by have:=TU e;rw[Z5,if_pos this.2.2.2.2.1];omega
def Z42(h:Heap) i(j:Zz h.W)(g:Z8 h=Y)(hu:(pg h i).U<=256):∀(f:Nat) (o:Int) (acc:List Int),(pg h i).U-o<=f->0<=o->o<=1000->(acc.length:Int)+f<=1000 -> (∀l,Ev h i f o=O l->Gk prog f147 0 (Az h i o acc).st (.ext 0) (AT (acc++l)).st) /\ (Ev h i f o=La->Gk prog f147 0 (Az h i o acc).st .ret (Tg.st ⟨tm 70 [(4,.d (.sl 0 [])),(5,nI 19)],[],60⟩)):=by
 intro f;induction f with
 |zero =>intro o acc n d p q;refine⟨λl a=>?_,λa=>by cases a⟩;simp only[Ev,Option.some.injEq]at a;subst a;rw[Lp];exact .endx (Z8l h i o acc oq)
 |succ f u =>
  intro o acc n d p q;unfold Ev;by_cases c:o<(pg h i).U;rw[if_pos c];by_cases b:(Z9 h (Bc h i o)).2=0;rw[if_pos b];by_cases e:(pg h i).K=2;rw[if_pos e];refine⟨λl a=>?_,λa=>by cases a⟩;cases a;exact .endx (ZeO h i o acc j g oq ⟨d,by omega⟩ c b e);rw[if_neg e];have hs:=Z2n b;have hb:=Ib (Z9 h (Bc h i o)).1;have k:=ZiE h i o acc j g oq ⟨d,by omega⟩ c b e;obtain⟨s,t⟩:=u (o+Z5 (Z9 h (Bc h i o)).1) (acc++[Bc h i o]) oq oq oq qo;refine⟨λl a=>?_,λa=>?_⟩
  .rw[Lt]at a;obtain⟨m,r,rfl⟩:=a;have:=s m r;rw[Lw]at this;exact .next k this
  .rw[Option.map_eq_none_iff]at a;exact .next k (t a)
  rw[if_neg b];exact⟨λl a=>(by cases a),λ_=>.endr (Zdp h i o acc j g oq ⟨d,by omega⟩ c b)⟩;rw[if_neg c];refine⟨λl a=>?_,λa=>by cases a⟩;cases a;rw[Lp];exact .endx (Z8l h i o acc oq)
def ZeA(h:Heap) i(l:List Int)(c:Zz h.W)(a:Z8 h=Y)(b:(pg h i).U<=256)(hl:Ev h i 256 0=O l):CP (Zj f147 0) (Tg.st ⟨tm 70 [(1,nI i),(2,.pt 8002 0 0),(4,.d (.sl 0 [])),(5,nI 0),(6,.pt 32006 0 0),(7,.ow 48007),(8,nI 0)], [(48007,.arr 35 1 []),(32006,.box 86 [nI (h.P.getD i.toNat X).K,nI (h.P.getD i.toNat X).S,nI (h.P.getD i.toNat X).U,nI (h.P.getD i.toNat X).N]),(8002,.box 28 h.cells)],60⟩) .nrm (AT l).st:=
 ((Z42 h i c a b 256 0 [] oq oq oq pq).1 l hl).ext kr
def Zbe(h:Heap) i(c:Zz h.W)(a:Z8 h=Y)(b:(pg h i).U<=256)(hl:Ev h i 256 0=La):CP (Zj f147 0) (Tg.st ⟨tm 70 [(1,nI i),(2,.pt 8002 0 0),(4,.d (.sl 0 [])),(5,nI 0),(6,.pt 32006 0 0),(7,.ow 48007),(8,nI 0)], [(48007,.arr 35 1 []),(32006,.box 86 [nI (h.P.getD i.toNat X).K,nI (h.P.getD i.toNat X).S,nI (h.P.getD i.toNat X).U,nI (h.P.getD i.toNat X).N]),(8002,.box 28 h.cells)],60⟩) .ret (Tg.st ⟨tm 70 [(4,.d (.sl 0 [])),(5,nI 19)],[],60⟩):=
 ((Z42 h i c a b 256 0 [] oq oq oq pq).2 hl).ret kr
def Zd(h:Heap)(i:Int):List Int×Int:=
 if Z8 h=Y then(if 0<=i/\i<h.P.length then(if(pg h i).K=0\/(pg h i).K=3 then([],0)else(match Ev h i 256 0 with|O l=>(l,0)|La=>([],19)))else([],2))else([],1)
def SN(h:Heap) i(hw:Zz h.W):GP 147 [h.av,nI i] M (.tu [Z2 (Zd h i).1,nI (Zd h i).2]) []:=by
 cases hp:Z8 h with
 |false =>
  have b:Zd h i=([],1):=by rw[Zd,if_neg (by rw[hp];simp)]
  rw[b];exact gF [] func147 []<|Fc 14 (@Cy h)<|Ftb 15 (!Z8 h)<|Fnl Fz
 |true =>
  have po:=B4 hp;by_cases e:0<=i/\i<h.P.length;have m:=En hp (j:=i.toNat) oq;have hu:(pg h i).U<=256:=m.2.2.2.2.2.2.2.1;cases hwk:Ev h i 256 0 with
  |none =>
   have b:Zd h i=if(h.P.getD i.toNat X).K=0\/(h.P.getD i.toNat X).K=3 then([],0)else([],19):=by rw[Zd,if_pos hp,if_pos e,hwk];rfl
   have g {h_ c_ p_} (f:Fq h_ c_ p_):=Fc 14 (@Cy h)<|Ffb 15 (!Z8 h)<|FlG 22 (!decide (i<0)) Z0.dv h.P<|Ffb 24 (L (i<0)||L ((h.P.length:Int)<=i))<|Fe 28 Z0.dv h.P i f;rcases bb ((h.P.getD i.toNat X).K==0||(h.P.getD i.toNat X).K==3)with hc0|hc0<;>have a:=hc0<;>simp only[bs]at a;exact gF [] func147 (fO 8) (g (Ft 37 hc0<|Fnl (Fa (by rw[b,if_pos oq];rfl:[]=Z wD (Zd h i).1)<|Fa (by rw[b,if_pos oq]:0=(Zd h i).2) Fz)));obtain⟨c,d⟩:=a;exact gF [] func147 (fO 18)<|Fh 7 [.own] (g (Ff 37 hc0<|Fu (@Zbe h i aa aa aa aa)<|Fnl (Fa (by rw[b,if_neg oq];rfl:[]=Z wD (Zd h i).1)<|Fa (by rw[b,if_neg oq]:19=(Zd h i).2) Fz)))
  |some l =>
   have b:Zd h i=if(h.P.getD i.toNat X).K=0\/(h.P.getD i.toNat X).K=3 then([],0)else(l,0):=by rw[Zd,if_pos hp,if_pos e,hwk];rfl
   have k {h_ c_ p_} (f:Fq h_ c_ p_):=Fc 14 (@Cy h)<|Ffb 15 (!Z8 h)<|FlG 22 (!decide (i<0)) Z0.dv h.P<|Ffb 24 (L (i<0)||L ((h.P.length:Int)<=i))<|Fe 28 Z0.dv h.P i f;rcases bb ((h.P.getD i.toNat X).K==0||(h.P.getD i.toNat X).K==3)with hc0|hc0<;>have a:=hc0<;>simp only[bs]at a;exact gF [] func147 (fO 8) (k (Ft 37 hc0<|Fnl (Fa (by rw[b,if_pos oq];rfl:[]=Z wD (Zd h i).1)<|Fa (by rw[b,if_pos oq]:0=(Zd h i).2) Fz)));obtain⟨c,d⟩:=a;exact gF [] func147 (fO 18)<|Fh 7 [.own] (k (Ff 37 hc0<|Fu (@ZeA h i l aa aa aa aa)<|Fa (by refine congrArg _ ?_;rw[b,if_neg oq]:Z wD l=Z wD (Zd h i).1)<|Fa (by rw[b,if_neg oq]:0=(Zd h i).2) Fz))
  have b:Zd h i=([],2):=by rw[Zd,if_pos hp,if_neg e]
  rw[b];exact gF [] func147 []<|Fc 14 (@Cy h)<|Ffb 15 (!Z8 h)<|FlG 22 (!decide (i<0)) Z0.dv h.P<|Ftb 24 (L (i<0)||L ((h.P.length:Int)<=i))<|Fnl Fz
def Dy(l:List Int)(v:Int)(i:Nat):Tg:=⟨tm 18 [(0,Z2 l),(1,uU v),(4,bL M),(5,nI i)],[],60⟩
def Z73(l:List Int)(v:Int)(i:Nat)(hl:l.length<=1048576)(hi:i<l.length)(hv:¬ l.getD i X=v):CP (Zn f17 0) (Dy l v i).st .nrm (Dy l v (i+1)).st:=by exact sF [] []<|FN 8 9 14 wD l i<|Ffb 17 (l.getD i X==v)<|Fx 11 i Fz
def Zlh(l:List Int)(v:Int)(i:Nat)(hl:l.length<=1048576)(hi:i<l.length)(hv:l.getD i X=v):CP (Zn f17 0) (Dy l v i).st .ret (Tg.st ⟨tm 18 [(4,bL Y)],[],60⟩):=by exact sF [] []<|FN 8 9 14 wD l i<|Ftb 17 (l.getD i X==v) Fz
def hasEnd l v:CP (Zn f17 0) (Dy l v l.length).st (.ext 0) (Tg.st ⟨tm 18 [],[],60⟩):=by exact sF [] []<|FO 8 9 wD l Fz
theorem B7{l:List Int}{v:Int}:v∈l↔∃i,i<l.length/\l.getD i X=v:=by rw[List.mem_iff_getElem];constructor;rintro⟨i,h,e⟩;exact⟨i,h,by simp[Lq,h,e]⟩;rintro⟨i,h,e⟩;exact⟨i,h,by simpa[Lq,h]using e⟩
def Zl4(l:List Int)(v:Int)(hl:l.length<=1048576)(h:v∉l)  := Bt (S:=λi=>(Dy l v i).st) l.length (by kernel_rfl) (λi a=>Z73 l v i hl a λe=>h (B7.2 ⟨i,a,e⟩)) (hasEnd l v)
def Zk3(l:List Int)(v:Int)(hl:l.length<=1048576)(h:v∈l):CP (Zj f17 0) (Tg.st ⟨tm 18 [(0,Z2 l),(1,uU v),(4,bL M),(5,nI 0)],[],60⟩) .ret (Tg.st ⟨tm 18 [(4,bL Y)],[],60⟩):=by obtain⟨i,a,b⟩:=Z3I (B7.1 h);exact G0 (S:=λi=>(Dy l v i).st) i kr (λj hj=>Z73 l v j hl oq λe=>by have:=b j ⟨by omega,e⟩;omega) (Zlh l v i hl a.1 a.2)
def CQ(l:List Int) v(hl:l.length<=1048576):GP 17 [Z2 l,uU v] Y (bL (L (v∈l))) []:=by by_cases h:v∈l;rw[decide_eq_true h];exact gF [] func17 []<|Fu (@Zk3 l v aa aa) Fz;rw[decide_eq_false h];exact gF [] func17 []<|Fu (@Zl4 l v aa aa) Fz
def Zaa{h i}:∀{f:Nat} {o:Int} {l:List Int},Ev h i f o=O l->l.length<=f
 |0,o,l,e=>by simp[Ev]at e;subst e;simp
 |f+1,o,l,e=>by
  unfold Ev at e;split at e
  .split at e
   .split at e
    .cases e;simp
    .rw[Lt]at e;obtain⟨m,a,rfl⟩:=e;have:=Zaa a;simp;omega
   .cases e
  .cases e;simp
def NN(h:Heap) i:(Zd h i).1.length<=256:=by
 unfold Zd;repeat' split
 all_goals first|(simp;done)|(rename_i e;exact Zaa e)
def Cj(h:Heap):Nat->Nat->List Int×Int|0,_=>([],0)|f+1,i=>if(Zd h i).2=0 then(if(Cj h f (i+1)).2=0 then((Zd h i).1++(Cj h f (i+1)).1,0)else([],(Cj h f (i+1)).2))else([],(Zd h i).2)
def CK(h:Heap):List Int×Int:=if Z8 h=Y then Cj h h.P.length 0 else([],1)
def AR(h:Heap)(i:Nat)(acc:List Int):Tg:=⟨tm 31 [(1,.pt 8001 0 0),(2,.d (.sl 0 [])),(3,nI 0),(4,.ow 24004),(5,nI i)],[(24004,.arr 35 1 (acc.map wD)),(8001,.box 28 h.cells)],60⟩
section
variable(h:Heap)(i:Nat)(acc:List Int)(b:Zz h.W)(hl:h.P.length<=1048576)(a:acc.length<=1048576)
include b hl a
theorem ZkJ(hi:i<h.P.length)(e:(Zd h i).2=0):CP (Zn f90 0) (AR h i acc).st .nrm (AR h (i+1) (acc++(Zd h i).1)).st:=by have hn:=NN h i;exact sF [(504029,24004)] []<|Fh 29 [.els (Z wD (acc++(Zd h (i:Int)).1))]<|FM 14 15 Z0.dv h.P i<|Fc 21 (@SN h ((i:Int)) aa)<|Ffb 25 ((Zd h (i:Int)).2 != 0)<|Fa (by(simp[*];omega):(Z wD acc).length+(Z wD (Zd h (i:Int)).1).length<=2^30)<|Fa (ms:Z wD acc++Z wD (Zd h (i:Int)).1=Z wD (acc++(Zd h (i:Int)).1))<|Fx 17 i Fz
theorem ZbP(hi:i<h.P.length)(e:¬ (Zd h i).2=0):CP (Zn f90 0) (AR h i acc).st .ret (Tg.st ⟨tm 31 [(2,.d (.sl 0 [])),(3,nI (Zd h i).2)],[],60⟩):=by exact sF [] []<|FM 14 15 Z0.dv h.P i<|Fc 21 (@SN h ((i:Int)) aa)<|Ftb 25 ((Zd h (i:Int)).2 != 0) Fz
omit b hl a in
theorem ZjS:CP (Zn f90 0) (AR h h.P.length acc).st (.ext 0) (Tg.st ⟨tm 31 [(4,.ow 24004)],[(24004,.arr 35 1 (acc.map wD))],60⟩):=by exact sF [] []<|FO 14 15 Z0.dv h.P Fz
end
def Z5T(h:Heap)(c:Zz h.W)(hl:h.P.length<=1048576):∀(f i:Nat) (acc:List Int),i+f=h.P.length->acc.length+256*f<=1048576 -> ((Cj h f i).2=0->Gk prog f90 0 (AR h i acc).st (.ext 0) (Tg.st ⟨tm 31 [(4,.ow 24004)],[(24004,.arr 35 1 ((acc++(Cj h f i).1).map wD))],60⟩)) /\ (¬ (Cj h f i).2=0->Gk prog f90 0 (AR h i acc).st .ret (Tg.st ⟨tm 31 [(2,.d (.sl 0 [])),(3,nI (Cj h f i).2)],[],60⟩)):=by
 intro f;induction f with
 |zero =>
  intro i acc g _;have:i=h.P.length:=by omega
  subst this;refine⟨λ_=>?_,λe=>absurd rfl e⟩;rw[Cj,Lp];exact .endx (ZjS h acc)
 |succ f l =>
  intro i acc g hb;have hn:=NN h i;unfold Cj;by_cases e:(Zd h i).2=0;rw[if_pos e];have b:=ZkJ h i acc c hl oq oq e;obtain⟨j,k⟩:=l (i+1) (acc++(Zd h i).1) oq qo;by_cases a:(Cj h f (i+1)).2=0
  .rw[if_pos a];refine⟨λ_=>?_,λe=>absurd rfl e⟩;have:=j a;rw[Lw]at this;exact .next b this
  rw[if_neg a];exact⟨λe=>absurd e a,λ_=>.next b (k a)⟩;rw[if_neg e];exact⟨λd=>absurd d e,λ_=>.endr (ZbP h i acc c hl oq oq e)⟩
def Ziy(h:Heap)(a:Zz h.W)(hl:h.P.length<=64)(e:(Cj h h.P.length 0).2=0):CP (Zj f90 0) (Tg.st ⟨tm 31 [(1,.pt 8001 0 0),(2,.d (.sl 0 [])),(3,nI 0),(4,.ow 24004),(5,nI 0)],[(24004,.arr 35 1 []),(8001,.box 28 h.cells)],60⟩) .nrm (Tg.st ⟨tm 31 [(4,.ow 24004)],[(24004,.arr 35 1 ((Cj h h.P.length 0).1.map wD))],60⟩):=
 ((Z5T h a oq h.P.length 0 [] oq qo).1 e).ext kr
def Zjd(h:Heap)(a:Zz h.W)(hl:h.P.length<=64)(e:¬ (Cj h h.P.length 0).2=0):CP (Zj f90 0) (Tg.st ⟨tm 31 [(1,.pt 8001 0 0),(2,.d (.sl 0 [])),(3,nI 0),(4,.ow 24004),(5,nI 0)],[(24004,.arr 35 1 []),(8001,.box 28 h.cells)],60⟩) .ret (Tg.st ⟨tm 31 [(2,.d (.sl 0 [])),(3,nI (Cj h h.P.length 0).2)],[],60⟩):=
 ((Z5T h a oq h.P.length 0 [] oq qo).2 e).ret kr
def ZaI(h:Heap):∀(f i:Nat),¬ (Cj h f i).2=0->(Cj h f i).1=[]
 |0,i,e=>absurd rfl e
 |f+1,i,e=>by
  unfold Cj at e⊢;split at e
  .rename_i a;rw[if_pos a];split at e
   .exact absurd rfl e
   .rename_i b;rw[if_neg b]
  .rename_i a;rw[if_neg a]
def Zaz(h:Heap)(hw:Zz h.W):GP 90 [h.av] M (.tu [Z2 (CK h).1,nI (CK h).2]) []:=by
 cases hp:Z8 h with
 |false =>
  have a:CK h=([],1):=by rw[CK,if_neg (by rw[hp];simp)]
  rw[a];exact gF [] func90 []<|Fc 9 (@Cy h)<|Ftb 10 (!Z8 h)<|Fnl Fz
 |true =>
  have po:=B4 hp;have a:CK h=Cj h h.P.length 0:=by rw[CK,if_pos hp]
  by_cases e:(Cj h h.P.length 0).2=0;rw[show CK h=((Cj h h.P.length (0:Nat)).1,(0:Int))from by grind[]];exact gF [] func90 []<|Fh 4 [.own]<|Fc 9 (@Cy h)<|Ffb 10 (!Z8 h)<|Fu (@Ziy h aa oq aa) Fz;have b:=ZaI h _ _ e;exact gF [] func90 (fO 7)<|Fh 4 [.own]<|Fc 9 (@Cy h)<|Ffb 10 (!Z8 h)<|Fu (@Zjd h aa oq aa)<|Fnl (Fa (by rw[a,b];rfl:[]=Z wD (CK h).1)<|Fa (by rw[a]:(Cj h h.P.length 0).2=(CK h).2) Fz)
def Z8Z{h:Heap}(c:Zs h.C=Y){i}:∀{f:Nat} {o:Int} {l:List Int},Ev h i f o=O l->∀x∈l,0<=x/\x<=8192
 |0,o,l,e=>by simp[Ev]at e;subst e;simp
 |f+1,o,l,e=>by
  have b:=AS c i o;unfold Ev at e;split at e
  .split at e
   .split at e
    .cases e;intro x a;simp at a;subst a;exact b
    .rw[Lt]at e;obtain⟨m,d,rfl⟩:=e;intro x a;rcases List.mem_cons.1 a with rfl|a
     .exact b
     .exact Z8Z c d x a
   .cases e
  .cases e;simp
def Al{h:Heap}(a:Z8 h=Y) i:∀x∈(Zd h i).1,0<=x/\x<=8192:=by
 have b:=(B4 a).1;unfold Zd;repeat' split
 all_goals first|(simp;done)|(rename_i e;exact Z8Z b e)
def Z6s{h:Heap}(b:Z8 h=Y):∀(f i:Nat),∀x∈(Cj h f i).1,0<=x/\x<=8192
 |0,i=>by simp[Cj]
 |f+1,i=>by
  unfold Cj;split
  .split
   .intro x a;rcases List.mem_append.1 a with a|a
    .exact Al b i x a
    .exact Z6s b f (i+1) x a
   .simp
  .simp
def Z7l(h:Heap):∀(f i:Nat),(Cj h f i).1.length<=256*f
 |0,i=>by simp[Cj]
 |f+1,i=>by
  have h1:=NN h i;have h2:=Z7l h f (i+1);unfold Cj;split
  .split
   .simp;omega
   .simp
  .simp
def Z85(h:Heap):∀x∈(CK h).1,0<=x/\x<=8192:=by unfold CK;split;exact Z6s aa _ _;simp
def Z6j(h:Heap):(CK h).1.length<=16384:=by unfold CK;split;rename_i a;have:=Z7l h h.P.length 0;have:=B4 a;omega;simp
def CU(h:Heap)(a:Int):Bool:=L ((Z9 h a).1.K≠0)
def Zh(h:Heap):List Int×Int:=((CK h).1.filter (CU h),(CK h).2)
def RU(h:Heap):∀x∈(Zh h).1,0<=x/\x<=8192:=λx a=>Z85 h x (List.mem_filter.1 a).1
def Ic(h:Heap):(Zh h).1.length<=16384:=Nat.le_trans (LA _ _) (Z6j h)
def Sn{l:List Int}{i:Nat}(hi:i<l.length):l.take (i+1)=l.take i++[l.getD i X]:=by rw[List.take_succ];simp[Lq,hi]
def Z0c(h:Heap)(l:List Int)(a:Int)(i:Nat):Tg:=⟨tm 42 [(1,.pt 8001 0 0),(4,Z2 l),(5,nI a),(6,.ow 24006),(7,nI i)],[(24006,.arr 35 1 (((l.take i).filter (CU h)).map wD)),(8001,.box 28 h.cells)],60⟩
def Zie(h:Heap)(l:List Int) b(i:Nat)(hw:Zz h.W)(hl:l.length<=1048576)(g:∀x∈l,0<=x/\x<=8192)(hi:i<l.length):CP (Zn f43 0) (Z0c h l b i).st .nrm (Z0c h l b (i+1)).st:=by
 have hx:=g (l.getD i X) (B7.2 ⟨i,hi,rfl⟩);have f:((l.take i).filter (CU h)).length<=l.length:=Nat.le_trans (LA _ _) qo;have d:=Sn hi;by_cases c:(Z9 h (l.getD i X)).1.K=0;have e:(l.take (i+1)).filter (CU h)=(l.take i).filter (CU h):=by(have a:CU h (l.getD i X)=M:=decide_eq_false (by simpa using c);rw[d,Lx,Ly,a,Lz];simp)
 exact sF [] (fO 5)<|FN 17 18 25 wD l i<|Fc 27 (@Nk h (l.getD i X) aa oq)<|Ffb 32 ((Z9 h (l.getD i X)).1.K != 0)<|Fx 20 i<|Fr (35:Int)<|Fa (by refine congrArg _ ?_;rw[e]:Z wD (Le (CU h) (Ld i l))=Z wD (Le (CU h) (Ld (i+1) l))) Fz;have e:(l.take (i+1)).filter (CU h)=(l.take i).filter (CU h)++[l.getD i X]:=by(have a:CU h (l.getD i X)=Y:=decide_eq_true c;rw[d,Lx,Ly,a,Lz];simp)
 exact sF [(504039,24006)] (fO 5)<|Fh 39 [.els (Z wD (Le (CU h) (Ld i l)++[l.getD i X]))]<|FN 17 18 25 wD l i<|Fc 27 (@Nk h (l.getD i X) aa oq)<|Ftb 32 ((Z9 h (l.getD i X)).1.K != 0)<|Fek 36 wD l (↑i) i<|Fs 38 (Z wD [l.getD i X])<|Fa (by(simp[*];omega):(Z wD (Le (CU h) (Ld i l))).length+(Z wD [l.getD i X]).length<=2^30)<|Fa (ms:Z wD (Le (CU h) (Ld i l))++Z wD [l.getD i X]=Z wD (Le (CU h) (Ld i l)++[l.getD i X]))<|Fx 20 i<|Fr (35:Int)<|Fa (by refine congrArg _ ?_;rw[e]:Z wD (Le (CU h) (Ld i l)++[l.getD i X])=Z wD (Le (CU h) (Ld (i+1) l))) Fz
def Zhp(h:Heap) l a:CP (Zn f43 0) (Z0c h l a l.length).st (.ext 0) (Tg.st ⟨tm 42 [(5,nI a),(6,.ow 24006)],[(24006,.arr 35 1 ((l.filter (CU h)).map wD))],60⟩):=by have e:l.take l.length=l:=LF;exact sF [] (fO 2)<|FO 17 18 wD l<|Fr (35:Int)<|Fa (by refine congrArg _ ?_;rw[e]:Z wD (Le (CU h) (Ld l.length l))=Z wD (Le (CU h) l)) Fz
def ZfK(h:Heap)(l:List Int) a(d:Zz h.W)(hl:l.length<=1048576)(c:∀x∈l,0<=x/\x<=8192):CP (Zj f43 0) (Tg.st ⟨tm 42 [(1,.pt 8001 0 0),(4,Z2 l),(5,nI a),(6,.ow 24006),(7,nI 0)],[(24006,.arr 35 1 []),(8001,.box 28 h.cells)],60⟩) .nrm (Tg.st ⟨tm 42 [(5,nI a),(6,.ow 24006)],[(24006,.arr 35 1 ((l.filter (CU h)).map wD))],60⟩):=
 Bt (S:=λi=>(Z0c h l a i).st) l.length kr (λi b=>Zie h l a i d hl c b) (Zhp h l a)
def NT(h:Heap)(hw:Zz h.W):GP 43 [h.av] M (.tu [Z2 (Zh h).1,nI (Zh h).2]) []:=by have hl:=Z6j h;have hr:=Z85 h;exact gF [] func43 []<|Fh 6 [.own]<|Fc 12 (@Zaz h aa)<|Fu (@ZfK h ((CK h).1) ((CK h).2) aa oq aa) Fz
def Gw(h:Heap)(p o:Int):Int:=(Z1 h.W (address h.C p o).1).1
def ZeB{c:B3}(b:Zs c=Y) p o:0<=(address c p o).1/\(address c p o).1<=8192:=by have ha:=HE b;unfold address;rw[if_pos b];split;rename_i a;have a:=HT.1 a;have:=OH b a.1 a.2.1 a.2.2.1 a.2.2.2;simp only;omega;simp
def Zit(h:Heap) p o(a:Z8 h=Y):GP 235 [h.av,nI p,nI o] Y (uU (Gw h p o)) []:=by have b:=B4 a;have ar:=ZeB b.1 p o;exact gF [] func235 []<|Fc 16 (@OT h.C p o)<|Fc 23 (@HF h.W ((address h.C p o).1) oq oq) Fz
def Z3f(h:Heap) p o(hp:Z8 h=Y):GP 220 [h.av,nI p,nI o] Y (uU (Gw h p o)) []:=by exact gF [] func220 []<|Fc 10 (@Zit h p o aa) Fz
def Zia(h:Heap)(p o:Int)(b:Z8 h=Y)(a:0<=p/\p<h.C.pg)(h1:0<=o/\o<=64):GP 221 [h.av,nI p,nI o] Y (uU (4096+p*h.C.pw+o)) []:=by have c:=B4 b;have ap:=HW c.1 a.1 a.2;exact gF [] func221 []<|Fi 11 (p*h.C.pw)<|Fi 12 (4096+p*h.C.pw)<|Fi 14 (4096+p*h.C.pw+o)<|Fv 15 (4096+p*h.C.pw+o) Fz
def B1(l:List Z0):Nat->Nat|0=>0|i+1=>if(l.getD (i+1) X).K=3 then B1 l i else i+1
def Z8g{h:Heap}(a:Z8 h=Y):(h.P.getD 0 X).K≠3:=by have d:=I7.1 a;have po:=B4 a;have b:=d.2.2.2.2.2;rw[Z29 oq oq,Lg]at b;have c:=of_decide_eq_true b.1;unfold Gg at c;omega
def A8(h:Heap)(i:Nat):Tg:=⟨tm 15 [(1,nI i),(2,.pt 8002 0 0)],[(8002,.box 28 h.cells)],60⟩
def Ziz(h:Heap)(i:Nat)(hi:i+1<h.P.length)(hl:h.P.length<=1048576)(hk:(h.P.getD (i+1) X).K=3):CP (Zn f218 0) (A8 h (i+1)).st .nrm (A8 h i).st:=by
 have ei:((i+1:Nat):Int)-1=(i:Int):=by omega
 exact sF [] []<|Fek 8 Z0.dv h.P (↑(i+1):Int) (i+1)<|Ftb 11 ((h.P.getD (i+1) X).K==3)<|Fg 13 (by rw[Ea oq oq];omega:Lu.wrap ((↑(i+1):Int)-1)=(i:Int)) Fz
def Z9n(h:Heap)(i:Nat)(hi:i<h.P.length)(hl:h.P.length<=1048576)(hk:¬ (h.P.getD i X).K=3):CP (Zn f218 0) (A8 h i).st (.ext 0) (Tg.st ⟨tm 15 [(1,nI i)],[],60⟩):=by exact sF [] []<|Fek 8 Z0.dv h.P (↑i) i<|Ffb 11 ((h.P.getD i X).K==3) Fz
def Z8c(h:Heap)(b:Z8 h=Y)(hl:h.P.length<=1048576):∀i,i<h.P.length->Gk prog f218 0 (A8 h i).st (.ext 0) (Tg.st ⟨tm 15 [(1,nI (B1 h.P i))],[],60⟩)
 |0,hi=>.endx (Z9n h 0 hi hl (Z8g b))
 |i+1,hi=>by
  unfold B1;by_cases a:(h.P.getD (i+1) X).K=3
  .rw[if_pos a];exact .next (Ziz h i hi hl a) (Z8c h b hl i oq)
  .rw[if_neg a];exact .endx (Z9n h (i+1) hi hl a)
def Zbc(h:Heap)(i:Nat)(a:Z8 h=Y)(hi:i<h.P.length)(hl:h.P.length<=1048576):CP (Zj f218 0) (A8 h i).st .nrm (Tg.st ⟨tm 15 [(1,nI (B1 h.P i))],[],60⟩):=
 (Z8c h a hl i hi).ext kr
def Z5K(h:Heap)(i:Nat)(a:Z8 h=Y)(hi:i<h.P.length):GP 218 [h.av,nI i] Y (nI (B1 h.P i)) []:=by have po:=B4 a;exact gF [] func218 []<|Fu (@Zbc h i aa aa oq) Fz
def Gs(h:Heap)(i:Int)(a:Int):Bool:=(L ((h.P.getD i.toNat X).K=1)&&L (Zc h.C<Z5 (Z9 h a).1))||(L ((h.P.getD i.toNat X).K=2)&&L ((Z9 h a).1.K=0))
def Cr(h:Heap)(i:Int)(l:List Int):Int:=(l.find? (Gs h i)).getD 0
def Dm(h:Heap)(i:Int)(l:List Int)(n:Nat):Tg:=⟨tm 61 [(1,nI i),(2,Z2 l),(3,.pt 8003 0 0),(6,uU 0),(7,nI n)],[(8003,.box 28 h.cells)],60⟩
section
variable(h:Heap)(i:Int)(l:List Int)(n:Nat)(b:Zz h.W)(hl:l.length<=1048576)(hi:0<=i/\i<h.P.length)(c:h.P.length<=1048576)(a:∀x∈l,0<=x/\x<=8192)
include b hl hi c a
theorem Z6y(g:n<l.length)(f:Gs h i (l.getD n X)=M):CP (Zn f192 0) (Dm h i l n).st .nrm (Dm h i l (n+1)).st:=by have hx:=a (l.getD n X) (B7.2 ⟨n,g,rfl⟩);have hm:=Iv b (l.getD n X);simp only[Gs,bs]at f;let d:=Z9 h (l.getD n X);let e:=h.P.getD i.toNat X;exact sF [] []<|FN 13 14 21 wD l n<|Fc 23 (@Nk h (l.getD n X) aa oq)<|Fc 27 (@Il (d.1) aa)<|Fc 30 (@Ny h.C)<|Fe 35 Z0.dv h.P i<|FeGq 47 (!(e.K==1&&!decide (Z5 d.1<=Zc h.C))) Z0.dv h.P i<|Ffb 56 (e.K==1&&!decide (Z5 d.1<=Zc h.C)||e.K==2&&d.1.K==0)<|Fx 16 n Fz
theorem ZaC(f:n<l.length)(d:Gs h i (l.getD n X)=Y):CP (Zn f192 0) (Dm h i l n).st .ret (Tg.st ⟨tm 61 [(6,uU (l.getD n X))],[],60⟩):=by have hx:=a (l.getD n X) (B7.2 ⟨n,f,rfl⟩);have hm:=Iv b (l.getD n X);simp only[Gs,bs]at d;refine Zg [((13:Nat),[Hint.int (l.length:Int)]),((14:Nat),[Hint.br Y]),((21:Nat),[Hint.el (wD (l.getD n X))]),((23:Nat),[Hint.call Y (AV.tu [(Z9 h (l.getD n X)).1.av,nI (Z9 h (l.getD n X)).2]) []]),((27:Nat),[Hint.call Y (nI (Z5 (Z9 h (l.getD n X)).1)) []]),((30:Nat),[Hint.call Y (nI (Zc h.C)) []]),((35:Nat),[Hint.el (h.P.getD i.toNat X).dv]),((47:Nat),[Hint.el (h.P.getD i.toNat X).dv]),((56:Nat),[Hint.br Y]),((59:Nat),[Hint.el (wD (l.getD n X))])] [] [] [] (φ:=(↑(Z wD l).length:Int)=(l.length:Int)/\L ((n:Int)<(l.length:Int))=Y/\Y=Y/\((0:Int)<=(n:Int)/\(Z wD l)[(n:Int).toNat]?=O (wD (l.getD n X)))/\GP 91 [h.av,uU (l.getD n X)] Y (AV.tu [(Z9 h (l.getD n X)).1.av,nI (Z9 h (l.getD n X)).2]) []/\GP 70 [(Z9 h (l.getD n X)).1.av] Y (nI (Z5 (Z9 h (l.getD n X)).1)) []/\GP 93 [h.C.av] Y (nI (Zc h.C)) []/\((0:Int)<=i/\(Z Z0.dv h.P)[i.toNat]?=O (h.P.getD i.toNat X).dv)/\((!((h.P.getD i.toNat X).K==(1:Int)&&!decide (Z5 (Z9 h (l.getD n X)).1<=Zc h.C)))=Y->(0:Int)<=i/\(Z Z0.dv h.P)[i.toNat]?=O (h.P.getD i.toNat X).dv)/\((h.P.getD i.toNat X).K==(1:Int)&&!decide (Z5 (Z9 h (l.getD n X)).1<=Zc h.C)||(h.P.getD i.toNat X).K==(2:Int)&&(Z9 h (l.getD n X)).1.K==(0:Int))=Y/\Y=Y/\(0:Int)<=(n:Int)/\(Z wD l)[(n:Int).toNat]?=O (wD (l.getD n X))) ?_ kr kr kr;exact⟨(by simp only[List.length_map]),(by(simp only[bs];omega)),rfl,(by exact Zo oq oq oq),(@Nk (h) (l.getD n X) aa oq),(@Il ((Z9 h (l.getD n X)).1) aa),(@Ny (h.C)),(by exact Zo oq oq oq),(by intro e;(try simp only[bs]at e);exact Zo oq oq oq),(by(simp only[bs];omega)),rfl,(by exact Zo oq oq oq)⟩
omit b hl hi c a in
theorem Zen:CP (Zn f192 0) (Dm h i l l.length).st (.ext 0) (Tg.st ⟨tm 61 [(6,uU 0)],[],60⟩):=by exact sF [] []<|FO 13 14 wD l Fz
end
def Pk{l:List Int}{f:Int->Bool}(h:l.find? f=La):∀n,n<l.length->f (l.getD n X)=M:=by intro n a;have:=Li.1 h (l.getD n X) (B7.2 ⟨n,a,rfl⟩);simpa using this
def A6{f:Int->Bool}:∀{l:List Int} {x:Int},l.find? f=O x->∃n,n<l.length/\l.getD n X=x/\f x=Y/\∀m,m<n->f (l.getD m X)=M
 |[],x,h=>by simp at h
 |a::l,x,h=>by
  rw[List.find?_cons]at h;split at h
  .rename_i b;cases h;exact⟨0,by simp,rfl,b,λm g=>by omega⟩
  .rename_i b;obtain⟨n,h1,c,d,e⟩:=A6 h;refine⟨n+1,by simp;omega,by simpa using c,d,λm g=>?_⟩;cases m with|zero=>simpa using b|succ m=>simpa using e m oq
def ZeD(h:Heap)(i:Int)(l:List Int)(e:Zz h.W)(hl:l.length<=1048576)(hi:0<=i/\i<h.P.length)(c:h.P.length<=1048576)(d:∀x∈l,0<=x/\x<=8192)(b:l.find? (Gs h i)=La) :CP (Zj f192 0) (Tg.st ⟨tm 61 [(1,nI i),(2,Z2 l),(3,.pt 8003 0 0),(6,uU 0),(7,nI 0)],[(8003,.box 28 h.cells)],60⟩) .nrm (Tg.st ⟨tm 61 [(6,uU 0)],[],60⟩):=
 Bt (S:=λn=>(Dm h i l n).st) l.length kr (λn a=>Z6y h i l n e hl hi c d a (Pk b n a)) (Zen h i l)
def ZiH(h:Heap)(i:Int)(l:List Int)(x:Int)(c:Zz h.W)(hl:l.length<=1048576)(hi:0<=i/\i<h.P.length)(a:h.P.length<=1048576)(b:∀x∈l,0<=x/\x<=8192)(j:l.find? (Gs h i)=O x) :CP (Zj f192 0) (Tg.st ⟨tm 61 [(1,nI i),(2,Z2 l),(3,.pt 8003 0 0),(6,uU 0),(7,nI 0)],[(8003,.box 28 h.cells)],60⟩) .ret (Tg.st ⟨tm 61 [(6,uU x)],[],60⟩):=by obtain⟨n,d,e,f,g⟩:=A6 j;subst e;exact G0 (S:=λn=>(Dm h i l n).st) n kr (λm k=>Z6y h i l m c hl hi a b oq (g m k)) (ZaC h i l n c hl hi a b d f)
def Z1M(h:Heap)(i:Int)(l:List Int)(hw:Zz h.W)(hl:l.length<=1048576)(hp:h.P.length<=1048576)(hi:0<=i/\i<h.P.length)(hr:∀x∈l,0<=x/\x<=8192):GP 192 [h.av,nI i,Z2 l] Y (uU (Cr h i l)) []:=by
 cases hf:l.find? (Gs h i)with
 |none =>
  have a:Cr h i l=0:=by rw[Cr,hf];rfl
  exact gF [] func192 (fO 6)<|Fu (@ZeD h i l aa aa aa aa aa aa)<|Fa (by rw[a]:0=Cr h i l) Fz
 |some x =>
  have a:Cr h i l=x:=by rw[Cr,hf];rfl
  exact gF [] func192 (fO 6)<|Fu (@ZiH h i l x aa aa aa aa aa aa)<|Fa (by rw[a]:x=Cr h i l) Fz
def BW(x:Bool):List DV:=[.sc (.bool x)]
def GA(h:Heap)(a:Int):Int:=if(Z9 h a).1.K=0 then 1 else Z5 (Z9 h a).1
def De(h:Heap)(i:Int)(a:Int)(o:Nat):Bool:=L (a-4096-i*h.C.pw<=o)&&L ((o:Int)<a-4096-i*h.C.pw+GA h a)
def Cv(h:Heap)(i:Int)(l:List Int):List Bool:=(Lc h.C.pw.toNat).map λo=>l.any λa=>De h i a o
def Eu(h:Heap)(i:Int)(l:List Int)(a:Int)(w:Nat):List Bool:=(Lc h.C.pw.toNat).map λ(o:Nat)=>(l.any λa=>De h i a o)||(L (a-4096-i*h.C.pw<=o)&&L ((o:Int)<a-4096-i*h.C.pw+w))
def Z77(h:Heap) i l a w:(Eu h i l a w).length=h.C.pw.toNat:=by simp[Eu]
def Zew(h:Heap) i l a:Eu h i l a 0=Cv h i l:=by
 unfold Eu Cv;refine Lr λo _=>?_;have:(L (a-4096-i*h.C.pw<=(o:Int))&&L ((o:Int)<a-4096-i*h.C.pw+(0:Nat)))=M:=by(rw[Bool.and_eq_false_iff];simp;omega)
 rw[this,Bool.or_false]
def Zm0{h:Heap}{i:Int}{l}{a:Int}{w:Nat}(hh:¬ (0<=a-4096+w-i*h.C.pw/\a-4096+w-i*h.C.pw<h.C.pw)):Eu h i l a (w+1)=Eu h i l a w:=by unfold Eu;refine Lr λo b=>?_;have b:=Lf.1 b;congr 1;rw[Ln];simp;omega
def ZdT{h:Heap}{i:Int}{l}{a:Int}{w:Nat}(hh:0<=a-4096+w-i*h.C.pw/\a-4096+w-i*h.C.pw<h.C.pw):(Eu h i l a w).set (a-4096+w-i*h.C.pw).toNat Y=Eu h i l a (w+1):=by
 apply List.ext_getElem?;intro j;rw[List.getElem?_set,Z77];unfold Eu;by_cases b:j<h.C.pw.toNat
 rw[Ll,Ll,List.getElem?_range b,LG,LG];by_cases c:(a-4096+w-i*h.C.pw).toNat=j;rw[if_pos c,if_pos oq];congr 1;symm;rw[Bool.or_eq_true];right;rw[Lg,decide_eq_true_eq,decide_eq_true_eq];omega;rw[if_neg c];congr 2;rw[Ln,Lg,Lg,decide_eq_true_eq,decide_eq_true_eq,decide_eq_true_eq];omega;rw[if_neg oq,Ll,Ll,List.getElem?_eq_none qo];rfl
def ZaZ{h i l a}(hn:0<=GA h a):Eu h i l a (GA h a).toNat=Cv h i (l++[a]):=by unfold Eu Cv;refine Lr λo _=>?_;rw[List.any_append];congr 1;simp[De];rw[Ln];simp;omega
def Zg7(h:Heap) i:Cv h i []=Lk h.C.pw.toNat M:=by unfold Cv;simp[List.map_const']
def TR(h:Heap)(i:Int)(l:List Int)(k:Nat):Tg:=⟨tm 69 [(1,nI i),(2,Z2 l),(3,.pt 8003 0 0),(7,.ow 16017),(8,nI k)],[(16017,.arr 4 1 ((Cv h i (l.take k)).map BW)),(8003,.box 28 h.cells)],60⟩
def Mo(h:Heap)(i:Int)(l m:List Int)(k:Nat)(n:Int)(w:Nat):Tg:=⟨tm 69 [(1,nI i),(2,Z2 m),(3,.pt 8003 0 0),(7,.ow 16017),(8,nI k),(11,nI n),(12,nI w)],[(16017,.arr 4 1 ((Eu h i l (m.getD k X) w).map BW)),(8003,.box 28 h.cells)],60⟩
def ZlK(h:Heap)(i:Int)(l m:List Int)(k:Nat)(n:Int)(w:Nat)(p:Z8 h=Y)(hm:m.length<=1048576)(hi:0<=i/\i<h.P.length)(hr:0<=m.getD k X/\m.getD k X<=8192)(hk:k<m.length)(hn:n<=256)(hw:w<n):CP (Zn f219 2) (Mo h i l m k n w).st .nrm (Mo h i l m k n (w+1)).st:=by have q:=B4 p;have ap:=HW q.1 hi.1 oq;have g:=Z77 h i l (m.getD k X) w;by_cases f:0<=m.getD k X-4096+w-i*h.C.pw/\m.getD k X-4096+w-i*h.C.pw<h.C.pw;have e:=ZdT (l:=l) f;let b:=m.getD k X-4096+(w:Int)-i*h.C.pw;let a:=Eu h i l (m.getD k X) w;let j:=0<=m.getD k X-4096+(w:Int)-i*h.C.pw;let d:=a.set b.toNat Y;exact sF [] (fO 11)<|Fh 10067 [.els (Z BW d)]<|Ftb 40 (L ((w:Int)<n))<|Fek 45 wD m (↑k) k<|Fi 47 (m.getD k X)<|Fi 48 (m.getD k X-4096)<|Fi 50 (m.getD k X-4096+(w:Int))<|Fi 55 (i*h.C.pw)<|Fi 56 b<|FlG 62 (decide j) BW a<|Ftb 64 (decide j&&L (m.getD k X-4096+(w:Int)-i*h.C.pw<(a.length:Int)))<|Fa (by grind[]:0<=m.getD k X-4096+(w:Int)-i*h.C.pw/\b.toNat<(Z BW a).length)<|Fa (by grind[]:b.toNat<(Z BW a).length)<|Fa (by rw[Ls];rfl:(Z BW a).set b.toNat [DV.sc (Value.bool Y)]=Z BW d)<|Fx 42 w<|Fr (4:Int)<|Fa (by refine congrArg _ ?_;exact e:Z BW d=Z BW (Eu h i l (m.getD k X) (w+1))) Fz;have e:=Zm0 (l:=l) f;let c:=m.getD k X;let o:=0<=m.getD k X-4096+(w:Int)-i*h.C.pw;exact sF [] (fO 11)<|Ftb 40 (L ((w:Int)<n))<|Fek 45 wD m (↑k) k<|Fi 47 c<|Fi 48 (m.getD k X-4096)<|Fi 50 (m.getD k X-4096+(w:Int))<|Fi 55 (i*h.C.pw)<|Fi 56 (m.getD k X-4096+(w:Int)-i*h.C.pw)<|FlG 62 (decide o) BW (Eu h i l c w)<|Ffb 64 (decide o&&L (m.getD k X-4096+(w:Int)-i*h.C.pw<(↑(Eu h i l c w).length:Int)))<|Fx 42 w<|Fr (4:Int)<|Fa (by refine congrArg _ ?_;rw[e]:Z BW (Eu h i l c w)=Z BW (Eu h i l c (w+1))) Fz
def ZaK(h:Heap) i l m k(n:Int)(w:Nat)(hn:n<=w):CP (Zn f219 2) (Mo h i l m k n w).st (.ext 2) (Tg.st ⟨tm 69 [(1,nI i),(2,Z2 m),(3,.pt 8003 0 0),(7,.ow 16017),(8,nI k)],[(16017,.arr 4 1 ((Eu h i l (m.getD k X) w).map BW)),(8003,.box 28 h.cells)],60⟩):=by exact sF [] []<|Ffb 40 (L ((w:Int)<n)) Fz
def Z8y(h:Heap)(i:Int)(m:List Int)(k:Nat)(n:Int)(f:Z8 h=Y)(d:m.length<=1048576)(hi:0<=i/\i<h.P.length)(g:0<=m.getD k X/\m.getD k X<=8192)(a:k<m.length)(e:0<=n/\n<=256)(c:n=GA h (m.getD k X)):CP (Zj f219 2) (Tg.st ⟨tm 69 [(1,nI i),(2,Z2 m),(3,.pt 8003 0 0),(7,.ow 16017),(8,nI k),(11,nI n),(12,nI 0)],[(16017,.arr 4 1 ((Cv h i (m.take k)).map BW)),(8003,.box 28 h.cells)],60⟩) .nrm (Tg.st ⟨tm 69 [(1,nI i),(2,Z2 m),(3,.pt 8003 0 0),(7,.ow 16017),(8,nI k)],[(16017,.arr 4 1 ((Cv h i (m.take (k+1))).map BW)),(8003,.box 28 h.cells)],60⟩):=by
 have:=Bt (S:=λw=>(Mo h i (m.take k) m k n w).st) n.toNat kr (λw hw=>ZlK h i (m.take k) m k n w f d hi g a e.2 oq) (ZaK h i (m.take k) m k n n.toNat oq);have b:Eu h i (m.take k) (m.getD k X) n.toNat=Cv h i (m.take (k+1)):=by(rw[Sn a,c];exact ZaZ oq)
 rw[b]at this;simp only[Mo,Zew]at this;exact this
def Zda(h:Heap)(i:Int)(l:List Int)(k:Nat)(g:Zz h.W)(d:Z8 h=Y)(hl:l.length<=1048576)(hi:0<=i/\i<h.P.length)(f:∀x∈l,0<=x/\x<=8192)(c:k<l.length):CP (Zn f219 0) (TR h i l k).st .nrm (TR h i l (k+1)).st:=by
 have po:=B4 d;have hx:=f (l.getD k X) (B7.2 ⟨k,c,rfl⟩);have hm:=Iv g (l.getD k X);have hs:=Ib (Z9 h (l.getD k X)).1;by_cases b:(Z9 h (l.getD k X)).1.K=0;have e:GA h (l.getD k X)=1:=by rw[GA,if_pos b]
 exact sF [] []<|FN 20 21 28 wD l k<|Fc 30 (@Nk h (l.getD k X) aa oq)<|Fc 34 (@Il ((Z9 h (l.getD k X)).1) aa)<|Ftb 37 ((Z9 h (l.getD k X)).1.K==0)<|Fu (@Z8y h i l k (1) aa aa aa aa aa oq oq)<|Fx 23 k Fz;have e:GA h (l.getD k X)=Z5 (Z9 h (l.getD k X)).1:=by rw[GA,if_neg b]
 let a:=l.getD k X;exact sF [] []<|FN 20 21 28 wD l k<|Fc 30 (@Nk h a aa oq)<|Fc 34 (@Il ((Z9 h a).1) aa)<|Ffb 37 ((Z9 h a).1.K==0)<|Fu (@Z8y h i l k (Z5 (Z9 h a).1) aa aa aa aa aa aa oq)<|Fx 23 k Fz
def Zbt(h:Heap) i l:CP (Zn f219 0) (TR h i l l.length).st (.ext 0) (Tg.st ⟨tm 69 [(7,.ow 16017)],[(16017,.arr 4 1 ((Cv h i l).map BW))],60⟩):=by have e:l.take l.length=l:=LF;exact sF [] [M,Y]<|FO 20 21 wD l<|Fr (4:Int)<|Fa (by refine congrArg _ ?_;rw[e]:Z BW (Cv h i (Ld l.length l))=Z BW (Cv h i l)) Fz
def Zi9(h:Heap)(i:Int)(l:List Int)(d:Zz h.W)(b:Z8 h=Y)(hl:l.length<=1048576)(hi:0<=i/\i<h.P.length)(c:∀x∈l,0<=x/\x<=8192):CP (Zj f219 0) (Tg.st ⟨tm 69 [(1,nI i),(2,Z2 l),(3,.pt 8003 0 0),(7,.ow 16017),(8,nI 0)],[(16017,.arr 4 1 ((Lk h.C.pw.toNat M).map BW)),(8003,.box 28 h.cells)],60⟩) .nrm (Tg.st ⟨tm 69 [(7,.ow 16017)],[(16017,.arr 4 1 ((Cv h i l).map BW))],60⟩):=by have:=Bt (S:=λk=>(TR h i l k).st) l.length kr (λk a=>Zda h i l k d b hl hi c a) (Zbt h i l);simp only[TR,List.take_zero,Zg7]at this;exact this
def Z6B(h:Heap)(i:Int)(l:List Int)(hw:Zz h.W)(a:Z8 h=Y)(hl:l.length<=1048576)(hi:0<=i/\i<h.P.length)(hr:∀x∈l,0<=x/\x<=8192):GP 219 [h.av,nI i,Z2 l] M (.d (.sl 1 ((Cv h i l).map BW))) []:=by have po:=B4 a;exact gF [] func219 []<|Fh 17 [.els (Z BW (Lk h.C.pw.toNat M))]<|Fb (0<=h.C.pw/\h.C.pw<=h.C.pw/\h.C.pw*((↑(nat_lit 0):Int)+1)<=2^48)<|Fa (by rw[List.map_replicate];rfl:Lk h.C.pw.toNat [DV.sc (Value.bool M)]=Z BW (Lk h.C.pw.toNat M))<|Fu (@Zi9 h i l aa aa aa aa aa) Fz
def CN(h:Heap)(i:Nat):List Bool:=Cv h i (Zd h (B1 h.P i:Nat)).1
def TG(h:Heap) i:(CN h i).length=h.C.pw.toNat:=by simp[CN,Cv]
def Z21 l:∀i,B1 l i<=i
 |0=>Nat.le_refl _
 |i+1=>by
  have:=Z21 l i;unfold B1;split<;>omega
def Dj(h:Heap)(i:Nat)(u:List Bool)(k:Nat):Tg:=⟨tm 43 [(1,nI i),(2,.pt 8002 0 0),(4,uU 0),(7,.d (.sl 1 (u.map BW))),(8,nI k)],[(8002,.box 28 h.cells)],60⟩
section
variable(h:Heap)(i:Nat)(u:List Bool)(k:Nat)(a:Z8 h=Y)(hi:i<h.P.length)(b:u.length<=64)
include a hi b
theorem Z8V(hk:k<u.length)(c:u.getD k X=Y\/Gw h i k=0):CP (Zn f193 0) (Dj h i u k).st .nrm (Dj h i u (k+1)).st:=by have po:=B4 a;rcases c with c|c;exact sF [] []<|FN 23 24 29 BW u k<|FcG 36 (!u.getD k X) (λd=>by(try simp only[bs]at d);exact@Z3f h ((i:Int)) ((k:Int)) aa)<|Ffs 38 (!u.getD k X&&Gw h (i:Int) (k:Int) != 0)<|Fx 26 k Fz;exact sF [] []<|FN 23 24 29 BW u k<|FcG 36 (!u.getD k X) (λd=>by(try simp only[bs]at d);exact@Z3f h ((i:Int)) ((k:Int)) aa)<|Ffb 38 (!u.getD k X&&Gw h (i:Int) (k:Int) != 0)<|Fx 26 k Fz
theorem Zla(hk:k<u.length)(c:u.getD k X=M/\¬ Gw h i k=0):CP (Zn f193 0) (Dj h i u k).st .ret (Tg.st ⟨tm 43 [(4,uU (4096+i*h.C.pw+k))],[],60⟩):=by have po:=B4 a;obtain⟨d,e⟩:=c;exact sF [] []<|FN 23 24 29 BW u k<|FcG 36 (!u.getD k X) (λf=>by(try simp only[bs]at f);exact@Z3f h ((i:Int)) ((k:Int)) aa)<|Fts 38 (!u.getD k X&&Gw h (i:Int) (k:Int) != 0)<|Fc 42 (@Zia h ((i:Int)) ((k:Int)) aa oq oq) Fz
omit a hi b in
theorem Zby:CP (Zn f193 0) (Dj h i u u.length).st (.ext 0) (Tg.st ⟨tm 43 [(4,uU 0)],[],60⟩):=by exact sF [] []<|FO 23 24 BW u Fz
end
def Hu(h:Heap)(i:Nat)(u:List Bool)(k:Nat):Bool:=!u.getD k X&&L (Gw h i k≠0)
def Ew(h:Heap)(i:Nat)(u:List Bool):Int:=match (Lc u.length).find? (Hu h i u)with|O k=>4096+i*h.C.pw+k|La=>0
def ZgF(h:Heap)(i:Nat)(u:List Bool)(c:Z8 h=Y)(hi:i<h.P.length)(d:u.length<=64)(b:(Lc u.length).find? (Hu h i u)=La) :CP (Zj f193 0) (Tg.st ⟨tm 43 [(1,nI i),(2,.pt 8002 0 0),(4,uU 0),(7,.d (.sl 1 (u.map BW))),(8,nI 0)],[(8002,.box 28 h.cells)],60⟩) .nrm (Tg.st ⟨tm 43 [(4,uU 0)],[],60⟩):=by
 refine Bt (S:=λk=>(Dj h i u k).st) u.length kr (λk a=>Z8V h i u k c hi d a ?_) (Zby h i u);have:=Li.1 b k (Lf.2 a);simp only[Hu,bs]at this;cases hb:u.getD k X with|true=>exact .inl rfl|false =>rw[hb]at this;exact .inr (by simpa using this)
def ZdC(h:Heap)(i:Nat)(u:List Bool)(k:Nat)(c:Z8 h=Y)(hi:i<h.P.length)(d:u.length<=64)(f:(Lc u.length).find? (Hu h i u)=O k) :CP (Zj f193 0) (Tg.st ⟨tm 43 [(1,nI i),(2,.pt 8002 0 0),(4,uU 0),(7,.d (.sl 1 (u.map BW))),(8,nI 0)],[(8002,.box 28 h.cells)],60⟩) .ret (Tg.st ⟨tm 43 [(4,uU (4096+i*h.C.pw+k))],[],60⟩):=by
 obtain⟨a,b,e⟩:=Lj.1 f;have b:=Lf.1 b;refine G0 (S:=λk=>(Dj h i u k).st) k kr (λm g=>Z8V h i u m c hi d oq ?_) (Zla h i u k c hi d b ?_);have:=e m g;simp only[Hu,bs]at this;cases hb:u.getD m X with|true=>exact .inl rfl|false =>rw[hb]at this;exact .inr (by simpa using this)
 simp only[Hu,bs]at a;exact⟨a.1,a.2⟩
def Zaf(h:Heap)(i:Nat)(hw:Zz h.W)(d:Z8 h=Y)(hi:i<h.P.length):GP 193 [h.av,nI i] Y (uU (Ew h i (CN h i))) []:=by
 have po:=B4 d;have hh:=Z21 h.P i;have hn:=NN h (B1 h.P i:Nat);have hr:=Al d (B1 h.P i:Nat);have e:=TG h i;unfold CN at e⊢;cases hf:(Lc (Cv h i (Zd h (B1 h.P i:Nat)).1).length).find? (Hu h i (Cv h i (Zd h (B1 h.P i:Nat)).1))with
 |none =>
  have a:Ew h i (Cv h i (Zd h (B1 h.P i:Nat)).1)=0:=by rw[Ew,hf]
  let b:=Zd h (↑(B1 h.P i):Int);exact gF [] func193 (fO 6)<|Fc 13 (@Z5K h i aa aa)<|Fc 14 (@SN h ((↑(B1 h.P i):Int)) aa)<|Fc 20 (@Z6B h ((i:Int)) (b.1) aa aa oq oq aa)<|Fu (@ZgF h i (Cv h (i:Int) b.1) aa aa oq aa)<|Fa (by rw[a]:0=Ew h i (Cv h (i:Int) b.1)) Fz
 |some k =>
  have a:Ew h i (Cv h i (Zd h (B1 h.P i:Nat)).1)=4096+i*h.C.pw+k:=by rw[Ew,hf]
  let c:=Zd h (↑(B1 h.P i):Int);exact gF [] func193 (fO 6)<|Fc 13 (@Z5K h i aa aa)<|Fc 14 (@SN h ((↑(B1 h.P i):Int)) aa)<|Fc 20 (@Z6B h ((i:Int)) (c.1) aa aa oq oq aa)<|Fu (@ZdC h i (Cv h (i:Int) c.1) k aa aa oq aa)<|Fa (by rw[a]:4096+(i:Int)*h.C.pw+(k:Int)=Ew h i (Cv h (i:Int) c.1)) Fz
structure Cf where
 fault:Int
 page:Int
 addr:Int
 deriving DecidableEq,Inhabited
def Cf.av(f:Cf):AV:=.ag [nI f.fault,nI f.page,uU f.addr]
def pageF(h:Heap)(i:Nat):Cf:=
 if(h.P.getD i X).K≠0/\(h.P.getD i X).S≠h.S then⟨2,i,0⟩
 else if(Zd h (i:Int)).2≠0 then⟨3,i,0⟩
 else if Cr h (i:Int) (Zd h (i:Int)).1≠0 then⟨5,i,Cr h (i:Int) (Zd h (i:Int)).1⟩
 else if Ew h i (CN h i)≠0 then⟨4,i,Ew h i (CN h i)⟩else⟨0,0,0⟩
def Z5b(h:Heap)(i:Nat)(hw:Zz h.W)(n:Z8 h=Y)(hi:i<h.P.length):GP 145 [h.av,nI i] Y (pageF h i).av []:=by have po:=B4 n;have hn:=NN h (i:Int);have hr:=Al n (i:Int);have j {h_ c_ p_} (b:Fq h_ c_ p_):=Fek 12 Z0.dv h.P (↑i) i<|FeG 20 ((h.P.getD i X).K != 0) Z0.dv h.P (↑i) i b;rcases bb ((h.P.getD i X).K != 0&&(h.P.getD i X).S != h.S)with hc0|hc0<;>have a:=hc0<;>simp only[bs]at a;obtain⟨f,g⟩:=a;rw[show pageF h i=Cf.mk (2:Int) (i:Int) (0:Int)from by(simp only[pageF] ;exact sj)];exact gF [] func145 [] (j (Ft 26 hc0 Fz));have k {h_ c_ p_} (b:Fq h_ c_ p_):=j<|Ff 26 hc0<|Fc 32 (@SN h ((i:Int)) aa) b;rcases bb ((Zd h (i:Int)).2 != 0)with hc1|hc1<;>have c:=hc1<;>simp only[bs]at c;rw[show pageF h i=Cf.mk (3:Int) (i:Int) (0:Int)from by(simp only[pageF] ;exact sj)];exact gF [] func145 [] (k (Ft 36 hc1 Fz));have l {h_ c_ p_} (b:Fq h_ c_ p_):=k<|Ff 36 hc1<|Fc 42 (@Z1M h ((i:Int)) ((Zd h (i:Int)).1) aa oq oq oq aa) b;rcases bb (Cr h (i:Int) (Zd h (i:Int)).1 != 0)with hc2|hc2<;>have d:=hc2<;>simp only[bs]at d;rw[show pageF h i=Cf.mk (5:Int) (i:Int) (Cr h (i:Int) (Zd h (i:Int)).1)from by(simp only[pageF] ;exact sj)];exact gF [] func145 [] (l (Ft 44 hc2 Fz));have m {h_ c_ p_} (b:Fq h_ c_ p_):=l<|Ff 44 hc2<|Fc 50 (@Zaf h i aa aa aa) b;rcases bb (Ew h i (CN h i) != 0)with hc3|hc3<;>have e:=hc3<;>simp only[bs]at e;rw[show pageF h i=Cf.mk (4:Int) (i:Int) (Ew h i (CN h i))from by(simp only[pageF] ;exact sj)];exact gF [] func145 [] (m (Ft 52 hc3 Fz));rw[show pageF h i=Cf.mk (0:Int) (0:Int) (0:Int)from by(simp only[pageF] ;exact sj)];exact gF [] func145 [] (m (Ff 52 hc3 Fz))
def DY(h:Heap)(a:List Int)(i:Nat):Tg:=⟨tm 89 [(1,.pt 8001 0 0),(2,.pt 8002 0 0),(3,Z2 a),(5,nI i)],[(8002,.box 148 [nI 0,nI 0,uU 0]),(8001,.box 28 h.cells)],60⟩
def II(c:Zv)(b a:List Int)(k:Nat):Bool:=Bg c k&&L (b.getD k X≠0)&&!decide (b.getD k X∈a)
def DF(h:Heap)(a c:List Int)(b:Zv)(i k:Nat):Tg:=⟨tm 89 [(1,.pt 8001 0 0),(2,.pt 8002 0 0),(3,Z2 a),(5,nI i),(6,.pt 488006 0 0),(8,Z2 c),(10,nI k)],[(488006,.box 52 [nI b.K,nI b.length,u32 b.map]),(8002,.box 148 [nI 0,nI 0,uU 0]),(8001,.box 28 h.cells)],64⟩
section
variable(h:Heap)(a b:List Int)(c:Zv)(i k:Nat)(e:0<=c.map/\c.map<=4294967295)(hl:a.length<=1048576)(d:b.length<=4096)(f:0<=a.getD i X/\a.getD i X<=8192)(hi:i<a.length)
include e hl d f hi
theorem Z9b(hk:k<b.length)(g:II c b a k=M):CP (Zn f146 2) (DF h a b c i k).st .nrm (DF h a b c i (k+1)).st:=by simp only[II,bs]at g;rcases g with(g|g)|g;let l:=Bg c (k:Int)&&b.getD k X != 0;exact sF [] []<|FM 46 47 wD b k<|Fc 52 (@NA c ((k:Int)) aa)<|FeG 56 (Bg c (k:Int)) wD b (↑k) k<|FeG 64 l wD b (↑k) k<|FcG 66 l (λj=>by(try simp only[bs]at j);exact@CQ a (b.getD k X) aa)<|Ffs 68 (Bg c (k:Int)&&b.getD k X != 0&&!decide (b.getD k X∈a))<|Fx 49 k Fz;let m:=Bg c (k:Int)&&b.getD k X != 0;exact sF [] []<|FM 46 47 wD b k<|Fc 52 (@NA c ((k:Int)) aa)<|FeG 56 (Bg c (k:Int)) wD b (↑k) k<|FeG 64 m wD b (↑k) k<|FcG 66 m (λj=>by(try simp only[bs]at j);exact@CQ a (b.getD k X) aa)<|Ffb 68 (Bg c (k:Int)&&b.getD k X != 0&&!decide (b.getD k X∈a))<|Fx 49 k Fz;let n:=Bg c (k:Int)&&b.getD k X != 0;exact sF [] []<|FM 46 47 wD b k<|Fc 52 (@NA c ((k:Int)) aa)<|FeG 56 (Bg c (k:Int)) wD b (↑k) k<|FeG 64 n wD b (↑k) k<|FcG 66 n (λj=>by(try simp only[bs]at j);exact@CQ a (b.getD k X) aa)<|Ffs 68 (Bg c (k:Int)&&b.getD k X != 0&&!decide (b.getD k X∈a))<|Fx 49 k Fz
theorem ZgV(hk:k<b.length)(g:II c b a k=Y):CP (Zn f146 2) (DF h a b c i k).st .ret (Tg.st ⟨tm 89 [(2,.pt 8002 0 0)],[(8002,.box 148 [nI 6,nI (Z3 h.C (a.getD i X+1+k)).1,uU (a.getD i X+1+k)])],64⟩):=by simp only[II,bs]at g;obtain⟨⟨l,m⟩,n⟩:=g;let j:=Bg c (k:Int)&&b.getD k X != 0;exact sF [] []<|FM 46 47 wD b k<|Fc 52 (@NA c ((k:Int)) aa)<|FeG 56 (Bg c (k:Int)) wD b (↑k) k<|FeG 64 j wD b (↑k) k<|FcG 66 j (λo=>by(try simp only[bs]at o);exact@CQ a (b.getD k X) aa)<|Fts 68 (Bg c (k:Int)&&b.getD k X != 0&&!decide (b.getD k X∈a))<|Fek 71 wD a (↑i) i<|Fv 73 (a.getD i X+1)<|Fv 75 (↑k)<|Fv 76 (a.getD i X+1+(k:Int))<|Fc 81 (@He h.C (a.getD i X+1+(k:Int)) oq oq) Fz
omit e hl d f hi in
theorem Zgb:CP (Zn f146 2) (DF h a b c i b.length).st (.ext 2) (Tg.st ⟨tm 89 [(1,.pt 8001 0 0),(2,.pt 8002 0 0),(3,Z2 a),(5,nI i)],[(8002,.box 148 [nI 0,nI 0,uU 0]),(8001,.box 28 h.cells)],64⟩):=by exact sF [] []<|FO 46 47 wD b Fz
end
section
variable(h:Heap)(a b:List Int)(c:Zv)(i:Nat)(e:0<=c.map/\c.map<=4294967295)(hl:a.length<=1048576)(d:b.length<=4096)(f:0<=a.getD i X/\a.getD i X<=8192)(hi:i<a.length)
include e hl d f hi
theorem ZaG(j:(Lc b.length).find? (II c b a)=La):CP (Zj f146 2) (DF h a b c i 0).st .nrm (Tg.st ⟨tm 89 [(1,.pt 8001 0 0),(2,.pt 8002 0 0),(3,Z2 a),(5,nI i)],[(8002,.box 148 [nI 0,nI 0,uU 0]),(8001,.box 28 h.cells)],64⟩):=by refine Bt (S:=λk=>(DF h a b c i k).st) b.length kr (λk g=>Z9b h a b c i k e hl d f hi g ?_) (Zgb h a b c i);have:=Li.1 j k (Lf.2 g);simpa using this
theorem ZcL(k:Nat)(o:(Lc b.length).find? (II c b a)=O k):CP (Zj f146 2) (Tg.st ⟨tm 89 [(1,.pt 8001 0 0),(2,.pt 8002 0 0),(3,Z2 a),(5,nI i),(6,.pt 488006 0 0),(8,Z2 b),(10,nI 0)],[(488006,.box 52 [nI c.K,nI c.length,u32 c.map]),(8002,.box 148 [nI 0,nI 0,uU 0]),(8001,.box 28 h.cells)],64⟩) .ret (Tg.st ⟨tm 89 [(2,.pt 8002 0 0)],[(8002,.box 148 [nI 6,nI (Z3 h.C (a.getD i X+1+k)).1,uU (a.getD i X+1+k)])],64⟩):=by obtain⟨l,g,n⟩:=Lj.1 o;have g:=Lf.1 g;refine G0 (S:=λk=>(DF h a b c i k).st) k kr (λm j=>Z9b h a b c i m e hl d f hi oq ?_) (ZgV h a b c i k e hl d f hi g l);have:=n m j;simpa using this
end
def Z2d(h:Heap) a:(BV h a).1.length<=4096:=by unfold BV;split;rename_i e;have po:=B4 (N6 e).2.2.1;have:=Z5V h.W (a+1) (Zt h a).1.length;omega;simp
def Hw(h:Heap)(a:List Int)(i:Nat):Option Nat:=(Lc (BV h (a.getD i X)).1.length).find? (II (Zt h (a.getD i X)).1 (BV h (a.getD i X)).1 a)
section
variable(h:Heap)(a:List Int)(i:Nat)(b:Zz h.W)(hl:a.length<=1048576)(hr:0<=a.getD i X/\a.getD i X<=8192)(hi:i<a.length)
include b hl hr hi
theorem Z6h(d:Hw h a i=La):CP (Zn f146 0) (DY h a i).st .nrm (DY h a (i+1)).st:=by have hm:=OM b (a.getD i X);have hf:(BV h (a.getD i X)).1.length<=4096:=Z2d h _;unfold Hw at d;let c:=a.getD i X;exact sF [] []<|FN 22 23 30 wD a i<|Fc 32 (@Na h c aa oq)<|Fek 39 wD a (↑i) i<|Fc 41 (@Z2M h c aa oq)<|Fu (@ZaG h a ((BV h c).1) ((Zt h c).1) i aa aa aa aa aa aa)<|Fx 25 i Fz
theorem Zg8(k:Nat)(d:Hw h a i=O k):CP (Zn f146 0) (DY h a i).st .ret (Tg.st ⟨tm 89 [(2,.pt 8002 0 0)],[(8002,.box 148 [nI 6,nI (Z3 h.C (a.getD i X+1+k)).1,uU (a.getD i X+1+k)])],60⟩):=by have hm:=OM b (a.getD i X);have hf:(BV h (a.getD i X)).1.length<=4096:=Z2d h _;unfold Hw at d;let c:=a.getD i X;exact sF [] []<|FN 22 23 30 wD a i<|Fc 32 (@Na h c aa oq)<|Fek 39 wD a (↑i) i<|Fc 41 (@Z2M h c aa oq)<|Fu (@ZcL h a ((BV h c).1) ((Zt h c).1) i aa aa aa aa aa k aa) Fz
end
def Zeu(h:Heap) a:CP (Zn f146 0) (DY h a a.length).st (.ext 0) (Tg.st ⟨tm 89 [(2,.pt 8002 0 0)],[(8002,.box 148 [nI 0,nI 0,uU 0])],60⟩):=by exact sF [] []<|FO 22 23 wD a Fz
def EI(h:Heap)(a:List Int):Cf:=
 match (Lc a.length).find? (λi=>(Hw h a i).isSome)with|none=>⟨0,0,0⟩|some i=>⟨6,(Z3 h.C (a.getD i X+1+((Hw h a i).getD 0:Nat))).1,a.getD i X+1+((Hw h a i).getD 0:Nat)⟩
section
variable(h:Heap)(a:List Int)(c:Zz h.W)(hl:a.length<=1048576)(b:∀x∈a,0<=x/\x<=8192)
include c hl b
theorem ZdK(e:(Lc a.length).find? (λi=>(Hw h a i).isSome)=La):CP (Zj f146 0) (DY h a 0).st .nrm (Tg.st ⟨tm 89 [(2,.pt 8002 0 0)],[(8002,.box 148 [nI 0,nI 0,uU 0])],60⟩):=by refine Bt (S:=λk=>(DY h a k).st) a.length kr (λk d=>Z6h h a k c hl (b _ (B7.2 ⟨k,d,rfl⟩)) d ?_) (Zeu h a);have:=Li.1 e k (Lf.2 d);simpa using this
theorem ZiA(i k:Nat)(j:(Lc a.length).find? (λi=>(Hw h a i).isSome)=O i)(e:Hw h a i=O k):CP (Zj f146 0) (Tg.st ⟨tm 89 [(1,.pt 8001 0 0),(2,.pt 8002 0 0),(3,Z2 a),(5,nI 0)],[(8002,.box 148 [nI 0,nI 0,uU 0]),(8001,.box 28 h.cells)],60⟩) .ret (Tg.st ⟨tm 89 [(2,.pt 8002 0 0)],[(8002,.box 148 [nI 6,nI (Z3 h.C (a.getD i X+1+k)).1,uU (a.getD i X+1+k)])],60⟩):=by obtain⟨h1,d,g⟩:=Lj.1 j;have d:=Lf.1 d;refine G0 (S:=λk=>(DY h a k).st) i kr (λm f=>Z6h h a m c hl (b _ (B7.2 ⟨m,by omega,rfl⟩)) oq ?_) (Zg8 h a i c hl (b _ (B7.2 ⟨i,d,rfl⟩)) d k e);have:=g m f;simpa using this
end
def Z0W(h:Heap)(hw:Zz h.W):GP 146 [h.av] Y (EI h (Zh h).1).av []:=by
 have hl:=Ic h;have hr:=RU h;cases hb:(Lc (Zh h).1.length).find? (λi=>(Hw h (Zh h).1 i).isSome)with
 |none =>
  have e:EI h (Zh h).1=⟨0,0,0⟩:=by simp only[EI,hb]
  rw[e];exact gF [] func146 []<|Fc 17 (@NT h aa)<|Fu (@ZdK h ((Zh h).1) aa oq aa aa) Fz
 |some i =>
  have a:=(Lj.1 hb).1;obtain⟨k,b⟩:=Option.isSome_iff_exists.1 a;have e:EI h (Zh h).1=⟨6,(Z3 h.C ((Zh h).1.getD i X+1+(k:Nat))).1,(Zh h).1.getD i X+1+(k:Nat)⟩:=by simp only[EI,hb,b,Option.getD_some]
  rw[e];exact gF [] func146 []<|Fc 17 (@NT h aa)<|Fu (@ZiA h ((Zh h).1) aa oq aa i k aa aa) Fz
def Zbk(h:Heap)(hw:Zz h.W)(hp:Z8 h=M):GP 89 [h.av] Y (Cf.mk 1 0 0).av []:=by exact gF [] func89 []<|Fc 9 (@Cy h)<|Ftb 10 (!Z8 h) Fz
def Dn(h:Heap)(i:Nat):Tg:=⟨tm 65 [(1,.pt 8001 0 0),(2,.pt 8002 0 0),(3,nI i)],[(8002,.box 148 [nI 0,nI 0,uU 0]),(8001,.box 28 h.cells)],60⟩
section
variable(h:Heap)(i:Nat)(hw:Zz h.W)(a:Z8 h=Y)
include hw a
theorem Z7H(hi:i<h.P.length)(hb:(pageF h i).fault=0):CP (Zn f89 0) (Dn h i).st .nrm (Dn h (i+1)).st:=by have po:=B4 a;exact sF [] []<|FM 15 16 Z0.dv h.P i<|Fc 21 (@Z5b h i aa aa aa)<|Ffb 24 ((pageF h i).fault != 0)<|Fx 18 i Fz
theorem Zlx(hi:i<h.P.length)(hb:(pageF h i).fault≠0):CP (Zn f89 0) (Dn h i).st .ret (Tg.st ⟨tm 65 [(2,.pt 8002 0 0)],[(8002,.box 148 [nI (pageF h i).fault,nI (pageF h i).page,uU (pageF h i).addr])],60⟩):=by have po:=B4 a;exact sF [] []<|FM 15 16 Z0.dv h.P i<|Fc 21 (@Z5b h i aa aa aa)<|Ftb 24 ((pageF h i).fault != 0) Fz
end
def ZjM(h:Heap)(a:Z8 h=Y):CP (Zn f89 0) (Dn h h.P.length).st (.ext 0) (Tg.st ⟨tm 65 [(1,.pt 8001 0 0),(2,.pt 8002 0 0)],[(8002,.box 148 [nI 0,nI 0,uU 0]),(8001,.box 28 h.cells)],60⟩):=by have po:=B4 a;exact sF [] []<|FO 15 16 Z0.dv h.P Fz
def Gz(h:Heap):Option Nat:=(Lc h.P.length).find? (λi=>L ((pageF h i).fault≠0))
section
variable(h:Heap)(b:Zz h.W)(a:Z8 h=Y)
include b a
theorem Z2g(d:Gz h=La):CP (Zj f89 0) (Dn h 0).st .nrm (Tg.st ⟨tm 65 [(1,.pt 8001 0 0),(2,.pt 8002 0 0)],[(8002,.box 148 [nI 0,nI 0,uU 0]),(8001,.box 28 h.cells)],60⟩):=by refine Bt (S:=λk=>(Dn h k).st) h.P.length kr (λk c=>Z7H h k b a c ?_) (ZjM h a);have:=Li.1 d k (Lf.2 c);simpa using this
theorem ZgQ(i:Nat)(g:Gz h=O i):CP (Zj f89 0) (Tg.st ⟨tm 65 [(1,.pt 8001 0 0),(2,.pt 8002 0 0),(3,nI 0)],[(8002,.box 148 [nI 0,nI 0,uU 0]),(8001,.box 28 h.cells)],60⟩) .ret (Tg.st ⟨tm 65 [(2,.pt 8002 0 0)],[(8002,.box 148 [nI (pageF h i).fault,nI (pageF h i).page,uU (pageF h i).addr])],60⟩):=by obtain⟨e,c,f⟩:=Lj.1 g;have c:=Lf.1 c;refine G0 (S:=λk=>(Dn h k).st) i kr (λm d=>Z7H h m b a oq ?_) (Zlx h i b a c (by simpa using e));have:=f m d;simpa using this
end
def ZhQ(h:Heap)(hw:Zz h.W)(hp:Z8 h=Y)(i:Nat)(hb:Gz h=O i):GP 89 [h.av] Y (pageF h i).av []:=by exact gF [] func89 []<|Fc 9 (@Cy h)<|Ffb 10 (!Z8 h)<|Fu (@ZgQ h aa aa i aa) Fz
def ZlD(h:Heap)(hw:Zz h.W)(hp:Z8 h=Y)(hb:Gz h=La)(hq:(EI h (Zh h).1).fault≠0):GP 89 [h.av] Y (EI h (Zh h).1).av []:=by exact gF [] func89 []<|Fc 9 (@Cy h)<|Ffb 10 (!Z8 h)<|Fu (@Z2g h aa aa aa)<|Fc 27 (@Z0W h aa)<|Ftb 30 ((EI h (Zh h).1).fault != 0) Fz
end Go.Proofs.YtgedmeaemofdkaaGreat
