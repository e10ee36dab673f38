/-
 The statement CollectKeeps: part 8.
 Conditions: none.
-/
import Derived.Test.YtgedmeaemofdkaaGreatX7
set_option maxRecDepth 100000
set_option maxHeartbeats 2000000
set_option linter.all false
open Inhabited renaming default->X
open Bool renaming true->Y,false->M,and_eq_true->Lg,eq_false_or_eq_true->Lm,eq_iff_iff->Ln
open List renaming map->Z,range->Lc,take->Ld,filter->Le,mem_range->Lf,find?_eq_none->Li,find?_range_eq_some->Lj,replicate->Lk,getElem?_map->Ll,append_nil->Lp,getD->Lq,map_congr_left->Lr,map_set->Ls,append_assoc->Lw,filter_append->Lx,filter_cons->Ly,filter_nil->Lz,length_filter_le->LA,map_append->LB,map_drop->LC,map_take->LD,take_length->LF
open Decidable renaming decide->L
open Option renaming some->O,none->La,map_eq_some_iff->Lt,map_some->LG
open Int renaming toNat->Lb,fdiv_eq_ediv_of_nonneg->Lo
open Go.IntKind renaming u64->Lh,i64->Lu,u32->Lv
open Go.Proofs.Tryz
namespace Go.Proofs.YtgedmeaemofdkaaGreat
open Go.Sx
def BH(h:Heap)(n k:Int):Heap×Int×Bool:=
 if 0<=first h.P k/\Cr h.P+k<=Ea h.C then(⟨h.C,h.W,(H5 h.C h.P (first h.P k) h.S n).1,h.S,h.B⟩,4096+first h.P k*h.C.pw,Y)else(B9,0,M)
def Z5u(h:Heap)(n k:Int)(q:Z9 h=Y)(hk:k=need h.C n)(l:1<=k):GP 167 [h.av,nI n,nI k] M (.tu [(BH h n k).1.av,uU (BH h n k).2.1,bL (BH h n k).2.2]) []:=by
 have r:=B6 q;obtain⟨g,o2,o3,o4,o5,o6,o7,o8,o9⟩:=r;have hr:=Z3B h.P k;have c:0<=first h.P k->first h.P k+k<=h.P.length:=λi=>(I8 i).2.1
 have j:=Z9c h.P;have m:=Z8J g;have p:=MB h.C n;have o:0<=first h.P k->0<=first h.P k*h.C.pw/\first h.P k*h.C.pw+h.C.pw<=4096:=λf=>Ii g f (by have:=c f;omega)
 by_cases a:0<=first h.P k/\Cr h.P+k<=Ea h.C
 have b:BH h n k=(⟨h.C,h.W,(H5 h.C h.P (first h.P k) h.S n).1,h.S,h.B⟩,4096+first h.P k*h.C.pw,Y):=by rw[BH,if_pos a]
 rw[show BH h n k=(Heap.mk h.C h.W (H5 h.C h.P (first h.P k) h.S n).1 h.S h.B,(4096:Int)+first h.P k*h.C.pw,Y)from by rw[b]];let d:=!decide (first h.P k<0);exact gF [] func167 []<|Fc 13 (@Mp h.P k oq)<|FcG 19 d (λa=>by(try simp only[bs]at a);exact@P8 h.P oq)<|FiG 21 d ((↑(Cr h.P):Int)+k)<|FcG 24 d (λa=>by(try simp only[bs]at a);exact@Tl h.C)<|Ffb 26 (L (first h.P k<0)||L (Ea h.C<(↑(Cr h.P):Int)+k))<|Fc 37 (@ZgL h.C h.P (first h.P k) h.S n oq)<|Fi 46 (first h.P k*h.C.pw)<|Fi 47 (4096+first h.P k*h.C.pw)<|Fv 48 (4096+first h.P k*h.C.pw) Fz;have b:BH h n k=(B9,0,M):=by rw[BH,if_neg a]
 rw[b];let e:=!decide (first h.P k<0);exact gF [] func167 []<|Fc 13 (@Mp h.P k oq)<|FcG 19 e (λa=>by(try simp only[bs]at a);exact@P8 h.P oq)<|FiG 21 e ((↑(Cr h.P):Int)+k)<|FcG 24 e (λa=>by(try simp only[bs]at a);exact@Tl h.C)<|Ftb 26 (L (first h.P k<0)||L (Ea h.C<(↑(Cr h.P):Int)+k))<|Fnl (Fnl Fz)
def Zhh{h:Heap}{n:Int}(g:Z9 h=Y)(hn:1<=n/\n<=256):0<=(Bm h n).2.1/\(Bm h n).2.1<=8192/\((Bm h n).2.2=Y->(Bm h n).1.W=h.W/\4096<=(Bm h n).2.1)/\((Bm h n).2.2=M->(Bm h n).1=B9):=by
 obtain⟨m,o2,o3,o4,o5,o6,o7,o8,q⟩:=B6 g;have hb:=(Iw.1 g).2.2.2.2.1;have i:=λp=>En g (j:=h.B.toNat) p;have a:=λc=>R5 (h:=h) q c;have d:0<=h.B->0<=h.B*h.C.pw/\h.B*h.C.pw+h.C.pw<=4096:=λb=>Ii m b oq;have f:0<=first h.P 1->0<=first h.P 1*h.C.pw/\first h.P 1*h.C.pw+h.C.pw<=4096:=λb=>Ii m b (by have:=a b;omega)
 unfold Bm;split;rename_i c;unfold N7 at c;have o:=d c.1;have k:=i oq;refine⟨by simp only;omega,by simp only;omega,λ_=>⟨rfl,by simp only;omega⟩,λe=>by cases e⟩;split;rename_i l;have o:=f l.1;have k:=congrArg Z0.U (a l.1).2.2.2;simp only at k;refine⟨by simp only;omega,by simp only;omega,λ_=>⟨rfl,by simp only;omega⟩,λe=>by cases e⟩;exact⟨by simp,by simp,(λe=>nomatch e),λ_=>rfl⟩
def Ze5{h:Heap}{n k}(b:Z9 h=Y):0<=(BH h n k).2.1/\(BH h n k).2.1<=8192/\((BH h n k).2.2=Y->(BH h n k).1.W=h.W/\4096<=(BH h n k).2.1)/\((BH h n k).2.2=M->(BH h n k).1=B9):=by obtain⟨d,o2,o3,o4,o5,o6,o7,o8,o9⟩:=B6 b;unfold BH;split;rename_i a;have h3:=(I8 a.1);have h1:=Ii (c:=h.C) (i:=first h.P k) d a.1 oq;exact⟨by simp only;omega,by simp only;omega,λ_=>⟨rfl,by simp only;omega⟩,λe=>by cases e⟩;exact⟨by simp,by simp,(λe=>nomatch e),λ_=>rfl⟩
def Cv(h:Heap)(a:Zz):Heap×Int×Bool:=if 0<need h.C (Z5 a)then BH h (Z5 a) (need h.C (Z5 a))else Bm h (Z5 a)
def B2(h:Heap)(a:Zz):Heap×Int×Int:=
 if Z9 h=Y/\G7 h.C a=Y then(if(Cv h a).2.2=Y then((BK (Cv h a).1 (Cv h a).2.1 a).1,(Cv h a).2.1,0)else(B9,0,3))else(B9,0,1)
def DT:Zx []:=λw h=>by simp at h
def Tk{c}{a:Zz}(h:G7 c a=Y):ZU a=Y/\1<=Z5 a/\Z5 a<=256/\0<=need c (Z5 a)/\a.K≠0:=by
 simp only[G7,Lg,decide_eq_true_eq]at h;have hv:=Gx.1 h.1.1;have hn:=MB c (Z5 a);have hs:Z5 a=a.length+1:=by rw[Z5,if_pos h.1.1]
 exact⟨h.1.1,by omega,by omega,by omega,h.1.2⟩
def Z8z(h:Heap)(a:Zz)(p:Zx h.W)(hm:0<=a.map/\a.map<=4294967295):GP 114 [h.av,a.av] M (.tu [(B2 h a).1.av,uU (B2 h a).2.1,nI (B2 h a).2.2]) []:=by
 by_cases f:Z9 h=Y;cases ha:G7 h.C a with
 |false =>
  have b:B2 h a=(B9,0,1):=by rw[B2,if_neg (by rw[ha];simp)]
  rw[b];exact gF [] func114 []<|Fc 13 (@CG h)<|FcG 19 (!!Z9 h) (λd=>by(try simp only[bs]at d);exact@Mo h.C a aa)<|Fts 21 (!Z9 h||!G7 h.C a)<|Fnl (Fnl Fz)
 |true =>
  obtain⟨a1,q,r,a4,a5⟩:=Tk ha;have l:=Zhh f ⟨q,r⟩;have m:=Ze5 (n:=Z5 a) (k:=need h.C (Z5 a)) f;have w1:Zx (Bm h (Z5 a)).1.W:=by
   cases e:(Bm h (Z5 a)).2.2 with|true=>rw[(l.2.2.1 e).1];exact p|false=>rw[l.2.2.2 e];exact DT
  have w2:Zx (BH h (Z5 a) (need h.C (Z5 a))).1.W:=by
   cases e:(BH h (Z5 a) (need h.C (Z5 a))).2.2 with|true=>rw[(m.2.2.1 e).1];exact p|false=>rw[m.2.2.2 e];exact DT
  by_cases o:0<need h.C (Z5 a);have b:Cv h a=BH h (Z5 a) (need h.C (Z5 a)):=by rw[Cv,if_pos o]
  have i {h_ c_ p_} (g:Fq h_ c_ p_):=Fc 13 (@CG h)<|FcG 19 (!!Z9 h) (λd=>by(try simp only[bs]at d);exact@Mo h.C a aa)<|Ffs 21 (!Z9 h||!G7 h.C a)<|Fc 24 (@Iu a aa)<|Fc 28 (@RI h.C (Z5 a))<|Fc 32 (@Z0T h (Z5 a) aa oq)<|Ftb 37 (L (0<need h.C (Z5 a)))<|Fc 42 (@Z5u h (Z5 a) (need h.C (Z5 a)) aa (by rfl) aa) g;rcases bb (!(BH h (Z5 a) (need h.C (Z5 a))).2.2)with hc0|hc0<;>have c:=hc0<;>simp only[bs]at c;exact gF [] func114 (fO 5) (i (Ft 47 hc0<|Fnl (Fnl (Fa (by simp[B2,b,B9, *]:0=(B2 h a).1.C.pw)<|Fa (by simp[B2,b,B9, *]:0=(B2 h a).1.C.pg)<|Fa (by simp[B2,b,B9, *]:[]=Z wD (B2 h a).1.W)<|Fa (by simp[B2,b,B9, *]:[]=Z Z0.dv (B2 h a).1.P)<|Fa (by simp[B2,b,B9, *]:0=(B2 h a).1.S)<|Fa (by simp[B2,b,B9, *]:0=(B2 h a).1.B)<|Fa (by simp[B2,b,B9, *]:0=(B2 h a).2.1)<|Fa (by simp[B2,b,B9, *]:3=(B2 h a).2.2) Fz))));rw[show B2 h a=((BK (BH h (Z5 a) (need h.C (Z5 a))).1 (BH h (Z5 a) (need h.C (Z5 a))).2.1 a).1,(BH h (Z5 a) (need h.C (Z5 a))).2.1,(0:Int))from by simp[B2,b,B9, *]];exact gF [] func114 [] (i (Ff 47 hc0<|Fc 53 (@Z99 ((BH h (Z5 a) (need h.C (Z5 a))).1) ((BH h (Z5 a) (need h.C (Z5 a))).2.1) a aa oq aa) Fz));have b:Cv h a=Bm h (Z5 a):=by rw[Cv,if_neg o]
  have j {h_ c_ p_} (g:Fq h_ c_ p_):=Fc 13 (@CG h)<|FcG 19 (!!Z9 h) (λd=>by(try simp only[bs]at d);exact@Mo h.C a aa)<|Ffs 21 (!Z9 h||!G7 h.C a)<|Fc 24 (@Iu a aa)<|Fc 28 (@RI h.C (Z5 a))<|Fc 32 (@Z0T h (Z5 a) aa oq)<|Ffb 37 (L (0<need h.C (Z5 a))) g;rcases bb (!(Bm h (Z5 a)).2.2)with hc0|hc0<;>have c:=hc0<;>simp only[bs]at c;exact gF [] func114 (fO 5) (j (Ft 47 hc0<|Fnl (Fnl (Fa (by simp[B2,b,B9, *]:0=(B2 h a).1.C.pw)<|Fa (by simp[B2,b,B9, *]:0=(B2 h a).1.C.pg)<|Fa (by simp[B2,b,B9, *]:[]=Z wD (B2 h a).1.W)<|Fa (by simp[B2,b,B9, *]:[]=Z Z0.dv (B2 h a).1.P)<|Fa (by simp[B2,b,B9, *]:0=(B2 h a).1.S)<|Fa (by simp[B2,b,B9, *]:0=(B2 h a).1.B)<|Fa (by simp[B2,b,B9, *]:0=(B2 h a).2.1)<|Fa (by simp[B2,b,B9, *]:3=(B2 h a).2.2) Fz))));rw[show B2 h a=((BK (Bm h (Z5 a)).1 (Bm h (Z5 a)).2.1 a).1,(Bm h (Z5 a)).2.1,(0:Int))from by simp[B2,b,B9, *]];exact gF [] func114 [] (j (Ff 47 hc0<|Fc 53 (@Z99 ((Bm h (Z5 a)).1) ((Bm h (Z5 a)).2.1) a aa oq aa) Fz))
 have s:Z9 h=M:=by simpa using f
 have b:B2 h a=(B9,0,1):=by rw[B2,if_neg (by rw[s];simp)]
 rw[b];exact gF [] func114 []<|Fc 13 (@CG h)<|FcG 19 (!!Z9 h) (λd=>by(try simp only[bs]at d);exact@Mo h.C a aa)<|Fts 21 (!Z9 h||!G7 h.C a)<|Fnl (Fnl Fz)
def A8(h:Zz)(hm:0<=h.map/\h.map<=4294967295):GP 120 [h.av] Y (bL (ZU h)) []:=by
 have hs:=λq=>Zak (n:=h.length) q;have ho:0<=h.length->h.length<=32->ones h.length=2^h.length.toNat-1:=λh0 h1=>by rw[ones,Nat.min_eq_left oq]
 rcases Lm (L (h.K<(0:Int))||L ((3:Int)<h.K)||L (h.length<(0:Int))||L ((255:Int)<h.length))with hc0|hc0;have a:=hc0;simp only[bs]at a;refine Zc [((20:Nat),[Hint.br Y])] [] [] dd func120 [M,M,M,M,M,M,M,M,M,Y] (φ:=(L (h.K<(0:Int))||L ((3:Int)<h.K)||L (h.length<(0:Int))||L ((255:Int)<h.length))=Y/\Y=Y/\M=ZU h) ?_ kr kr;exact⟨aa,rfl,(by(simp[ZU, *];omega))⟩;have a:=hc0;simp only[bs]at a;obtain⟨⟨⟨c,d⟩,e⟩,f⟩:=a;rcases Lm (h.K==(1:Int))with hc1|hc1;have b:=hc1;simp only[bs]at b;refine Zc [((20:Nat),[Hint.br M]),((23:Nat),[Hint.br Y]),((30:Nat),[Hint.int h.map]),((33:Nat),[Hint.call Y (uU (ones h.length)) []])] [] [] dd func120 [M,M,M,M,M,M,M,M,M,M,M,M,M,M,M,M,Y] (φ:=(L (h.K<(0:Int))||L ((3:Int)<h.K)||L (h.length<(0:Int))||L ((255:Int)<h.length))=M/\M=M/\(h.K==(1:Int))=Y/\Y=Y/\(L (h.length<=(32:Int))=Y->Lh.wrap h.map=h.map)/\(L (h.length<=(32:Int))=Y->GP 170 [nI h.length] Y (uU (ones h.length)) [])/\(L (h.length<=(32:Int))&&L (h.map<=ones h.length))=ZU h) ?_ kr kr;exact⟨aa,rfl,aa,rfl,(by intro g;(try simp only[bs]at g);exact Bs rfl oq oq),(λg=>by(try simp only[bs]at g);exact@S8 (h.length)),(by grind[ZU])⟩;have b:=hc1;simp only[bs]at b;refine Zc [((20:Nat),[Hint.br M]),((23:Nat),[Hint.br M])] [] [] dd func120 [M,M,M,M,M,M,M,M,M,Y] (φ:=(L (h.K<(0:Int))||L ((3:Int)<h.K)||L (h.length<(0:Int))||L ((255:Int)<h.length))=M/\M=M/\(h.K==(1:Int))=M/\M=M/\(h.K==h.K&&(h.length==h.length&&h.map==(0:Int)))=ZU h) ?_ kr kr;exact⟨aa,rfl,aa,rfl,(by grind[ZU])⟩
def EX(h:Zz)(hm:0<=h.map/\h.map<=4294967295):GP 69 [h.av] Y (nI (Z5 h)) []:=by rcases Lm (!ZU h)with hc0|hc0;have a:=hc0;simp only[bs]at a;refine Zc [((4:Nat),[Hint.call Y (bL (ZU h)) []]),((5:Nat),[Hint.br Y])] [] [] dd func69 [Y] (φ:=GP 120 [h.av] Y (bL (ZU h)) []/\(!ZU h)=Y/\Y=Y/\(0:Int)=Z5 h) ?_ kr kr;exact⟨(@A8 (h) aa),aa,rfl,(by simp[Z5, *])⟩;have a:=hc0;simp only[bs]at a;have e:=Gx.1 a;obtain⟨g,⟨f,⟨d,⟨b,c⟩⟩⟩⟩:=e;refine Zc [((4:Nat),[Hint.call Y (bL (ZU h)) []]),((5:Nat),[Hint.br M]),((8:Nat),[Hint.int (h.length+(1:Int))])] [] [] dd func69 [Y] (φ:=GP 120 [h.av] Y (bL (ZU h)) []/\(!ZU h)=M/\M=M/\Lu.wrap (h.length+(1:Int))=h.length+(1:Int)/\h.length+(1:Int)=Z5 h) ?_ kr kr;exact⟨(@A8 (h) aa),aa,rfl,(by exact Zf rfl oq oq),(by simp[Z5, *])⟩
def Py(ws:List Int)(a n:Int)(hw:ws.length<=1048576)(h0:0<=a/\a<=18446744073709551615):GP 169 [Z2 ws,uU a,nI n] Y (.tu [nI (Zt ws a n).1,bL (Zt ws a n).2]) []:=by have e {h_ c_ p_} (f:Fq h_ c_ p_):=FvG 13 (!decide (a<4096)) (a-4096)<|FlG 15 (!decide (a<4096)) wD ws<|FvG 16 (!decide (a<4096)) (↑ws.length) f;rcases bb (L (a<4096)||L ((ws.length:Int)<a-4096))with hc0|hc0<;>have b:=hc0<;>simp only[bs]at b;rw[show Zt ws a n=((0:Int),M)from by(simp[Zt, *];omega)];exact gF [] func169 [] (e (Ft 18 hc0 Fz));obtain⟨c,d⟩:=b;rw[show Zt ws a n=(a-(4096:Int),L (n<=(ws.length:Int)-(a-(4096:Int))))from by(simp[Zt, *];omega)];exact gF [] func169 [] (e (Ff 18 hc0<|Fv 20 (a-4096)<|Fi 21 (a-4096)<|Fl 25 wD ws<|Fi 27 ((ws.length:Int)-(a-4096)) Fz))
def ZaQ(ws:List Int)(a:Int)(hw:ws.length<=1048576)(h0:0<=a/\a<=18446744073709551615):GP 163 [Z2 ws,uU a] Y (.tu [nI (Cl ws a).1,nI (Cl ws a).2]) []:=by have c {h_ c_ p_} (d:Fq h_ c_ p_):=Fc 11 (@Py ws a (1) aa aa) d;rcases bb (!(Zt ws a 1).2)with hc0|hc0<;>have b:=hc0<;>simp only[bs]at b;rw[show Cl ws a=((0:Int),(2:Int))from by grind[Zt,Cl]];exact gF [] func163 [] (c (Ft 15 hc0 Fz));rw[show Cl ws a=((Zt ws a (1:Int)).1,(0:Int))from by grind[Zt,Cl]];exact gF [] func163 [] (c (Ff 15 hc0 Fz))
def Dx(ws:List Int)(a:Int)(hw:ws.length<=1048576)(h0:0<=a/\a<=18446744073709551615):GP 111 [Z2 ws,uU a] Y (.tu [uU (Z1 ws a).1,nI (Z1 ws a).2]) []:=by rcases bb ((Cl ws a).2 != 0)with hc0|hc0<;>have b:=hc0<;>simp only[bs]at b;have c:=Z6r b;obtain⟨g,h⟩:=c;rw[show Z1 ws a=((0:Int),(Cl ws a).2)from by simp[Z1, *]];exact gF [] func111 []<|Fc 11 (@ZaQ ws a aa aa)<|Ft 15 hc0 Fz;have d:=Z7O b;obtain⟨i,⟨e,f⟩⟩:=d;rw[show Z1 ws a=(ws.getD (Cl ws a).1.toNat X,(0:Int))from by simp[Z1, *]];refine Zc [((11:Nat),[Hint.call Y (AV.tu [nI (Cl ws a).1,nI (Cl ws a).2]) []]),((15:Nat),[Hint.br M]),((19:Nat),[Hint.el (wD (ws.getD (Cl ws a).1.toNat X))])] [] [] dd func111 [] (φ:=GP 163 [Z2 ws,uU a] Y (AV.tu [nI (Cl ws a).1,nI (Cl ws a).2]) []/\((Cl ws a).2 != (0:Int))=M/\M=M/\(0:Int)<=(Cl ws a).1/\(Z wD ws)[(Cl ws a).1.toNat]?=O (wD (ws.getD (Cl ws a).1.toNat X))) ?_ kr kr;exact⟨(@ZaQ (ws) (a) aa aa),aa,rfl,(by exact Zn oq oq oq)⟩
def BG(w:Int):Nat->Int|0=>w|1=>w/4|2=>w/16|3=>w/65536|_=>w/281474976710656
def ZV(w:Int):List Int:=[w%4,w/4%4,w/16%4096,w/65536%4294967296]
def O9(w:Int)(i:Nat):Tg:=⟨tm 49 [(0,uU w),(1,ZC [2,2,12,32]),(4,.d (.sl 0 [])),(5,nI 0),(6,nI ([64,62,60,48,16].getD i 0)),(12,ZC [2,2,12,32]),(13,nI 4),(14,nI i)],[],20⟩
def ZlH w(i:Nat)(hi:i<4):CP (Zm f201 0) (O9 w i).st .nrm (O9 w (i+1)).st:=by
 have h:i=0\/i=1\/i=2\/i=3:=by omega
 rcases h with rfl|rfl|rfl|rfl;refine Zg [((16:Nat),[Hint.el (iD (2:Int))])] [] [] [] (φ:=(0:Int)<=(↑(0:Nat):Int)/\(Z iD [(2:Int),(2:Int),(12:Int),(32:Int)])[(↑(0:Nat):Int).toNat]?=O (iD (2:Int))) ?_ kr kr kr;exact(by simp[*]);refine Zg [((16:Nat),[Hint.el (iD (2:Int))])] [] [] [] (φ:=(0:Int)<=(↑(1:Nat):Int)/\(Z iD [(2:Int),(2:Int),(12:Int),(32:Int)])[(↑(1:Nat):Int).toNat]?=O (iD (2:Int))) ?_ kr kr kr;exact(by simp[*]);refine Zg [((16:Nat),[Hint.el (iD (12:Int))])] [] [] [] (φ:=(0:Int)<=(↑(2:Nat):Int)/\(Z iD [(2:Int),(2:Int),(12:Int),(32:Int)])[(↑(2:Nat):Int).toNat]?=O (iD (12:Int))) ?_ kr kr kr;exact(by simp[*]);refine Zg [((16:Nat),[Hint.el (iD (32:Int))])] [] [] [] (φ:=(0:Int)<=(↑(3:Nat):Int)/\(Z iD [(2:Int),(2:Int),(12:Int),(32:Int)])[(↑(3:Nat):Int).toNat]?=O (iD (32:Int))) ?_ kr kr kr;exact(by simp[*])
def ZeP w:CP (Zm f201 0) (O9 w 4).st (.ext 0) (Tg.st ⟨tm 49 [(0,uU w),(1,ZC [2,2,12,32]),(4,.d (.sl 0 [])),(5,nI 0)],[],60⟩):=by exact sF [] [] Fz
def Z68(w:Int)  := Bp (S:=λi=>(O9 w i).st) 4 (by kernel_rfl) (λi a=>ZlH w i a) (ZeP w)
def Z16(w:Int)(i:Nat):Tg:=⟨tm 49 [(0,uU (BG w i)),(4,.d (.sl 0 [])),(5,nI 0),(9,.ow 480009),(29,ZC [2,2,12,32]),(30,nI 4),(31,nI i)],[(480009,.arr 35 1 (((ZV w).take i).map wD))],60⟩
def ZbA(w:Int)(i:Nat)(h0:0<=w)(h1:w<=18446744073709551615)(hi:i<4):CP (Zm f201 2) (Z16 w i).st .nrm (Z16 w (i+1)).st:=by
 have o1:ones 2=3:=by decide
 have o2:ones 12=4095:=by decide
 have o3:ones 32=4294967295:=by decide
 have a0:bits .and .u64 w (ones 2)=w%4:=by rw[o1];exact NU 2 dd dd oq oq
 have a1:bits .and .u64 (w/4) (ones 2)=w/4%4:=by rw[o1];exact NU 2 dd dd oq oq
 have a2:bits .and .u64 (w/16) (ones 12)=w/16%4096:=by rw[o2];exact NU 12 dd dd oq oq
 have a3:bits .and .u64 (w/65536) (ones 32)=w/65536%4294967296:=by rw[o3];exact NU 32 dd dd oq oq
 have f1:(w/4).fdiv 4=w/16:=by rw[Lo _ dd];omega
 have f2:(w/16).fdiv 4096=w/65536:=by rw[Lo _ dd];omega
 have f3:(w/65536).fdiv 4294967296=w/281474976710656:=by rw[Lo _ dd];omega
 have h:i=0\/i=1\/i=2\/i=3:=by omega
 rcases h with rfl|rfl|rfl|rfl;exact sF [(496041,480009)] []<|Fh 33 [.el (iD 2)]<|Fa (by simp[BG,ZV, *]:0<=(↑(0:Nat):Int)/\(Z iD [2,2,12,32])[(↑(0:Nat):Int).toNat]?=O (iD 2))<|Fc 38 (@S8 (2))<|Fg 39 (by assumption:bits BinOp.and Lh (BG w 0) (ones (2:Int))=BG w 0%4)<|Fs 40 (Z wD [BG w 0%4])<|Fa (by simp[BG,ZV, *]:(Z wD (Ld 0 (ZV w))).length+(Z wD [BG w 0%4]).length<=2^30)<|Fs 41 (Z wD [BG w 0%4])<|Fg 44 (HI rfl dd:(BG w 0).fdiv (2^min (Lb 2) 64)=BG w 0/4)<|Fo ((0:Int)<=2) Fz;exact sF [(496041,480009)] [Y]<|Fh 33 [.el (iD 2)]<|Fa (by simp[BG,ZV, *]:0<=(↑(1:Nat):Int)/\(Z iD [2,2,12,32])[(↑(1:Nat):Int).toNat]?=O (iD 2))<|Fc 38 (@S8 (2))<|Fg 39 (by assumption:bits BinOp.and Lh (BG w 1) (ones (2:Int))=BG w 1%4)<|Fs 40 (Z wD [BG w 1%4])<|Fa (by simp[BG,ZV, *]:(Z wD (Ld 1 (ZV w))).length+(Z wD [BG w 1%4]).length<=2^30)<|Fs 41 (Z wD [w%4,BG w 1%4])<|Fg 44 (HI rfl dd:(BG w 1).fdiv (2^min (Lb 2) 64)=BG w 1/4)<|Fo ((0:Int)<=2)<|Fa (by(simp[BG,ZV, *];omega):BG w 1/4=BG w (1+1)) Fz;exact sF [(496041,480009)] [Y]<|Fh 33 [.el (iD 12)]<|Fa (by simp[BG,ZV, *]:0<=(↑(2:Nat):Int)/\(Z iD [2,2,12,32])[(↑(2:Nat):Int).toNat]?=O (iD 12))<|Fc 38 (@S8 (12))<|Fg 39 (by assumption:bits BinOp.and Lh (BG w 2) (ones (12:Int))=BG w 2%4096)<|Fs 40 (Z wD [BG w 2%4096])<|Fa (by simp[BG,ZV, *]:(Z wD (Ld 2 (ZV w))).length+(Z wD [BG w 2%4096]).length<=2^30)<|Fs 41 (Z wD [w%4,w/4%4,BG w 2%4096])<|Fg 44 (HI rfl dd:(BG w 2).fdiv (2^min (Lb 12) 64)=BG w 2/4096)<|Fo ((0:Int)<=12)<|Fa (by(simp[BG,ZV, *];omega):BG w 2/4096=BG w (2+1)) Fz;exact sF [(496041,480009)] [Y]<|Fh 33 [.el (iD 32)]<|Fa (by simp[BG,ZV, *]:0<=(↑(3:Nat):Int)/\(Z iD [2,2,12,32])[(↑(3:Nat):Int).toNat]?=O (iD 32))<|Fc 38 (@S8 (32))<|Fg 39 (by assumption:bits BinOp.and Lh (BG w 3) (ones (32:Int))=BG w 3%4294967296)<|Fs 40 (Z wD [BG w 3%4294967296])<|Fa (by simp[BG,ZV, *]:(Z wD (Ld 3 (ZV w))).length+(Z wD [BG w 3%4294967296]).length<=2^30)<|Fs 41 (Z wD [w%4,w/4%4,w/16%4096,BG w 3%4294967296])<|Fg 44 (HI rfl dd:(BG w 3).fdiv (2^min (Lb 32) 64)=BG w 3/4294967296)<|Fo ((0:Int)<=32)<|Fa (by(simp[BG,ZV, *];omega):BG w 3/4294967296=BG w (3+1)) Fz
def Zio w:CP (Zm f201 2) (Z16 w 4).st (.ext 2) (Tg.st ⟨tm 49 [(0,uU (w/281474976710656)),(4,.d (.sl 0 [])),(5,nI 0),(9,.ow 480009)],[(480009,.arr 35 1 ((ZV w).map wD))],60⟩):=by exact sF [] [] Fz
def Za9(w:Int)(a:0<=w)(b:w<=18446744073709551615)  := Bp (S:=λi=>(Z16 w i).st) 4 (by kernel_rfl) (λi c=>ZbA w i a b c) (Zio w)
def Z26(w:Int)(h0:0<=w)(h1:w<=18446744073709551615)(h:w<281474976710656):GP 201 [uU w,ZC [2,2,12,32]] Y (.tu [Z2 (ZV w),nI 0]) []:=by exact gF [] func201 []<|Fh 9 [.own]<|Fu (@Z68 w)<|Fu (@Za9 w aa aa)<|Ffb 47 (w/(281474976710656:Int) != 0)<|Fa (Hd _:Ce (Z wD (ZV w))) Fz
def ZbI(w:Int)(h0:0<=w)(h1:w<=18446744073709551615)(h:¬ w<281474976710656):GP 201 [uU w,ZC [2,2,12,32]] Y (.tu [Z2 [],nI 2]) []:=by exact gF [] func201 []<|Fh 9 [.own]<|Fu (@Z68 w)<|Fu (@Za9 w aa aa)<|Ftb 47 (w/(281474976710656:Int) != 0)<|Fnl Fz
def Zdj(w:Int)(h0:0<=w):Z8 w=if w<281474976710656/\w%4=1/\ZU (G0 w)=Y then(G0 w,Y)else(Ec,M):=by
 have k1:(G0 w).K=w/4%4:=rfl;have k2:(G0 w).length=w/16%4096:=rfl;have k3:(G0 w).map=w/65536%4294967296:=rfl;by_cases hv:ZU (G0 w)=Y;have e:Zy (G0 w)=(1+4*(G0 w).K+16*(G0 w).length+65536*(G0 w).map,0):=by rw[Zy,if_pos hv]
 by_cases hc:w<281474976710656/\w%4=1;rw[Z8,e,if_pos ⟨rfl,by simp only;omega⟩,if_pos ⟨hc.1,hc.2,hv⟩];rw[Z8,e,if_neg (by simp only;omega),if_neg (λq=>hc ⟨q.1,q.2.1⟩)];have e:Zy (G0 w)=(0,1):=by rw[Zy,if_neg hv]
 rw[Z8,e,if_neg pq,if_neg (λq=>hv q.2.2)]
def Hm(w:Int)(h0:0<=w)(h1:w<=18446744073709551615):GP 161 [uU w] Y (.tu [(Z8 w).1.av,bL (Z8 w).2]) []:=by have hm:=Z1k w h0;rw[Zdj w h0];have u0:(ZV w).getD 0 X=w%4:=rfl;have u1:(ZV w).getD 1 X=w/4%4:=rfl;have u2:(ZV w).getD 2 X=w/16%4096:=rfl;have u3:(ZV w).getD 3 X=w/65536%4294967296:=rfl;have uL:(ZV w).length=4:=rfl;have k1:(G0 w).K=w/4%4:=rfl;have k2:(G0 w).length=w/16%4096:=rfl;have k3:(G0 w).map=w/65536%4294967296:=rfl;by_cases ha:w<281474976710656;by_cases hb:w%4=1;by_cases hv:ZU (G0 w)=Y;rw[if_pos ⟨ha,hb,hv⟩];have hv2:ZU ⟨w/4%4,w/16%4096,w/65536%4294967296⟩=Y:=hv;exact gF [] func161 []<|Fh 17 [.el (wD ((ZV w).getD 0 X))]<|Fh 23 [.el (wD ((ZV w).getD 1 X))]<|Fh 27 [.el (wD ((ZV w).getD 2 X))]<|Fh 31 [.el (wD ((ZV w).getD 3 X))]<|Fs 9 (Z iD [2,2,12,32])<|Fc 10 (@Z26 w aa aa aa)<|Fa (by intro hg;(try simp only[bs]at hg);exact Zn oq oq oq:(!(0:Int) != 0)=Y->(0:Int)<=0/\(Z wD (ZV w))[Lb 0]?=O (wD ((ZV w).getD 0 X)))<|Ffb 20 ((ZV w).getD 0 X != 1)<|Fa (Zn oq oq oq:(0:Int)<=1/\(Z wD (ZV w))[Lb 1]?=O (wD ((ZV w).getD 1 X)))<|Fi 25 ((ZV w).getD 1 X)<|Fa (Zn oq oq oq:(0:Int)<=2/\(Z wD (ZV w))[Lb 2]?=O (wD ((ZV w).getD 2 X)))<|Fi 29 ((ZV w).getD 2 X)<|Fa (Zn oq oq oq:(0:Int)<=3/\(Z wD (ZV w))[Lb 3]?=O (wD ((ZV w).getD 3 X)))<|Fg 33 (Z0q oq oq:Lv.wrap ((ZV w).getD 3 X)=(ZV w).getD 3 X)<|Fc 36 (@A8 (Zz.mk ((ZV w).getD 1 X) ((ZV w).getD 2 X) ((ZV w).getD 3 X)) aa)<|Ffs 37 (!ZU (Zz.mk ((ZV w).getD 1 X) ((ZV w).getD 2 X) ((ZV w).getD 3 X))) Fz;rw[if_neg (by simp[hv])];have hv':ZU ⟨w/4%4,w/16%4096,w/65536%4294967296⟩=M:=eq_false_of_ne_true hv;exact gF [] func161 []<|Fh 17 [.el (wD ((ZV w).getD 0 X))]<|Fh 23 [.el (wD ((ZV w).getD 1 X))]<|Fh 27 [.el (wD ((ZV w).getD 2 X))]<|Fh 31 [.el (wD ((ZV w).getD 3 X))]<|Fs 9 (Z iD [2,2,12,32])<|Fc 10 (@Z26 w aa aa aa)<|Fa (by intro hg;(try simp only[bs]at hg);exact Zn oq oq oq:(!(0:Int) != 0)=Y->(0:Int)<=0/\(Z wD (ZV w))[Lb 0]?=O (wD ((ZV w).getD 0 X)))<|Ffb 20 ((ZV w).getD 0 X != 1)<|Fa (Zn oq oq oq:(0:Int)<=1/\(Z wD (ZV w))[Lb 1]?=O (wD ((ZV w).getD 1 X)))<|Fi 25 ((ZV w).getD 1 X)<|Fa (Zn oq oq oq:(0:Int)<=2/\(Z wD (ZV w))[Lb 2]?=O (wD ((ZV w).getD 2 X)))<|Fi 29 ((ZV w).getD 2 X)<|Fa (Zn oq oq oq:(0:Int)<=3/\(Z wD (ZV w))[Lb 3]?=O (wD ((ZV w).getD 3 X)))<|Fg 33 (Z0q oq oq:Lv.wrap ((ZV w).getD 3 X)=(ZV w).getD 3 X)<|Fc 36 (@A8 (Zz.mk ((ZV w).getD 1 X) ((ZV w).getD 2 X) ((ZV w).getD 3 X)) aa)<|Fts 37 (!ZU (Zz.mk ((ZV w).getD 1 X) ((ZV w).getD 2 X) ((ZV w).getD 3 X))) Fz;rw[if_neg (by simp[hb])];exact gF [] func161 []<|Fh 17 [.el (wD ((ZV w).getD 0 X))]<|Fs 9 (Z iD [2,2,12,32])<|Fc 10 (@Z26 w aa aa aa)<|Fa (by intro hg;(try simp only[bs]at hg);exact Zn oq oq oq:(!(0:Int) != 0)=Y->(0:Int)<=0/\(Z wD (ZV w))[Lb 0]?=O (wD ((ZV w).getD 0 X)))<|Ftb 20 ((ZV w).getD 0 X != 1) Fz;rw[if_neg (by simp[ha])];exact gF [] func161 []<|Fh 17 [.el (wD ([].getD 0 X))]<|Fs 9 (Z iD [2,2,12,32])<|Fc 10 (@ZbI w aa aa aa)<|Fa (by intro hg;(try simp only[bs]at hg);exact Zn oq oq oq:(!(2:Int) != 0)=Y->(0:Int)<=0/\(Z wD [])[Lb 0]?=O (wD ([].getD 0 X))) Fz
end Go.Proofs.YtgedmeaemofdkaaGreat
namespace Go.Sx
def PZ(H:Heap)(x:AV):Option AV:=match x with|.d x=>O (.d x)|.rp e o=>O (.rp e o)|.ow b=>(match Nat.ble 8000 b with|true=>(match H b with|O (.arr _ s els)=>O (.d (.sl s els))|_=>La)|false=>La)|.os b o n=>(match Nat.ble 8000 b with|true=>(match H b with|O (.arr _ s els)=>O (.d (.sl s ((els.drop o).take n)))|_=>La)|false=>La)|_=>La
def ZfN{P f}{e0 e1:List DV}{t0 t1:Nat}{x:Value}(hx:x.oneCell'=Y)(h:GSpec P f [.rp e0 0,.rp e1 0] Y (.d (.sc x)) []) :LentSpec P f [.pt 0 0 0,.pt 1 0 0] [.box t0 (e0.map .d),.box t1 (e1.map .d)] (.d (.sc x)) [.box t0 (e0.map .d),.box t1 (e1.map .d)]:=by
 intro w Im ρ vs a0 a2 hρ a1 c z u;have box:∀(k:Nat) (e:List DV) (t:Nat) (v:Value) (p:Nat->Prop),(∀g,Im g->p g)->(∀β g,ρ k=O β->β.g=O g->p g)->(∃β,ρ k=O β/\RelB ρ w Im β (.box t (e.map .d)))->Zj ρ w Im (.pt k 0 0) v->Zj (λ_=>La) w p (.rp e 0) v:=by
  intro k e t v p hi m hb hv;obtain⟨β,hβ,r⟩:=hb;obtain⟨g,s,n,k1,rfl⟩:=Sp hv rfl;rw[hβ]at k1;cases k1;obtain⟨r1,r2,g2,cs,r3,r4,r5,r6,r7⟩:=r;cases r3;have:=@Zj.rp (λ_=>La) w p e 0 ⟨g,0,La⟩ rfl (m _ _ hβ rfl) (λj y hy=>by
   have hj:j<e.length:=(List.getElem?_eq_some_iff.1 hy).1;have hc:j<cs.size:=by rw[r5];simpa using hj
   have a:cs[j]?=O cs[j]:=Array.getElem?_eq_getElem hc;have l:=r7 j (.d y) cs[j] (by simp[hy]) a;refine⟨cs[j], ?_, ?_⟩;simp only[World.cell?,r4];simpa using a;cases l with
   |d l=>exact l.mono (Ext.refl _ _) hi)
  simpa using this
 refine(h w (λg=>Im g\/∃k β,ρ k=O β/\β.g=O g) vs ?_ a2 ?_).mono ?_;rintro g (m|⟨k,β,a,l⟩);exact a0 g m;exact(c k β g a l).1;intro i y v hy hv;cases i with
 |zero =>simp at hy;subst hy;exact box 0 e0 t0 v _ (λg m=>.inl m) (λβ g a l=>.inr ⟨0,β,a,l⟩) (z 0 _ rfl) (u 0 _ v rfl hv)
 |succ i=>cases i with
  |zero =>
   simp at hy;subst hy;exact box 1 e1 t1 v _ (λg m=>.inl m) (λβ g a l=>.inr ⟨1,β,a,l⟩) (z 1 _ rfl) (u 1 _ v rfl hv)
  |succ i=>simp at hy
 rintro e w' ⟨v,rfl,o,ρ',a3,_,_,_,_,_,_,hr⟩;have hv:=C3 hr;subst hv;have ext:Ext Im w w':=⟨o.size,λg m=>o.block g (a0 g m) (λq=>q),o.rows⟩;refine⟨_,rfl,⟨o.os,o.tape,o.output,o.size,λk a _=>o.block k a (λq=>q),o.rows⟩,ρ,Im,λ_ _ h=>h,hρ,λg m=>.inl m,λg m=>Nat.lt_of_lt_of_le (a0 g m) o.size,
  λk β g a l=>⟨Nat.lt_of_lt_of_le (c k β g a l).1 o.size,.inr ⟨k,β,a,l⟩⟩,λk β g _ a l=>(c k β g a l).2,λk k' β β' g _ _=>a1 k k' β β' g, ?_,.d (.sc _ hx)⟩
 intro k B hB;obtain⟨β,b1,b2⟩:=z k B hB;exact⟨β,b1,b2.mono ext (λ_ h=>h) (λ_ _ h=>h) (λb β g a l=>(c b β g a l).1) (λg m=>o.block g (c k β g b1 m).1 (λq=>q))⟩
def Z35{P}{f s:Nat}{fr res news}(h:∀(p:Option Addr) (c:Nat),GSpec P f [.d (.sc (.slice p 0 c))] fr res news):GSpec P f [.d (.sl s [])] fr res news:=by
 intro w m g r a y;have h0:g.size=1:=a;obtain⟨v,q⟩:∃v,g[0]?=O v:=⟨g[0]' oq,by simp⟩;have b:∀(p:Option Addr) (c:Nat),v=.slice p 0 c->Calls P f g w λe z=>∃v,e=.returned v/\RG w m fr res news v z:=λp c e=>by
  refine h p c w m g r a λi x u k o=>?_;match i with|0 =>simp only[List.getElem?_cons_zero,Option.some.injEq]at k;rw[q]at o;cases o;subst k;subst e;exact .d (.sc _ rfl)|i+1=>simp at k
 have j:=y 0 _ v rfl q;cases j with
 |d j =>
  generalize t:([]:List (List DV))=l at j;cases j with|slNil s p c=>exact b p c rfl|sl s els p n c fn a=>subst t;simp at a;subst a;exact b _ c rfl
end Go.Sx
namespace Go.Proofs.YtgedmeaemofdkaaGreat
open Go.Sx
def Heap.dvs(h:Heap):List DV:=[.sc (.int .i64 h.C.pw),.sc (.int .i64 h.C.pg),.sl 1 (h.W.map wD),.sl 4 (h.P.map Z0.dv),.sc (.int .i64 h.S),.sc (.int .i64 h.B)]
def Zft(h:Heap)(a:Int)(hl:h.W.length<=1048576)(h0:0<=a/\a<=18446744073709551615):GP 160 [.rp [.sc (.int .i64 h.C.pw),.sc (.int .i64 h.C.pg),.sl 1 (h.W.map wD),.sl 4 (h.P.map Z0.dv),.sc (.int .i64 h.S),.sc (.int .i64 h.B)] 0,.rp [.sc (.int .u64 a)] 0] Y (uU (Z1 h.W a).1) []:=by exact gF [] func160 []<|Fc 9 (@Dx h.W a aa aa) Fz
def Nb(h:Heap)(a:Int)(hl:h.W.length<=1048576)(b:0<=a/\a<=18446744073709551615):LP 160 [.pt 0 0 0,.pt 1 0 0] [.box 28 h.cells,.box 35 [uU a]] (uU (Z1 h.W a).1) [.box 28 h.cells,.box 35 [uU a]]:=
 ZfN (e0:=h.dvs) (e1:=[.sc (.int .u64 a)]) rfl (Zft h a hl b)
def IT(h:Heap)(a:Int)(hw:Zx h.W)(h0:0<=a/\a<=18446744073709551615):GP 109 [h.av,uU a] Y (.tu [(Z6 h a).1.av,nI (Z6 h a).2]) []:=by
 have r:=EP hw a;have hm:=Nk (Z1 h.W a).1 r.1;by_cases l:Z9 h=Y;have x:=B6 l;by_cases i:(Z4 h.C a).2.2=0;have oo:=H4 x.1 i;have hz:(Z8 (Z1 h.W a).1).2=Y->Z5 (Z8 (Z1 h.W a).1).1=(Z8 (Z1 h.W a).1).1.length+1/\0<=(Z8 (Z1 h.W a).1).1.length/\(Z8 (Z1 h.W a).1).1.length<=255:=λe=>by(have r:=Z3A e;have:=Gx.1 r;rw[Z5,if_pos r];omega)
 have pp:=En l (j:=(Z4 h.C a).1.toNat) oq;by_cases c3:((h.P.getD (Z4 h.C a).1.toNat X).K=1\/(h.P.getD (Z4 h.C a).1.toNat X).K=2)/\(Z4 h.C a).2.1<(h.P.getD (Z4 h.C a).1.toNat X).U/\(Z8 (Z1 h.W a).1).2=Y;have a1:=hz c3.2.2;by_cases c4:((h.P.getD (Z4 h.C a).1.toNat X).K=1/\(h.P.getD (Z4 h.C a).1.toNat X).U<(Z4 h.C a).2.1+Z5 (Z8 (Z1 h.W a).1).1)\/((h.P.getD (Z4 h.C a).1.toNat X).K=2/\((Z4 h.C a).2.1≠0\/Z5 (Z8 (Z1 h.W a).1).1≠(h.P.getD (Z4 h.C a).1.toNat X).U));have g:Z6 h a=(Ec,19):=by rw[Z6,if_pos l,if_pos i,if_pos c3,if_pos c4]
 rw[g];have s {h_ c_ p_} (m:Fq h_ c_ p_):=Fc 15 (@Eg h)<|Ffb 16 (!Z9 h)<|Fc 22 (@Gu h.C a oq oq)<|Ffb 27 ((Z4 h.C a).2.2 != 0)<|Fe 34 Z0.dv h.P ((Z4 h.C a).1)<|Fbq 38 [8002,8003] (@Nb h a oq aa)<|Fc 39 (@Hm ((Z1 h.W a).1) oq oq)<|Fc 43 (@EX ((Z8 (Z1 h.W a).1).1) aa) m;rcases bb (!(Z8 (Z1 h.W a).1).2||L ((h.P.getD (Z4 h.C a).1.toNat X).U<=(Z4 h.C a).2.1))with hc0|hc0<;>have b:=hc0<;>simp only[bs]at b;exact gF [] func109 []<|Fh 44 [.br Y] (s (Fa hc0 Fz));obtain⟨d,f⟩:=b;rcases bb ((h.P.getD (Z4 h.C a).1.toNat X).K==1)with hc1|hc1<;>have c:=hc1<;>simp only[bs]at c;let y:=h.P.getD (Z4 h.C a).1.toNat X;exact gF [] func109 []<|Fh 44 [.br M]<|Fh 76 [.br Y] (s (Fa hc0<|Fa hc1<|Fi 61 (y.U-(Z4 h.C a).2.1)<|Ftb 53 (!decide (Z5 (Z8 (Z1 h.W a).1).1<=y.U-(Z4 h.C a).2.1)) Fz));let z:=h.P.getD (Z4 h.C a).1.toNat X;exact gF [] func109 []<|Fh 44 [.br M]<|Fh 53 [.br M]<|Fh 76 [.br Y] (s (Fa hc0<|Fa hc1<|Fb ((z.K==2)=Y)<|Ftb 63 (!((Z4 h.C a).2.1==0&&Z5 (Z8 (Z1 h.W a).1).1==z.U)) Fz));have g:Z6 h a=((Z8 (Z1 h.W a).1).1,0):=by rw[Z6,if_pos l,if_pos i,if_pos c3,if_neg c4]
 rw[g];have t {h_ c_ p_} (m:Fq h_ c_ p_):=Fc 15 (@Eg h)<|Ffb 16 (!Z9 h)<|Fc 22 (@Gu h.C a oq oq)<|Ffb 27 ((Z4 h.C a).2.2 != 0)<|Fe 34 Z0.dv h.P ((Z4 h.C a).1)<|Fbq 38 [8002,8003] (@Nb h a oq aa)<|Fc 39 (@Hm ((Z1 h.W a).1) oq oq)<|Fc 43 (@EX ((Z8 (Z1 h.W a).1).1) aa) m;rcases bb (!(Z8 (Z1 h.W a).1).2||L ((h.P.getD (Z4 h.C a).1.toNat X).U<=(Z4 h.C a).2.1))with hc0|hc0<;>have b:=hc0<;>simp only[bs]at b;exact gF [] func109 (fO 4)<|Fh 44 [.br Y] (t (Fa hc0<|Fa (by grind[Ec]:0=(Z8 (Z1 h.W a).1).1.K)<|Fa (by grind[Ec]:0=(Z8 (Z1 h.W a).1).1.length)<|Fa (by grind[Ec]:0=(Z8 (Z1 h.W a).1).1.map)<|Fa (by grind[Ec]:(19:Int)=0) Fz));obtain⟨d,f⟩:=b;rcases bb ((h.P.getD (Z4 h.C a).1.toNat X).K==1)with hc1|hc1<;>have c:=hc1<;>simp only[bs]at c;let y2:=h.P.getD (Z4 h.C a).1.toNat X;exact gF [] func109 []<|Fh 53 [.br Y]<|Fh 76 [.br M] (t (Fa hc0<|Fa hc1<|Fi 61 (y2.U-(Z4 h.C a).2.1)<|Ffb 44 (!decide (Z5 (Z8 (Z1 h.W a).1).1<=y2.U-(Z4 h.C a).2.1)) Fz));let y3:=h.P.getD (Z4 h.C a).1.toNat X;exact gF [] func109 []<|Fh 53 [.br M]<|Fh 63 [.br Y]<|Fh 76 [.br M] (t (Fa hc0<|Fa hc1<|Fb ((y3.K==2)=Y)<|Ffb 44 (!((Z4 h.C a).2.1==0&&Z5 (Z8 (Z1 h.W a).1).1==y3.U)) Fz));have g:Z6 h a=(Ec,19):=by rw[Z6,if_pos l,if_pos i,if_neg c3]
 rw[g];have n {h_ c_ p_} (m:Fq h_ c_ p_):=Fc 15 (@Eg h)<|Ffb 16 (!Z9 h)<|Fc 22 (@Gu h.C a oq oq)<|Ffb 27 ((Z4 h.C a).2.2 != 0)<|Fe 34 Z0.dv h.P ((Z4 h.C a).1)<|Fbq 38 [8002,8003] (@Nb h a oq aa)<|Fc 39 (@Hm ((Z1 h.W a).1) oq oq)<|Fc 43 (@EX ((Z8 (Z1 h.W a).1).1) aa) m;rcases bb (!(Z8 (Z1 h.W a).1).2||L ((h.P.getD (Z4 h.C a).1.toNat X).U<=(Z4 h.C a).2.1))with hc0|hc0<;>have b:=hc0<;>simp only[bs]at b;exact gF [] func109 []<|Fh 44 [.br Y] (n (Fa hc0 Fz));obtain⟨d,f⟩:=b;rcases bb ((h.P.getD (Z4 h.C a).1.toNat X).K==1)with hc1|hc1<;>have c:=hc1<;>simp only[bs]at c;have w {h_ c_ p_} (m:Fq h_ c_ p_):=n<|Fa hc0<|Fa hc1<|Fi 61 ((h.P.getD (Z4 h.C a).1.toNat X).U-(Z4 h.C a).2.1) m;rcases bb (!decide (Z5 (Z8 (Z1 h.W a).1).1<=(h.P.getD (Z4 h.C a).1.toNat X).U-(Z4 h.C a).2.1))with hc2|hc2<;>have o:=hc2<;>simp only[bs]at o;exact gF [] func109 []<|Fh 44 [.br M]<|Fh 76 [.br Y] (w (Ft 53 hc2 Fz));rw[show Ec=(Z8 (Z1 h.W a).1).1 from by grind[Ec]];exact gF [] func109 (fO 4)<|Fh 53 [.br Y]<|Fh 76 [.br M] (w (Ff 44 hc2<|Fr ((Z8 (Z1 h.W a).1).1.K)<|Fr ((Z8 (Z1 h.W a).1).1.length)<|Fr ((Z8 (Z1 h.W a).1).1.map)<|Fa (by grind[Ec]:(0:Int)=19) Fz));rcases bb ((h.P.getD (Z4 h.C a).1.toNat X).K==2)with hc3|hc3<;>have p:=hc3<;>simp only[bs]at p;rcases bb (!((Z4 h.C a).2.1==0&&Z5 (Z8 (Z1 h.W a).1).1==(h.P.getD (Z4 h.C a).1.toNat X).U))with hc4|hc4<;>have k:=hc4<;>simp only[bs]at k;exact gF [] func109 []<|Fh 44 [.br M]<|Fh 53 [.br M]<|Fh 76 [.br Y] (n (Fa hc0<|Fa hc1<|Fa hc3<|Ft 63 hc4 Fz));obtain⟨u,v⟩:=k;rw[show Ec=(Z8 (Z1 h.W a).1).1 from by grind[Ec]];exact gF [] func109 (fO 8)<|Fh 53 [.br M]<|Fh 63 [.br Y]<|Fh 76 [.br M] (n (Fa hc0<|Fa hc1<|Fa hc3<|Ff 44 hc4<|Fr ((Z8 (Z1 h.W a).1).1.K)<|Fr ((Z8 (Z1 h.W a).1).1.length)<|Fr ((Z8 (Z1 h.W a).1).1.map)<|Fa (by grind[Ec]:(0:Int)=19) Fz));exact gF [] func109 []<|Fh 44 [.br M]<|Fh 53 [.br M]<|Fh 63 [.br M] (n (Fa hc0<|Fa hc1<|Fa hc3 Fz));have g:Z6 h a=(Ec,2):=by rw[Z6,if_pos l,if_neg i]
 have e2:(Z4 h.C a).2.2=2:=by(unfold Z4 at i⊢;rw[if_pos x.1]at i⊢;split at i;simp at i;rename_i q;rw[if_neg q])
 rw[g];exact gF [] func109 [Y]<|Fc 15 (@Eg h)<|Ffb 16 (!Z9 h)<|Fc 22 (@Gu h.C a oq oq)<|Ftb 27 ((Z4 h.C a).2.2 != 0)<|Fr (0:Int)<|Fr (0:Int)<|Fr (0:Int)<|Fa ‹(Z4 h.C a).2.2=2› Fz;have g:Z6 h a=(Ec,1):=by rw[Z6,if_neg l]
 have a0:Z9 h=M:=by simpa using l
 rw[g];exact gF [] func109 []<|Fc 15 (@Eg h)<|Ftb 16 (!Z9 h) Fz
def TW{α β:Type}{f:α->β}{l:List α}(h:l≠[]):l.map f≠[]:=by simpa using h
def Z7Q(ws:List Int)(hw:ws.length<=1048576)(hne:ws≠[]):GP 123 [Z2 ws] Y (.ow 0) [.arr 35 1 (ws.map wD)]:=by exact gF [24007] func123 []<|Fa (TW hne:Z wD ws≠[])<|FA 5 7 wD ws<|Fa (Hd _:Ce (Z wD ws)) Fz
def ZkE(l:List Z0)(hl:l.length<=1048576)(hne:l≠[]):GP 124 [B5 l] Y (B5 l) []:=by exact gF [] func124 []<|Fa (TW hne:Z Z0.dv l≠[])<|FA 5 7 Z0.dv l<|Fa (N8 _:Ce (Z Z0.dv l)) Fz
def AB{α:Type}{l:List α}(h:0<l.length):l≠[]:=by rintro rfl;simp at h
def pg(h:Heap)(i:Int):Z0:=h.P.getD i.toNat X
def Bf(h:Heap)(i o:Int):Int:=(address h.C i o).1
def Mt{h:Heap}(b:Zv h.C=Y)(i o:Int):0<=Bf h i o/\Bf h i o<=8192:=by have ha:=Ij b;unfold Bf address;rw[if_pos b];split;rename_i a;have a:=Ie.1 a;have:=Z11 b a.1 a.2.1 a.2.2.1 a.2.2.2;simp only;omega;simp
def Ew(h:Heap)(i:Int):Nat->Int->Option (List Int)|0,_=>O []|f+1,o=>if o<(pg h i).U then(if(Z6 h (Bf h i o)).2=0 then(if(pg h i).K=2 then O [Bf h i o]else(Ew h i f (o+Z5 (Z6 h (Bf h i o)).1)).map (Bf h i o :: ·))else La)else O []
def D4(h:Heap)(i o:Int)(acc:List Int):Tg:=⟨tm 70 [(1,nI i),(2,.pt 8002 0 0),(4,.d (.sl 0 [])),(5,nI 0),(6,.pt 32006 0 0),(7,.ow 48007),(8,nI o)],
 [(48007,.arr 35 1 (acc.map wD)),(32006,.box 86 [nI (pg h i).K,nI (pg h i).S,nI (pg h i).U,nI (pg h i).N]),(8002,.box 28 h.cells)],60⟩
def M9(acc:List Int):Tg:=⟨tm 70 [(7,.ow 48007)],[(48007,.arr 35 1 (acc.map wD))],60⟩
section
variable(h:Heap)(i o:Int)(acc:List Int)(b:Zx h.W)(a:Z9 h=Y)(hl:acc.length<=1048576)(c:0<=o/\o<=1000)
include b a hl c
theorem ZkB(h1:o<(pg h i).U)(f:(Z6 h (Bf h i o)).2=0)(h3:(pg h i).K≠2):CP (Zm f147 0) (D4 h i o acc).st .nrm (D4 h i (o+Z5 (Z6 h (Bf h i o)).1) (acc++[Bf h i o])).st:=by have j:=B6 a;have e:=Mt j.1 i o;have k:=Ip (Z6 h (Bf h i o)).1;have g:=Hy b (Bf h i o);unfold Bf at e k g f;let d:=address h.C i o;exact sF [(512061,48007)] []<|Fh 61 [.els (Z wD (acc++[d.1]))]<|Ftb 41 (L (o<(pg h i).U))<|Fc 47 (@Z0z h.C i o)<|Fc 53 (@NK h (d.1) aa oq)<|Ffb 57 ((Z6 h d.1).2 != 0)<|Fs 60 (Z wD [d.1])<|Fa (by(simp[Bf, *];omega):(Z wD acc).length+(Z wD [d.1]).length<=2^30)<|Fa (by simp[Bf,LD,LC,Ls,LB,wD,iD]:Z wD acc++Z wD [d.1]=Z wD (acc++[d.1]))<|Ffb 64 ((pg h i).K==2)<|Fc 67 (@Iu ((Z6 h d.1).1) aa)<|Fi 68 (o+Z5 (Z6 h d.1).1) Fz
theorem ZcI(h1:o<(pg h i).U)(f:(Z6 h (Bf h i o)).2=0)(h3:(pg h i).K=2):CP (Zm f147 0) (D4 h i o acc).st (.ext 0) (M9 (acc++[Bf h i o])).st:=by have j:=B6 a;have e:=Mt j.1 i o;have g:=Hy b (Bf h i o);unfold Bf at e g f;let d:=address h.C i o;exact sF [(512061,48007)] []<|Fh 61 [.els (Z wD (acc++[d.1]))]<|Ftb 41 (L (o<(pg h i).U))<|Fc 47 (@Z0z h.C i o)<|Fc 53 (@NK h (d.1) aa oq)<|Ffb 57 ((Z6 h d.1).2 != 0)<|Fs 60 (Z wD [d.1])<|Fa (by(simp[Bf, *];omega):(Z wD acc).length+(Z wD [d.1]).length<=2^30)<|Fa (by simp[Bf,LD,LC,Ls,LB,wD,iD]:Z wD acc++Z wD [d.1]=Z wD (acc++[d.1]))<|Ftb 64 ((pg h i).K==2) Fz
theorem Zht(h1:o<(pg h i).U)(e:¬ (Z6 h (Bf h i o)).2=0):CP (Zm f147 0) (D4 h i o acc).st .ret (Tg.st ⟨tm 70 [(4,.d (.sl 0 [])),(5,nI 19)],[],60⟩):=by have f:=B6 a;have d:=Mt f.1 i o;unfold Bf at d e;exact sF [] []<|Ftb 41 (L (o<(pg h i).U))<|Fc 47 (@Z0z h.C i o)<|Fc 53 (@NK h ((address h.C i o).1) aa oq)<|Ftb 57 ((Z6 h (address h.C i o).1).2 != 0) Fz
omit b a hl c in
theorem Z66(h1:(pg h i).U<=o):CP (Zm f147 0) (D4 h i o acc).st (.ext 0) (M9 acc).st:=by exact sF [] []<|Ffb 41 (L (o<(pg h i).U)) Fz
end
def Z1b{h a}(e:(Z6 h a).2=0):1<=Z5 (Z6 h a).1:=by have:=Pj e;rw[Z5,if_pos this.2.2.2.2.1];omega
def Z9L(h:Heap) i(j:Zx h.W)(g:Z9 h=Y)(hu:(pg h i).U<=256):∀(f:Nat) (o:Int) (acc:List Int),(pg h i).U-o<=f->0<=o->o<=1000->(acc.length:Int)+f<=1000 -> (∀l,Ew h i f o=O l->Gm prog f147 0 (D4 h i o acc).st (.ext 0) (M9 (acc++l)).st) /\ (Ew h i f o=La->Gm prog f147 0 (D4 h i o acc).st .ret (Tg.st ⟨tm 70 [(4,.d (.sl 0 [])),(5,nI 19)],[],60⟩)):=by
 intro f;induction f with
 |zero =>intro o acc n d p q;refine⟨λl a=>?_,λa=>by cases a⟩;simp only[Ew,Option.some.injEq]at a;subst a;rw[Lp];exact .endx (Z66 h i o acc oq)
 |succ f u =>
  intro o acc n d p q;unfold Ew;by_cases c:o<(pg h i).U;rw[if_pos c];by_cases b:(Z6 h (Bf h i o)).2=0;rw[if_pos b];by_cases e:(pg h i).K=2;rw[if_pos e];refine⟨λl a=>?_,λa=>by cases a⟩;cases a;exact .endx (ZcI h i o acc j g oq ⟨d,by omega⟩ c b e);rw[if_neg e];have hs:=Z1b b;have hb:=Ip (Z6 h (Bf h i o)).1;have k:=ZkB h i o acc j g oq ⟨d,by omega⟩ c b e;obtain⟨s,t⟩:=u (o+Z5 (Z6 h (Bf h i o)).1) (acc++[Bf h i o]) oq oq oq qo;refine⟨λl a=>?_,λa=>?_⟩
  .rw[Lt]at a;obtain⟨m,r,rfl⟩:=a;have:=s m r;rw[Lw]at this;exact .next k this
  .rw[Option.map_eq_none_iff]at a;exact .next k (t a)
  rw[if_neg b];exact⟨λl a=>(by cases a),λ_=>.endr (Zht h i o acc j g oq ⟨d,by omega⟩ c b)⟩;rw[if_neg c];refine⟨λl a=>?_,λa=>by cases a⟩;cases a;rw[Lp];exact .endx (Z66 h i o acc oq)
def Ze6(h:Heap) i(l:List Int)(c:Zx h.W)(a:Z9 h=Y)(b:(pg h i).U<=256)(hl:Ew h i 256 0=O l):CP (Zi f147 0) (Tg.st ⟨tm 70 [(1,nI i),(2,.pt 8002 0 0),(4,.d (.sl 0 [])),(5,nI 0),(6,.pt 32006 0 0),(7,.ow 48007),(8,nI 0)], [(48007,.arr 35 1 []),(32006,.box 86 [nI (h.P.getD i.toNat X).K,nI (h.P.getD i.toNat X).S,nI (h.P.getD i.toNat X).U,nI (h.P.getD i.toNat X).N]),(8002,.box 28 h.cells)],60⟩) .nrm (M9 l).st:=
 ((Z9L h i c a b 256 0 [] oq oq oq pq).1 l hl).ext kr
def ZfV(h:Heap) i(c:Zx h.W)(a:Z9 h=Y)(b:(pg h i).U<=256)(hl:Ew h i 256 0=La):CP (Zi f147 0) (Tg.st ⟨tm 70 [(1,nI i),(2,.pt 8002 0 0),(4,.d (.sl 0 [])),(5,nI 0),(6,.pt 32006 0 0),(7,.ow 48007),(8,nI 0)], [(48007,.arr 35 1 []),(32006,.box 86 [nI (h.P.getD i.toNat X).K,nI (h.P.getD i.toNat X).S,nI (h.P.getD i.toNat X).U,nI (h.P.getD i.toNat X).N]),(8002,.box 28 h.cells)],60⟩) .ret (Tg.st ⟨tm 70 [(4,.d (.sl 0 [])),(5,nI 19)],[],60⟩):=
 ((Z9L h i c a b 256 0 [] oq oq oq pq).2 hl).ret kr
def Ze(h:Heap)(i:Int):List Int×Int:=
 if Z9 h=Y then(if 0<=i/\i<h.P.length then(if(pg h i).K=0\/(pg h i).K=3 then([],0)else(match Ew h i 256 0 with|O l=>(l,0)|La=>([],19)))else([],2))else([],1)
def SF(h:Heap) i(hw:Zx h.W):GP 147 [h.av,nI i] M (.tu [Z2 (Ze h i).1,nI (Ze h i).2]) []:=by
 cases hp:Z9 h with
 |false =>
  have b:Ze h i=([],1):=by rw[Ze,if_neg (by rw[hp];simp)]
  rw[b];exact gF [] func147 []<|Fc 14 (@CG h)<|Ftb 15 (!Z9 h)<|Fnl Fz
 |true =>
  have po:=B6 hp;by_cases e:0<=i/\i<h.P.length;have m:=En hp (j:=i.toNat) oq;have hu:(pg h i).U<=256:=m.2.2.2.2.2.2.2.1;cases hwk:Ew h i 256 0 with
  |none =>
   have b:Ze h i=if(h.P.getD i.toNat X).K=0\/(h.P.getD i.toNat X).K=3 then([],0)else([],19):=by rw[Ze,if_pos hp,if_pos e,hwk];rfl
   have g {h_ c_ p_} (f:Fq h_ c_ p_):=Fc 14 (@CG h)<|Ffb 15 (!Z9 h)<|FlG 22 (!decide (i<0)) Z0.dv h.P<|Ffb 24 (L (i<0)||L ((h.P.length:Int)<=i))<|Fe 28 Z0.dv h.P i f;rcases bb ((h.P.getD i.toNat X).K==0||(h.P.getD i.toNat X).K==3)with hc0|hc0<;>have a:=hc0<;>simp only[bs]at a;exact gF [] func147 (fO 8) (g (Ft 37 hc0<|Fnl (Fa (by rw[b,if_pos oq];rfl:[]=Z wD (Ze h i).1)<|Fa (by rw[b,if_pos oq]:0=(Ze h i).2) Fz)));obtain⟨c,d⟩:=a;exact gF [] func147 (fO 18)<|Fh 7 [.own] (g (Ff 37 hc0<|Fu (@ZfV h i aa aa aa aa)<|Fnl (Fa (by rw[b,if_neg oq];rfl:[]=Z wD (Ze h i).1)<|Fa (by rw[b,if_neg oq]:19=(Ze h i).2) Fz)))
  |some l =>
   have b:Ze h i=if(h.P.getD i.toNat X).K=0\/(h.P.getD i.toNat X).K=3 then([],0)else(l,0):=by rw[Ze,if_pos hp,if_pos e,hwk];rfl
   have k {h_ c_ p_} (f:Fq h_ c_ p_):=Fc 14 (@CG h)<|Ffb 15 (!Z9 h)<|FlG 22 (!decide (i<0)) Z0.dv h.P<|Ffb 24 (L (i<0)||L ((h.P.length:Int)<=i))<|Fe 28 Z0.dv h.P i f;rcases bb ((h.P.getD i.toNat X).K==0||(h.P.getD i.toNat X).K==3)with hc0|hc0<;>have a:=hc0<;>simp only[bs]at a;exact gF [] func147 (fO 8) (k (Ft 37 hc0<|Fnl (Fa (by rw[b,if_pos oq];rfl:[]=Z wD (Ze h i).1)<|Fa (by rw[b,if_pos oq]:0=(Ze h i).2) Fz)));obtain⟨c,d⟩:=a;exact gF [] func147 (fO 18)<|Fh 7 [.own] (k (Ff 37 hc0<|Fu (@Ze6 h i l aa aa aa aa)<|Fa (by refine congrArg _ ?_;rw[b,if_neg oq]:Z wD l=Z wD (Ze h i).1)<|Fa (by rw[b,if_neg oq]:0=(Ze h i).2) Fz))
  have b:Ze h i=([],2):=by rw[Ze,if_pos hp,if_neg e]
  rw[b];exact gF [] func147 []<|Fc 14 (@CG h)<|Ffb 15 (!Z9 h)<|FlG 22 (!decide (i<0)) Z0.dv h.P<|Ftb 24 (L (i<0)||L ((h.P.length:Int)<=i))<|Fnl Fz
def Dl(l:List Int)(v:Int)(i:Nat):Tg:=⟨tm 18 [(0,Z2 l),(1,uU v),(4,bL M),(5,nI i)],[],60⟩
def Z9i(l:List Int)(v:Int)(i:Nat)(hl:l.length<=1048576)(hi:i<l.length)(hv:¬ l.getD i X=v):CP (Zm f17 0) (Dl l v i).st .nrm (Dl l v (i+1)).st:=by exact sF [] []<|FN 8 9 14 wD l i<|Ffb 17 (l.getD i X==v)<|Fx 11 i Fz
def Zn2(l:List Int)(v:Int)(i:Nat)(hl:l.length<=1048576)(hi:i<l.length)(hv:l.getD i X=v):CP (Zm f17 0) (Dl l v i).st .ret (Tg.st ⟨tm 18 [(4,bL Y)],[],60⟩):=by exact sF [] []<|FN 8 9 14 wD l i<|Ftb 17 (l.getD i X==v) Fz
def hasEnd l v:CP (Zm f17 0) (Dl l v l.length).st (.ext 0) (Tg.st ⟨tm 18 [],[],60⟩):=by exact sF [] []<|FO 8 9 wD l Fz
theorem ZT{l:List Int}{v:Int}:v∈l↔∃i,i<l.length/\l.getD i X=v:=by rw[List.mem_iff_getElem];constructor;rintro⟨i,h,e⟩;exact⟨i,h,by simp[Lq,h,e]⟩;rintro⟨i,h,e⟩;exact⟨i,h,by simpa[Lq,h]using e⟩
def ZmV(l:List Int)(v:Int)(hl:l.length<=1048576)(h:v∉l)  := Bp (S:=λi=>(Dl l v i).st) l.length (by kernel_rfl) (λi a=>Z9i l v i hl a λe=>h (ZT.2 ⟨i,a,e⟩)) (hasEnd l v)
def ZbM(l:List Int)(v:Int)(hl:l.length<=1048576)(h:v∈l):CP (Zi f17 0) (Tg.st ⟨tm 18 [(0,Z2 l),(1,uU v),(4,bL M),(5,nI 0)],[],60⟩) .ret (Tg.st ⟨tm 18 [(4,bL Y)],[],60⟩):=by obtain⟨i,a,b⟩:=Z2M (ZT.1 h);exact EJ (S:=λi=>(Dl l v i).st) i kr (λj hj=>Z9i l v j hl oq λe=>by have:=b j ⟨by omega,e⟩;omega) (Zn2 l v i hl a.1 a.2)
def CY(l:List Int) v(hl:l.length<=1048576):GP 17 [Z2 l,uU v] Y (bL (L (v∈l))) []:=by by_cases h:v∈l;rw[decide_eq_true h];exact gF [] func17 []<|Fu (@ZbM l v aa aa) Fz;rw[decide_eq_false h];exact gF [] func17 []<|Fu (@ZmV l v aa aa) Fz
def Z6C{h i}:∀{f:Nat} {o:Int} {l:List Int},Ew h i f o=O l->l.length<=f
 |0,o,l,e=>by simp[Ew]at e;subst e;simp
 |f+1,o,l,e=>by
  unfold Ew at e;split at e
  .split at e
   .split at e
    .cases e;simp
    .rw[Lt]at e;obtain⟨m,a,rfl⟩:=e;have:=Z6C a;simp;omega
   .cases e
  .cases e;simp
def R0(h:Heap) i:(Ze h i).1.length<=256:=by
 unfold Ze;repeat' split
 all_goals first|(simp;done)|(rename_i e;exact Z6C e)
def Cp(h:Heap):Nat->Nat->List Int×Int|0,_=>([],0)|f+1,i=>if(Ze h i).2=0 then(if(Cp h f (i+1)).2=0 then((Ze h i).1++(Cp h f (i+1)).1,0)else([],(Cp h f (i+1)).2))else([],(Ze h i).2)
def CN(h:Heap):List Int×Int:=if Z9 h=Y then Cp h h.P.length 0 else([],1)
def Me(h:Heap)(i:Nat)(acc:List Int):Tg:=⟨tm 31 [(1,.pt 8001 0 0),(2,.d (.sl 0 [])),(3,nI 0),(4,.ow 24004),(5,nI i)],[(24004,.arr 35 1 (acc.map wD)),(8001,.box 28 h.cells)],60⟩
section
variable(h:Heap)(i:Nat)(acc:List Int)(b:Zx h.W)(hl:h.P.length<=1048576)(a:acc.length<=1048576)
include b hl a
theorem ZiM(hi:i<h.P.length)(e:(Ze h i).2=0):CP (Zm f90 0) (Me h i acc).st .nrm (Me h (i+1) (acc++(Ze h i).1)).st:=by have hn:=R0 h i;exact sF [(504029,24004)] []<|Fh 29 [.els (Z wD (acc++(Ze h (i:Int)).1))]<|FM 14 15 Z0.dv h.P i<|Fc 21 (@SF h ((i:Int)) aa)<|Ffb 25 ((Ze h (i:Int)).2 != 0)<|Fa (by(simp[*];omega):(Z wD acc).length+(Z wD (Ze h (i:Int)).1).length<=2^30)<|Fa (ms:Z wD acc++Z wD (Ze h (i:Int)).1=Z wD (acc++(Ze h (i:Int)).1))<|Fx 17 i Fz
theorem ZgX(hi:i<h.P.length)(e:¬ (Ze h i).2=0):CP (Zm f90 0) (Me h i acc).st .ret (Tg.st ⟨tm 31 [(2,.d (.sl 0 [])),(3,nI (Ze h i).2)],[],60⟩):=by exact sF [] []<|FM 14 15 Z0.dv h.P i<|Fc 21 (@SF h ((i:Int)) aa)<|Ftb 25 ((Ze h (i:Int)).2 != 0) Fz
omit b hl a in
theorem ZkU:CP (Zm f90 0) (Me h h.P.length acc).st (.ext 0) (Tg.st ⟨tm 31 [(4,.ow 24004)],[(24004,.arr 35 1 (acc.map wD))],60⟩):=by exact sF [] []<|FO 14 15 Z0.dv h.P Fz
end
def Z4C(h:Heap)(c:Zx h.W)(hl:h.P.length<=1048576):∀(f i:Nat) (acc:List Int),i+f=h.P.length->acc.length+256*f<=1048576 -> ((Cp h f i).2=0->Gm prog f90 0 (Me h i acc).st (.ext 0) (Tg.st ⟨tm 31 [(4,.ow 24004)],[(24004,.arr 35 1 ((acc++(Cp h f i).1).map wD))],60⟩)) /\ (¬ (Cp h f i).2=0->Gm prog f90 0 (Me h i acc).st .ret (Tg.st ⟨tm 31 [(2,.d (.sl 0 [])),(3,nI (Cp h f i).2)],[],60⟩)):=by
 intro f;induction f with
 |zero =>
  intro i acc g _;have:i=h.P.length:=by omega
  subst this;refine⟨λ_=>?_,λe=>absurd rfl e⟩;rw[Cp,Lp];exact .endx (ZkU h acc)
 |succ f l =>
  intro i acc g hb;have hn:=R0 h i;unfold Cp;by_cases e:(Ze h i).2=0;rw[if_pos e];have b:=ZiM h i acc c hl oq oq e;obtain⟨j,k⟩:=l (i+1) (acc++(Ze h i).1) oq qo;by_cases a:(Cp h f (i+1)).2=0
  .rw[if_pos a];refine⟨λ_=>?_,λe=>absurd rfl e⟩;have:=j a;rw[Lw]at this;exact .next b this
  rw[if_neg a];exact⟨λe=>absurd e a,λ_=>.next b (k a)⟩;rw[if_neg e];exact⟨λd=>absurd d e,λ_=>.endr (ZgX h i acc c hl oq oq e)⟩
def Zc5(h:Heap)(a:Zx h.W)(hl:h.P.length<=64)(e:(Cp h h.P.length 0).2=0):CP (Zi f90 0) (Tg.st ⟨tm 31 [(1,.pt 8001 0 0),(2,.d (.sl 0 [])),(3,nI 0),(4,.ow 24004),(5,nI 0)],[(24004,.arr 35 1 []),(8001,.box 28 h.cells)],60⟩) .nrm (Tg.st ⟨tm 31 [(4,.ow 24004)],[(24004,.arr 35 1 ((Cp h h.P.length 0).1.map wD))],60⟩):=
 ((Z4C h a oq h.P.length 0 [] oq qo).1 e).ext kr
def Zn6(h:Heap)(a:Zx h.W)(hl:h.P.length<=64)(e:¬ (Cp h h.P.length 0).2=0):CP (Zi f90 0) (Tg.st ⟨tm 31 [(1,.pt 8001 0 0),(2,.d (.sl 0 [])),(3,nI 0),(4,.ow 24004),(5,nI 0)],[(24004,.arr 35 1 []),(8001,.box 28 h.cells)],60⟩) .ret (Tg.st ⟨tm 31 [(2,.d (.sl 0 [])),(3,nI (Cp h h.P.length 0).2)],[],60⟩):=
 ((Z4C h a oq h.P.length 0 [] oq qo).2 e).ret kr
def Zkl(h:Heap):∀(f i:Nat),¬ (Cp h f i).2=0->(Cp h f i).1=[]
 |0,i,e=>absurd rfl e
 |f+1,i,e=>by
  unfold Cp at e⊢;split at e
  .rename_i a;rw[if_pos a];split at e
   .exact absurd rfl e
   .rename_i b;rw[if_neg b]
  .rename_i a;rw[if_neg a]
def ZeE(h:Heap)(hw:Zx h.W):GP 90 [h.av] M (.tu [Z2 (CN h).1,nI (CN h).2]) []:=by
 cases hp:Z9 h with
 |false =>
  have a:CN h=([],1):=by rw[CN,if_neg (by rw[hp];simp)]
  rw[a];exact gF [] func90 []<|Fc 9 (@CG h)<|Ftb 10 (!Z9 h)<|Fnl Fz
 |true =>
  have po:=B6 hp;have a:CN h=Cp h h.P.length 0:=by rw[CN,if_pos hp]
  by_cases e:(Cp h h.P.length 0).2=0;rw[show CN h=((Cp h h.P.length (0:Nat)).1,(0:Int))from by grind[]];exact gF [] func90 []<|Fh 4 [.own]<|Fc 9 (@CG h)<|Ffb 10 (!Z9 h)<|Fu (@Zc5 h aa oq aa) Fz;have b:=Zkl h _ _ e;exact gF [] func90 (fO 7)<|Fh 4 [.own]<|Fc 9 (@CG h)<|Ffb 10 (!Z9 h)<|Fu (@Zn6 h aa oq aa)<|Fnl (Fa (by rw[a,b];rfl:[]=Z wD (CN h).1)<|Fa (by rw[a]:(Cp h h.P.length 0).2=(CN h).2) Fz)
def Zag{h:Heap}(c:Zv h.C=Y){i}:∀{f:Nat} {o:Int} {l:List Int},Ew h i f o=O l->∀x∈l,0<=x/\x<=8192
 |0,o,l,e=>by simp[Ew]at e;subst e;simp
 |f+1,o,l,e=>by
  have b:=Mt c i o;unfold Ew at e;split at e
  .split at e
   .split at e
    .cases e;intro x a;simp at a;subst a;exact b
    .rw[Lt]at e;obtain⟨m,d,rfl⟩:=e;intro x a;rcases List.mem_cons.1 a with rfl|a
     .exact b
     .exact Zag c d x a
   .cases e
  .cases e;simp
def AU{h:Heap}(a:Z9 h=Y) i:∀x∈(Ze h i).1,0<=x/\x<=8192:=by
 have b:=(B6 a).1;unfold Ze;repeat' split
 all_goals first|(simp;done)|(rename_i e;exact Zag b e)
def Z5K{h:Heap}(b:Z9 h=Y):∀(f i:Nat),∀x∈(Cp h f i).1,0<=x/\x<=8192
 |0,i=>by simp[Cp]
 |f+1,i=>by
  unfold Cp;split
  .split
   .intro x a;rcases List.mem_append.1 a with a|a
    .exact AU b i x a
    .exact Z5K b f (i+1) x a
   .simp
  .simp
def Z83(h:Heap):∀(f i:Nat),(Cp h f i).1.length<=256*f
 |0,i=>by simp[Cp]
 |f+1,i=>by
  have h1:=R0 h i;have h2:=Z83 h f (i+1);unfold Cp;split
  .split
   .simp;omega
   .simp
  .simp
def Z50(h:Heap):∀x∈(CN h).1,0<=x/\x<=8192:=by unfold CN;split;exact Z5K aa _ _;simp
def Z5r(h:Heap):(CN h).1.length<=16384:=by unfold CN;split;rename_i a;have:=Z83 h h.P.length 0;have:=B6 a;omega;simp
def CZ(h:Heap)(a:Int):Bool:=L ((Z6 h a).1.K≠0)
def Zb(h:Heap):List Int×Int:=((CN h).1.filter (CZ h),(CN h).2)
def Iq(h:Heap):∀x∈(Zb h).1,0<=x/\x<=8192:=λx a=>Z50 h x (List.mem_filter.1 a).1
def H6(h:Heap):(Zb h).1.length<=16384:=Nat.le_trans (LA _ _) (Z5r h)
def Ae{l:List Int}{i:Nat}(a:i<l.length):l.take (i+1)=l.take i++[l.getD i X]:=by rw[List.take_succ];simp[Lq,a]
def Z0E(h:Heap)(l:List Int)(a:Int)(i:Nat):Tg:=⟨tm 42 [(1,.pt 8001 0 0),(4,Z2 l),(5,nI a),(6,.ow 24006),(7,nI i)],[(24006,.arr 35 1 (((l.take i).filter (CZ h)).map wD)),(8001,.box 28 h.cells)],60⟩
def Zez(h:Heap)(l:List Int) b(i:Nat)(hw:Zx h.W)(hl:l.length<=1048576)(j:∀x∈l,0<=x/\x<=8192)(c:i<l.length):CP (Zm f43 0) (Z0E h l b i).st .nrm (Z0E h l b (i+1)).st:=by
 have hx:=j (l.getD i X) (ZT.2 ⟨i,c,rfl⟩);have g:((l.take i).filter (CZ h)).length<=l.length:=Nat.le_trans (LA _ _) qo;have f:=Ae c;by_cases d:(Z6 h (l.getD i X)).1.K=0;have e:(l.take (i+1)).filter (CZ h)=(l.take i).filter (CZ h):=by(have a:CZ h (l.getD i X)=M:=decide_eq_false (by simpa using d);rw[f,Lx,Ly,a,Lz];simp)
 exact sF [] (fO 5)<|FN 17 18 25 wD l i<|Fc 27 (@NK h (l.getD i X) aa oq)<|Ffb 32 ((Z6 h (l.getD i X)).1.K != 0)<|Fx 20 i<|Fr (35:Int)<|Fa (by refine congrArg _ ?_;rw[e]:Z wD (Le (CZ h) (Ld i l))=Z wD (Le (CZ h) (Ld (i+1) l))) Fz;have e:(l.take (i+1)).filter (CZ h)=(l.take i).filter (CZ h)++[l.getD i X]:=by(have a:CZ h (l.getD i X)=Y:=decide_eq_true d;rw[f,Lx,Ly,a,Lz];simp)
 exact sF [(504039,24006)] (fO 5)<|Fh 39 [.els (Z wD (Le (CZ h) (Ld i l)++[l.getD i X]))]<|FN 17 18 25 wD l i<|Fc 27 (@NK h (l.getD i X) aa oq)<|Ftb 32 ((Z6 h (l.getD i X)).1.K != 0)<|Fek 36 wD l (↑i) i<|Fs 38 (Z wD [l.getD i X])<|Fa (by(simp[*];omega):(Z wD (Le (CZ h) (Ld i l))).length+(Z wD [l.getD i X]).length<=2^30)<|Fa (ms:Z wD (Le (CZ h) (Ld i l))++Z wD [l.getD i X]=Z wD (Le (CZ h) (Ld i l)++[l.getD i X]))<|Fx 20 i<|Fr (35:Int)<|Fa (by refine congrArg _ ?_;rw[e]:Z wD (Le (CZ h) (Ld i l)++[l.getD i X])=Z wD (Le (CZ h) (Ld (i+1) l))) Fz
def Zki(h:Heap) l a:CP (Zm f43 0) (Z0E h l a l.length).st (.ext 0) (Tg.st ⟨tm 42 [(5,nI a),(6,.ow 24006)],[(24006,.arr 35 1 ((l.filter (CZ h)).map wD))],60⟩):=by have e:l.take l.length=l:=LF;exact sF [] (fO 2)<|FO 17 18 wD l<|Fr (35:Int)<|Fa (by refine congrArg _ ?_;rw[e]:Z wD (Le (CZ h) (Ld l.length l))=Z wD (Le (CZ h) l)) Fz
def Zjc(h:Heap)(l:List Int) a(d:Zx h.W)(hl:l.length<=1048576)(c:∀x∈l,0<=x/\x<=8192):CP (Zi f43 0) (Tg.st ⟨tm 42 [(1,.pt 8001 0 0),(4,Z2 l),(5,nI a),(6,.ow 24006),(7,nI 0)],[(24006,.arr 35 1 []),(8001,.box 28 h.cells)],60⟩) .nrm (Tg.st ⟨tm 42 [(5,nI a),(6,.ow 24006)],[(24006,.arr 35 1 ((l.filter (CZ h)).map wD))],60⟩):=
 Bp (S:=λi=>(Z0E h l a i).st) l.length kr (λi b=>Zez h l a i d hl c b) (Zki h l a)
def RU(h:Heap)(hw:Zx h.W):GP 43 [h.av] M (.tu [Z2 (Zb h).1,nI (Zb h).2]) []:=by have hl:=Z5r h;have hr:=Z50 h;exact gF [] func43 []<|Fh 6 [.own]<|Fc 12 (@ZeE h aa)<|Fu (@Zjc h ((CN h).1) ((CN h).2) aa oq aa) Fz
def GG(h:Heap)(p o:Int):Int:=(Z1 h.W (address h.C p o).1).1
def ZkS{c:B7}(b:Zv c=Y) p o:0<=(address c p o).1/\(address c p o).1<=8192:=by have ha:=Ij b;unfold address;rw[if_pos b];split;rename_i a;have a:=Ie.1 a;have:=Z11 b a.1 a.2.1 a.2.2.1 a.2.2.2;simp only;omega;simp
def ZkV(h:Heap) p o(a:Z9 h=Y):GP 235 [h.av,nI p,nI o] Y (uU (GG h p o)) []:=by have b:=B6 a;have ar:=ZkS b.1 p o;exact gF [] func235 []<|Fc 16 (@Z0z h.C p o)<|Fc 23 (@HW h.W ((address h.C p o).1) oq oq) Fz
def Z2u(h:Heap) p o(hp:Z9 h=Y):GP 220 [h.av,nI p,nI o] Y (uU (GG h p o)) []:=by exact gF [] func220 []<|Fc 10 (@ZkV h p o aa) Fz
def ZbX(h:Heap)(p o:Int)(b:Z9 h=Y)(a:0<=p/\p<h.C.pg)(h1:0<=o/\o<=64):GP 221 [h.av,nI p,nI o] Y (uU (4096+p*h.C.pw+o)) []:=by have c:=B6 b;have ap:=Ii c.1 a.1 a.2;exact gF [] func221 []<|Fi 11 (p*h.C.pw)<|Fi 12 (4096+p*h.C.pw)<|Fi 14 (4096+p*h.C.pw+o)<|Fv 15 (4096+p*h.C.pw+o) Fz
def B4(l:List Z0):Nat->Nat|0=>0|i+1=>if(l.getD (i+1) X).K=3 then B4 l i else i+1
def Z4M{h:Heap}(a:Z9 h=Y):(h.P.getD 0 X).K≠3:=by have d:=Iw.1 a;have po:=B6 a;have b:=d.2.2.2.2.2;rw[Z20 oq oq,Lg]at b;have c:=of_decide_eq_true b.1;unfold Gp at c;omega
def D5(h:Heap)(i:Nat):Tg:=⟨tm 15 [(1,nI i),(2,.pt 8002 0 0)],[(8002,.box 28 h.cells)],60⟩
def Zbw(h:Heap)(i:Nat)(hi:i+1<h.P.length)(hl:h.P.length<=1048576)(hk:(h.P.getD (i+1) X).K=3):CP (Zm f218 0) (D5 h (i+1)).st .nrm (D5 h i).st:=by
 have ei:((i+1:Nat):Int)-1=(i:Int):=by omega
 exact sF [] []<|Fek 8 Z0.dv h.P (↑(i+1):Int) (i+1)<|Ftb 11 ((h.P.getD (i+1) X).K==3)<|Fg 13 (by rw[Ef oq oq];omega:Lu.wrap ((↑(i+1):Int)-1)=(i:Int)) Fz
def Z9R(h:Heap)(i:Nat)(hi:i<h.P.length)(hl:h.P.length<=1048576)(hk:¬ (h.P.getD i X).K=3):CP (Zm f218 0) (D5 h i).st (.ext 0) (Tg.st ⟨tm 15 [(1,nI i)],[],60⟩):=by exact sF [] []<|Fek 8 Z0.dv h.P (↑i) i<|Ffb 11 ((h.P.getD i X).K==3) Fz
def Z9s(h:Heap)(b:Z9 h=Y)(hl:h.P.length<=1048576):∀i,i<h.P.length->Gm prog f218 0 (D5 h i).st (.ext 0) (Tg.st ⟨tm 15 [(1,nI (B4 h.P i))],[],60⟩)
 |0,hi=>.endx (Z9R h 0 hi hl (Z4M b))
 |i+1,hi=>by
  unfold B4;by_cases a:(h.P.getD (i+1) X).K=3
  .rw[if_pos a];exact .next (Zbw h i hi hl a) (Z9s h b hl i oq)
  .rw[if_neg a];exact .endx (Z9R h (i+1) hi hl a)
def Zfn(h:Heap)(i:Nat)(b:Z9 h=Y)(a:i<h.P.length)(hl:h.P.length<=1048576):CP (Zi f218 0) (D5 h i).st .nrm (Tg.st ⟨tm 15 [(1,nI (B4 h.P i))],[],60⟩):=
 (Z9s h b hl i a).ext kr
def Z74(h:Heap)(i:Nat)(a:Z9 h=Y)(hi:i<h.P.length):GP 218 [h.av,nI i] Y (nI (B4 h.P i)) []:=by have po:=B6 a;exact gF [] func218 []<|Fu (@Zfn h i aa aa oq) Fz
def Gv(h:Heap)(i:Int)(a:Int):Bool:=(L ((h.P.getD i.toNat X).K=1)&&L (Zd h.C<Z5 (Z6 h a).1))||(L ((h.P.getD i.toNat X).K=2)&&L ((Z6 h a).1.K=0))
def Cu(h:Heap)(i:Int)(l:List Int):Int:=(l.find? (Gv h i)).getD 0
def Dq(h:Heap)(i:Int)(l:List Int)(n:Nat):Tg:=⟨tm 61 [(1,nI i),(2,Z2 l),(3,.pt 8003 0 0),(6,uU 0),(7,nI n)],[(8003,.box 28 h.cells)],60⟩
section
variable(h:Heap)(i:Int)(l:List Int)(n:Nat)(b:Zx h.W)(hl:l.length<=1048576)(c:0<=i/\i<h.P.length)(d:h.P.length<=1048576)(a:∀x∈l,0<=x/\x<=8192)
include b hl c d a
theorem Z6g(j:n<l.length)(g:Gv h i (l.getD n X)=M):CP (Zm f192 0) (Dq h i l n).st .nrm (Dq h i l (n+1)).st:=by have hx:=a (l.getD n X) (ZT.2 ⟨n,j,rfl⟩);have hm:=Hy b (l.getD n X);simp only[Gv,bs]at g;let e:=Z6 h (l.getD n X);let f:=h.P.getD i.toNat X;exact sF [] []<|FN 13 14 21 wD l n<|Fc 23 (@NK h (l.getD n X) aa oq)<|Fc 27 (@Iu (e.1) aa)<|Fc 30 (@Nr h.C)<|Fe 35 Z0.dv h.P i<|FeGq 47 (!(f.K==1&&!decide (Z5 e.1<=Zd h.C))) Z0.dv h.P i<|Ffb 56 (f.K==1&&!decide (Z5 e.1<=Zd h.C)||f.K==2&&e.1.K==0)<|Fx 16 n Fz
theorem Zfl(g:n<l.length)(e:Gv h i (l.getD n X)=Y):CP (Zm f192 0) (Dq h i l n).st .ret (Tg.st ⟨tm 61 [(6,uU (l.getD n X))],[],60⟩):=by have hx:=a (l.getD n X) (ZT.2 ⟨n,g,rfl⟩);have hm:=Hy b (l.getD n X);simp only[Gv,bs]at e;refine Zg [((13:Nat),[Hint.int (l.length:Int)]),((14:Nat),[Hint.br Y]),((21:Nat),[Hint.el (wD (l.getD n X))]),((23:Nat),[Hint.call Y (AV.tu [(Z6 h (l.getD n X)).1.av,nI (Z6 h (l.getD n X)).2]) []]),((27:Nat),[Hint.call Y (nI (Z5 (Z6 h (l.getD n X)).1)) []]),((30:Nat),[Hint.call Y (nI (Zd h.C)) []]),((35:Nat),[Hint.el (h.P.getD i.toNat X).dv]),((47:Nat),[Hint.el (h.P.getD i.toNat X).dv]),((56:Nat),[Hint.br Y]),((59:Nat),[Hint.el (wD (l.getD n X))])] [] [] [] (φ:=(↑(Z wD l).length:Int)=(l.length:Int)/\L ((n:Int)<(l.length:Int))=Y/\Y=Y/\((0:Int)<=(n:Int)/\(Z wD l)[(n:Int).toNat]?=O (wD (l.getD n X)))/\GP 91 [h.av,uU (l.getD n X)] Y (AV.tu [(Z6 h (l.getD n X)).1.av,nI (Z6 h (l.getD n X)).2]) []/\GP 70 [(Z6 h (l.getD n X)).1.av] Y (nI (Z5 (Z6 h (l.getD n X)).1)) []/\GP 93 [h.C.av] Y (nI (Zd h.C)) []/\((0:Int)<=i/\(Z Z0.dv h.P)[i.toNat]?=O (h.P.getD i.toNat X).dv)/\((!((h.P.getD i.toNat X).K==(1:Int)&&!decide (Z5 (Z6 h (l.getD n X)).1<=Zd h.C)))=Y->(0:Int)<=i/\(Z Z0.dv h.P)[i.toNat]?=O (h.P.getD i.toNat X).dv)/\((h.P.getD i.toNat X).K==(1:Int)&&!decide (Z5 (Z6 h (l.getD n X)).1<=Zd h.C)||(h.P.getD i.toNat X).K==(2:Int)&&(Z6 h (l.getD n X)).1.K==(0:Int))=Y/\Y=Y/\(0:Int)<=(n:Int)/\(Z wD l)[(n:Int).toNat]?=O (wD (l.getD n X))) ?_ kr kr kr;exact⟨(by simp only[List.length_map]),(by(simp only[bs];omega)),rfl,(by exact Zn oq oq oq),(@NK (h) (l.getD n X) aa oq),(@Iu ((Z6 h (l.getD n X)).1) aa),(@Nr (h.C)),(by exact Zn oq oq oq),(by intro f;(try simp only[bs]at f);exact Zn oq oq oq),(by(simp only[bs];omega)),rfl,(by exact Zn oq oq oq)⟩
omit b hl c d a in
theorem ZcB:CP (Zm f192 0) (Dq h i l l.length).st (.ext 0) (Tg.st ⟨tm 61 [(6,uU 0)],[],60⟩):=by exact sF [] []<|FO 13 14 wD l Fz
end
def OB{l:List Int}{f:Int->Bool}(h:l.find? f=La):∀n,n<l.length->f (l.getD n X)=M:=by intro n a;have:=Li.1 h (l.getD n X) (ZT.2 ⟨n,a,rfl⟩);simpa using this
def AC{f:Int->Bool}:∀{l:List Int} {x:Int},l.find? f=O x->∃n,n<l.length/\l.getD n X=x/\f x=Y/\∀m,m<n->f (l.getD m X)=M
 |[],x,h=>by simp at h
 |a::l,x,h=>by
  rw[List.find?_cons]at h;split at h
  .rename_i b;cases h;exact⟨0,by simp,rfl,b,λm g=>by omega⟩
  .rename_i b;obtain⟨n,h1,c,d,e⟩:=AC h;refine⟨n+1,by simp;omega,by simpa using c,d,λm g=>?_⟩;cases m with|zero=>simpa using b|succ m=>simpa using e m oq
def ZfR(h:Heap)(i:Int)(l:List Int)(f:Zx h.W)(hl:l.length<=1048576)(c:0<=i/\i<h.P.length)(d:h.P.length<=1048576)(e:∀x∈l,0<=x/\x<=8192)(b:l.find? (Gv h i)=La) :CP (Zi f192 0) (Tg.st ⟨tm 61 [(1,nI i),(2,Z2 l),(3,.pt 8003 0 0),(6,uU 0),(7,nI 0)],[(8003,.box 28 h.cells)],60⟩) .nrm (Tg.st ⟨tm 61 [(6,uU 0)],[],60⟩):=
 Bp (S:=λn=>(Dq h i l n).st) l.length kr (λn a=>Z6g h i l n f hl c d e a (OB b n a)) (ZcB h i l)
def Zl2(h:Heap)(i:Int)(l:List Int)(x:Int)(d:Zx h.W)(hl:l.length<=1048576)(a:0<=i/\i<h.P.length)(b:h.P.length<=1048576)(c:∀x∈l,0<=x/\x<=8192)(k:l.find? (Gv h i)=O x) :CP (Zi f192 0) (Tg.st ⟨tm 61 [(1,nI i),(2,Z2 l),(3,.pt 8003 0 0),(6,uU 0),(7,nI 0)],[(8003,.box 28 h.cells)],60⟩) .ret (Tg.st ⟨tm 61 [(6,uU x)],[],60⟩):=by obtain⟨n,e,f,g,j⟩:=AC k;subst f;exact EJ (S:=λn=>(Dq h i l n).st) n kr (λm o=>Z6g h i l m d hl a b c oq (j m o)) (Zfl h i l n d hl a b c e g)
def Z25(h:Heap)(i:Int)(l:List Int)(hw:Zx h.W)(hl:l.length<=1048576)(hp:h.P.length<=1048576)(hi:0<=i/\i<h.P.length)(hr:∀x∈l,0<=x/\x<=8192):GP 192 [h.av,nI i,Z2 l] Y (uU (Cu h i l)) []:=by
 cases hf:l.find? (Gv h i)with
 |none =>
  have a:Cu h i l=0:=by rw[Cu,hf];rfl
  exact gF [] func192 (fO 6)<|Fu (@ZfR h i l aa aa aa aa aa aa)<|Fa (by rw[a]:0=Cu h i l) Fz
 |some x =>
  have a:Cu h i l=x:=by rw[Cu,hf];rfl
  exact gF [] func192 (fO 6)<|Fu (@Zl2 h i l x aa aa aa aa aa aa)<|Fa (by rw[a]:x=Cu h i l) Fz
def BZ(x:Bool):List DV:=[.sc (.bool x)]
def GL(h:Heap)(a:Int):Int:=if(Z6 h a).1.K=0 then 1 else Z5 (Z6 h a).1
def Mg(h:Heap)(i:Int)(a:Int)(o:Nat):Bool:=L (a-4096-i*h.C.pw<=o)&&L ((o:Int)<a-4096-i*h.C.pw+GL h a)
def Cx(h:Heap)(i:Int)(l:List Int):List Bool:=(Lc h.C.pw.toNat).map λo=>l.any λa=>Mg h i a o
def EA(h:Heap)(i:Int)(l:List Int)(a:Int)(w:Nat):List Bool:=(Lc h.C.pw.toNat).map λ(o:Nat)=>(l.any λa=>Mg h i a o)||(L (a-4096-i*h.C.pw<=o)&&L ((o:Int)<a-4096-i*h.C.pw+w))
def Z8C(h:Heap) i l a w:(EA h i l a w).length=h.C.pw.toNat:=by simp[EA]
def Zj8(h:Heap) i l a:EA h i l a 0=Cx h i l:=by
 unfold EA Cx;refine Lr λo _=>?_;have:(L (a-4096-i*h.C.pw<=(o:Int))&&L ((o:Int)<a-4096-i*h.C.pw+(0:Nat)))=M:=by(rw[Bool.and_eq_false_iff];simp;omega)
 rw[this,Bool.or_false]
def ZjE{h:Heap}{i:Int}{l}{a:Int}{w:Nat}(hh:¬ (0<=a-4096+w-i*h.C.pw/\a-4096+w-i*h.C.pw<h.C.pw)):EA h i l a (w+1)=EA h i l a w:=by unfold EA;refine Lr λo b=>?_;have b:=Lf.1 b;congr 1;rw[Ln];simp;omega
def ZmZ{h:Heap}{i:Int}{l}{a:Int}{w:Nat}(hh:0<=a-4096+w-i*h.C.pw/\a-4096+w-i*h.C.pw<h.C.pw):(EA h i l a w).set (a-4096+w-i*h.C.pw).toNat Y=EA h i l a (w+1):=by
 apply List.ext_getElem?;intro j;rw[List.getElem?_set,Z8C];unfold EA;by_cases b:j<h.C.pw.toNat
 rw[Ll,Ll,List.getElem?_range b,LG,LG];by_cases c:(a-4096+w-i*h.C.pw).toNat=j;rw[if_pos c,if_pos oq];congr 1;symm;rw[Bool.or_eq_true];right;rw[Lg,decide_eq_true_eq,decide_eq_true_eq];omega;rw[if_neg c];congr 2;rw[Ln,Lg,Lg,decide_eq_true_eq,decide_eq_true_eq,decide_eq_true_eq];omega;rw[if_neg oq,Ll,Ll,List.getElem?_eq_none qo];rfl
def Zmn{h i l a}(hn:0<=GL h a):EA h i l a (GL h a).toNat=Cx h i (l++[a]):=by unfold EA Cx;refine Lr λo _=>?_;rw[List.any_append];congr 1;simp[Mg];rw[Ln];simp;omega
def ZkN(h:Heap) i:Cx h i []=Lk h.C.pw.toNat M:=by unfold Cx;simp[List.map_const']
def MW(h:Heap)(i:Int)(l:List Int)(k:Nat):Tg:=⟨tm 69 [(1,nI i),(2,Z2 l),(3,.pt 8003 0 0),(7,.ow 16017),(8,nI k)],[(16017,.arr 4 1 ((Cx h i (l.take k)).map BZ)),(8003,.box 28 h.cells)],60⟩
def Pw(h:Heap)(i:Int)(l m:List Int)(k:Nat)(n:Int)(w:Nat):Tg:=⟨tm 69 [(1,nI i),(2,Z2 m),(3,.pt 8003 0 0),(7,.ow 16017),(8,nI k),(11,nI n),(12,nI w)],[(16017,.arr 4 1 ((EA h i l (m.getD k X) w).map BZ)),(8003,.box 28 h.cells)],60⟩
def ZjC(h:Heap)(i:Int)(l m:List Int)(k:Nat)(n:Int)(w:Nat)(q:Z9 h=Y)(hm:m.length<=1048576)(p:0<=i/\i<h.P.length)(hr:0<=m.getD k X/\m.getD k X<=8192)(hk:k<m.length)(hn:n<=256)(hw:w<n):CP (Zm f219 2) (Pw h i l m k n w).st .nrm (Pw h i l m k n (w+1)).st:=by have r:=B6 q;have ap:=Ii r.1 p.1 oq;have g:=Z8C h i l (m.getD k X) w;by_cases f:0<=m.getD k X-4096+w-i*h.C.pw/\m.getD k X-4096+w-i*h.C.pw<h.C.pw;have e:=ZmZ (l:=l) f;let b:=m.getD k X-4096+(w:Int)-i*h.C.pw;let a:=EA h i l (m.getD k X) w;let j:=0<=m.getD k X-4096+(w:Int)-i*h.C.pw;let d:=a.set b.toNat Y;exact sF [] (fO 11)<|Fh 10067 [.els (Z BZ d)]<|Ftb 40 (L ((w:Int)<n))<|Fek 45 wD m (↑k) k<|Fi 47 (m.getD k X)<|Fi 48 (m.getD k X-4096)<|Fi 50 (m.getD k X-4096+(w:Int))<|Fi 55 (i*h.C.pw)<|Fi 56 b<|FlG 62 (decide j) BZ a<|Ftb 64 (decide j&&L (m.getD k X-4096+(w:Int)-i*h.C.pw<(a.length:Int)))<|Fa (by grind[]:0<=m.getD k X-4096+(w:Int)-i*h.C.pw/\b.toNat<(Z BZ a).length)<|Fa (by grind[]:b.toNat<(Z BZ a).length)<|Fa (by rw[Ls];rfl:(Z BZ a).set b.toNat [DV.sc (Value.bool Y)]=Z BZ d)<|Fx 42 w<|Fr (4:Int)<|Fa (by refine congrArg _ ?_;exact e:Z BZ d=Z BZ (EA h i l (m.getD k X) (w+1))) Fz;have e:=ZjE (l:=l) f;let c:=m.getD k X;let o:=0<=m.getD k X-4096+(w:Int)-i*h.C.pw;exact sF [] (fO 11)<|Ftb 40 (L ((w:Int)<n))<|Fek 45 wD m (↑k) k<|Fi 47 c<|Fi 48 (m.getD k X-4096)<|Fi 50 (m.getD k X-4096+(w:Int))<|Fi 55 (i*h.C.pw)<|Fi 56 (m.getD k X-4096+(w:Int)-i*h.C.pw)<|FlG 62 (decide o) BZ (EA h i l c w)<|Ffb 64 (decide o&&L (m.getD k X-4096+(w:Int)-i*h.C.pw<(↑(EA h i l c w).length:Int)))<|Fx 42 w<|Fr (4:Int)<|Fa (by refine congrArg _ ?_;rw[e]:Z BZ (EA h i l c w)=Z BZ (EA h i l c (w+1))) Fz
def ZeD(h:Heap) i l m k(n:Int)(w:Nat)(hn:n<=w):CP (Zm f219 2) (Pw h i l m k n w).st (.ext 2) (Tg.st ⟨tm 69 [(1,nI i),(2,Z2 m),(3,.pt 8003 0 0),(7,.ow 16017),(8,nI k)],[(16017,.arr 4 1 ((EA h i l (m.getD k X) w).map BZ)),(8003,.box 28 h.cells)],60⟩):=by exact sF [] []<|Ffb 40 (L ((w:Int)<n)) Fz
def Z5y(h:Heap)(i:Int)(m:List Int)(k:Nat)(n:Int)(g:Z9 h=Y)(e:m.length<=1048576)(d:0<=i/\i<h.P.length)(j:0<=m.getD k X/\m.getD k X<=8192)(a:k<m.length)(f:0<=n/\n<=256)(c:n=GL h (m.getD k X)):CP (Zi f219 2) (Tg.st ⟨tm 69 [(1,nI i),(2,Z2 m),(3,.pt 8003 0 0),(7,.ow 16017),(8,nI k),(11,nI n),(12,nI 0)],[(16017,.arr 4 1 ((Cx h i (m.take k)).map BZ)),(8003,.box 28 h.cells)],60⟩) .nrm (Tg.st ⟨tm 69 [(1,nI i),(2,Z2 m),(3,.pt 8003 0 0),(7,.ow 16017),(8,nI k)],[(16017,.arr 4 1 ((Cx h i (m.take (k+1))).map BZ)),(8003,.box 28 h.cells)],60⟩):=by
 have:=Bp (S:=λw=>(Pw h i (m.take k) m k n w).st) n.toNat kr (λw hw=>ZjC h i (m.take k) m k n w g e d j a f.2 oq) (ZeD h i (m.take k) m k n n.toNat oq);have b:EA h i (m.take k) (m.getD k X) n.toNat=Cx h i (m.take (k+1)):=by(rw[Ae a,c];exact Zmn oq)
 rw[b]at this;simp only[Pw,Zj8]at this;exact this
def ZmC(h:Heap)(i:Int)(l:List Int)(k:Nat)(g:Zx h.W)(d:Z9 h=Y)(hl:l.length<=1048576)(hi:0<=i/\i<h.P.length)(f:∀x∈l,0<=x/\x<=8192)(c:k<l.length):CP (Zm f219 0) (MW h i l k).st .nrm (MW h i l (k+1)).st:=by
 have po:=B6 d;have hx:=f (l.getD k X) (ZT.2 ⟨k,c,rfl⟩);have hm:=Hy g (l.getD k X);have hs:=Ip (Z6 h (l.getD k X)).1;by_cases b:(Z6 h (l.getD k X)).1.K=0;have e:GL h (l.getD k X)=1:=by rw[GL,if_pos b]
 exact sF [] []<|FN 20 21 28 wD l k<|Fc 30 (@NK h (l.getD k X) aa oq)<|Fc 34 (@Iu ((Z6 h (l.getD k X)).1) aa)<|Ftb 37 ((Z6 h (l.getD k X)).1.K==0)<|Fu (@Z5y h i l k (1) aa aa aa aa aa oq oq)<|Fx 23 k Fz;have e:GL h (l.getD k X)=Z5 (Z6 h (l.getD k X)).1:=by rw[GL,if_neg b]
 let a:=l.getD k X;exact sF [] []<|FN 20 21 28 wD l k<|Fc 30 (@NK h a aa oq)<|Fc 34 (@Iu ((Z6 h a).1) aa)<|Ffb 37 ((Z6 h a).1.K==0)<|Fu (@Z5y h i l k (Z5 (Z6 h a).1) aa aa aa aa aa aa oq)<|Fx 23 k Fz
def Zcd(h:Heap) i l:CP (Zm f219 0) (MW h i l l.length).st (.ext 0) (Tg.st ⟨tm 69 [(7,.ow 16017)],[(16017,.arr 4 1 ((Cx h i l).map BZ))],60⟩):=by have e:l.take l.length=l:=LF;exact sF [] [M,Y]<|FO 20 21 wD l<|Fr (4:Int)<|Fa (by refine congrArg _ ?_;rw[e]:Z BZ (Cx h i (Ld l.length l))=Z BZ (Cx h i l)) Fz
def ZiE(h:Heap)(i:Int)(l:List Int)(e:Zx h.W)(c:Z9 h=Y)(hl:l.length<=1048576)(a:0<=i/\i<h.P.length)(d:∀x∈l,0<=x/\x<=8192):CP (Zi f219 0) (Tg.st ⟨tm 69 [(1,nI i),(2,Z2 l),(3,.pt 8003 0 0),(7,.ow 16017),(8,nI 0)],[(16017,.arr 4 1 ((Lk h.C.pw.toNat M).map BZ)),(8003,.box 28 h.cells)],60⟩) .nrm (Tg.st ⟨tm 69 [(7,.ow 16017)],[(16017,.arr 4 1 ((Cx h i l).map BZ))],60⟩):=by have:=Bp (S:=λk=>(MW h i l k).st) l.length kr (λk b=>ZmC h i l k e c hl a d b) (Zcd h i l);simp only[MW,List.take_zero,ZkN]at this;exact this
def Z9A(h:Heap)(i:Int)(l:List Int)(hw:Zx h.W)(a:Z9 h=Y)(hl:l.length<=1048576)(hi:0<=i/\i<h.P.length)(hr:∀x∈l,0<=x/\x<=8192):GP 219 [h.av,nI i,Z2 l] M (.d (.sl 1 ((Cx h i l).map BZ))) []:=by have po:=B6 a;exact gF [] func219 []<|Fh 17 [.els (Z BZ (Lk h.C.pw.toNat M))]<|Fb (0<=h.C.pw/\h.C.pw<=h.C.pw/\h.C.pw*((↑(nat_lit 0):Int)+1)<=2^48)<|Fa (by rw[List.map_replicate];rfl:Lk h.C.pw.toNat [DV.sc (Value.bool M)]=Z BZ (Lk h.C.pw.toNat M))<|Fu (@ZiE h i l aa aa aa aa aa) Fz
def CV(h:Heap)(i:Nat):List Bool:=Cx h i (Ze h (B4 h.P i:Nat)).1
def Ph(h:Heap) i:(CV h i).length=h.C.pw.toNat:=by simp[CV,Cx]
def Z2F l:∀i,B4 l i<=i
 |0=>Nat.le_refl _
 |i+1=>by
  have:=Z2F l i;unfold B4;split<;>omega
def Ma(h:Heap)(i:Nat)(u:List Bool)(k:Nat):Tg:=⟨tm 43 [(1,nI i),(2,.pt 8002 0 0),(4,uU 0),(7,.d (.sl 1 (u.map BZ))),(8,nI k)],[(8002,.box 28 h.cells)],60⟩
section
variable(h:Heap)(i:Nat)(u:List Bool)(k:Nat)(a:Z9 h=Y)(b:i<h.P.length)(c:u.length<=64)
include a b c
theorem Z6A(hk:k<u.length)(d:u.getD k X=Y\/GG h i k=0):CP (Zm f193 0) (Ma h i u k).st .nrm (Ma h i u (k+1)).st:=by have po:=B6 a;rcases d with d|d;exact sF [] []<|FN 23 24 29 BZ u k<|FcG 36 (!u.getD k X) (λe=>by(try simp only[bs]at e);exact@Z2u h ((i:Int)) ((k:Int)) aa)<|Ffs 38 (!u.getD k X&&GG h (i:Int) (k:Int) != 0)<|Fx 26 k Fz;exact sF [] []<|FN 23 24 29 BZ u k<|FcG 36 (!u.getD k X) (λe=>by(try simp only[bs]at e);exact@Z2u h ((i:Int)) ((k:Int)) aa)<|Ffb 38 (!u.getD k X&&GG h (i:Int) (k:Int) != 0)<|Fx 26 k Fz
theorem Zj5(hk:k<u.length)(d:u.getD k X=M/\¬ GG h i k=0):CP (Zm f193 0) (Ma h i u k).st .ret (Tg.st ⟨tm 43 [(4,uU (4096+i*h.C.pw+k))],[],60⟩):=by have po:=B6 a;obtain⟨e,f⟩:=d;exact sF [] []<|FN 23 24 29 BZ u k<|FcG 36 (!u.getD k X) (λg=>by(try simp only[bs]at g);exact@Z2u h ((i:Int)) ((k:Int)) aa)<|Fts 38 (!u.getD k X&&GG h (i:Int) (k:Int) != 0)<|Fc 42 (@ZbX h ((i:Int)) ((k:Int)) aa oq oq) Fz
omit a b c in
theorem ZeN:CP (Zm f193 0) (Ma h i u u.length).st (.ext 0) (Tg.st ⟨tm 43 [(4,uU 0)],[],60⟩):=by exact sF [] []<|FO 23 24 BZ u Fz
end
def HL(h:Heap)(i:Nat)(u:List Bool)(k:Nat):Bool:=!u.getD k X&&L (GG h i k≠0)
def Ez(h:Heap)(i:Nat)(u:List Bool):Int:=match (Lc u.length).find? (HL h i u)with|O k=>4096+i*h.C.pw+k|La=>0
def ZhC(h:Heap)(i:Nat)(u:List Bool)(d:Z9 h=Y)(c:i<h.P.length)(e:u.length<=64)(b:(Lc u.length).find? (HL h i u)=La) :CP (Zi f193 0) (Tg.st ⟨tm 43 [(1,nI i),(2,.pt 8002 0 0),(4,uU 0),(7,.d (.sl 1 (u.map BZ))),(8,nI 0)],[(8002,.box 28 h.cells)],60⟩) .nrm (Tg.st ⟨tm 43 [(4,uU 0)],[],60⟩):=by
 refine Bp (S:=λk=>(Ma h i u k).st) u.length kr (λk a=>Z6A h i u k d c e a ?_) (ZeN h i u);have:=Li.1 b k (Lf.2 a);simp only[HL,bs]at this;cases hb:u.getD k X with|true=>exact .inl rfl|false =>rw[hb]at this;exact .inr (by simpa using this)
def Ze3(h:Heap)(i:Nat)(u:List Bool)(k:Nat)(d:Z9 h=Y)(c:i<h.P.length)(e:u.length<=64)(g:(Lc u.length).find? (HL h i u)=O k) :CP (Zi f193 0) (Tg.st ⟨tm 43 [(1,nI i),(2,.pt 8002 0 0),(4,uU 0),(7,.d (.sl 1 (u.map BZ))),(8,nI 0)],[(8002,.box 28 h.cells)],60⟩) .ret (Tg.st ⟨tm 43 [(4,uU (4096+i*h.C.pw+k))],[],60⟩):=by
 obtain⟨a,b,f⟩:=Lj.1 g;have b:=Lf.1 b;refine EJ (S:=λk=>(Ma h i u k).st) k kr (λm j=>Z6A h i u m d c e oq ?_) (Zj5 h i u k d c e b ?_);have:=f m j;simp only[HL,bs]at this;cases hb:u.getD m X with|true=>exact .inl rfl|false =>rw[hb]at this;exact .inr (by simpa using this)
 simp only[HL,bs]at a;exact⟨a.1,a.2⟩
def ZaS(h:Heap)(i:Nat)(hw:Zx h.W)(d:Z9 h=Y)(hi:i<h.P.length):GP 193 [h.av,nI i] Y (uU (Ez h i (CV h i))) []:=by
 have po:=B6 d;have hh:=Z2F h.P i;have hn:=R0 h (B4 h.P i:Nat);have hr:=AU d (B4 h.P i:Nat);have e:=Ph h i;unfold CV at e⊢;cases hf:(Lc (Cx h i (Ze h (B4 h.P i:Nat)).1).length).find? (HL h i (Cx h i (Ze h (B4 h.P i:Nat)).1))with
 |none =>
  have a:Ez h i (Cx h i (Ze h (B4 h.P i:Nat)).1)=0:=by rw[Ez,hf]
  let b:=Ze h (↑(B4 h.P i):Int);exact gF [] func193 (fO 6)<|Fc 13 (@Z74 h i aa aa)<|Fc 14 (@SF h ((↑(B4 h.P i):Int)) aa)<|Fc 20 (@Z9A h ((i:Int)) (b.1) aa aa oq oq aa)<|Fu (@ZhC h i (Cx h (i:Int) b.1) aa aa oq aa)<|Fa (by rw[a]:0=Ez h i (Cx h (i:Int) b.1)) Fz
 |some k =>
  have a:Ez h i (Cx h i (Ze h (B4 h.P i:Nat)).1)=4096+i*h.C.pw+k:=by rw[Ez,hf]
  let c:=Ze h (↑(B4 h.P i):Int);exact gF [] func193 (fO 6)<|Fc 13 (@Z74 h i aa aa)<|Fc 14 (@SF h ((↑(B4 h.P i):Int)) aa)<|Fc 20 (@Z9A h ((i:Int)) (c.1) aa aa oq oq aa)<|Fu (@Ze3 h i (Cx h (i:Int) c.1) k aa aa oq aa)<|Fa (by rw[a]:4096+(i:Int)*h.C.pw+(k:Int)=Ez h i (Cx h (i:Int) c.1)) Fz
structure C8 where
 fault:Int
 page:Int
 addr:Int
 deriving DecidableEq,Inhabited
def C8.av(f:C8):AV:=.ag [nI f.fault,nI f.page,uU f.addr]
def pageF(h:Heap)(i:Nat):C8:=
 if(h.P.getD i X).K≠0/\(h.P.getD i X).S≠h.S then⟨2,i,0⟩
 else if(Ze h (i:Int)).2≠0 then⟨3,i,0⟩
 else if Cu h (i:Int) (Ze h (i:Int)).1≠0 then⟨5,i,Cu h (i:Int) (Ze h (i:Int)).1⟩
 else if Ez h i (CV h i)≠0 then⟨4,i,Ez h i (CV h i)⟩else⟨0,0,0⟩
def Z5L(h:Heap)(i:Nat)(hw:Zx h.W)(n:Z9 h=Y)(hi:i<h.P.length):GP 145 [h.av,nI i] Y (pageF h i).av []:=by have po:=B6 n;have hn:=R0 h (i:Int);have hr:=AU n (i:Int);have j {h_ c_ p_} (b:Fq h_ c_ p_):=Fek 12 Z0.dv h.P (↑i) i<|FeG 20 ((h.P.getD i X).K != 0) Z0.dv h.P (↑i) i b;rcases bb ((h.P.getD i X).K != 0&&(h.P.getD i X).S != h.S)with hc0|hc0<;>have a:=hc0<;>simp only[bs]at a;obtain⟨f,g⟩:=a;rw[show pageF h i=C8.mk (2:Int) (i:Int) (0:Int)from by(simp only[pageF] ;exact sj)];exact gF [] func145 [] (j (Ft 26 hc0 Fz));have k {h_ c_ p_} (b:Fq h_ c_ p_):=j<|Ff 26 hc0<|Fc 32 (@SF h ((i:Int)) aa) b;rcases bb ((Ze h (i:Int)).2 != 0)with hc1|hc1<;>have c:=hc1<;>simp only[bs]at c;rw[show pageF h i=C8.mk (3:Int) (i:Int) (0:Int)from by(simp only[pageF] ;exact sj)];exact gF [] func145 [] (k (Ft 36 hc1 Fz));have l {h_ c_ p_} (b:Fq h_ c_ p_):=k<|Ff 36 hc1<|Fc 42 (@Z25 h ((i:Int)) ((Ze h (i:Int)).1) aa oq oq oq aa) b;rcases bb (Cu h (i:Int) (Ze h (i:Int)).1 != 0)with hc2|hc2<;>have d:=hc2<;>simp only[bs]at d;rw[show pageF h i=C8.mk (5:Int) (i:Int) (Cu h (i:Int) (Ze h (i:Int)).1)from by(simp only[pageF] ;exact sj)];exact gF [] func145 [] (l (Ft 44 hc2 Fz));have m {h_ c_ p_} (b:Fq h_ c_ p_):=l<|Ff 44 hc2<|Fc 50 (@ZaS h i aa aa aa) b;rcases bb (Ez h i (CV h i) != 0)with hc3|hc3<;>have e:=hc3<;>simp only[bs]at e;rw[show pageF h i=C8.mk (4:Int) (i:Int) (Ez h i (CV h i))from by(simp only[pageF] ;exact sj)];exact gF [] func145 [] (m (Ft 52 hc3 Fz));rw[show pageF h i=C8.mk (0:Int) (0:Int) (0:Int)from by(simp only[pageF] ;exact sj)];exact gF [] func145 [] (m (Ff 52 hc3 Fz))
def Di(h:Heap)(all:List Int)(i:Nat):Tg:=⟨tm 89 [(1,.pt 8001 0 0),(2,.pt 8002 0 0),(3,Z2 all),(5,nI i)],[(8002,.box 148 [nI 0,nI 0,uU 0]),(8001,.box 28 h.cells)],60⟩
def Ng(b:Zz)(a all:List Int)(k:Nat):Bool:=Ba b k&&L (a.getD k X≠0)&&!decide (a.getD k X∈all)
def Mu(h:Heap)(all b:List Int)(a:Zz)(i k:Nat):Tg:=⟨tm 89 [(1,.pt 8001 0 0),(2,.pt 8002 0 0),(3,Z2 all),(5,nI i),(6,.pt 488006 0 0),(8,Z2 b),(10,nI k)],[(488006,.box 52 [nI a.K,nI a.length,u32 a.map]),(8002,.box 148 [nI 0,nI 0,uU 0]),(8001,.box 28 h.cells)],64⟩
section
variable(h:Heap)(all a:List Int)(b:Zz)(i k:Nat)(e:0<=b.map/\b.map<=4294967295)(hl:all.length<=1048576)(c:a.length<=4096)(f:0<=all.getD i X/\all.getD i X<=8192)(d:i<all.length)
include e hl c f d
theorem Z9E(hk:k<a.length)(g:Ng b a all k=M):CP (Zm f146 2) (Mu h all a b i k).st .nrm (Mu h all a b i (k+1)).st:=by simp only[Ng,bs]at g;rcases g with(g|g)|g;let l:=Ba b (k:Int)&&a.getD k X != 0;exact sF [] []<|FM 46 47 wD a k<|Fc 52 (@Nh b ((k:Int)) aa)<|FeG 56 (Ba b (k:Int)) wD a (↑k) k<|FeG 64 l wD a (↑k) k<|FcG 66 l (λj=>by(try simp only[bs]at j);exact@CY all (a.getD k X) aa)<|Ffs 68 (Ba b (k:Int)&&a.getD k X != 0&&!decide (a.getD k X∈all))<|Fx 49 k Fz;let m:=Ba b (k:Int)&&a.getD k X != 0;exact sF [] []<|FM 46 47 wD a k<|Fc 52 (@Nh b ((k:Int)) aa)<|FeG 56 (Ba b (k:Int)) wD a (↑k) k<|FeG 64 m wD a (↑k) k<|FcG 66 m (λj=>by(try simp only[bs]at j);exact@CY all (a.getD k X) aa)<|Ffb 68 (Ba b (k:Int)&&a.getD k X != 0&&!decide (a.getD k X∈all))<|Fx 49 k Fz;let n:=Ba b (k:Int)&&a.getD k X != 0;exact sF [] []<|FM 46 47 wD a k<|Fc 52 (@Nh b ((k:Int)) aa)<|FeG 56 (Ba b (k:Int)) wD a (↑k) k<|FeG 64 n wD a (↑k) k<|FcG 66 n (λj=>by(try simp only[bs]at j);exact@CY all (a.getD k X) aa)<|Ffs 68 (Ba b (k:Int)&&a.getD k X != 0&&!decide (a.getD k X∈all))<|Fx 49 k Fz
theorem Zd5(hk:k<a.length)(g:Ng b a all k=Y):CP (Zm f146 2) (Mu h all a b i k).st .ret (Tg.st ⟨tm 89 [(2,.pt 8002 0 0)],[(8002,.box 148 [nI 6,nI (Z4 h.C (all.getD i X+1+k)).1,uU (all.getD i X+1+k)])],64⟩):=by simp only[Ng,bs]at g;obtain⟨⟨l,m⟩,n⟩:=g;let j:=Ba b (k:Int)&&a.getD k X != 0;exact sF [] []<|FM 46 47 wD a k<|Fc 52 (@Nh b ((k:Int)) aa)<|FeG 56 (Ba b (k:Int)) wD a (↑k) k<|FeG 64 j wD a (↑k) k<|FcG 66 j (λo=>by(try simp only[bs]at o);exact@CY all (a.getD k X) aa)<|Fts 68 (Ba b (k:Int)&&a.getD k X != 0&&!decide (a.getD k X∈all))<|Fek 71 wD all (↑i) i<|Fv 73 (all.getD i X+1)<|Fv 75 (↑k)<|Fv 76 (all.getD i X+1+(k:Int))<|Fc 81 (@Hr h.C (all.getD i X+1+(k:Int)) oq oq) Fz
omit e hl c f d in
theorem Zce:CP (Zm f146 2) (Mu h all a b i a.length).st (.ext 2) (Tg.st ⟨tm 89 [(1,.pt 8001 0 0),(2,.pt 8002 0 0),(3,Z2 all),(5,nI i)],[(8002,.box 148 [nI 0,nI 0,uU 0]),(8001,.box 28 h.cells)],64⟩):=by exact sF [] []<|FO 46 47 wD a Fz
end
section
variable(h:Heap)(all a:List Int)(b:Zz)(i:Nat)(e:0<=b.map/\b.map<=4294967295)(hl:all.length<=1048576)(c:a.length<=4096)(f:0<=all.getD i X/\all.getD i X<=8192)(d:i<all.length)
include e hl c f d
theorem ZbB(j:(Lc a.length).find? (Ng b a all)=La):CP (Zi f146 2) (Mu h all a b i 0).st .nrm (Tg.st ⟨tm 89 [(1,.pt 8001 0 0),(2,.pt 8002 0 0),(3,Z2 all),(5,nI i)],[(8002,.box 148 [nI 0,nI 0,uU 0]),(8001,.box 28 h.cells)],64⟩):=by refine Bp (S:=λk=>(Mu h all a b i k).st) a.length kr (λk g=>Z9E h all a b i k e hl c f d g ?_) (Zce h all a b i);have:=Li.1 j k (Lf.2 g);simpa using this
theorem Zj3(k:Nat)(o:(Lc a.length).find? (Ng b a all)=O k):CP (Zi f146 2) (Tg.st ⟨tm 89 [(1,.pt 8001 0 0),(2,.pt 8002 0 0),(3,Z2 all),(5,nI i),(6,.pt 488006 0 0),(8,Z2 a),(10,nI 0)],[(488006,.box 52 [nI b.K,nI b.length,u32 b.map]),(8002,.box 148 [nI 0,nI 0,uU 0]),(8001,.box 28 h.cells)],64⟩) .ret (Tg.st ⟨tm 89 [(2,.pt 8002 0 0)],[(8002,.box 148 [nI 6,nI (Z4 h.C (all.getD i X+1+k)).1,uU (all.getD i X+1+k)])],64⟩):=by obtain⟨l,g,n⟩:=Lj.1 o;have g:=Lf.1 g;refine EJ (S:=λk=>(Mu h all a b i k).st) k kr (λm j=>Z9E h all a b i m e hl c f d oq ?_) (Zd5 h all a b i k e hl c f d g l);have:=n m j;simpa using this
end
def Z1e(h:Heap) a:(C0 h a).1.length<=4096:=by unfold C0;split;rename_i e;have po:=B6 (It e).2.2.1;have:=Z7a h.W (a+1) (Zw h a).1.length;omega;simp
def HM(h:Heap)(all:List Int)(i:Nat):Option Nat:=(Lc (C0 h (all.getD i X)).1.length).find? (Ng (Zw h (all.getD i X)).1 (C0 h (all.getD i X)).1 all)
section
variable(h:Heap)(all:List Int)(i:Nat)(a:Zx h.W)(hl:all.length<=1048576)(hr:0<=all.getD i X/\all.getD i X<=8192)(hi:i<all.length)
include a hl hr hi
theorem Zac(c:HM h all i=La):CP (Zm f146 0) (Di h all i).st .nrm (Di h all (i+1)).st:=by have hm:=O0 a (all.getD i X);have hf:(C0 h (all.getD i X)).1.length<=4096:=Z1e h _;unfold HM at c;let b:=all.getD i X;exact sF [] []<|FN 22 23 30 wD all i<|Fc 32 (@Na h b aa oq)<|Fek 39 wD all (↑i) i<|Fc 41 (@Z3z h b aa oq)<|Fu (@ZbB h all ((C0 h b).1) ((Zw h b).1) i aa aa aa aa aa aa)<|Fx 25 i Fz
theorem ZbU(k:Nat)(c:HM h all i=O k):CP (Zm f146 0) (Di h all i).st .ret (Tg.st ⟨tm 89 [(2,.pt 8002 0 0)],[(8002,.box 148 [nI 6,nI (Z4 h.C (all.getD i X+1+k)).1,uU (all.getD i X+1+k)])],60⟩):=by have hm:=O0 a (all.getD i X);have hf:(C0 h (all.getD i X)).1.length<=4096:=Z1e h _;unfold HM at c;let b:=all.getD i X;exact sF [] []<|FN 22 23 30 wD all i<|Fc 32 (@Na h b aa oq)<|Fek 39 wD all (↑i) i<|Fc 41 (@Z3z h b aa oq)<|Fu (@Zj3 h all ((C0 h b).1) ((Zw h b).1) i aa aa aa aa aa k aa) Fz
end
def Zi1(h:Heap) all:CP (Zm f146 0) (Di h all all.length).st (.ext 0) (Tg.st ⟨tm 89 [(2,.pt 8002 0 0)],[(8002,.box 148 [nI 0,nI 0,uU 0])],60⟩):=by exact sF [] []<|FO 22 23 wD all Fz
def EQ(h:Heap)(all:List Int):C8:=
 match (Lc all.length).find? (λi=>(HM h all i).isSome)with|none=>⟨0,0,0⟩|some i=>⟨6,(Z4 h.C (all.getD i X+1+((HM h all i).getD 0:Nat))).1,all.getD i X+1+((HM h all i).getD 0:Nat)⟩
section
variable(h:Heap)(all:List Int)(b:Zx h.W)(hl:all.length<=1048576)(a:∀x∈all,0<=x/\x<=8192)
include b hl a
theorem ZaW(d:(Lc all.length).find? (λi=>(HM h all i).isSome)=La):CP (Zi f146 0) (Di h all 0).st .nrm (Tg.st ⟨tm 89 [(2,.pt 8002 0 0)],[(8002,.box 148 [nI 0,nI 0,uU 0])],60⟩):=by refine Bp (S:=λk=>(Di h all k).st) all.length kr (λk c=>Zac h all k b hl (a _ (ZT.2 ⟨k,c,rfl⟩)) c ?_) (Zi1 h all);have:=Li.1 d k (Lf.2 c);simpa using this
theorem Zj4(i k:Nat)(g:(Lc all.length).find? (λi=>(HM h all i).isSome)=O i)(d:HM h all i=O k):CP (Zi f146 0) (Tg.st ⟨tm 89 [(1,.pt 8001 0 0),(2,.pt 8002 0 0),(3,Z2 all),(5,nI 0)],[(8002,.box 148 [nI 0,nI 0,uU 0]),(8001,.box 28 h.cells)],60⟩) .ret (Tg.st ⟨tm 89 [(2,.pt 8002 0 0)],[(8002,.box 148 [nI 6,nI (Z4 h.C (all.getD i X+1+k)).1,uU (all.getD i X+1+k)])],60⟩):=by obtain⟨h1,c,f⟩:=Lj.1 g;have c:=Lf.1 c;refine EJ (S:=λk=>(Di h all k).st) i kr (λm e=>Zac h all m b hl (a _ (ZT.2 ⟨m,by omega,rfl⟩)) oq ?_) (ZbU h all i b hl (a _ (ZT.2 ⟨i,c,rfl⟩)) c k d);have:=f m e;simpa using this
end
def Z4h(h:Heap)(hw:Zx h.W):GP 146 [h.av] Y (EQ h (Zb h).1).av []:=by
 have hl:=H6 h;have hr:=Iq h;cases hb:(Lc (Zb h).1.length).find? (λi=>(HM h (Zb h).1 i).isSome)with
 |none =>
  have e:EQ h (Zb h).1=⟨0,0,0⟩:=by simp only[EQ,hb]
  rw[e];exact gF [] func146 []<|Fc 17 (@RU h aa)<|Fu (@ZaW h ((Zb h).1) aa oq aa aa) Fz
 |some i =>
  have a:=(Lj.1 hb).1;obtain⟨k,b⟩:=Option.isSome_iff_exists.1 a;have e:EQ h (Zb h).1=⟨6,(Z4 h.C ((Zb h).1.getD i X+1+(k:Nat))).1,(Zb h).1.getD i X+1+(k:Nat)⟩:=by simp only[EQ,hb,b,Option.getD_some]
  rw[e];exact gF [] func146 []<|Fc 17 (@RU h aa)<|Fu (@Zj4 h ((Zb h).1) aa oq aa i k aa aa) Fz
def ZmN(h:Heap)(hw:Zx h.W)(hp:Z9 h=M):GP 89 [h.av] Y (C8.mk 1 0 0).av []:=by exact gF [] func89 []<|Fc 9 (@CG h)<|Ftb 10 (!Z9 h) Fz
def Mi(h:Heap)(i:Nat):Tg:=⟨tm 65 [(1,.pt 8001 0 0),(2,.pt 8002 0 0),(3,nI i)],[(8002,.box 148 [nI 0,nI 0,uU 0]),(8001,.box 28 h.cells)],60⟩
section
variable(h:Heap)(i:Nat)(hw:Zx h.W)(a:Z9 h=Y)
include hw a
theorem Za7(hi:i<h.P.length)(hb:(pageF h i).fault=0):CP (Zm f89 0) (Mi h i).st .nrm (Mi h (i+1)).st:=by have po:=B6 a;exact sF [] []<|FM 15 16 Z0.dv h.P i<|Fc 21 (@Z5L h i aa aa aa)<|Ffb 24 ((pageF h i).fault != 0)<|Fx 18 i Fz
theorem Zde(hi:i<h.P.length)(hb:(pageF h i).fault≠0):CP (Zm f89 0) (Mi h i).st .ret (Tg.st ⟨tm 65 [(2,.pt 8002 0 0)],[(8002,.box 148 [nI (pageF h i).fault,nI (pageF h i).page,uU (pageF h i).addr])],60⟩):=by have po:=B6 a;exact sF [] []<|FM 15 16 Z0.dv h.P i<|Fc 21 (@Z5L h i aa aa aa)<|Ftb 24 ((pageF h i).fault != 0) Fz
end
def ZeX(h:Heap)(a:Z9 h=Y):CP (Zm f89 0) (Mi h h.P.length).st (.ext 0) (Tg.st ⟨tm 65 [(1,.pt 8001 0 0),(2,.pt 8002 0 0)],[(8002,.box 148 [nI 0,nI 0,uU 0]),(8001,.box 28 h.cells)],60⟩):=by have po:=B6 a;exact sF [] []<|FO 15 16 Z0.dv h.P Fz
def GC(h:Heap):Option Nat:=(Lc h.P.length).find? (λi=>L ((pageF h i).fault≠0))
section
variable(h:Heap)(b:Zx h.W)(a:Z9 h=Y)
include b a
theorem Z1f(d:GC h=La):CP (Zi f89 0) (Mi h 0).st .nrm (Tg.st ⟨tm 65 [(1,.pt 8001 0 0),(2,.pt 8002 0 0)],[(8002,.box 148 [nI 0,nI 0,uU 0]),(8001,.box 28 h.cells)],60⟩):=by refine Bp (S:=λk=>(Mi h k).st) h.P.length kr (λk c=>Za7 h k b a c ?_) (ZeX h a);have:=Li.1 d k (Lf.2 c);simpa using this
theorem ZjB(i:Nat)(g:GC h=O i):CP (Zi f89 0) (Tg.st ⟨tm 65 [(1,.pt 8001 0 0),(2,.pt 8002 0 0),(3,nI 0)],[(8002,.box 148 [nI 0,nI 0,uU 0]),(8001,.box 28 h.cells)],60⟩) .ret (Tg.st ⟨tm 65 [(2,.pt 8002 0 0)],[(8002,.box 148 [nI (pageF h i).fault,nI (pageF h i).page,uU (pageF h i).addr])],60⟩):=by obtain⟨e,c,f⟩:=Lj.1 g;have c:=Lf.1 c;refine EJ (S:=λk=>(Mi h k).st) i kr (λm d=>Za7 h m b a oq ?_) (Zde h i b a c (by simpa using e));have:=f m d;simpa using this
end
def Zcr(h:Heap)(hw:Zx h.W)(hp:Z9 h=Y)(i:Nat)(hb:GC h=O i):GP 89 [h.av] Y (pageF h i).av []:=by exact gF [] func89 []<|Fc 9 (@CG h)<|Ffb 10 (!Z9 h)<|Fu (@ZjB h aa aa i aa) Fz
def ZfF(h:Heap)(hw:Zx h.W)(hp:Z9 h=Y)(hb:GC h=La)(hq:(EQ h (Zb h).1).fault≠0):GP 89 [h.av] Y (EQ h (Zb h).1).av []:=by exact gF [] func89 []<|Fc 9 (@CG h)<|Ffb 10 (!Z9 h)<|Fu (@Z1f h aa aa aa)<|Fc 27 (@Z4h h aa)<|Ftb 30 ((EQ h (Zb h).1).fault != 0) Fz
end Go.Proofs.YtgedmeaemofdkaaGreat
