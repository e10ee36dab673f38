/-
 The statement CollectStays: part 8.
 Conditions: none.
-/
import Derived.Test.YtgedmeaemofdkaaGreatT7
set_option maxRecDepth 100000
set_option maxHeartbeats 2000000
set_option linter.all false
open Inhabited renaming default->X
open Bool renaming true->Y,false->M,and_eq_true->Lg,eq_false_or_eq_true->Lm,eq_iff_iff->Ln
open List renaming map->Z,range->Lc,take->Ld,filter->Le,mem_range->Lf,find?_eq_none->Li,find?_range_eq_some->Lj,replicate->Lk,getElem?_map->Ll,append_nil->Lp,getD->Lq,map_congr_left->Lr,map_set->Ls,append_assoc->Lw,filter_append->Lx,filter_cons->Ly,filter_nil->Lz,length_filter_le->LA,map_append->LB,map_drop->LC,map_take->LD,take_length->LF
open Decidable renaming decide->L
open Option renaming some->O,none->La,map_eq_some_iff->Lt,map_some->LG
open Int renaming toNat->Lb,fdiv_eq_ediv_of_nonneg->Lo
open Go.IntKind renaming u64->Lh,i64->Lu,u32->Lv
open Go.Proofs.Tryz
namespace Go.Proofs.YtgedmeaemofdkaaGreat
open Go.Sx
def BE(h:Heap)(n k:Int):Heap×Int×Bool:=
 if 0<=first h.P k/\Cm h.P+k<=CU h.C then(⟨h.C,h.W,(GG h.C h.P (first h.P k) h.S n).1,h.S,h.B⟩,4096+first h.P k*h.C.pw,Y)else(B6,0,M)
def Z4n(h:Heap)(n k:Int)(q:Z8 h=Y)(hk:k=need h.C n)(l:1<=k):GP 167 [h.av,int n,int k] M (.tu [(BE h n k).1.av,u64 (BE h n k).2.1,bool (BE h n k).2.2]) []:=by
 have r:=B1 q;obtain⟨g,o2,o3,o4,o5,o6,o7,o8,o9⟩:=r;have hr:=Z35 h.P k;have c:0<=first h.P k->first h.P k+k<=h.P.length:=λi=>(HL i).2.1
 have j:=Z9c h.P;have m:=Z7Q g;have p:=DJ h.C n;have o:0<=first h.P k->0<=first h.P k*h.C.pw/\first h.P k*h.C.pw+h.C.pw<=4096:=λf=>HI g f (by have:=c f;omega)
 by_cases a:0<=first h.P k/\Cm h.P+k<=CU h.C
 have b:BE h n k=(⟨h.C,h.W,(GG h.C h.P (first h.P k) h.S n).1,h.S,h.B⟩,4096+first h.P k*h.C.pw,Y):=by rw[BE,if_pos a]
 rw[show BE h n k=(Heap.mk h.C h.W (GG h.C h.P (first h.P k) h.S n).1 h.S h.B,(4096:Int)+first h.P k*h.C.pw,Y)from by rw[b]];let d:=!decide (first h.P k<0);exact gF [] func167 [] (Fc 13 (@Dr h.P k oq) (FcG 19 d (λa=>by(try simp only[bs]at a);exact@TW h.P oq) (FiG 21 d ((↑(Cm h.P):Int)+k) (FcG 24 d (λa=>by(try simp only[bs]at a);exact@MR h.C) (Ffb 26 (L (first h.P k<0)||L (CU h.C<(↑(Cm h.P):Int)+k)) (Fc 37 (@ZcC h.C h.P (first h.P k) h.S n oq) (Fi 46 (first h.P k*h.C.pw) (Fi 47 (4096+first h.P k*h.C.pw) (Fv 48 (4096+first h.P k*h.C.pw) Fz)))))))));have b:BE h n k=(B6,0,M):=by rw[BE,if_neg a]
 rw[b];let e:=!decide (first h.P k<0);exact gF [] func167 [] (Fc 13 (@Dr h.P k oq) (FcG 19 e (λa=>by(try simp only[bs]at a);exact@TW h.P oq) (FiG 21 e ((↑(Cm h.P):Int)+k) (FcG 24 e (λa=>by(try simp only[bs]at a);exact@MR h.C) (Ftb 26 (L (first h.P k<0)||L (CU h.C<(↑(Cm h.P):Int)+k)) (Fnl (Fnl Fz)))))))
def Zjl{h:Heap}{n:Int}(g:Z8 h=Y)(hn:1<=n/\n<=256):0<=(Be h n).2.1/\(Be h n).2.1<=8192/\((Be h n).2.2=Y->(Be h n).1.W=h.W/\4096<=(Be h n).2.1)/\((Be h n).2.2=M->(Be h n).1=B6):=by
 obtain⟨m,o2,o3,o4,o5,o6,o7,o8,q⟩:=B1 g;have hb:=(Ic.1 g).2.2.2.2.1;have i:=λp=>Eb g (j:=h.B.toNat) p;have a:=λc=>Nx (h:=h) q c;have d:0<=h.B->0<=h.B*h.C.pw/\h.B*h.C.pw+h.C.pw<=4096:=λb=>HI m b oq;have f:0<=first h.P 1->0<=first h.P 1*h.C.pw/\first h.P 1*h.C.pw+h.C.pw<=4096:=λb=>HI m b (by have:=a b;omega)
 unfold Be;split;rename_i c;unfold IR at c;have o:=d c.1;have k:=i oq;refine⟨by simp only;omega,by simp only;omega,λ_=>⟨rfl,by simp only;omega⟩,λe=>by cases e⟩;split;rename_i l;have o:=f l.1;have k:=congrArg Z0.U (a l.1).2.2.2;simp only at k;refine⟨by simp only;omega,by simp only;omega,λ_=>⟨rfl,by simp only;omega⟩,λe=>by cases e⟩;exact⟨by simp,by simp,(λe=>nomatch e),λ_=>rfl⟩
def Zhw{h:Heap}{n k}(b:Z8 h=Y):0<=(BE h n k).2.1/\(BE h n k).2.1<=8192/\((BE h n k).2.2=Y->(BE h n k).1.W=h.W/\4096<=(BE h n k).2.1)/\((BE h n k).2.2=M->(BE h n k).1=B6):=by obtain⟨d,o2,o3,o4,o5,o6,o7,o8,o9⟩:=B1 b;unfold BE;split;rename_i a;have h3:=(HL a.1);have h1:=HI (c:=h.C) (i:=first h.P k) d a.1 oq;exact⟨by simp only;omega,by simp only;omega,λ_=>⟨rfl,by simp only;omega⟩,λe=>by cases e⟩;exact⟨by simp,by simp,(λe=>nomatch e),λ_=>rfl⟩
def Ca(h:Heap)(a:Zy):Heap×Int×Bool:=if 0<need h.C (Z5 a)then BE h (Z5 a) (need h.C (Z5 a))else Be h (Z5 a)
def ZT(h:Heap)(a:Zy):Heap×Int×Int:=
 if Z8 h=Y/\EP h.C a=Y then(if(Ca h a).2.2=Y then((BI (Ca h a).1 (Ca h a).2.1 a).1,(Ca h a).2.1,0)else(B6,0,3))else(B6,0,1)
def AX:Zx []:=λw h=>by simp at h
def DI{c}{a:Zy}(h:EP c a=Y):ZR a=Y/\1<=Z5 a/\Z5 a<=256/\0<=need c (Z5 a)/\a.K≠0:=by
 simp only[EP,Lg,decide_eq_true_eq]at h;have hv:=Gf.1 h.1.1;have hn:=DJ c (Z5 a);have hs:Z5 a=a.length+1:=by rw[Z5,if_pos h.1.1]
 exact⟨h.1.1,by omega,by omega,by omega,h.1.2⟩
def Z3J(h:Heap)(a:Zy)(p:Zx h.W)(hm:0<=a.map/\a.map<=4294967295):GP 114 [h.av,a.av] M (.tu [(ZT h a).1.av,u64 (ZT h a).2.1,int (ZT h a).2.2]) []:=by
 by_cases f:Z8 h=Y;cases ha:EP h.C a with
 |false =>
  have b:ZT h a=(B6,0,1):=by rw[ZT,if_neg (by rw[ha];simp)]
  rw[b];exact gF [] func114 [] (Fc 13 (@CH h) (FcG 19 (!!Z8 h) (λd=>by(try simp only[bs]at d);exact@AR h.C a aa) (Fts 21 (!Z8 h||!EP h.C a) (Fnl (Fnl Fz)))))
 |true =>
  obtain⟨a1,q,r,a4,a5⟩:=DI ha;have l:=Zjl f ⟨q,r⟩;have m:=Zhw (n:=Z5 a) (k:=need h.C (Z5 a)) f;have w1:Zx (Be h (Z5 a)).1.W:=by
   cases e:(Be h (Z5 a)).2.2 with|true=>rw[(l.2.2.1 e).1];exact p|false=>rw[l.2.2.2 e];exact AX
  have w2:Zx (BE h (Z5 a) (need h.C (Z5 a))).1.W:=by
   cases e:(BE h (Z5 a) (need h.C (Z5 a))).2.2 with|true=>rw[(m.2.2.1 e).1];exact p|false=>rw[m.2.2.2 e];exact AX
  by_cases o:0<need h.C (Z5 a);have b:Ca h a=BE h (Z5 a) (need h.C (Z5 a)):=by rw[Ca,if_pos o]
  have i {h_ c_ p_} (g:Fq h_ c_ p_):=Fc 13 (@CH h) (FcG 19 (!!Z8 h) (λd=>by(try simp only[bs]at d);exact@AR h.C a aa) (Ffs 21 (!Z8 h||!EP h.C a) (Fc 24 (@Ib a aa) (Fc 28 (@Ru h.C (Z5 a)) (Fc 32 (@O3 h (Z5 a) aa oq) (Ftb 37 (L (0<need h.C (Z5 a))) (Fc 42 (@Z4n h (Z5 a) (need h.C (Z5 a)) aa (by rfl) aa) g)))))));rcases bb (!(BE h (Z5 a) (need h.C (Z5 a))).2.2)with hc0|hc0<;>have c:=hc0<;>simp only[bs]at c;exact gF [] func114 (fO 5) (i (Ft 47 hc0 (Fnl (Fnl (Fa (by simp[ZT,b,B6, *]:0=(ZT h a).1.C.pw) (Fa (by simp[ZT,b,B6, *]:0=(ZT h a).1.C.pg) (Fa (by simp[ZT,b,B6, *]:[]=Z wdv (ZT h a).1.W) (Fa (by simp[ZT,b,B6, *]:[]=Z Z0.dv (ZT h a).1.P) (Fa (by simp[ZT,b,B6, *]:0=(ZT h a).1.S) (Fa (by simp[ZT,b,B6, *]:0=(ZT h a).1.B) (Fa (by simp[ZT,b,B6, *]:0=(ZT h a).2.1) (Fa (by simp[ZT,b,B6, *]:3=(ZT h a).2.2) Fz))))))))))));rw[show ZT h a=((BI (BE h (Z5 a) (need h.C (Z5 a))).1 (BE h (Z5 a) (need h.C (Z5 a))).2.1 a).1,(BE h (Z5 a) (need h.C (Z5 a))).2.1,(0:Int))from by simp[ZT,b,B6, *]];exact gF [] func114 [] (i (Ff 47 hc0 (Fc 53 (@Z6F ((BE h (Z5 a) (need h.C (Z5 a))).1) ((BE h (Z5 a) (need h.C (Z5 a))).2.1) a aa oq aa) Fz)));have b:Ca h a=Be h (Z5 a):=by rw[Ca,if_neg o]
  have j {h_ c_ p_} (g:Fq h_ c_ p_):=Fc 13 (@CH h) (FcG 19 (!!Z8 h) (λd=>by(try simp only[bs]at d);exact@AR h.C a aa) (Ffs 21 (!Z8 h||!EP h.C a) (Fc 24 (@Ib a aa) (Fc 28 (@Ru h.C (Z5 a)) (Fc 32 (@O3 h (Z5 a) aa oq) (Ffb 37 (L (0<need h.C (Z5 a))) g))))));rcases bb (!(Be h (Z5 a)).2.2)with hc0|hc0<;>have c:=hc0<;>simp only[bs]at c;exact gF [] func114 (fO 5) (j (Ft 47 hc0 (Fnl (Fnl (Fa (by simp[ZT,b,B6, *]:0=(ZT h a).1.C.pw) (Fa (by simp[ZT,b,B6, *]:0=(ZT h a).1.C.pg) (Fa (by simp[ZT,b,B6, *]:[]=Z wdv (ZT h a).1.W) (Fa (by simp[ZT,b,B6, *]:[]=Z Z0.dv (ZT h a).1.P) (Fa (by simp[ZT,b,B6, *]:0=(ZT h a).1.S) (Fa (by simp[ZT,b,B6, *]:0=(ZT h a).1.B) (Fa (by simp[ZT,b,B6, *]:0=(ZT h a).2.1) (Fa (by simp[ZT,b,B6, *]:3=(ZT h a).2.2) Fz))))))))))));rw[show ZT h a=((BI (Be h (Z5 a)).1 (Be h (Z5 a)).2.1 a).1,(Be h (Z5 a)).2.1,(0:Int))from by simp[ZT,b,B6, *]];exact gF [] func114 [] (j (Ff 47 hc0 (Fc 53 (@Z6F ((Be h (Z5 a)).1) ((Be h (Z5 a)).2.1) a aa oq aa) Fz)))
 have s:Z8 h=M:=by simpa using f
 have b:ZT h a=(B6,0,1):=by rw[ZT,if_neg (by rw[s];simp)]
 rw[b];exact gF [] func114 [] (Fc 13 (@CH h) (FcG 19 (!!Z8 h) (λd=>by(try simp only[bs]at d);exact@AR h.C a aa) (Fts 21 (!Z8 h||!EP h.C a) (Fnl (Fnl Fz)))))
def Sc(h:Zy)(hm:0<=h.map/\h.map<=4294967295):GP 120 [h.av] Y (bool (ZR h)) []:=by
 have hs:=λq=>Z7h (n:=h.length) q;have ho:0<=h.length->h.length<=32->ones h.length=2^h.length.toNat-1:=λh0 h1=>by rw[ones,Nat.min_eq_left oq]
 rcases Lm (L (h.K<(0:Int))||L ((3:Int)<h.K)||L (h.length<(0:Int))||L ((255:Int)<h.length))with hc0|hc0;have a:=hc0;simp only[bs]at a;refine Zc [((20:Nat),[Hint.br Y])] [] [] dd func120 [M,M,M,M,M,M,M,M,M,Y] (φ:=(L (h.K<(0:Int))||L ((3:Int)<h.K)||L (h.length<(0:Int))||L ((255:Int)<h.length))=Y/\Y=Y/\M=ZR h) ?_ kr kr;exact⟨aa,rfl,(by(simp[ZR, *];omega))⟩;have a:=hc0;simp only[bs]at a;obtain⟨⟨⟨c,d⟩,e⟩,f⟩:=a;rcases Lm (h.K==(1:Int))with hc1|hc1;have b:=hc1;simp only[bs]at b;refine Zc [((20:Nat),[Hint.br M]),((23:Nat),[Hint.br Y]),((30:Nat),[Hint.int h.map]),((33:Nat),[Hint.call Y (u64 (ones h.length)) []])] [] [] dd func120 [M,M,M,M,M,M,M,M,M,M,M,M,M,M,M,M,Y] (φ:=(L (h.K<(0:Int))||L ((3:Int)<h.K)||L (h.length<(0:Int))||L ((255:Int)<h.length))=M/\M=M/\(h.K==(1:Int))=Y/\Y=Y/\(L (h.length<=(32:Int))=Y->Lh.wrap h.map=h.map)/\(L (h.length<=(32:Int))=Y->GP 170 [int h.length] Y (u64 (ones h.length)) [])/\(L (h.length<=(32:Int))&&L (h.map<=ones h.length))=ZR h) ?_ kr kr;exact⟨aa,rfl,aa,rfl,(by intro g;(try simp only[bs]at g);exact BB rfl oq oq),(λg=>by(try simp only[bs]at g);exact@Rc (h.length)),(by grind[ZR])⟩;have b:=hc1;simp only[bs]at b;refine Zc [((20:Nat),[Hint.br M]),((23:Nat),[Hint.br M])] [] [] dd func120 [M,M,M,M,M,M,M,M,M,Y] (φ:=(L (h.K<(0:Int))||L ((3:Int)<h.K)||L (h.length<(0:Int))||L ((255:Int)<h.length))=M/\M=M/\(h.K==(1:Int))=M/\M=M/\(h.K==h.K&&(h.length==h.length&&h.map==(0:Int)))=ZR h) ?_ kr kr;exact⟨aa,rfl,aa,rfl,(by grind[ZR])⟩
def EK(h:Zy)(hm:0<=h.map/\h.map<=4294967295):GP 69 [h.av] Y (int (Z5 h)) []:=by rcases Lm (!ZR h)with hc0|hc0;have a:=hc0;simp only[bs]at a;refine Zc [((4:Nat),[Hint.call Y (Sx.bool (ZR h)) []]),((5:Nat),[Hint.br Y])] [] [] dd func69 [Y] (φ:=GP 120 [h.av] Y (Sx.bool (ZR h)) []/\(!ZR h)=Y/\Y=Y/\(0:Int)=Z5 h) ?_ kr kr;exact⟨(@Sc (h) aa),aa,rfl,(by simp[Z5, *])⟩;have a:=hc0;simp only[bs]at a;have e:=Gf.1 a;obtain⟨g,⟨f,⟨d,⟨b,c⟩⟩⟩⟩:=e;refine Zc [((4:Nat),[Hint.call Y (Sx.bool (ZR h)) []]),((5:Nat),[Hint.br M]),((8:Nat),[Hint.int (h.length+(1:Int))])] [] [] dd func69 [Y] (φ:=GP 120 [h.av] Y (Sx.bool (ZR h)) []/\(!ZR h)=M/\M=M/\Lu.wrap (h.length+(1:Int))=h.length+(1:Int)/\h.length+(1:Int)=Z5 h) ?_ kr kr;exact⟨(@Sc (h) aa),aa,rfl,(by exact Ze rfl oq oq),(by simp[Z5, *])⟩
def To(ws:List Int)(a n:Int)(hw:ws.length<=1048576)(h0:0<=a/\a<=18446744073709551615):GP 169 [Z3 ws,u64 a,int n] Y (.tu [int (Zw ws a n).1,bool (Zw ws a n).2]) []:=by have e {h_ c_ p_} (f:Fq h_ c_ p_):=FvG 13 (!decide (a<4096)) (a-4096) (FlG 15 (!decide (a<4096)) wdv ws (FvG 16 (!decide (a<4096)) (↑ws.length) f));rcases bb (L (a<4096)||L ((ws.length:Int)<a-4096))with hc0|hc0<;>have b:=hc0<;>simp only[bs]at b;rw[show Zw ws a n=((0:Int),M)from by(simp[Zw, *];omega)];exact gF [] func169 [] (e (Ft 18 hc0 Fz));obtain⟨c,d⟩:=b;rw[show Zw ws a n=(a-(4096:Int),L (n<=(ws.length:Int)-(a-(4096:Int))))from by(simp[Zw, *];omega)];exact gF [] func169 [] (e (Ff 18 hc0 (Fv 20 (a-4096) (Fi 21 (a-4096) (Fl 25 wdv ws (Fi 27 ((ws.length:Int)-(a-4096)) Fz))))))
def Z8A(ws:List Int)(a:Int)(hw:ws.length<=1048576)(h0:0<=a/\a<=18446744073709551615):GP 163 [Z3 ws,u64 a] Y (.tu [int (Cc ws a).1,int (Cc ws a).2]) []:=by have c {h_ c_ p_} (d:Fq h_ c_ p_):=Fc 11 (@To ws a (1) aa aa) d;rcases bb (!(Zw ws a 1).2)with hc0|hc0<;>have b:=hc0<;>simp only[bs]at b;rw[show Cc ws a=((0:Int),(2:Int))from by grind[Zw,Cc]];exact gF [] func163 [] (c (Ft 15 hc0 Fz));rw[show Cc ws a=((Zw ws a (1:Int)).1,(0:Int))from by grind[Zw,Cc]];exact gF [] func163 [] (c (Ff 15 hc0 Fz))
def Pp(ws:List Int)(a:Int)(hw:ws.length<=1048576)(h0:0<=a/\a<=18446744073709551615):GP 111 [Z3 ws,u64 a] Y (.tu [u64 (Z1 ws a).1,int (Z1 ws a).2]) []:=by rcases bb ((Cc ws a).2 != 0)with hc0|hc0<;>have b:=hc0<;>simp only[bs]at b;have c:=Z7K b;obtain⟨g,h⟩:=c;rw[show Z1 ws a=((0:Int),(Cc ws a).2)from by simp[Z1, *]];exact gF [] func111 [] (Fc 11 (@Z8A ws a aa aa) (Ft 15 hc0 Fz));have d:=Z7n b;obtain⟨i,⟨e,f⟩⟩:=d;rw[show Z1 ws a=(ws.getD (Cc ws a).1.toNat X,(0:Int))from by simp[Z1, *]];refine Zc [((11:Nat),[Hint.call Y (AV.tu [int (Cc ws a).1,int (Cc ws a).2]) []]),((15:Nat),[Hint.br M]),((19:Nat),[Hint.el (wdv (ws.getD (Cc ws a).1.toNat X))])] [] [] dd func111 [] (φ:=GP 163 [Z3 ws,u64 a] Y (AV.tu [int (Cc ws a).1,int (Cc ws a).2]) []/\((Cc ws a).2 != (0:Int))=M/\M=M/\(0:Int)<=(Cc ws a).1/\(Z wdv ws)[(Cc ws a).1.toNat]?=O (wdv (ws.getD (Cc ws a).1.toNat X))) ?_ kr kr;exact⟨(@Z8A (ws) (a) aa aa),aa,rfl,(by exact Zk oq oq oq)⟩
def BC(w:Int):Nat->Int|0=>w|1=>w/4|2=>w/16|3=>w/65536|_=>w/281474976710656
def ZQ(w:Int):List Int:=[w%4,w/4%4,w/16%4096,w/65536%4294967296]
def Z01(w:Int)(i:Nat):Tg:=⟨tm 49 [(0,u64 w),(1,ZE [2,2,12,32]),(4,.d (.sl 0 [])),(5,int 0),(6,int ([64,62,60,48,16].getD i 0)),(12,ZE [2,2,12,32]),(13,int 4),(14,int i)],[],20⟩
def Zgj w(i:Nat)(hi:i<4):CP (Zm f201 0) (Z01 w i).st .nrm (Z01 w (i+1)).st:=by
 have h:i=0\/i=1\/i=2\/i=3:=by omega
 rcases h with rfl|rfl|rfl|rfl;refine Zg [((16:Nat),[Hint.el (idv (2:Int))])] [] [] [] (φ:=(0:Int)<=(↑(0:Nat):Int)/\(Z idv [(2:Int),(2:Int),(12:Int),(32:Int)])[(↑(0:Nat):Int).toNat]?=O (idv (2:Int))) ?_ kr kr kr;exact(by simp[*]);refine Zg [((16:Nat),[Hint.el (idv (2:Int))])] [] [] [] (φ:=(0:Int)<=(↑(1:Nat):Int)/\(Z idv [(2:Int),(2:Int),(12:Int),(32:Int)])[(↑(1:Nat):Int).toNat]?=O (idv (2:Int))) ?_ kr kr kr;exact(by simp[*]);refine Zg [((16:Nat),[Hint.el (idv (12:Int))])] [] [] [] (φ:=(0:Int)<=(↑(2:Nat):Int)/\(Z idv [(2:Int),(2:Int),(12:Int),(32:Int)])[(↑(2:Nat):Int).toNat]?=O (idv (12:Int))) ?_ kr kr kr;exact(by simp[*]);refine Zg [((16:Nat),[Hint.el (idv (32:Int))])] [] [] [] (φ:=(0:Int)<=(↑(3:Nat):Int)/\(Z idv [(2:Int),(2:Int),(12:Int),(32:Int)])[(↑(3:Nat):Int).toNat]?=O (idv (32:Int))) ?_ kr kr kr;exact(by simp[*])
def Zdr w:CP (Zm f201 0) (Z01 w 4).st (.ext 0) (Tg.st ⟨tm 49 [(0,u64 w),(1,ZE [2,2,12,32]),(4,.d (.sl 0 [])),(5,int 0)],[],60⟩):=by exact sF [] [] Fz
def Z5K(w:Int)  := Br (S:=λi=>(Z01 w i).st) 4 (by kernel_rfl) (λi a=>Zgj w i a) (Zdr w)
def Z0s(w:Int)(i:Nat):Tg:=⟨tm 49 [(0,u64 (BC w i)),(4,.d (.sl 0 [])),(5,int 0),(9,.ow 480009),(29,ZE [2,2,12,32]),(30,int 4),(31,int i)],[(480009,.arr 35 1 (((ZQ w).take i).map wdv))],60⟩
def Zfj(w:Int)(i:Nat)(h0:0<=w)(h1:w<=18446744073709551615)(hi:i<4):CP (Zm f201 2) (Z0s w i).st .nrm (Z0s w (i+1)).st:=by
 have o1:ones 2=3:=by decide
 have o2:ones 12=4095:=by decide
 have o3:ones 32=4294967295:=by decide
 have a0:bits .and .u64 w (ones 2)=w%4:=by rw[o1];exact NH 2 dd dd oq oq
 have a1:bits .and .u64 (w/4) (ones 2)=w/4%4:=by rw[o1];exact NH 2 dd dd oq oq
 have a2:bits .and .u64 (w/16) (ones 12)=w/16%4096:=by rw[o2];exact NH 12 dd dd oq oq
 have a3:bits .and .u64 (w/65536) (ones 32)=w/65536%4294967296:=by rw[o3];exact NH 32 dd dd oq oq
 have f1:(w/4).fdiv 4=w/16:=by rw[Lo _ dd];omega
 have f2:(w/16).fdiv 4096=w/65536:=by rw[Lo _ dd];omega
 have f3:(w/65536).fdiv 4294967296=w/281474976710656:=by rw[Lo _ dd];omega
 have h:i=0\/i=1\/i=2\/i=3:=by omega
 rcases h with rfl|rfl|rfl|rfl;exact sF [(496041,480009)] [] (Fh 33 [.el (idv 2)] (Fa (by simp[BC,ZQ, *]:0<=(↑(0:Nat):Int)/\(Z idv [2,2,12,32])[(↑(0:Nat):Int).toNat]?=O (idv 2)) (Fc 38 (@Rc (2)) (Fg 39 (by assumption:bits BinOp.and Lh (BC w 0) (ones (2:Int))=BC w 0%4) (Fs 40 (Z wdv [BC w 0%4]) (Fa (by simp[BC,ZQ, *]:(Z wdv (Ld 0 (ZQ w))).length+(Z wdv [BC w 0%4]).length<=2^30) (Fs 41 (Z wdv [BC w 0%4]) (Fg 44 (by exact Hv rfl dd:(BC w 0).fdiv (2^min (Lb 2) 64)=BC w 0/4) (Fo ((0:Int)<=2) Fz)))))))));exact sF [(496041,480009)] [Y] (Fh 33 [.el (idv 2)] (Fa (by simp[BC,ZQ, *]:0<=(↑(1:Nat):Int)/\(Z idv [2,2,12,32])[(↑(1:Nat):Int).toNat]?=O (idv 2)) (Fc 38 (@Rc (2)) (Fg 39 (by assumption:bits BinOp.and Lh (BC w 1) (ones (2:Int))=BC w 1%4) (Fs 40 (Z wdv [BC w 1%4]) (Fa (by simp[BC,ZQ, *]:(Z wdv (Ld 1 (ZQ w))).length+(Z wdv [BC w 1%4]).length<=2^30) (Fs 41 (Z wdv [w%4,BC w 1%4]) (Fg 44 (by exact Hv rfl dd:(BC w 1).fdiv (2^min (Lb 2) 64)=BC w 1/4) (Fo ((0:Int)<=2) (Fa (by(simp[BC,ZQ, *];omega):BC w 1/4=BC w (1+1)) Fz))))))))));exact sF [(496041,480009)] [Y] (Fh 33 [.el (idv 12)] (Fa (by simp[BC,ZQ, *]:0<=(↑(2:Nat):Int)/\(Z idv [2,2,12,32])[(↑(2:Nat):Int).toNat]?=O (idv 12)) (Fc 38 (@Rc (12)) (Fg 39 (by assumption:bits BinOp.and Lh (BC w 2) (ones (12:Int))=BC w 2%4096) (Fs 40 (Z wdv [BC w 2%4096]) (Fa (by simp[BC,ZQ, *]:(Z wdv (Ld 2 (ZQ w))).length+(Z wdv [BC w 2%4096]).length<=2^30) (Fs 41 (Z wdv [w%4,w/4%4,BC w 2%4096]) (Fg 44 (by exact Hv rfl dd:(BC w 2).fdiv (2^min (Lb 12) 64)=BC w 2/4096) (Fo ((0:Int)<=12) (Fa (by(simp[BC,ZQ, *];omega):BC w 2/4096=BC w (2+1)) Fz))))))))));exact sF [(496041,480009)] [Y] (Fh 33 [.el (idv 32)] (Fa (by simp[BC,ZQ, *]:0<=(↑(3:Nat):Int)/\(Z idv [2,2,12,32])[(↑(3:Nat):Int).toNat]?=O (idv 32)) (Fc 38 (@Rc (32)) (Fg 39 (by assumption:bits BinOp.and Lh (BC w 3) (ones (32:Int))=BC w 3%4294967296) (Fs 40 (Z wdv [BC w 3%4294967296]) (Fa (by simp[BC,ZQ, *]:(Z wdv (Ld 3 (ZQ w))).length+(Z wdv [BC w 3%4294967296]).length<=2^30) (Fs 41 (Z wdv [w%4,w/4%4,w/16%4096,BC w 3%4294967296]) (Fg 44 (by exact Hv rfl dd:(BC w 3).fdiv (2^min (Lb 32) 64)=BC w 3/4294967296) (Fo ((0:Int)<=32) (Fa (by(simp[BC,ZQ, *];omega):BC w 3/4294967296=BC w (3+1)) Fz))))))))))
def ZeV w:CP (Zm f201 2) (Z0s w 4).st (.ext 2) (Tg.st ⟨tm 49 [(0,u64 (w/281474976710656)),(4,.d (.sl 0 [])),(5,int 0),(9,.ow 480009)],[(480009,.arr 35 1 ((ZQ w).map wdv))],60⟩):=by exact sF [] [] Fz
def Z7B(w:Int)(a:0<=w)(b:w<=18446744073709551615)  := Br (S:=λi=>(Z0s w i).st) 4 (by kernel_rfl) (λi c=>Zfj w i a b c) (ZeV w)
def Z2K(w:Int)(h0:0<=w)(h1:w<=18446744073709551615)(h:w<281474976710656):GP 201 [u64 w,ZE [2,2,12,32]] Y (.tu [Z3 (ZQ w),int 0]) []:=by exact gF [] func201 [] (Fh 9 [.own] (Fu (@Z5K w) (Fu (@Z7B w aa aa) (Ffb 47 (w/(281474976710656:Int) != 0) (Fa (by exact Hd _:Ci (Z wdv (ZQ w))) Fz)))))
def Zeg(w:Int)(h0:0<=w)(h1:w<=18446744073709551615)(h:¬ w<281474976710656):GP 201 [u64 w,ZE [2,2,12,32]] Y (.tu [Z3 [],int 2]) []:=by exact gF [] func201 [] (Fh 9 [.own] (Fu (@Z5K w) (Fu (@Z7B w aa aa) (Ftb 47 (w/(281474976710656:Int) != 0) (Fnl Fz)))))
def Zgw(w:Int)(h0:0<=w):Z6 w=if w<281474976710656/\w%4=1/\ZR (EL w)=Y then(EL w,Y)else(CX,M):=by
 have k1:(EL w).K=w/4%4:=rfl;have k2:(EL w).length=w/16%4096:=rfl;have k3:(EL w).map=w/65536%4294967296:=rfl;by_cases hv:ZR (EL w)=Y;have e:Zt (EL w)=(1+4*(EL w).K+16*(EL w).length+65536*(EL w).map,0):=by rw[Zt,if_pos hv]
 by_cases hc:w<281474976710656/\w%4=1;rw[Z6,e,if_pos ⟨rfl,by simp only;omega⟩,if_pos ⟨hc.1,hc.2,hv⟩];rw[Z6,e,if_neg (by simp only;omega),if_neg (λq=>hc ⟨q.1,q.2.1⟩)];have e:Zt (EL w)=(0,1):=by rw[Zt,if_neg hv]
 rw[Z6,e,if_neg pq,if_neg (λq=>hv q.2.2)]
def H7(w:Int)(h0:0<=w)(h1:w<=18446744073709551615):GP 161 [u64 w] Y (.tu [(Z6 w).1.av,bool (Z6 w).2]) []:=by have hm:=Z0R w h0;rw[Zgw w h0];have u0:(ZQ w).getD 0 X=w%4:=rfl;have u1:(ZQ w).getD 1 X=w/4%4:=rfl;have u2:(ZQ w).getD 2 X=w/16%4096:=rfl;have u3:(ZQ w).getD 3 X=w/65536%4294967296:=rfl;have uL:(ZQ w).length=4:=rfl;have k1:(EL w).K=w/4%4:=rfl;have k2:(EL w).length=w/16%4096:=rfl;have k3:(EL w).map=w/65536%4294967296:=rfl;by_cases ha:w<281474976710656;by_cases hb:w%4=1;by_cases hv:ZR (EL w)=Y;rw[if_pos ⟨ha,hb,hv⟩];have hv2:ZR ⟨w/4%4,w/16%4096,w/65536%4294967296⟩=Y:=hv;exact gF [] func161 [] (Fh 17 [.el (wdv ((ZQ w).getD 0 X))] (Fh 23 [.el (wdv ((ZQ w).getD 1 X))] (Fh 27 [.el (wdv ((ZQ w).getD 2 X))] (Fh 31 [.el (wdv ((ZQ w).getD 3 X))] (Fs 9 (Z idv [2,2,12,32]) (Fc 10 (@Z2K w aa aa aa) (Fa (by intro hg;(try simp only[bs]at hg);exact Zk oq oq oq:(!(0:Int) != 0)=Y->(0:Int)<=0/\(Z wdv (ZQ w))[Lb 0]?=O (wdv ((ZQ w).getD 0 X))) (Ffb 20 ((ZQ w).getD 0 X != 1) (Fa (by exact Zk oq oq oq:(0:Int)<=1/\(Z wdv (ZQ w))[Lb 1]?=O (wdv ((ZQ w).getD 1 X))) (Fi 25 ((ZQ w).getD 1 X) (Fa (by exact Zk oq oq oq:(0:Int)<=2/\(Z wdv (ZQ w))[Lb 2]?=O (wdv ((ZQ w).getD 2 X))) (Fi 29 ((ZQ w).getD 2 X) (Fa (by exact Zk oq oq oq:(0:Int)<=3/\(Z wdv (ZQ w))[Lb 3]?=O (wdv ((ZQ w).getD 3 X))) (Fg 33 (by exact O2 oq oq:Lv.wrap ((ZQ w).getD 3 X)=(ZQ w).getD 3 X) (Fc 36 (@Sc (Zy.mk ((ZQ w).getD 1 X) ((ZQ w).getD 2 X) ((ZQ w).getD 3 X)) aa) (Ffs 37 (!ZR (Zy.mk ((ZQ w).getD 1 X) ((ZQ w).getD 2 X) ((ZQ w).getD 3 X))) Fz))))))))))))))));rw[if_neg (by simp[hv])];have hv':ZR ⟨w/4%4,w/16%4096,w/65536%4294967296⟩=M:=eq_false_of_ne_true hv;exact gF [] func161 [] (Fh 17 [.el (wdv ((ZQ w).getD 0 X))] (Fh 23 [.el (wdv ((ZQ w).getD 1 X))] (Fh 27 [.el (wdv ((ZQ w).getD 2 X))] (Fh 31 [.el (wdv ((ZQ w).getD 3 X))] (Fs 9 (Z idv [2,2,12,32]) (Fc 10 (@Z2K w aa aa aa) (Fa (by intro hg;(try simp only[bs]at hg);exact Zk oq oq oq:(!(0:Int) != 0)=Y->(0:Int)<=0/\(Z wdv (ZQ w))[Lb 0]?=O (wdv ((ZQ w).getD 0 X))) (Ffb 20 ((ZQ w).getD 0 X != 1) (Fa (by exact Zk oq oq oq:(0:Int)<=1/\(Z wdv (ZQ w))[Lb 1]?=O (wdv ((ZQ w).getD 1 X))) (Fi 25 ((ZQ w).getD 1 X) (Fa (by exact Zk oq oq oq:(0:Int)<=2/\(Z wdv (ZQ w))[Lb 2]?=O (wdv ((ZQ w).getD 2 X))) (Fi 29 ((ZQ w).getD 2 X) (Fa (by exact Zk oq oq oq:(0:Int)<=3/\(Z wdv (ZQ w))[Lb 3]?=O (wdv ((ZQ w).getD 3 X))) (Fg 33 (by exact O2 oq oq:Lv.wrap ((ZQ w).getD 3 X)=(ZQ w).getD 3 X) (Fc 36 (@Sc (Zy.mk ((ZQ w).getD 1 X) ((ZQ w).getD 2 X) ((ZQ w).getD 3 X)) aa) (Fts 37 (!ZR (Zy.mk ((ZQ w).getD 1 X) ((ZQ w).getD 2 X) ((ZQ w).getD 3 X))) Fz))))))))))))))));rw[if_neg (by simp[hb])];exact gF [] func161 [] (Fh 17 [.el (wdv ((ZQ w).getD 0 X))] (Fs 9 (Z idv [2,2,12,32]) (Fc 10 (@Z2K w aa aa aa) (Fa (by intro hg;(try simp only[bs]at hg);exact Zk oq oq oq:(!(0:Int) != 0)=Y->(0:Int)<=0/\(Z wdv (ZQ w))[Lb 0]?=O (wdv ((ZQ w).getD 0 X))) (Ftb 20 ((ZQ w).getD 0 X != 1) Fz)))));rw[if_neg (by simp[ha])];exact gF [] func161 [] (Fh 17 [.el (wdv ([].getD 0 X))] (Fs 9 (Z idv [2,2,12,32]) (Fc 10 (@Zeg w aa aa aa) (Fa (by intro hg;(try simp only[bs]at hg);exact Zk oq oq oq:(!(2:Int) != 0)=Y->(0:Int)<=0/\(Z wdv [])[Lb 0]?=O (wdv ([].getD 0 X))) Fz))))
end Go.Proofs.YtgedmeaemofdkaaGreat
namespace Go.Sx
def Oh(H:Heap)(x:AV):Option AV:=match x with|.d x=>O (.d x)|.rp e o=>O (.rp e o)|.ow b=>(match Nat.ble 8000 b with|true=>(match H b with|O (.arr _ s els)=>O (.d (.sl s els))|_=>La)|false=>La)|.os b o n=>(match Nat.ble 8000 b with|true=>(match H b with|O (.arr _ s els)=>O (.d (.sl s ((els.drop o).take n)))|_=>La)|false=>La)|_=>La
def ZbE{P f}{e0 e1:List DV}{t0 t1:Nat}{x:Value}(hx:x.oneCell'=Y)(h:GSpec P f [.rp e0 0,.rp e1 0] Y (.d (.sc x)) []) :LentSpec P f [.pt 0 0 0,.pt 1 0 0] [.box t0 (e0.map .d),.box t1 (e1.map .d)] (.d (.sc x)) [.box t0 (e0.map .d),.box t1 (e1.map .d)]:=by
 intro w Im ρ vs a0 a2 hρ a1 c z u;have box:∀(k:Nat) (e:List DV) (t:Nat) (v:Value) (p:Nat->Prop),(∀g,Im g->p g)->(∀β g,ρ k=O β->β.g=O g->p g)->(∃β,ρ k=O β/\RelB ρ w Im β (.box t (e.map .d)))->Zh ρ w Im (.pt k 0 0) v->Zh (λ_=>La) w p (.rp e 0) v:=by
  intro k e t v p hi m hb hv;obtain⟨β,hβ,r⟩:=hb;obtain⟨g,s,n,k1,rfl⟩:=Sk hv rfl;rw[hβ]at k1;cases k1;obtain⟨r1,r2,g2,cs,r3,r4,r5,r6,r7⟩:=r;cases r3;have:=@Zh.rp (λ_=>La) w p e 0 ⟨g,0,La⟩ rfl (m _ _ hβ rfl) (λj y hy=>by
   have hj:j<e.length:=(List.getElem?_eq_some_iff.1 hy).1;have hc:j<cs.size:=by rw[r5];simpa using hj
   have a:cs[j]?=O cs[j]:=Array.getElem?_eq_getElem hc;have l:=r7 j (.d y) cs[j] (by simp[hy]) a;refine⟨cs[j], ?_, ?_⟩;simp only[World.cell?,r4];simpa using a;cases l with
   |d l=>exact l.mono (Ext.refl _ _) hi)
  simpa using this
 refine(h w (λg=>Im g\/∃k β,ρ k=O β/\β.g=O g) vs ?_ a2 ?_).mono ?_;rintro g (m|⟨k,β,a,l⟩);exact a0 g m;exact(c k β g a l).1;intro i y v hy hv;cases i with
 |zero =>simp at hy;subst hy;exact box 0 e0 t0 v _ (λg m=>.inl m) (λβ g a l=>.inr ⟨0,β,a,l⟩) (z 0 _ rfl) (u 0 _ v rfl hv)
 |succ i=>cases i with
  |zero =>
   simp at hy;subst hy;exact box 1 e1 t1 v _ (λg m=>.inl m) (λβ g a l=>.inr ⟨1,β,a,l⟩) (z 1 _ rfl) (u 1 _ v rfl hv)
  |succ i=>simp at hy
 rintro e w' ⟨v,rfl,o,ρ',a3,_,_,_,_,_,_,hr⟩;have hv:=BZ hr;subst hv;have ext:Ext Im w w':=⟨o.size,λg m=>o.block g (a0 g m) (λq=>q),o.rows⟩;refine⟨_,rfl,⟨o.os,o.tape,o.output,o.size,λk a _=>o.block k a (λq=>q),o.rows⟩,ρ,Im,λ_ _ h=>h,hρ,λg m=>.inl m,λg m=>Nat.lt_of_lt_of_le (a0 g m) o.size,
  λk β g a l=>⟨Nat.lt_of_lt_of_le (c k β g a l).1 o.size,.inr ⟨k,β,a,l⟩⟩,λk β g _ a l=>(c k β g a l).2,λk k' β β' g _ _=>a1 k k' β β' g, ?_,.d (.sc _ hx)⟩
 intro k B hB;obtain⟨β,b1,b2⟩:=z k B hB;exact⟨β,b1,b2.mono ext (λ_ h=>h) (λ_ _ h=>h) (λb β g a l=>(c b β g a l).1) (λg m=>o.block g (c k β g b1 m).1 (λq=>q))⟩
def Z1q{P}{f s:Nat}{fr res news}(h:∀(p:Option Addr) (c:Nat),GSpec P f [.d (.sc (.slice p 0 c))] fr res news):GSpec P f [.d (.sl s [])] fr res news:=by
 intro w m g r a y;have h0:g.size=1:=a;obtain⟨v,q⟩:∃v,g[0]?=O v:=⟨g[0]' oq,by simp⟩;have b:∀(p:Option Addr) (c:Nat),v=.slice p 0 c->Calls P f g w λe z=>∃v,e=.returned v/\Ra w m fr res news v z:=λp c e=>by
  refine h p c w m g r a λi x u k o=>?_;match i with|0 =>simp only[List.getElem?_cons_zero,Option.some.injEq]at k;rw[q]at o;cases o;subst k;subst e;exact .d (.sc _ rfl)|i+1=>simp at k
 have j:=y 0 _ v rfl q;cases j with
 |d j =>
  generalize t:([]:List (List DV))=l at j;cases j with|slNil s p c=>exact b p c rfl|sl s els p n c fn a=>subst t;simp at a;subst a;exact b _ c rfl
end Go.Sx
namespace Go.Proofs.YtgedmeaemofdkaaGreat
open Go.Sx
def Heap.dvs(h:Heap):List DV:=[.sc (.int .i64 h.C.pw),.sc (.int .i64 h.C.pg),.sl 1 (h.W.map wdv),.sl 4 (h.P.map Z0.dv),.sc (.int .i64 h.S),.sc (.int .i64 h.B)]
def Zf8(h:Heap)(a:Int)(hl:h.W.length<=1048576)(h0:0<=a/\a<=18446744073709551615):GP 160 [.rp [.sc (.int .i64 h.C.pw),.sc (.int .i64 h.C.pg),.sl 1 (h.W.map wdv),.sl 4 (h.P.map Z0.dv),.sc (.int .i64 h.S),.sc (.int .i64 h.B)] 0,.rp [.sc (.int .u64 a)] 0] Y (u64 (Z1 h.W a).1) []:=by exact gF [] func160 [] (Fc 9 (@Pp h.W a aa aa) Fz)
def IQ(h:Heap)(a:Int)(hl:h.W.length<=1048576)(b:0<=a/\a<=18446744073709551615):LP 160 [.pt 0 0 0,.pt 1 0 0] [.box 28 h.cells,.box 35 [u64 a]] (u64 (Z1 h.W a).1) [.box 28 h.cells,.box 35 [u64 a]]:=
 ZbE (e0:=h.dvs) (e1:=[.sc (.int .u64 a)]) rfl (Zf8 h a hl b)
def Nf(h:Heap)(a:Int)(hw:Zx h.W)(h0:0<=a/\a<=18446744073709551615):GP 109 [h.av,u64 a] Y (.tu [(Z9 h a).1.av,int (Z9 h a).2]) []:=by
 have r:=G4 hw a;have hm:=IH (Z1 h.W a).1 r.1;by_cases l:Z8 h=Y;have x:=B1 l;by_cases i:(Z2 h.C a).2.2=0;have oo:=GH x.1 i;have hz:(Z6 (Z1 h.W a).1).2=Y->Z5 (Z6 (Z1 h.W a).1).1=(Z6 (Z1 h.W a).1).1.length+1/\0<=(Z6 (Z1 h.W a).1).1.length/\(Z6 (Z1 h.W a).1).1.length<=255:=λe=>by(have r:=Z2W e;have:=Gf.1 r;rw[Z5,if_pos r];omega)
 have pp:=Eb l (j:=(Z2 h.C a).1.toNat) oq;by_cases c3:((h.P.getD (Z2 h.C a).1.toNat X).K=1\/(h.P.getD (Z2 h.C a).1.toNat X).K=2)/\(Z2 h.C a).2.1<(h.P.getD (Z2 h.C a).1.toNat X).U/\(Z6 (Z1 h.W a).1).2=Y;have a1:=hz c3.2.2;by_cases c4:((h.P.getD (Z2 h.C a).1.toNat X).K=1/\(h.P.getD (Z2 h.C a).1.toNat X).U<(Z2 h.C a).2.1+Z5 (Z6 (Z1 h.W a).1).1)\/((h.P.getD (Z2 h.C a).1.toNat X).K=2/\((Z2 h.C a).2.1≠0\/Z5 (Z6 (Z1 h.W a).1).1≠(h.P.getD (Z2 h.C a).1.toNat X).U));have g:Z9 h a=(CX,19):=by rw[Z9,if_pos l,if_pos i,if_pos c3,if_pos c4]
 rw[g];have s {h_ c_ p_} (m:Fq h_ c_ p_):=Fc 15 (@Ey h) (Ffb 16 (!Z8 h) (Fc 22 (@Gh h.C a oq oq) (Ffb 27 ((Z2 h.C a).2.2 != 0) (Fe 34 Z0.dv h.P ((Z2 h.C a).1) (Fbq 38 [8002,8003] (@IQ h a oq aa) (Fc 39 (@H7 ((Z1 h.W a).1) oq oq) (Fc 43 (@EK ((Z6 (Z1 h.W a).1).1) aa) m)))))));rcases bb (!(Z6 (Z1 h.W a).1).2||L ((h.P.getD (Z2 h.C a).1.toNat X).U<=(Z2 h.C a).2.1))with hc0|hc0<;>have b:=hc0<;>simp only[bs]at b;exact gF [] func109 [] (Fh 44 [.br Y] (s (Fa hc0 Fz)));obtain⟨d,f⟩:=b;rcases bb ((h.P.getD (Z2 h.C a).1.toNat X).K==1)with hc1|hc1<;>have c:=hc1<;>simp only[bs]at c;let y:=h.P.getD (Z2 h.C a).1.toNat X;exact gF [] func109 [] (Fh 44 [.br M] (Fh 76 [.br Y] (s (Fa hc0 (Fa hc1 (Fi 61 (y.U-(Z2 h.C a).2.1) (Ftb 53 (!decide (Z5 (Z6 (Z1 h.W a).1).1<=y.U-(Z2 h.C a).2.1)) Fz)))))));let z:=h.P.getD (Z2 h.C a).1.toNat X;exact gF [] func109 [] (Fh 44 [.br M] (Fh 53 [.br M] (Fh 76 [.br Y] (s (Fa hc0 (Fa hc1 (Fb ((z.K==2)=Y) (Ftb 63 (!((Z2 h.C a).2.1==0&&Z5 (Z6 (Z1 h.W a).1).1==z.U)) Fz))))))));have g:Z9 h a=((Z6 (Z1 h.W a).1).1,0):=by rw[Z9,if_pos l,if_pos i,if_pos c3,if_neg c4]
 rw[g];have t {h_ c_ p_} (m:Fq h_ c_ p_):=Fc 15 (@Ey h) (Ffb 16 (!Z8 h) (Fc 22 (@Gh h.C a oq oq) (Ffb 27 ((Z2 h.C a).2.2 != 0) (Fe 34 Z0.dv h.P ((Z2 h.C a).1) (Fbq 38 [8002,8003] (@IQ h a oq aa) (Fc 39 (@H7 ((Z1 h.W a).1) oq oq) (Fc 43 (@EK ((Z6 (Z1 h.W a).1).1) aa) m)))))));rcases bb (!(Z6 (Z1 h.W a).1).2||L ((h.P.getD (Z2 h.C a).1.toNat X).U<=(Z2 h.C a).2.1))with hc0|hc0<;>have b:=hc0<;>simp only[bs]at b;exact gF [] func109 (fO 4) (Fh 44 [.br Y] (t (Fa hc0 (Fa (by grind[CX]:0=(Z6 (Z1 h.W a).1).1.K) (Fa (by grind[CX]:0=(Z6 (Z1 h.W a).1).1.length) (Fa (by grind[CX]:0=(Z6 (Z1 h.W a).1).1.map) (Fa (by grind[CX]:(19:Int)=0) Fz)))))));obtain⟨d,f⟩:=b;rcases bb ((h.P.getD (Z2 h.C a).1.toNat X).K==1)with hc1|hc1<;>have c:=hc1<;>simp only[bs]at c;let y2:=h.P.getD (Z2 h.C a).1.toNat X;exact gF [] func109 [] (Fh 53 [.br Y] (Fh 76 [.br M] (t (Fa hc0 (Fa hc1 (Fi 61 (y2.U-(Z2 h.C a).2.1) (Ffb 44 (!decide (Z5 (Z6 (Z1 h.W a).1).1<=y2.U-(Z2 h.C a).2.1)) Fz)))))));let y3:=h.P.getD (Z2 h.C a).1.toNat X;exact gF [] func109 [] (Fh 53 [.br M] (Fh 63 [.br Y] (Fh 76 [.br M] (t (Fa hc0 (Fa hc1 (Fb ((y3.K==2)=Y) (Ffb 44 (!((Z2 h.C a).2.1==0&&Z5 (Z6 (Z1 h.W a).1).1==y3.U)) Fz))))))));have g:Z9 h a=(CX,19):=by rw[Z9,if_pos l,if_pos i,if_neg c3]
 rw[g];have n {h_ c_ p_} (m:Fq h_ c_ p_):=Fc 15 (@Ey h) (Ffb 16 (!Z8 h) (Fc 22 (@Gh h.C a oq oq) (Ffb 27 ((Z2 h.C a).2.2 != 0) (Fe 34 Z0.dv h.P ((Z2 h.C a).1) (Fbq 38 [8002,8003] (@IQ h a oq aa) (Fc 39 (@H7 ((Z1 h.W a).1) oq oq) (Fc 43 (@EK ((Z6 (Z1 h.W a).1).1) aa) m)))))));rcases bb (!(Z6 (Z1 h.W a).1).2||L ((h.P.getD (Z2 h.C a).1.toNat X).U<=(Z2 h.C a).2.1))with hc0|hc0<;>have b:=hc0<;>simp only[bs]at b;exact gF [] func109 [] (Fh 44 [.br Y] (n (Fa hc0 Fz)));obtain⟨d,f⟩:=b;rcases bb ((h.P.getD (Z2 h.C a).1.toNat X).K==1)with hc1|hc1<;>have c:=hc1<;>simp only[bs]at c;have w {h_ c_ p_} (m:Fq h_ c_ p_):=n (Fa hc0 (Fa hc1 (Fi 61 ((h.P.getD (Z2 h.C a).1.toNat X).U-(Z2 h.C a).2.1) m)));rcases bb (!decide (Z5 (Z6 (Z1 h.W a).1).1<=(h.P.getD (Z2 h.C a).1.toNat X).U-(Z2 h.C a).2.1))with hc2|hc2<;>have o:=hc2<;>simp only[bs]at o;exact gF [] func109 [] (Fh 44 [.br M] (Fh 76 [.br Y] (w (Ft 53 hc2 Fz))));rw[show CX=(Z6 (Z1 h.W a).1).1 from by grind[CX]];exact gF [] func109 (fO 4) (Fh 53 [.br Y] (Fh 76 [.br M] (w (Ff 44 hc2 (Fr ((Z6 (Z1 h.W a).1).1.K) (Fr ((Z6 (Z1 h.W a).1).1.length) (Fr ((Z6 (Z1 h.W a).1).1.map) (Fa (by grind[CX]:(0:Int)=19) Fz))))))));rcases bb ((h.P.getD (Z2 h.C a).1.toNat X).K==2)with hc3|hc3<;>have p:=hc3<;>simp only[bs]at p;rcases bb (!((Z2 h.C a).2.1==0&&Z5 (Z6 (Z1 h.W a).1).1==(h.P.getD (Z2 h.C a).1.toNat X).U))with hc4|hc4<;>have k:=hc4<;>simp only[bs]at k;exact gF [] func109 [] (Fh 44 [.br M] (Fh 53 [.br M] (Fh 76 [.br Y] (n (Fa hc0 (Fa hc1 (Fa hc3 (Ft 63 hc4 Fz))))))));obtain⟨u,v⟩:=k;rw[show CX=(Z6 (Z1 h.W a).1).1 from by grind[CX]];exact gF [] func109 (fO 8) (Fh 53 [.br M] (Fh 63 [.br Y] (Fh 76 [.br M] (n (Fa hc0 (Fa hc1 (Fa hc3 (Ff 44 hc4 (Fr ((Z6 (Z1 h.W a).1).1.K) (Fr ((Z6 (Z1 h.W a).1).1.length) (Fr ((Z6 (Z1 h.W a).1).1.map) (Fa (by grind[CX]:(0:Int)=19) Fz))))))))))));exact gF [] func109 [] (Fh 44 [.br M] (Fh 53 [.br M] (Fh 63 [.br M] (n (Fa hc0 (Fa hc1 (Fa hc3 Fz)))))));have g:Z9 h a=(CX,2):=by rw[Z9,if_pos l,if_neg i]
 have e2:(Z2 h.C a).2.2=2:=by(unfold Z2 at i⊢;rw[if_pos x.1]at i⊢;split at i;simp at i;rename_i q;rw[if_neg q])
 rw[g];exact gF [] func109 [Y] (Fc 15 (@Ey h) (Ffb 16 (!Z8 h) (Fc 22 (@Gh h.C a oq oq) (Ftb 27 ((Z2 h.C a).2.2 != 0) (Fr (0:Int) (Fr (0:Int) (Fr (0:Int) (Fa ‹(Z2 h.C a).2.2=2› Fz))))))));have g:Z9 h a=(CX,1):=by rw[Z9,if_neg l]
 have a0:Z8 h=M:=by simpa using l
 rw[g];exact gF [] func109 [] (Fc 15 (@Ey h) (Ftb 16 (!Z8 h) Fz))
def Mj{α β:Type}{f:α->β}{l:List α}(h:l≠[]):l.map f≠[]:=by simpa using h
def Z7F(ws:List Int)(hw:ws.length<=1048576)(hne:ws≠[]):GP 123 [Z3 ws] Y (.ow 0) [.arr 35 1 (ws.map wdv)]:=by exact gF [24007] func123 [] (Fa (by exact Mj hne:Z wdv ws≠[]) (FA 5 7 wdv ws (Fa (by exact Hd _:Ci (Z wdv ws)) Fz)))
def Zee(l:List Z0)(hl:l.length<=1048576)(hne:l≠[]):GP 124 [ZX l] Y (ZX l) []:=by exact gF [] func124 [] (Fa (by exact Mj hne:Z Z0.dv l≠[]) (FA 5 7 Z0.dv l (Fa (by exact IC _:Ci (Z Z0.dv l)) Fz)))
def A5{α:Type}{l:List α}(h:0<l.length):l≠[]:=by rintro rfl;simp at h
def pg(h:Heap)(i:Int):Z0:=h.P.getD i.toNat X
def Ba(h:Heap)(i o:Int):Int:=(address h.C i o).1
def M6{h:Heap}(b:Zs h.C=Y)(i o:Int):0<=Ba h i o/\Ba h i o<=8192:=by have ha:=HS b;unfold Ba address;rw[if_pos b];split;rename_i a;have a:=HH.1 a;have:=OJ b a.1 a.2.1 a.2.2.1 a.2.2.2;simp only;omega;simp
def Ej(h:Heap)(i:Int):Nat->Int->Option (List Int)|0,_=>O []|f+1,o=>if o<(pg h i).U then(if(Z9 h (Ba h i o)).2=0 then(if(pg h i).K=2 then O [Ba h i o]else(Ej h i f (o+Z5 (Z9 h (Ba h i o)).1)).map (Ba h i o :: ·))else La)else O []
def Ay(h:Heap)(i o:Int)(acc:List Int):Tg:=⟨tm 70 [(1,int i),(2,.pt 8002 0 0),(4,.d (.sl 0 [])),(5,int 0),(6,.pt 32006 0 0),(7,.ow 48007),(8,int o)],
 [(48007,.arr 35 1 (acc.map wdv)),(32006,.box 86 [int (pg h i).K,int (pg h i).S,int (pg h i).U,int (pg h i).N]),(8002,.box 28 h.cells)],60⟩
def DT(acc:List Int):Tg:=⟨tm 70 [(7,.ow 48007)],[(48007,.arr 35 1 (acc.map wdv))],60⟩
section
variable (h:Heap) (i o:Int) (acc:List Int) (b:Zx h.W) (a:Z8 h=Y) (hl:acc.length<=1048576) (c:0<=o/\o<=1000)
include b a hl c
theorem Zi2(h1:o<(pg h i).U)(f:(Z9 h (Ba h i o)).2=0)(h3:(pg h i).K≠2):CP (Zm f147 0) (Ay h i o acc).st .nrm (Ay h i (o+Z5 (Z9 h (Ba h i o)).1) (acc++[Ba h i o])).st:=by have j:=B1 a;have e:=M6 j.1 i o;have k:=HY (Z9 h (Ba h i o)).1;have g:=Ir b (Ba h i o);unfold Ba at e k g f;let d:=address h.C i o;exact sF [(512061,48007)] [] (Fh 61 [.els (Z wdv (acc++[d.1]))] (Ftb 41 (L (o<(pg h i).U)) (Fc 47 (@Z0p h.C i o) (Fc 53 (@Nc h (d.1) aa oq) (Ffb 57 ((Z9 h d.1).2 != 0) (Fs 60 (Z wdv [d.1]) (Fa (by(simp[Ba, *];omega):(Z wdv acc).length+(Z wdv [d.1]).length<=2^30) (Fa (by simp[Ba,LD,LC,Ls,LB,wdv,idv]:Z wdv acc++Z wdv [d.1]=Z wdv (acc++[d.1])) (Ffb 64 ((pg h i).K==2) (Fc 67 (@Ib ((Z9 h d.1).1) aa) (Fi 68 (o+Z5 (Z9 h d.1).1) Fz)))))))))))
theorem ZcW(h1:o<(pg h i).U)(f:(Z9 h (Ba h i o)).2=0)(h3:(pg h i).K=2):CP (Zm f147 0) (Ay h i o acc).st (.ext 0) (DT (acc++[Ba h i o])).st:=by have j:=B1 a;have e:=M6 j.1 i o;have g:=Ir b (Ba h i o);unfold Ba at e g f;let d:=address h.C i o;exact sF [(512061,48007)] [] (Fh 61 [.els (Z wdv (acc++[d.1]))] (Ftb 41 (L (o<(pg h i).U)) (Fc 47 (@Z0p h.C i o) (Fc 53 (@Nc h (d.1) aa oq) (Ffb 57 ((Z9 h d.1).2 != 0) (Fs 60 (Z wdv [d.1]) (Fa (by(simp[Ba, *];omega):(Z wdv acc).length+(Z wdv [d.1]).length<=2^30) (Fa (by simp[Ba,LD,LC,Ls,LB,wdv,idv]:Z wdv acc++Z wdv [d.1]=Z wdv (acc++[d.1])) (Ftb 64 ((pg h i).K==2) Fz)))))))))
theorem ZaY(h1:o<(pg h i).U)(e:¬ (Z9 h (Ba h i o)).2=0):CP (Zm f147 0) (Ay h i o acc).st .ret (Tg.st ⟨tm 70 [(4,.d (.sl 0 [])),(5,int 19)],[],60⟩):=by have f:=B1 a;have d:=M6 f.1 i o;unfold Ba at d e;exact sF [] [] (Ftb 41 (L (o<(pg h i).U)) (Fc 47 (@Z0p h.C i o) (Fc 53 (@Nc h ((address h.C i o).1) aa oq) (Ftb 57 ((Z9 h (address h.C i o).1).2 != 0) Fz))))
omit b a hl c in
theorem Z5M(h1:(pg h i).U<=o):CP (Zm f147 0) (Ay h i o acc).st (.ext 0) (DT acc).st:=by exact sF [] [] (Ffb 41 (L (o<(pg h i).U)) Fz)
end
def Z20{h a}(e:(Z9 h a).2=0):1<=Z5 (Z9 h a).1:=by have:=M8 e;rw[Z5,if_pos this.2.2.2.2.1];omega
def Z98(h:Heap) i(j:Zx h.W)(g:Z8 h=Y)(hu:(pg h i).U<=256):∀(f:Nat) (o:Int) (acc:List Int),(pg h i).U-o<=f->0<=o->o<=1000->(acc.length:Int)+f<=1000 -> (∀l,Ej h i f o=O l->Ga prog f147 0 (Ay h i o acc).st (.ext 0) (DT (acc++l)).st) /\ (Ej h i f o=La->Ga prog f147 0 (Ay h i o acc).st .ret (Tg.st ⟨tm 70 [(4,.d (.sl 0 [])),(5,int 19)],[],60⟩)):=by
 intro f;induction f with
 |zero =>intro o acc n d p q;refine⟨λl a=>?_,λa=>by cases a⟩;simp only[Ej,Option.some.injEq]at a;subst a;rw[Lp];exact .endx (Z5M h i o acc oq)
 |succ f u =>
  intro o acc n d p q;unfold Ej;by_cases c:o<(pg h i).U;rw[if_pos c];by_cases b:(Z9 h (Ba h i o)).2=0;rw[if_pos b];by_cases e:(pg h i).K=2;rw[if_pos e];refine⟨λl a=>?_,λa=>by cases a⟩;cases a;exact .endx (ZcW h i o acc j g oq ⟨d,by omega⟩ c b e);rw[if_neg e];have hs:=Z20 b;have hb:=HY (Z9 h (Ba h i o)).1;have k:=Zi2 h i o acc j g oq ⟨d,by omega⟩ c b e;obtain⟨s,t⟩:=u (o+Z5 (Z9 h (Ba h i o)).1) (acc++[Ba h i o]) oq oq oq qo;refine⟨λl a=>?_,λa=>?_⟩
  .rw[Lt]at a;obtain⟨m,r,rfl⟩:=a;have:=s m r;rw[Lw]at this;exact .next k this
  .rw[Option.map_eq_none_iff]at a;exact .next k (t a)
  rw[if_neg b];exact⟨λl a=>(by cases a),λ_=>.endr (ZaY h i o acc j g oq ⟨d,by omega⟩ c b)⟩;rw[if_neg c];refine⟨λl a=>?_,λa=>by cases a⟩;cases a;rw[Lp];exact .endx (Z5M h i o acc oq)
def ZfD(h:Heap) i(l:List Int)(c:Zx h.W)(a:Z8 h=Y)(b:(pg h i).U<=256)(hl:Ej h i 256 0=O l):CP (Zj f147 0) (Tg.st ⟨tm 70 [(1,int i),(2,.pt 8002 0 0),(4,.d (.sl 0 [])),(5,int 0),(6,.pt 32006 0 0),(7,.ow 48007),(8,int 0)], [(48007,.arr 35 1 []),(32006,.box 86 [int (h.P.getD i.toNat X).K,int (h.P.getD i.toNat X).S,int (h.P.getD i.toNat X).U,int (h.P.getD i.toNat X).N]),(8002,.box 28 h.cells)],60⟩) .nrm (DT l).st:=
 ((Z98 h i c a b 256 0 [] oq oq oq pq).1 l hl).ext kr
def ZaB(h:Heap) i(c:Zx h.W)(a:Z8 h=Y)(b:(pg h i).U<=256)(hl:Ej h i 256 0=La):CP (Zj f147 0) (Tg.st ⟨tm 70 [(1,int i),(2,.pt 8002 0 0),(4,.d (.sl 0 [])),(5,int 0),(6,.pt 32006 0 0),(7,.ow 48007),(8,int 0)], [(48007,.arr 35 1 []),(32006,.box 86 [int (h.P.getD i.toNat X).K,int (h.P.getD i.toNat X).S,int (h.P.getD i.toNat X).U,int (h.P.getD i.toNat X).N]),(8002,.box 28 h.cells)],60⟩) .ret (Tg.st ⟨tm 70 [(4,.d (.sl 0 [])),(5,int 19)],[],60⟩):=
 ((Z98 h i c a b 256 0 [] oq oq oq pq).2 hl).ret kr
def Zd(h:Heap)(i:Int):List Int×Int:=
 if Z8 h=Y then(if 0<=i/\i<h.P.length then(if(pg h i).K=0\/(pg h i).K=3 then([],0)else(match Ej h i 256 0 with|O l=>(l,0)|La=>([],19)))else([],2))else([],1)
def SC(h:Heap) i(hw:Zx h.W):GP 147 [h.av,int i] M (.tu [Z3 (Zd h i).1,int (Zd h i).2]) []:=by
 cases hp:Z8 h with
 |false =>
  have b:Zd h i=([],1):=by rw[Zd,if_neg (by rw[hp];simp)]
  rw[b];exact gF [] func147 [] (Fc 14 (@CH h) (Ftb 15 (!Z8 h) (Fnl Fz)))
 |true =>
  have po:=B1 hp;by_cases e:0<=i/\i<h.P.length;have m:=Eb hp (j:=i.toNat) oq;have hu:(pg h i).U<=256:=m.2.2.2.2.2.2.2.1;cases hwk:Ej h i 256 0 with
  |none =>
   have b:Zd h i=if(h.P.getD i.toNat X).K=0\/(h.P.getD i.toNat X).K=3 then([],0)else([],19):=by rw[Zd,if_pos hp,if_pos e,hwk];rfl
   have g {h_ c_ p_} (f:Fq h_ c_ p_):=Fc 14 (@CH h) (Ffb 15 (!Z8 h) (FlG 22 (!decide (i<0)) Z0.dv h.P (Ffb 24 (L (i<0)||L ((h.P.length:Int)<=i)) (Fe 28 Z0.dv h.P i f))));rcases bb ((h.P.getD i.toNat X).K==0||(h.P.getD i.toNat X).K==3)with hc0|hc0<;>have a:=hc0<;>simp only[bs]at a;exact gF [] func147 (fO 8) (g (Ft 37 hc0 (Fnl (Fa (by rw[b,if_pos oq];rfl:[]=Z wdv (Zd h i).1) (Fa (by rw[b,if_pos oq]:0=(Zd h i).2) Fz)))));obtain⟨c,d⟩:=a;exact gF [] func147 (fO 18) (Fh 7 [.own] (g (Ff 37 hc0 (Fu (@ZaB h i aa aa aa aa) (Fnl (Fa (by rw[b,if_neg oq];rfl:[]=Z wdv (Zd h i).1) (Fa (by rw[b,if_neg oq]:19=(Zd h i).2) Fz)))))))
  |some l =>
   have b:Zd h i=if(h.P.getD i.toNat X).K=0\/(h.P.getD i.toNat X).K=3 then([],0)else(l,0):=by rw[Zd,if_pos hp,if_pos e,hwk];rfl
   have k {h_ c_ p_} (f:Fq h_ c_ p_):=Fc 14 (@CH h) (Ffb 15 (!Z8 h) (FlG 22 (!decide (i<0)) Z0.dv h.P (Ffb 24 (L (i<0)||L ((h.P.length:Int)<=i)) (Fe 28 Z0.dv h.P i f))));rcases bb ((h.P.getD i.toNat X).K==0||(h.P.getD i.toNat X).K==3)with hc0|hc0<;>have a:=hc0<;>simp only[bs]at a;exact gF [] func147 (fO 8) (k (Ft 37 hc0 (Fnl (Fa (by rw[b,if_pos oq];rfl:[]=Z wdv (Zd h i).1) (Fa (by rw[b,if_pos oq]:0=(Zd h i).2) Fz)))));obtain⟨c,d⟩:=a;exact gF [] func147 (fO 18) (Fh 7 [.own] (k (Ff 37 hc0 (Fu (@ZfD h i l aa aa aa aa) (Fa (by refine congrArg _ ?_;rw[b,if_neg oq]:Z wdv l=Z wdv (Zd h i).1) (Fa (by rw[b,if_neg oq]:0=(Zd h i).2) Fz))))))
  have b:Zd h i=([],2):=by rw[Zd,if_pos hp,if_neg e]
  rw[b];exact gF [] func147 [] (Fc 14 (@CH h) (Ffb 15 (!Z8 h) (FlG 22 (!decide (i<0)) Z0.dv h.P (Ftb 24 (L (i<0)||L ((h.P.length:Int)<=i)) (Fnl Fz)))))
def M2(l:List Int)(v:Int)(i:Nat):Tg:=⟨tm 18 [(0,Z3 l),(1,u64 v),(4,bool M),(5,int i)],[],60⟩
def Z6Z(l:List Int)(v:Int)(i:Nat)(hl:l.length<=1048576)(hi:i<l.length)(hv:¬ l.getD i X=v):CP (Zm f17 0) (M2 l v i).st .nrm (M2 l v (i+1)).st:=by exact sF [] [] (FN 8 9 14 wdv l i (Ffb 17 (l.getD i X==v) (Fx 11 i Fz)))
def Zda(l:List Int)(v:Int)(i:Nat)(hl:l.length<=1048576)(hi:i<l.length)(hv:l.getD i X=v):CP (Zm f17 0) (M2 l v i).st .ret (Tg.st ⟨tm 18 [(4,bool Y)],[],60⟩):=by exact sF [] [] (FN 8 9 14 wdv l i (Ftb 17 (l.getD i X==v) Fz))
def hasEnd l v:CP (Zm f17 0) (M2 l v l.length).st (.ext 0) (Tg.st ⟨tm 18 [],[],60⟩):=by exact sF [] [] (FO 8 9 wdv l Fz)
def Bm{l:List Int}{v:Int}:v∈l↔∃i,i<l.length/\l.getD i X=v:=by rw[List.mem_iff_getElem];constructor;rintro⟨i,h,e⟩;exact⟨i,h,by simp[Lq,h,e]⟩;rintro⟨i,h,e⟩;exact⟨i,h,by simpa[Lq,h]using e⟩
def ZcP(l:List Int)(v:Int)(hl:l.length<=1048576)(h:v∉l)  := Br (S:=λi=>(M2 l v i).st) l.length (by kernel_rfl) (λi a=>Z6Z l v i hl a λe=>h (Bm.2 ⟨i,a,e⟩)) (hasEnd l v)
def Zcp(l:List Int)(v:Int)(hl:l.length<=1048576)(h:v∈l):CP (Zj f17 0) (Tg.st ⟨tm 18 [(0,Z3 l),(1,u64 v),(4,bool M),(5,int 0)],[],60⟩) .ret (Tg.st ⟨tm 18 [(4,bool Y)],[],60⟩):=by obtain⟨i,a,b⟩:=Z2g (Bm.1 h);exact EY (S:=λi=>(M2 l v i).st) i kr (λj hj=>Z6Z l v j hl oq λe=>by have:=b j ⟨by omega,e⟩;omega) (Zda l v i hl a.1 a.2)
def CL(l:List Int) v(hl:l.length<=1048576):GP 17 [Z3 l,u64 v] Y (bool (L (v∈l))) []:=by by_cases h:v∈l;rw[decide_eq_true h];exact gF [] func17 [] (Fu (@Zcp l v aa aa) Fz);rw[decide_eq_false h];exact gF [] func17 [] (Fu (@ZcP l v aa aa) Fz)
def Z7r{h i}:∀{f:Nat} {o:Int} {l:List Int},Ej h i f o=O l->l.length<=f
 |0,o,l,e=>by simp[Ej]at e;subst e;simp
 |f+1,o,l,e=>by
  unfold Ej at e;split at e
  .split at e
   .split at e
    .cases e;simp
    .rw[Lt]at e;obtain⟨m,a,rfl⟩:=e;have:=Z7r a;simp;omega
   .cases e
  .cases e;simp
def Np(h:Heap) i:(Zd h i).1.length<=256:=by
 unfold Zd;repeat' split
 all_goals first|(simp;done)|(rename_i e;exact Z7r e)
def Cl(h:Heap):Nat->Nat->List Int×Int|0,_=>([],0)|f+1,i=>if(Zd h i).2=0 then(if(Cl h f (i+1)).2=0 then((Zd h i).1++(Cl h f (i+1)).1,0)else([],(Cl h f (i+1)).2))else([],(Zd h i).2)
def CB(h:Heap):List Int×Int:=if Z8 h=Y then Cl h h.P.length 0 else([],1)
def Dv(h:Heap)(i:Nat)(acc:List Int):Tg:=⟨tm 31 [(1,.pt 8001 0 0),(2,.d (.sl 0 [])),(3,int 0),(4,.ow 24004),(5,int i)],[(24004,.arr 35 1 (acc.map wdv)),(8001,.box 28 h.cells)],60⟩
section
variable (h:Heap) (i:Nat) (acc:List Int) (b:Zx h.W) (hl:h.P.length<=1048576) (a:acc.length<=1048576)
include b hl a
theorem ZeK(hi:i<h.P.length)(e:(Zd h i).2=0):CP (Zm f90 0) (Dv h i acc).st .nrm (Dv h (i+1) (acc++(Zd h i).1)).st:=by have hn:=Np h i;exact sF [(504029,24004)] [] (Fh 29 [.els (Z wdv (acc++(Zd h (i:Int)).1))] (FM 14 15 Z0.dv h.P i (Fc 21 (@SC h ((i:Int)) aa) (Ffb 25 ((Zd h (i:Int)).2 != 0) (Fa (by(simp[*];omega):(Z wdv acc).length+(Z wdv (Zd h (i:Int)).1).length<=2^30) (Fa (ms:Z wdv acc++Z wdv (Zd h (i:Int)).1=Z wdv (acc++(Zd h (i:Int)).1)) (Fx 17 i Fz)))))))
theorem Z9F(hi:i<h.P.length)(e:¬ (Zd h i).2=0):CP (Zm f90 0) (Dv h i acc).st .ret (Tg.st ⟨tm 31 [(2,.d (.sl 0 [])),(3,int (Zd h i).2)],[],60⟩):=by exact sF [] [] (FM 14 15 Z0.dv h.P i (Fc 21 (@SC h ((i:Int)) aa) (Ftb 25 ((Zd h (i:Int)).2 != 0) Fz)))
omit b hl a in
theorem ZfZ:CP (Zm f90 0) (Dv h h.P.length acc).st (.ext 0) (Tg.st ⟨tm 31 [(4,.ow 24004)],[(24004,.arr 35 1 (acc.map wdv))],60⟩):=by exact sF [] [] (FO 14 15 Z0.dv h.P Fz)
end
def Z6W(h:Heap)(c:Zx h.W)(hl:h.P.length<=1048576):∀(f i:Nat) (acc:List Int),i+f=h.P.length->acc.length+256*f<=1048576 -> ((Cl h f i).2=0->Ga prog f90 0 (Dv h i acc).st (.ext 0) (Tg.st ⟨tm 31 [(4,.ow 24004)],[(24004,.arr 35 1 ((acc++(Cl h f i).1).map wdv))],60⟩)) /\ (¬ (Cl h f i).2=0->Ga prog f90 0 (Dv h i acc).st .ret (Tg.st ⟨tm 31 [(2,.d (.sl 0 [])),(3,int (Cl h f i).2)],[],60⟩)):=by
 intro f;induction f with
 |zero =>
  intro i acc g _;have:i=h.P.length:=by omega
  subst this;refine⟨λ_=>?_,λe=>absurd rfl e⟩;rw[Cl,Lp];exact .endx (ZfZ h acc)
 |succ f l =>
  intro i acc g hb;have hn:=Np h i;unfold Cl;by_cases e:(Zd h i).2=0;rw[if_pos e];have b:=ZeK h i acc c hl oq oq e;obtain⟨j,k⟩:=l (i+1) (acc++(Zd h i).1) oq qo;by_cases a:(Cl h f (i+1)).2=0
  .rw[if_pos a];refine⟨λ_=>?_,λe=>absurd rfl e⟩;have:=j a;rw[Lw]at this;exact .next b this
  rw[if_neg a];exact⟨λe=>absurd e a,λ_=>.next b (k a)⟩;rw[if_neg e];exact⟨λd=>absurd d e,λ_=>.endr (Z9F h i acc c hl oq oq e)⟩
def ZjN(h:Heap)(a:Zx h.W)(hl:h.P.length<=64)(e:(Cl h h.P.length 0).2=0):CP (Zj f90 0) (Tg.st ⟨tm 31 [(1,.pt 8001 0 0),(2,.d (.sl 0 [])),(3,int 0),(4,.ow 24004),(5,int 0)],[(24004,.arr 35 1 []),(8001,.box 28 h.cells)],60⟩) .nrm (Tg.st ⟨tm 31 [(4,.ow 24004)],[(24004,.arr 35 1 ((Cl h h.P.length 0).1.map wdv))],60⟩):=
 ((Z6W h a oq h.P.length 0 [] oq qo).1 e).ext kr
def ZiM(h:Heap)(a:Zx h.W)(hl:h.P.length<=64)(e:¬ (Cl h h.P.length 0).2=0):CP (Zj f90 0) (Tg.st ⟨tm 31 [(1,.pt 8001 0 0),(2,.d (.sl 0 [])),(3,int 0),(4,.ow 24004),(5,int 0)],[(24004,.arr 35 1 []),(8001,.box 28 h.cells)],60⟩) .ret (Tg.st ⟨tm 31 [(2,.d (.sl 0 [])),(3,int (Cl h h.P.length 0).2)],[],60⟩):=
 ((Z6W h a oq h.P.length 0 [] oq qo).2 e).ret kr
def ZhJ(h:Heap):∀(f i:Nat),¬ (Cl h f i).2=0->(Cl h f i).1=[]
 |0,i,e=>absurd rfl e
 |f+1,i,e=>by
  unfold Cl at e⊢;split at e
  .rename_i a;rw[if_pos a];split at e
   .exact absurd rfl e
   .rename_i b;rw[if_neg b]
  .rename_i a;rw[if_neg a]
def Zc4(h:Heap)(hw:Zx h.W):GP 90 [h.av] M (.tu [Z3 (CB h).1,int (CB h).2]) []:=by
 cases hp:Z8 h with
 |false =>
  have a:CB h=([],1):=by rw[CB,if_neg (by rw[hp];simp)]
  rw[a];exact gF [] func90 [] (Fc 9 (@CH h) (Ftb 10 (!Z8 h) (Fnl Fz)))
 |true =>
  have po:=B1 hp;have a:CB h=Cl h h.P.length 0:=by rw[CB,if_pos hp]
  by_cases e:(Cl h h.P.length 0).2=0;rw[show CB h=((Cl h h.P.length (0:Nat)).1,(0:Int))from by grind[]];exact gF [] func90 [] (Fh 4 [.own] (Fc 9 (@CH h) (Ffb 10 (!Z8 h) (Fu (@ZjN h aa oq aa) Fz))));have b:=ZhJ h _ _ e;exact gF [] func90 (fO 7) (Fh 4 [.own] (Fc 9 (@CH h) (Ffb 10 (!Z8 h) (Fu (@ZiM h aa oq aa) (Fnl (Fa (by rw[a,b];rfl:[]=Z wdv (CB h).1) (Fa (by rw[a]:(Cl h h.P.length 0).2=(CB h).2) Fz)))))))
def Z8c{h:Heap}(c:Zs h.C=Y){i}:∀{f:Nat} {o:Int} {l:List Int},Ej h i f o=O l->∀x∈l,0<=x/\x<=8192
 |0,o,l,e=>by simp[Ej]at e;subst e;simp
 |f+1,o,l,e=>by
  have b:=M6 c i o;unfold Ej at e;split at e
  .split at e
   .split at e
    .cases e;intro x a;simp at a;subst a;exact b
    .rw[Lt]at e;obtain⟨m,d,rfl⟩:=e;intro x a;rcases List.mem_cons.1 a with rfl|a
     .exact b
     .exact Z8c c d x a
   .cases e
  .cases e;simp
def Af{h:Heap}(a:Z8 h=Y) i:∀x∈(Zd h i).1,0<=x/\x<=8192:=by
 have b:=(B1 a).1;unfold Zd;repeat' split
 all_goals first|(simp;done)|(rename_i e;exact Z8c b e)
def Z5E{h:Heap}(b:Z8 h=Y):∀(f i:Nat),∀x∈(Cl h f i).1,0<=x/\x<=8192
 |0,i=>by simp[Cl]
 |f+1,i=>by
  unfold Cl;split
  .split
   .intro x a;rcases List.mem_append.1 a with a|a
    .exact Af b i x a
    .exact Z5E b f (i+1) x a
   .simp
  .simp
def Z6X(h:Heap):∀(f i:Nat),(Cl h f i).1.length<=256*f
 |0,i=>by simp[Cl]
 |f+1,i=>by
  have h1:=Np h i;have h2:=Z6X h f (i+1);unfold Cl;split
  .split
   .simp;omega
   .simp
  .simp
def Z8J(h:Heap):∀x∈(CB h).1,0<=x/\x<=8192:=by unfold CB;split;exact Z5E aa _ _;simp
def Z8F(h:Heap):(CB h).1.length<=16384:=by unfold CB;split;rename_i a;have:=Z6X h h.P.length 0;have:=B1 a;omega;simp
def CQ(h:Heap)(a:Int):Bool:=L ((Z9 h a).1.K≠0)
def Zr(h:Heap):List Int×Int:=((CB h).1.filter (CQ h),(CB h).2)
def De(h:Heap):∀x∈(Zr h).1,0<=x/\x<=8192:=λx a=>Z8J h x (List.mem_filter.1 a).1
def Rx(h:Heap):(Zr h).1.length<=16384:=Nat.le_trans (LA _ _) (Z8F h)
def MG{l:List Int}{i:Nat}(a:i<l.length):l.take (i+1)=l.take i++[l.getD i X]:=by rw[List.take_succ];simp[Lq,a]
def OL(h:Heap)(l:List Int)(a:Int)(i:Nat):Tg:=⟨tm 42 [(1,.pt 8001 0 0),(4,Z3 l),(5,int a),(6,.ow 24006),(7,int i)],[(24006,.arr 35 1 (((l.take i).filter (CQ h)).map wdv)),(8001,.box 28 h.cells)],60⟩
def ZdR(h:Heap)(l:List Int) b(i:Nat)(hw:Zx h.W)(hl:l.length<=1048576)(j:∀x∈l,0<=x/\x<=8192)(c:i<l.length):CP (Zm f43 0) (OL h l b i).st .nrm (OL h l b (i+1)).st:=by
 have hx:=j (l.getD i X) (Bm.2 ⟨i,c,rfl⟩);have g:((l.take i).filter (CQ h)).length<=l.length:=Nat.le_trans (LA _ _) qo;have f:=MG c;by_cases d:(Z9 h (l.getD i X)).1.K=0;have e:(l.take (i+1)).filter (CQ h)=(l.take i).filter (CQ h):=by(have a:CQ h (l.getD i X)=M:=decide_eq_false (by simpa using d);rw[f,Lx,Ly,a,Lz];simp)
 exact sF [] (fO 5) (FN 17 18 25 wdv l i (Fc 27 (@Nc h (l.getD i X) aa oq) (Ffb 32 ((Z9 h (l.getD i X)).1.K != 0) (Fx 20 i (Fr (35:Int) (Fa (by refine congrArg _ ?_;rw[e]:Z wdv (Le (CQ h) (Ld i l))=Z wdv (Le (CQ h) (Ld (i+1) l))) Fz))))));have e:(l.take (i+1)).filter (CQ h)=(l.take i).filter (CQ h)++[l.getD i X]:=by(have a:CQ h (l.getD i X)=Y:=decide_eq_true d;rw[f,Lx,Ly,a,Lz];simp)
 exact sF [(504039,24006)] (fO 5) (Fh 39 [.els (Z wdv (Le (CQ h) (Ld i l)++[l.getD i X]))] (FN 17 18 25 wdv l i (Fc 27 (@Nc h (l.getD i X) aa oq) (Ftb 32 ((Z9 h (l.getD i X)).1.K != 0) (Fek 36 wdv l (↑i) i (Fs 38 (Z wdv [l.getD i X]) (Fa (by(simp[*];omega):(Z wdv (Le (CQ h) (Ld i l))).length+(Z wdv [l.getD i X]).length<=2^30) (Fa (ms:Z wdv (Le (CQ h) (Ld i l))++Z wdv [l.getD i X]=Z wdv (Le (CQ h) (Ld i l)++[l.getD i X])) (Fx 20 i (Fr (35:Int) (Fa (by refine congrArg _ ?_;rw[e]:Z wdv (Le (CQ h) (Ld i l)++[l.getD i X])=Z wdv (Le (CQ h) (Ld (i+1) l))) Fz)))))))))))
def ZaL(h:Heap) l a:CP (Zm f43 0) (OL h l a l.length).st (.ext 0) (Tg.st ⟨tm 42 [(5,int a),(6,.ow 24006)],[(24006,.arr 35 1 ((l.filter (CQ h)).map wdv))],60⟩):=by have e:l.take l.length=l:=LF;exact sF [] (fO 2) (FO 17 18 wdv l (Fr (35:Int) (Fa (by refine congrArg _ ?_;rw[e]:Z wdv (Le (CQ h) (Ld l.length l))=Z wdv (Le (CQ h) l)) Fz)))
def ZaN(h:Heap)(l:List Int) a(d:Zx h.W)(hl:l.length<=1048576)(c:∀x∈l,0<=x/\x<=8192):CP (Zj f43 0) (Tg.st ⟨tm 42 [(1,.pt 8001 0 0),(4,Z3 l),(5,int a),(6,.ow 24006),(7,int 0)],[(24006,.arr 35 1 []),(8001,.box 28 h.cells)],60⟩) .nrm (Tg.st ⟨tm 42 [(5,int a),(6,.ow 24006)],[(24006,.arr 35 1 ((l.filter (CQ h)).map wdv))],60⟩):=
 Br (S:=λi=>(OL h l a i).st) l.length kr (λi b=>ZdR h l a i d hl c b) (ZaL h l a)
def M1(h:Heap)(hw:Zx h.W):GP 43 [h.av] M (.tu [Z3 (Zr h).1,int (Zr h).2]) []:=by have hl:=Z8F h;have hr:=Z8J h;exact gF [] func43 [] (Fh 6 [.own] (Fc 12 (@Zc4 h aa) (Fu (@ZaN h ((CB h).1) ((CB h).2) aa oq aa) Fz)))
def Gq(h:Heap)(p o:Int):Int:=(Z1 h.W (address h.C p o).1).1
def Zk6{c:B2}(b:Zs c=Y) p o:0<=(address c p o).1/\(address c p o).1<=8192:=by have ha:=HS b;unfold address;rw[if_pos b];split;rename_i a;have a:=HH.1 a;have:=OJ b a.1 a.2.1 a.2.2.1 a.2.2.2;simp only;omega;simp
def ZhL(h:Heap) p o(a:Z8 h=Y):GP 235 [h.av,int p,int o] Y (u64 (Gq h p o)) []:=by have b:=B1 a;have ar:=Zk6 b.1 p o;exact gF [] func235 [] (Fc 16 (@Z0p h.C p o) (Fc 23 (@HF h.W ((address h.C p o).1) oq oq) Fz))
def Z1T(h:Heap) p o(hp:Z8 h=Y):GP 220 [h.av,int p,int o] Y (u64 (Gq h p o)) []:=by exact gF [] func220 [] (Fc 10 (@ZhL h p o aa) Fz)
def Zgo(h:Heap)(p o:Int)(b:Z8 h=Y)(a:0<=p/\p<h.C.pg)(h1:0<=o/\o<=64):GP 221 [h.av,int p,int o] Y (u64 (4096+p*h.C.pw+o)) []:=by have c:=B1 b;have ap:=HI c.1 a.1 a.2;exact gF [] func221 [] (Fi 11 (p*h.C.pw) (Fi 12 (4096+p*h.C.pw) (Fi 14 (4096+p*h.C.pw+o) (Fv 15 (4096+p*h.C.pw+o) Fz))))
def ZV(l:List Z0):Nat->Nat|0=>0|i+1=>if(l.getD (i+1) X).K=3 then ZV l i else i+1
def Z6z{h:Heap}(a:Z8 h=Y):(h.P.getD 0 X).K≠3:=by have d:=Ic.1 a;have po:=B1 a;have b:=d.2.2.2.2.2;rw[Z29 oq oq,Lg]at b;have c:=of_decide_eq_true b.1;unfold G9 at c;omega
def Ag(h:Heap)(i:Nat):Tg:=⟨tm 15 [(1,int i),(2,.pt 8002 0 0)],[(8002,.box 28 h.cells)],60⟩
def Zhc(h:Heap)(i:Nat)(hi:i+1<h.P.length)(hl:h.P.length<=1048576)(hk:(h.P.getD (i+1) X).K=3):CP (Zm f218 0) (Ag h (i+1)).st .nrm (Ag h i).st:=by
 have ei:((i+1:Nat):Int)-1=(i:Int):=by omega
 exact sF [] [] (Fek 8 Z0.dv h.P (↑(i+1):Int) (i+1) (Ftb 11 ((h.P.getD (i+1) X).K==3) (Fg 13 (by rw[E4 oq oq];omega:Lu.wrap ((↑(i+1):Int)-1)=(i:Int)) Fz)))
def Z5R(h:Heap)(i:Nat)(hi:i<h.P.length)(hl:h.P.length<=1048576)(hk:¬ (h.P.getD i X).K=3):CP (Zm f218 0) (Ag h i).st (.ext 0) (Tg.st ⟨tm 15 [(1,int i)],[],60⟩):=by exact sF [] [] (Fek 8 Z0.dv h.P (↑i) i (Ffb 11 ((h.P.getD i X).K==3) Fz))
def Z9b(h:Heap)(b:Z8 h=Y)(hl:h.P.length<=1048576):∀i,i<h.P.length->Ga prog f218 0 (Ag h i).st (.ext 0) (Tg.st ⟨tm 15 [(1,int (ZV h.P i))],[],60⟩)
 |0,hi=>.endx (Z5R h 0 hi hl (Z6z b))
 |i+1,hi=>by
  unfold ZV;by_cases a:(h.P.getD (i+1) X).K=3
  .rw[if_pos a];exact .next (Zhc h i hi hl a) (Z9b h b hl i oq)
  .rw[if_neg a];exact .endx (Z5R h (i+1) hi hl a)
def Zds(h:Heap)(i:Nat)(b:Z8 h=Y)(a:i<h.P.length)(hl:h.P.length<=1048576):CP (Zj f218 0) (Ag h i).st .nrm (Tg.st ⟨tm 15 [(1,int (ZV h.P i))],[],60⟩):=
 (Z9b h b hl i a).ext kr
def Z6c(h:Heap)(i:Nat)(a:Z8 h=Y)(hi:i<h.P.length):GP 218 [h.av,int i] Y (int (ZV h.P i)) []:=by have po:=B1 a;exact gF [] func218 [] (Fu (@Zds h i aa aa oq) Fz)
def Gg(h:Heap)(i:Int)(a:Int):Bool:=(L ((h.P.getD i.toNat X).K=1)&&L (Zb h.C<Z5 (Z9 h a).1))||(L ((h.P.getD i.toNat X).K=2)&&L ((Z9 h a).1.K=0))
def Cp(h:Heap)(i:Int)(l:List Int):Int:=(l.find? (Gg h i)).getD 0
def Da(h:Heap)(i:Int)(l:List Int)(n:Nat):Tg:=⟨tm 61 [(1,int i),(2,Z3 l),(3,.pt 8003 0 0),(6,u64 0),(7,int n)],[(8003,.box 28 h.cells)],60⟩
section
variable (h:Heap) (i:Int) (l:List Int) (n:Nat) (b:Zx h.W) (hl:l.length<=1048576) (c:0<=i/\i<h.P.length) (d:h.P.length<=1048576) (a:∀x∈l,0<=x/\x<=8192)
include b hl c d a
theorem Z4J(j:n<l.length)(g:Gg h i (l.getD n X)=M):CP (Zm f192 0) (Da h i l n).st .nrm (Da h i l (n+1)).st:=by have hx:=a (l.getD n X) (Bm.2 ⟨n,j,rfl⟩);have hm:=Ir b (l.getD n X);simp only[Gg,bs]at g;let e:=Z9 h (l.getD n X);let f:=h.P.getD i.toNat X;exact sF [] [] (FN 13 14 21 wdv l n (Fc 23 (@Nc h (l.getD n X) aa oq) (Fc 27 (@Ib (e.1) aa) (Fc 30 (@N4 h.C) (Fe 35 Z0.dv h.P i (FeGq 47 (!(f.K==1&&!decide (Z5 e.1<=Zb h.C))) Z0.dv h.P i (Ffb 56 (f.K==1&&!decide (Z5 e.1<=Zb h.C)||f.K==2&&e.1.K==0) (Fx 16 n Fz))))))))
theorem Zjp(g:n<l.length)(e:Gg h i (l.getD n X)=Y):CP (Zm f192 0) (Da h i l n).st .ret (Tg.st ⟨tm 61 [(6,u64 (l.getD n X))],[],60⟩):=by have hx:=a (l.getD n X) (Bm.2 ⟨n,g,rfl⟩);have hm:=Ir b (l.getD n X);simp only[Gg,bs]at e;refine Zg [((13:Nat),[Hint.int (l.length:Int)]),((14:Nat),[Hint.br Y]),((21:Nat),[Hint.el (wdv (l.getD n X))]),((23:Nat),[Hint.call Y (AV.tu [(Z9 h (l.getD n X)).1.av,int (Z9 h (l.getD n X)).2]) []]),((27:Nat),[Hint.call Y (int (Z5 (Z9 h (l.getD n X)).1)) []]),((30:Nat),[Hint.call Y (int (Zb h.C)) []]),((35:Nat),[Hint.el (h.P.getD i.toNat X).dv]),((47:Nat),[Hint.el (h.P.getD i.toNat X).dv]),((56:Nat),[Hint.br Y]),((59:Nat),[Hint.el (wdv (l.getD n X))])] [] [] [] (φ:=(↑(Z wdv l).length:Int)=(l.length:Int)/\L ((n:Int)<(l.length:Int))=Y/\Y=Y/\((0:Int)<=(n:Int)/\(Z wdv l)[(n:Int).toNat]?=O (wdv (l.getD n X)))/\GP 91 [h.av,u64 (l.getD n X)] Y (AV.tu [(Z9 h (l.getD n X)).1.av,int (Z9 h (l.getD n X)).2]) []/\GP 70 [(Z9 h (l.getD n X)).1.av] Y (int (Z5 (Z9 h (l.getD n X)).1)) []/\GP 93 [h.C.av] Y (int (Zb h.C)) []/\((0:Int)<=i/\(Z Z0.dv h.P)[i.toNat]?=O (h.P.getD i.toNat X).dv)/\((!((h.P.getD i.toNat X).K==(1:Int)&&!decide (Z5 (Z9 h (l.getD n X)).1<=Zb h.C)))=Y->(0:Int)<=i/\(Z Z0.dv h.P)[i.toNat]?=O (h.P.getD i.toNat X).dv)/\((h.P.getD i.toNat X).K==(1:Int)&&!decide (Z5 (Z9 h (l.getD n X)).1<=Zb h.C)||(h.P.getD i.toNat X).K==(2:Int)&&(Z9 h (l.getD n X)).1.K==(0:Int))=Y/\Y=Y/\(0:Int)<=(n:Int)/\(Z wdv l)[(n:Int).toNat]?=O (wdv (l.getD n X))) ?_ kr kr kr;exact⟨(by simp only[List.length_map]),(by(simp only[bs];omega)),rfl,(by exact Zk oq oq oq),(@Nc (h) (l.getD n X) aa oq),(@Ib ((Z9 h (l.getD n X)).1) aa),(@N4 (h.C)),(by exact Zk oq oq oq),(by intro f;(try simp only[bs]at f);exact Zk oq oq oq),(by(simp only[bs];omega)),rfl,(by exact Zk oq oq oq)⟩
omit b hl c d a in
theorem Zk4:CP (Zm f192 0) (Da h i l l.length).st (.ext 0) (Tg.st ⟨tm 61 [(6,u64 0)],[],60⟩):=by exact sF [] [] (FO 13 14 wdv l Fz)
end
def Z02{l:List Int}{f:Int->Bool}(h:l.find? f=La):∀n,n<l.length->f (l.getD n X)=M:=by intro n a;have:=Li.1 h (l.getD n X) (Bm.2 ⟨n,a,rfl⟩);simpa using this
def SS{f:Int->Bool}:∀{l:List Int} {x:Int},l.find? f=O x->∃n,n<l.length/\l.getD n X=x/\f x=Y/\∀m,m<n->f (l.getD m X)=M
 |[],x,h=>by simp at h
 |a::l,x,h=>by
  rw[List.find?_cons]at h;split at h
  .rename_i b;cases h;exact⟨0,by simp,rfl,b,λm g=>by omega⟩
  .rename_i b;obtain⟨n,h1,c,d,e⟩:=SS h;refine⟨n+1,by simp;omega,by simpa using c,d,λm g=>?_⟩;cases m with|zero=>simpa using b|succ m=>simpa using e m oq
def Zfn(h:Heap)(i:Int)(l:List Int)(f:Zx h.W)(hl:l.length<=1048576)(c:0<=i/\i<h.P.length)(d:h.P.length<=1048576)(e:∀x∈l,0<=x/\x<=8192)(b:l.find? (Gg h i)=La) :CP (Zj f192 0) (Tg.st ⟨tm 61 [(1,int i),(2,Z3 l),(3,.pt 8003 0 0),(6,u64 0),(7,int 0)],[(8003,.box 28 h.cells)],60⟩) .nrm (Tg.st ⟨tm 61 [(6,u64 0)],[],60⟩):=
 Br (S:=λn=>(Da h i l n).st) l.length kr (λn a=>Z4J h i l n f hl c d e a (Z02 b n a)) (Zk4 h i l)
def ZiY(h:Heap)(i:Int)(l:List Int)(x:Int)(d:Zx h.W)(hl:l.length<=1048576)(a:0<=i/\i<h.P.length)(b:h.P.length<=1048576)(c:∀x∈l,0<=x/\x<=8192)(k:l.find? (Gg h i)=O x) :CP (Zj f192 0) (Tg.st ⟨tm 61 [(1,int i),(2,Z3 l),(3,.pt 8003 0 0),(6,u64 0),(7,int 0)],[(8003,.box 28 h.cells)],60⟩) .ret (Tg.st ⟨tm 61 [(6,u64 x)],[],60⟩):=by obtain⟨n,e,f,g,j⟩:=SS k;subst f;exact EY (S:=λn=>(Da h i l n).st) n kr (λm o=>Z4J h i l m d hl a b c oq (j m o)) (Zjp h i l n d hl a b c e g)
def Z2x(h:Heap)(i:Int)(l:List Int)(hw:Zx h.W)(hl:l.length<=1048576)(hp:h.P.length<=1048576)(hi:0<=i/\i<h.P.length)(hr:∀x∈l,0<=x/\x<=8192):GP 192 [h.av,int i,Z3 l] Y (u64 (Cp h i l)) []:=by
 cases hf:l.find? (Gg h i)with
 |none =>
  have a:Cp h i l=0:=by rw[Cp,hf];rfl
  exact gF [] func192 (fO 6) (Fu (@Zfn h i l aa aa aa aa aa aa) (Fa (by rw[a]:0=Cp h i l) Fz))
 |some x =>
  have a:Cp h i l=x:=by rw[Cp,hf];rfl
  exact gF [] func192 (fO 6) (Fu (@ZiY h i l x aa aa aa aa aa aa) (Fa (by rw[a]:x=Cp h i l) Fz))
def BS(x:Bool):List DV:=[.sc (.bool x)]
def Gs(h:Heap)(a:Int):Int:=if(Z9 h a).1.K=0 then 1 else Z5 (Z9 h a).1
def AS(h:Heap)(i:Int)(a:Int)(o:Nat):Bool:=L (a-4096-i*h.C.pw<=o)&&L ((o:Int)<a-4096-i*h.C.pw+Gs h a)
def Ct(h:Heap)(i:Int)(l:List Int):List Bool:=(Lc h.C.pw.toNat).map λo=>l.any λa=>AS h i a o
def Ee(h:Heap)(i:Int)(l:List Int)(a:Int)(w:Nat):List Bool:=(Lc h.C.pw.toNat).map λ(o:Nat)=>(l.any λa=>AS h i a o)||(L (a-4096-i*h.C.pw<=o)&&L ((o:Int)<a-4096-i*h.C.pw+w))
def Z79(h:Heap) i l a w:(Ee h i l a w).length=h.C.pw.toNat:=by simp[Ee]
def Zj3(h:Heap) i l a:Ee h i l a 0=Ct h i l:=by
 unfold Ee Ct;refine Lr λo _=>?_;have:(L (a-4096-i*h.C.pw<=(o:Int))&&L ((o:Int)<a-4096-i*h.C.pw+(0:Nat)))=M:=by(rw[Bool.and_eq_false_iff];simp;omega)
 rw[this,Bool.or_false]
def Zkv{h:Heap}{i:Int}{l}{a:Int}{w:Nat}(hh:¬ (0<=a-4096+w-i*h.C.pw/\a-4096+w-i*h.C.pw<h.C.pw)):Ee h i l a (w+1)=Ee h i l a w:=by unfold Ee;refine Lr λo b=>?_;have b:=Lf.1 b;congr 1;rw[Ln];simp;omega
def ZbF{h:Heap}{i:Int}{l}{a:Int}{w:Nat}(hh:0<=a-4096+w-i*h.C.pw/\a-4096+w-i*h.C.pw<h.C.pw):(Ee h i l a w).set (a-4096+w-i*h.C.pw).toNat Y=Ee h i l a (w+1):=by
 apply List.ext_getElem?;intro j;rw[List.getElem?_set,Z79];unfold Ee;by_cases b:j<h.C.pw.toNat
 rw[Ll,Ll,List.getElem?_range b,LG,LG];by_cases c:(a-4096+w-i*h.C.pw).toNat=j;rw[if_pos c,if_pos oq];congr 1;symm;rw[Bool.or_eq_true];right;rw[Lg,decide_eq_true_eq,decide_eq_true_eq];omega;rw[if_neg c];congr 2;rw[Ln,Lg,Lg,decide_eq_true_eq,decide_eq_true_eq,decide_eq_true_eq];omega;rw[if_neg oq,Ll,Ll,List.getElem?_eq_none qo];rfl
def ZeW{h i l a}(hn:0<=Gs h a):Ee h i l a (Gs h a).toNat=Ct h i (l++[a]):=by unfold Ee Ct;refine Lr λo _=>?_;rw[List.any_append];congr 1;simp[AS];rw[Ln];simp;omega
def Zg0(h:Heap) i:Ct h i []=Lk h.C.pw.toNat M:=by unfold Ct;simp[List.map_const']
def Tc(h:Heap)(i:Int)(l:List Int)(k:Nat):Tg:=⟨tm 69 [(1,int i),(2,Z3 l),(3,.pt 8003 0 0),(7,.ow 16017),(8,int k)],[(16017,.arr 4 1 ((Ct h i (l.take k)).map BS)),(8003,.box 28 h.cells)],60⟩
def Mo(h:Heap)(i:Int)(l m:List Int)(k:Nat)(n:Int)(w:Nat):Tg:=⟨tm 69 [(1,int i),(2,Z3 m),(3,.pt 8003 0 0),(7,.ow 16017),(8,int k),(11,int n),(12,int w)],[(16017,.arr 4 1 ((Ee h i l (m.getD k X) w).map BS)),(8003,.box 28 h.cells)],60⟩
def ZdW(h:Heap)(i:Int)(l m:List Int)(k:Nat)(n:Int)(w:Nat)(q:Z8 h=Y)(hm:m.length<=1048576)(p:0<=i/\i<h.P.length)(hr:0<=m.getD k X/\m.getD k X<=8192)(hk:k<m.length)(hn:n<=256)(hw:w<n):CP (Zm f219 2) (Mo h i l m k n w).st .nrm (Mo h i l m k n (w+1)).st:=by have r:=B1 q;have ap:=HI r.1 p.1 oq;have g:=Z79 h i l (m.getD k X) w;by_cases f:0<=m.getD k X-4096+w-i*h.C.pw/\m.getD k X-4096+w-i*h.C.pw<h.C.pw;have e:=ZbF (l:=l) f;let b:=m.getD k X-4096+(w:Int)-i*h.C.pw;let a:=Ee h i l (m.getD k X) w;let j:=0<=m.getD k X-4096+(w:Int)-i*h.C.pw;let d:=a.set b.toNat Y;exact sF [] (fO 11) (Fh 10067 [.els (Z BS d)] (Ftb 40 (L ((w:Int)<n)) (Fek 45 wdv m (↑k) k (Fi 47 (m.getD k X) (Fi 48 (m.getD k X-4096) (Fi 50 (m.getD k X-4096+(w:Int)) (Fi 55 (i*h.C.pw) (Fi 56 b (FlG 62 (decide j) BS a (Ftb 64 (decide j&&L (m.getD k X-4096+(w:Int)-i*h.C.pw<(a.length:Int))) (Fa (by grind[]:0<=m.getD k X-4096+(w:Int)-i*h.C.pw/\b.toNat<(Z BS a).length) (Fa (by grind[]:b.toNat<(Z BS a).length) (Fa (by rw[Ls];rfl:(Z BS a).set b.toNat [DV.sc (Value.bool Y)]=Z BS d) (Fx 42 w (Fr (4:Int) (Fa (by refine congrArg _ ?_;exact e:Z BS d=Z BS (Ee h i l (m.getD k X) (w+1))) Fz))))))))))))))));have e:=Zkv (l:=l) f;let c:=m.getD k X;let o:=0<=m.getD k X-4096+(w:Int)-i*h.C.pw;exact sF [] (fO 11) (Ftb 40 (L ((w:Int)<n)) (Fek 45 wdv m (↑k) k (Fi 47 c (Fi 48 (m.getD k X-4096) (Fi 50 (m.getD k X-4096+(w:Int)) (Fi 55 (i*h.C.pw) (Fi 56 (m.getD k X-4096+(w:Int)-i*h.C.pw) (FlG 62 (decide o) BS (Ee h i l c w) (Ffb 64 (decide o&&L (m.getD k X-4096+(w:Int)-i*h.C.pw<(↑(Ee h i l c w).length:Int))) (Fx 42 w (Fr (4:Int) (Fa (by refine congrArg _ ?_;rw[e]:Z BS (Ee h i l c w)=Z BS (Ee h i l c (w+1))) Fz))))))))))))
def Za1(h:Heap) i l m k(n:Int)(w:Nat)(hn:n<=w):CP (Zm f219 2) (Mo h i l m k n w).st (.ext 2) (Tg.st ⟨tm 69 [(1,int i),(2,Z3 m),(3,.pt 8003 0 0),(7,.ow 16017),(8,int k)],[(16017,.arr 4 1 ((Ee h i l (m.getD k X) w).map BS)),(8003,.box 28 h.cells)],60⟩):=by exact sF [] [] (Ffb 40 (L ((w:Int)<n)) Fz)
def Z8D(h:Heap)(i:Int)(m:List Int)(k:Nat)(n:Int)(g:Z8 h=Y)(e:m.length<=1048576)(d:0<=i/\i<h.P.length)(j:0<=m.getD k X/\m.getD k X<=8192)(a:k<m.length)(f:0<=n/\n<=256)(c:n=Gs h (m.getD k X)):CP (Zj f219 2) (Tg.st ⟨tm 69 [(1,int i),(2,Z3 m),(3,.pt 8003 0 0),(7,.ow 16017),(8,int k),(11,int n),(12,int 0)],[(16017,.arr 4 1 ((Ct h i (m.take k)).map BS)),(8003,.box 28 h.cells)],60⟩) .nrm (Tg.st ⟨tm 69 [(1,int i),(2,Z3 m),(3,.pt 8003 0 0),(7,.ow 16017),(8,int k)],[(16017,.arr 4 1 ((Ct h i (m.take (k+1))).map BS)),(8003,.box 28 h.cells)],60⟩):=by
 have:=Br (S:=λw=>(Mo h i (m.take k) m k n w).st) n.toNat kr (λw hw=>ZdW h i (m.take k) m k n w g e d j a f.2 oq) (Za1 h i (m.take k) m k n n.toNat oq);have b:Ee h i (m.take k) (m.getD k X) n.toNat=Ct h i (m.take (k+1)):=by(rw[MG a,c];exact ZeW oq)
 rw[b]at this;simp only[Mo,Zj3]at this;exact this
def ZbC(h:Heap)(i:Int)(l:List Int)(k:Nat)(g:Zx h.W)(d:Z8 h=Y)(hl:l.length<=1048576)(hi:0<=i/\i<h.P.length)(f:∀x∈l,0<=x/\x<=8192)(c:k<l.length):CP (Zm f219 0) (Tc h i l k).st .nrm (Tc h i l (k+1)).st:=by
 have po:=B1 d;have hx:=f (l.getD k X) (Bm.2 ⟨k,c,rfl⟩);have hm:=Ir g (l.getD k X);have hs:=HY (Z9 h (l.getD k X)).1;by_cases b:(Z9 h (l.getD k X)).1.K=0;have e:Gs h (l.getD k X)=1:=by rw[Gs,if_pos b]
 exact sF [] [] (FN 20 21 28 wdv l k (Fc 30 (@Nc h (l.getD k X) aa oq) (Fc 34 (@Ib ((Z9 h (l.getD k X)).1) aa) (Ftb 37 ((Z9 h (l.getD k X)).1.K==0) (Fu (@Z8D h i l k (1) aa aa aa aa aa oq oq) (Fx 23 k Fz))))));have e:Gs h (l.getD k X)=Z5 (Z9 h (l.getD k X)).1:=by rw[Gs,if_neg b]
 let a:=l.getD k X;exact sF [] [] (FN 20 21 28 wdv l k (Fc 30 (@Nc h a aa oq) (Fc 34 (@Ib ((Z9 h a).1) aa) (Ffb 37 ((Z9 h a).1.K==0) (Fu (@Z8D h i l k (Z5 (Z9 h a).1) aa aa aa aa aa aa oq) (Fx 23 k Fz))))))
def ZfJ(h:Heap) i l:CP (Zm f219 0) (Tc h i l l.length).st (.ext 0) (Tg.st ⟨tm 69 [(7,.ow 16017)],[(16017,.arr 4 1 ((Ct h i l).map BS))],60⟩):=by have e:l.take l.length=l:=LF;exact sF [] [M,Y] (FO 20 21 wdv l (Fr (4:Int) (Fa (by refine congrArg _ ?_;rw[e]:Z BS (Ct h i (Ld l.length l))=Z BS (Ct h i l)) Fz)))
def Zkw(h:Heap)(i:Int)(l:List Int)(e:Zx h.W)(c:Z8 h=Y)(hl:l.length<=1048576)(a:0<=i/\i<h.P.length)(d:∀x∈l,0<=x/\x<=8192):CP (Zj f219 0) (Tg.st ⟨tm 69 [(1,int i),(2,Z3 l),(3,.pt 8003 0 0),(7,.ow 16017),(8,int 0)],[(16017,.arr 4 1 ((Lk h.C.pw.toNat M).map BS)),(8003,.box 28 h.cells)],60⟩) .nrm (Tg.st ⟨tm 69 [(7,.ow 16017)],[(16017,.arr 4 1 ((Ct h i l).map BS))],60⟩):=by have:=Br (S:=λk=>(Tc h i l k).st) l.length kr (λk b=>ZbC h i l k e c hl a d b) (ZfJ h i l);simp only[Tc,List.take_zero,Zg0]at this;exact this
def Z4l(h:Heap)(i:Int)(l:List Int)(hw:Zx h.W)(a:Z8 h=Y)(hl:l.length<=1048576)(hi:0<=i/\i<h.P.length)(hr:∀x∈l,0<=x/\x<=8192):GP 219 [h.av,int i,Z3 l] M (.d (.sl 1 ((Ct h i l).map BS))) []:=by have po:=B1 a;exact gF [] func219 [] (Fh 17 [.els (Z BS (Lk h.C.pw.toNat M))] (Fb (0<=h.C.pw/\h.C.pw<=h.C.pw/\h.C.pw*((↑(nat_lit 0):Int)+1)<=2^48) (Fa (by rw[List.map_replicate];rfl:Lk h.C.pw.toNat [DV.sc (Value.bool M)]=Z BS (Lk h.C.pw.toNat M)) (Fu (@Zkw h i l aa aa aa aa aa) Fz))))
def CG(h:Heap)(i:Nat):List Bool:=Ct h i (Zd h (ZV h.P i:Nat)).1
def TK(h:Heap) i:(CG h i).length=h.C.pw.toNat:=by simp[CG,Ct]
def Z2X l:∀i,ZV l i<=i
 |0=>Nat.le_refl _
 |i+1=>by
  have:=Z2X l i;unfold ZV;split<;>omega
def Dm(h:Heap)(i:Nat)(u:List Bool)(k:Nat):Tg:=⟨tm 43 [(1,int i),(2,.pt 8002 0 0),(4,u64 0),(7,.d (.sl 1 (u.map BS))),(8,int k)],[(8002,.box 28 h.cells)],60⟩
section
variable (h:Heap) (i:Nat) (u:List Bool) (k:Nat) (a:Z8 h=Y) (b:i<h.P.length) (c:u.length<=64)
include a b c
theorem Z4t(hk:k<u.length)(d:u.getD k X=Y\/Gq h i k=0):CP (Zm f193 0) (Dm h i u k).st .nrm (Dm h i u (k+1)).st:=by have po:=B1 a;rcases d with d|d;exact sF [] [] (FN 23 24 29 BS u k (FcG 36 (!u.getD k X) (λe=>by(try simp only[bs]at e);exact@Z1T h ((i:Int)) ((k:Int)) aa) (Ffs 38 (!u.getD k X&&Gq h (i:Int) (k:Int) != 0) (Fx 26 k Fz))));exact sF [] [] (FN 23 24 29 BS u k (FcG 36 (!u.getD k X) (λe=>by(try simp only[bs]at e);exact@Z1T h ((i:Int)) ((k:Int)) aa) (Ffb 38 (!u.getD k X&&Gq h (i:Int) (k:Int) != 0) (Fx 26 k Fz))))
theorem Zaq(hk:k<u.length)(d:u.getD k X=M/\¬ Gq h i k=0):CP (Zm f193 0) (Dm h i u k).st .ret (Tg.st ⟨tm 43 [(4,u64 (4096+i*h.C.pw+k))],[],60⟩):=by have po:=B1 a;obtain⟨e,f⟩:=d;exact sF [] [] (FN 23 24 29 BS u k (FcG 36 (!u.getD k X) (λg=>by(try simp only[bs]at g);exact@Z1T h ((i:Int)) ((k:Int)) aa) (Fts 38 (!u.getD k X&&Gq h (i:Int) (k:Int) != 0) (Fc 42 (@Zgo h ((i:Int)) ((k:Int)) aa oq oq) Fz))))
omit a b c in
theorem ZfE:CP (Zm f193 0) (Dm h i u u.length).st (.ext 0) (Tg.st ⟨tm 43 [(4,u64 0)],[],60⟩):=by exact sF [] [] (FO 23 24 BS u Fz)
end
def Hs(h:Heap)(i:Nat)(u:List Bool)(k:Nat):Bool:=!u.getD k X&&L (Gq h i k≠0)
def El(h:Heap)(i:Nat)(u:List Bool):Int:=match (Lc u.length).find? (Hs h i u)with|O k=>4096+i*h.C.pw+k|La=>0
def Zcy(h:Heap)(i:Nat)(u:List Bool)(d:Z8 h=Y)(c:i<h.P.length)(e:u.length<=64)(b:(Lc u.length).find? (Hs h i u)=La) :CP (Zj f193 0) (Tg.st ⟨tm 43 [(1,int i),(2,.pt 8002 0 0),(4,u64 0),(7,.d (.sl 1 (u.map BS))),(8,int 0)],[(8002,.box 28 h.cells)],60⟩) .nrm (Tg.st ⟨tm 43 [(4,u64 0)],[],60⟩):=by
 refine Br (S:=λk=>(Dm h i u k).st) u.length kr (λk a=>Z4t h i u k d c e a ?_) (ZfE h i u);have:=Li.1 b k (Lf.2 a);simp only[Hs,bs]at this;cases hb:u.getD k X with|true=>exact .inl rfl|false =>rw[hb]at this;exact .inr (by simpa using this)
def Zbv(h:Heap)(i:Nat)(u:List Bool)(k:Nat)(d:Z8 h=Y)(c:i<h.P.length)(e:u.length<=64)(g:(Lc u.length).find? (Hs h i u)=O k) :CP (Zj f193 0) (Tg.st ⟨tm 43 [(1,int i),(2,.pt 8002 0 0),(4,u64 0),(7,.d (.sl 1 (u.map BS))),(8,int 0)],[(8002,.box 28 h.cells)],60⟩) .ret (Tg.st ⟨tm 43 [(4,u64 (4096+i*h.C.pw+k))],[],60⟩):=by
 obtain⟨a,b,f⟩:=Lj.1 g;have b:=Lf.1 b;refine EY (S:=λk=>(Dm h i u k).st) k kr (λm j=>Z4t h i u m d c e oq ?_) (Zaq h i u k d c e b ?_);have:=f m j;simp only[Hs,bs]at this;cases hb:u.getD m X with|true=>exact .inl rfl|false =>rw[hb]at this;exact .inr (by simpa using this)
 simp only[Hs,bs]at a;exact⟨a.1,a.2⟩
def Z7I(h:Heap)(i:Nat)(hw:Zx h.W)(d:Z8 h=Y)(hi:i<h.P.length):GP 193 [h.av,int i] Y (u64 (El h i (CG h i))) []:=by
 have po:=B1 d;have hh:=Z2X h.P i;have hn:=Np h (ZV h.P i:Nat);have hr:=Af d (ZV h.P i:Nat);have e:=TK h i;unfold CG at e⊢;cases hf:(Lc (Ct h i (Zd h (ZV h.P i:Nat)).1).length).find? (Hs h i (Ct h i (Zd h (ZV h.P i:Nat)).1))with
 |none =>
  have a:El h i (Ct h i (Zd h (ZV h.P i:Nat)).1)=0:=by rw[El,hf]
  let b:=Zd h (↑(ZV h.P i):Int);exact gF [] func193 (fO 6) (Fc 13 (@Z6c h i aa aa) (Fc 14 (@SC h ((↑(ZV h.P i):Int)) aa) (Fc 20 (@Z4l h ((i:Int)) (b.1) aa aa oq oq aa) (Fu (@Zcy h i (Ct h (i:Int) b.1) aa aa oq aa) (Fa (by rw[a]:0=El h i (Ct h (i:Int) b.1)) Fz)))))
 |some k =>
  have a:El h i (Ct h i (Zd h (ZV h.P i:Nat)).1)=4096+i*h.C.pw+k:=by rw[El,hf]
  let c:=Zd h (↑(ZV h.P i):Int);exact gF [] func193 (fO 6) (Fc 13 (@Z6c h i aa aa) (Fc 14 (@SC h ((↑(ZV h.P i):Int)) aa) (Fc 20 (@Z4l h ((i:Int)) (c.1) aa aa oq oq aa) (Fu (@Zbv h i (Ct h (i:Int) c.1) k aa aa oq aa) (Fa (by rw[a]:4096+(i:Int)*h.C.pw+(k:Int)=El h i (Ct h (i:Int) c.1)) Fz)))))
structure Ce where
 fault:Int
 page:Int
 addr:Int
 deriving DecidableEq,Inhabited
def Ce.av(f:Ce):AV:=.ag [int f.fault,int f.page,u64 f.addr]
def pageF(h:Heap)(i:Nat):Ce:=
 if(h.P.getD i X).K≠0/\(h.P.getD i X).S≠h.S then⟨2,i,0⟩
 else if(Zd h (i:Int)).2≠0 then⟨3,i,0⟩
 else if Cp h (i:Int) (Zd h (i:Int)).1≠0 then⟨5,i,Cp h (i:Int) (Zd h (i:Int)).1⟩
 else if El h i (CG h i)≠0 then⟨4,i,El h i (CG h i)⟩else⟨0,0,0⟩
def Z5V(h:Heap)(i:Nat)(hw:Zx h.W)(n:Z8 h=Y)(hi:i<h.P.length):GP 145 [h.av,int i] Y (pageF h i).av []:=by have po:=B1 n;have hn:=Np h (i:Int);have hr:=Af n (i:Int);have j {h_ c_ p_} (b:Fq h_ c_ p_):=Fek 12 Z0.dv h.P (↑i) i (FeG 20 ((h.P.getD i X).K != 0) Z0.dv h.P (↑i) i b);rcases bb ((h.P.getD i X).K != 0&&(h.P.getD i X).S != h.S)with hc0|hc0<;>have a:=hc0<;>simp only[bs]at a;obtain⟨f,g⟩:=a;rw[show pageF h i=Ce.mk (2:Int) (i:Int) (0:Int)from by(simp only[pageF] ;exact sj)];exact gF [] func145 [] (j (Ft 26 hc0 Fz));have k {h_ c_ p_} (b:Fq h_ c_ p_):=j (Ff 26 hc0 (Fc 32 (@SC h ((i:Int)) aa) b));rcases bb ((Zd h (i:Int)).2 != 0)with hc1|hc1<;>have c:=hc1<;>simp only[bs]at c;rw[show pageF h i=Ce.mk (3:Int) (i:Int) (0:Int)from by(simp only[pageF] ;exact sj)];exact gF [] func145 [] (k (Ft 36 hc1 Fz));have l {h_ c_ p_} (b:Fq h_ c_ p_):=k (Ff 36 hc1 (Fc 42 (@Z2x h ((i:Int)) ((Zd h (i:Int)).1) aa oq oq oq aa) b));rcases bb (Cp h (i:Int) (Zd h (i:Int)).1 != 0)with hc2|hc2<;>have d:=hc2<;>simp only[bs]at d;rw[show pageF h i=Ce.mk (5:Int) (i:Int) (Cp h (i:Int) (Zd h (i:Int)).1)from by(simp only[pageF] ;exact sj)];exact gF [] func145 [] (l (Ft 44 hc2 Fz));have m {h_ c_ p_} (b:Fq h_ c_ p_):=l (Ff 44 hc2 (Fc 50 (@Z7I h i aa aa aa) b));rcases bb (El h i (CG h i) != 0)with hc3|hc3<;>have e:=hc3<;>simp only[bs]at e;rw[show pageF h i=Ce.mk (4:Int) (i:Int) (El h i (CG h i))from by(simp only[pageF] ;exact sj)];exact gF [] func145 [] (m (Ft 52 hc3 Fz));rw[show pageF h i=Ce.mk (0:Int) (0:Int) (0:Int)from by(simp only[pageF] ;exact sj)];exact gF [] func145 [] (m (Ff 52 hc3 Fz))
def AL(h:Heap)(a:List Int)(i:Nat):Tg:=⟨tm 89 [(1,.pt 8001 0 0),(2,.pt 8002 0 0),(3,Z3 a),(5,int i)],[(8002,.box 148 [int 0,int 0,u64 0]),(8001,.box 28 h.cells)],60⟩
def IE(c:Zy)(b a:List Int)(k:Nat):Bool:=Bf c k&&L (b.getD k X≠0)&&!decide (b.getD k X∈a)
def AE(h:Heap)(a c:List Int)(b:Zy)(i k:Nat):Tg:=⟨tm 89 [(1,.pt 8001 0 0),(2,.pt 8002 0 0),(3,Z3 a),(5,int i),(6,.pt 488006 0 0),(8,Z3 c),(10,int k)],[(488006,.box 52 [int b.K,int b.length,u32 b.map]),(8002,.box 148 [int 0,int 0,u64 0]),(8001,.box 28 h.cells)],64⟩
section
variable (h:Heap) (a b:List Int) (c:Zy) (i k:Nat) (f:0<=c.map/\c.map<=4294967295) (hl:a.length<=1048576) (d:b.length<=4096) (g:0<=a.getD i X/\a.getD i X<=8192) (e:i<a.length)
include f hl d g e
theorem Z5r(hk:k<b.length)(j:IE c b a k=M):CP (Zm f146 2) (AE h a b c i k).st .nrm (AE h a b c i (k+1)).st:=by simp only[IE,bs]at j;rcases j with(j|j)|j;let m:=Bf c (k:Int)&&b.getD k X != 0;exact sF [] [] (FM 46 47 wdv b k (Fc 52 (@Nq c ((k:Int)) aa) (FeG 56 (Bf c (k:Int)) wdv b (↑k) k (FeG 64 m wdv b (↑k) k (FcG 66 m (λl=>by(try simp only[bs]at l);exact@CL a (b.getD k X) aa) (Ffs 68 (Bf c (k:Int)&&b.getD k X != 0&&!decide (b.getD k X∈a)) (Fx 49 k Fz)))))));let n:=Bf c (k:Int)&&b.getD k X != 0;exact sF [] [] (FM 46 47 wdv b k (Fc 52 (@Nq c ((k:Int)) aa) (FeG 56 (Bf c (k:Int)) wdv b (↑k) k (FeG 64 n wdv b (↑k) k (FcG 66 n (λl=>by(try simp only[bs]at l);exact@CL a (b.getD k X) aa) (Ffb 68 (Bf c (k:Int)&&b.getD k X != 0&&!decide (b.getD k X∈a)) (Fx 49 k Fz)))))));let o:=Bf c (k:Int)&&b.getD k X != 0;exact sF [] [] (FM 46 47 wdv b k (Fc 52 (@Nq c ((k:Int)) aa) (FeG 56 (Bf c (k:Int)) wdv b (↑k) k (FeG 64 o wdv b (↑k) k (FcG 66 o (λl=>by(try simp only[bs]at l);exact@CL a (b.getD k X) aa) (Ffs 68 (Bf c (k:Int)&&b.getD k X != 0&&!decide (b.getD k X∈a)) (Fx 49 k Fz)))))))
theorem Zey(hk:k<b.length)(j:IE c b a k=Y):CP (Zm f146 2) (AE h a b c i k).st .ret (Tg.st ⟨tm 89 [(2,.pt 8002 0 0)],[(8002,.box 148 [int 6,int (Z2 h.C (a.getD i X+1+k)).1,u64 (a.getD i X+1+k)])],64⟩):=by simp only[IE,bs]at j;obtain⟨⟨m,n⟩,o⟩:=j;let l:=Bf c (k:Int)&&b.getD k X != 0;exact sF [] [] (FM 46 47 wdv b k (Fc 52 (@Nq c ((k:Int)) aa) (FeG 56 (Bf c (k:Int)) wdv b (↑k) k (FeG 64 l wdv b (↑k) k (FcG 66 l (λp=>by(try simp only[bs]at p);exact@CL a (b.getD k X) aa) (Fts 68 (Bf c (k:Int)&&b.getD k X != 0&&!decide (b.getD k X∈a)) (Fek 71 wdv a (↑i) i (Fv 73 (a.getD i X+1) (Fv 75 (↑k) (Fv 76 (a.getD i X+1+(k:Int)) (Fc 81 (@GF h.C (a.getD i X+1+(k:Int)) oq oq) Fz)))))))))))
omit f hl d g e in
theorem ZdN:CP (Zm f146 2) (AE h a b c i b.length).st (.ext 2) (Tg.st ⟨tm 89 [(1,.pt 8001 0 0),(2,.pt 8002 0 0),(3,Z3 a),(5,int i)],[(8002,.box 148 [int 0,int 0,u64 0]),(8001,.box 28 h.cells)],64⟩):=by exact sF [] [] (FO 46 47 wdv b Fz)
end
section
variable (h:Heap) (a b:List Int) (c:Zy) (i:Nat) (f:0<=c.map/\c.map<=4294967295) (hl:a.length<=1048576) (d:b.length<=4096) (g:0<=a.getD i X/\a.getD i X<=8192) (e:i<a.length)
include f hl d g e
theorem Zdf(l:(Lc b.length).find? (IE c b a)=La):CP (Zj f146 2) (AE h a b c i 0).st .nrm (Tg.st ⟨tm 89 [(1,.pt 8001 0 0),(2,.pt 8002 0 0),(3,Z3 a),(5,int i)],[(8002,.box 148 [int 0,int 0,u64 0]),(8001,.box 28 h.cells)],64⟩):=by refine Br (S:=λk=>(AE h a b c i k).st) b.length kr (λk j=>Z5r h a b c i k f hl d g e j ?_) (ZdN h a b c i);have:=Li.1 l k (Lf.2 j);simpa using this
theorem Zcq(k:Nat)(p:(Lc b.length).find? (IE c b a)=O k):CP (Zj f146 2) (Tg.st ⟨tm 89 [(1,.pt 8001 0 0),(2,.pt 8002 0 0),(3,Z3 a),(5,int i),(6,.pt 488006 0 0),(8,Z3 b),(10,int 0)],[(488006,.box 52 [int c.K,int c.length,u32 c.map]),(8002,.box 148 [int 0,int 0,u64 0]),(8001,.box 28 h.cells)],64⟩) .ret (Tg.st ⟨tm 89 [(2,.pt 8002 0 0)],[(8002,.box 148 [int 6,int (Z2 h.C (a.getD i X+1+k)).1,u64 (a.getD i X+1+k)])],64⟩):=by obtain⟨n,j,o⟩:=Lj.1 p;have j:=Lf.1 j;refine EY (S:=λk=>(AE h a b c i k).st) k kr (λm l=>Z5r h a b c i m f hl d g e oq ?_) (Zey h a b c i k f hl d g e j n);have:=o m l;simpa using this
end
def Oe(h:Heap) a:(BR h a).1.length<=4096:=by unfold BR;split;rename_i e;have po:=B1 (Nt e).2.2.1;have:=Z8l h.W (a+1) (Zo h a).1.length;omega;simp
def Hw(h:Heap)(a:List Int)(i:Nat):Option Nat:=(Lc (BR h (a.getD i X)).1.length).find? (IE (Zo h (a.getD i X)).1 (BR h (a.getD i X)).1 a)
section
variable (h:Heap) (a:List Int) (i:Nat) (b:Zx h.W) (hl:a.length<=1048576) (hr:0<=a.getD i X/\a.getD i X<=8192) (hi:i<a.length)
include b hl hr hi
theorem Z5L(d:Hw h a i=La):CP (Zm f146 0) (AL h a i).st .nrm (AL h a (i+1)).st:=by have hm:=OD b (a.getD i X);have hf:(BR h (a.getD i X)).1.length<=4096:=Oe h _;unfold Hw at d;let c:=a.getD i X;exact sF [] [] (FN 22 23 30 wdv a i (Fc 32 (@Iz h c aa oq) (Fek 39 wdv a (↑i) i (Fc 41 (@Z31 h c aa oq) (Fu (@Zdf h a ((BR h c).1) ((Zo h c).1) i aa aa aa aa aa aa) (Fx 25 i Fz))))))
theorem Zdg(k:Nat)(d:Hw h a i=O k):CP (Zm f146 0) (AL h a i).st .ret (Tg.st ⟨tm 89 [(2,.pt 8002 0 0)],[(8002,.box 148 [int 6,int (Z2 h.C (a.getD i X+1+k)).1,u64 (a.getD i X+1+k)])],60⟩):=by have hm:=OD b (a.getD i X);have hf:(BR h (a.getD i X)).1.length<=4096:=Oe h _;unfold Hw at d;let c:=a.getD i X;exact sF [] [] (FN 22 23 30 wdv a i (Fc 32 (@Iz h c aa oq) (Fek 39 wdv a (↑i) i (Fc 41 (@Z31 h c aa oq) (Fu (@Zcq h a ((BR h c).1) ((Zo h c).1) i aa aa aa aa aa k aa) Fz)))))
end
def ZkF(h:Heap) a:CP (Zm f146 0) (AL h a a.length).st (.ext 0) (Tg.st ⟨tm 89 [(2,.pt 8002 0 0)],[(8002,.box 148 [int 0,int 0,u64 0])],60⟩):=by exact sF [] [] (FO 22 23 wdv a Fz)
def ED(h:Heap)(a:List Int):Ce:=
 match (Lc a.length).find? (λi=>(Hw h a i).isSome)with|none=>⟨0,0,0⟩|some i=>⟨6,(Z2 h.C (a.getD i X+1+((Hw h a i).getD 0:Nat))).1,a.getD i X+1+((Hw h a i).getD 0:Nat)⟩
section
variable (h:Heap) (a:List Int) (c:Zx h.W) (hl:a.length<=1048576) (b:∀x∈a,0<=x/\x<=8192)
include c hl b
theorem ZkC(e:(Lc a.length).find? (λi=>(Hw h a i).isSome)=La):CP (Zj f146 0) (AL h a 0).st .nrm (Tg.st ⟨tm 89 [(2,.pt 8002 0 0)],[(8002,.box 148 [int 0,int 0,u64 0])],60⟩):=by refine Br (S:=λk=>(AL h a k).st) a.length kr (λk d=>Z5L h a k c hl (b _ (Bm.2 ⟨k,d,rfl⟩)) d ?_) (ZkF h a);have:=Li.1 e k (Lf.2 d);simpa using this
theorem Z9Q(i k:Nat)(j:(Lc a.length).find? (λi=>(Hw h a i).isSome)=O i)(e:Hw h a i=O k):CP (Zj f146 0) (Tg.st ⟨tm 89 [(1,.pt 8001 0 0),(2,.pt 8002 0 0),(3,Z3 a),(5,int 0)],[(8002,.box 148 [int 0,int 0,u64 0]),(8001,.box 28 h.cells)],60⟩) .ret (Tg.st ⟨tm 89 [(2,.pt 8002 0 0)],[(8002,.box 148 [int 6,int (Z2 h.C (a.getD i X+1+k)).1,u64 (a.getD i X+1+k)])],60⟩):=by obtain⟨h1,d,g⟩:=Lj.1 j;have d:=Lf.1 d;refine EY (S:=λk=>(AL h a k).st) i kr (λm f=>Z5L h a m c hl (b _ (Bm.2 ⟨m,by omega,rfl⟩)) oq ?_) (Zdg h a i c hl (b _ (Bm.2 ⟨i,d,rfl⟩)) d k e);have:=g m f;simpa using this
end
def Z0z(h:Heap)(hw:Zx h.W):GP 146 [h.av] Y (ED h (Zr h).1).av []:=by
 have hl:=Rx h;have hr:=De h;cases hb:(Lc (Zr h).1.length).find? (λi=>(Hw h (Zr h).1 i).isSome)with
 |none =>
  have e:ED h (Zr h).1=⟨0,0,0⟩:=by simp only[ED,hb]
  rw[e];exact gF [] func146 [] (Fc 17 (@M1 h aa) (Fu (@ZkC h ((Zr h).1) aa oq aa aa) Fz))
 |some i =>
  have a:=(Lj.1 hb).1;obtain⟨k,b⟩:=Option.isSome_iff_exists.1 a;have e:ED h (Zr h).1=⟨6,(Z2 h.C ((Zr h).1.getD i X+1+(k:Nat))).1,(Zr h).1.getD i X+1+(k:Nat)⟩:=by simp only[ED,hb,b,Option.getD_some]
  rw[e];exact gF [] func146 [] (Fc 17 (@M1 h aa) (Fu (@Z9Q h ((Zr h).1) aa oq aa i k aa aa) Fz))
def Zdv(h:Heap)(hw:Zx h.W)(hp:Z8 h=M):GP 89 [h.av] Y (Ce.mk 1 0 0).av []:=by exact gF [] func89 [] (Fc 9 (@CH h) (Ftb 10 (!Z8 h) Fz))
def AN(h:Heap)(i:Nat):Tg:=⟨tm 65 [(1,.pt 8001 0 0),(2,.pt 8002 0 0),(3,int i)],[(8002,.box 148 [int 0,int 0,u64 0]),(8001,.box 28 h.cells)],60⟩
section
variable (h:Heap) (i:Nat) (hw:Zx h.W) (a:Z8 h=Y)
include hw a
theorem Z8q(hi:i<h.P.length)(hb:(pageF h i).fault=0):CP (Zm f89 0) (AN h i).st .nrm (AN h (i+1)).st:=by have po:=B1 a;exact sF [] [] (FM 15 16 Z0.dv h.P i (Fc 21 (@Z5V h i aa aa aa) (Ffb 24 ((pageF h i).fault != 0) (Fx 18 i Fz))))
theorem Zcr(hi:i<h.P.length)(hb:(pageF h i).fault≠0):CP (Zm f89 0) (AN h i).st .ret (Tg.st ⟨tm 65 [(2,.pt 8002 0 0)],[(8002,.box 148 [int (pageF h i).fault,int (pageF h i).page,u64 (pageF h i).addr])],60⟩):=by have po:=B1 a;exact sF [] [] (FM 15 16 Z0.dv h.P i (Fc 21 (@Z5V h i aa aa aa) (Ftb 24 ((pageF h i).fault != 0) Fz)))
end
def ZiI(h:Heap)(a:Z8 h=Y):CP (Zm f89 0) (AN h h.P.length).st (.ext 0) (Tg.st ⟨tm 65 [(1,.pt 8001 0 0),(2,.pt 8002 0 0)],[(8002,.box 148 [int 0,int 0,u64 0]),(8001,.box 28 h.cells)],60⟩):=by have po:=B1 a;exact sF [] [] (FO 15 16 Z0.dv h.P Fz)
def Gm(h:Heap):Option Nat:=(Lc h.P.length).find? (λi=>L ((pageF h i).fault≠0))
section
variable (h:Heap) (b:Zx h.W) (a:Z8 h=Y)
include b a
theorem Z1B(d:Gm h=La):CP (Zj f89 0) (AN h 0).st .nrm (Tg.st ⟨tm 65 [(1,.pt 8001 0 0),(2,.pt 8002 0 0)],[(8002,.box 148 [int 0,int 0,u64 0]),(8001,.box 28 h.cells)],60⟩):=by refine Br (S:=λk=>(AN h k).st) h.P.length kr (λk c=>Z8q h k b a c ?_) (ZiI h a);have:=Li.1 d k (Lf.2 c);simpa using this
theorem Zdb(i:Nat)(g:Gm h=O i):CP (Zj f89 0) (Tg.st ⟨tm 65 [(1,.pt 8001 0 0),(2,.pt 8002 0 0),(3,int 0)],[(8002,.box 148 [int 0,int 0,u64 0]),(8001,.box 28 h.cells)],60⟩) .ret (Tg.st ⟨tm 65 [(2,.pt 8002 0 0)],[(8002,.box 148 [int (pageF h i).fault,int (pageF h i).page,u64 (pageF h i).addr])],60⟩):=by obtain⟨e,c,f⟩:=Lj.1 g;have c:=Lf.1 c;refine EY (S:=λk=>(AN h k).st) i kr (λm d=>Z8q h m b a oq ?_) (Zcr h i b a c (by simpa using e));have:=f m d;simpa using this
end
def Zkc(h:Heap)(hw:Zx h.W)(hp:Z8 h=Y)(i:Nat)(hb:Gm h=O i):GP 89 [h.av] Y (pageF h i).av []:=by exact gF [] func89 [] (Fc 9 (@CH h) (Ffb 10 (!Z8 h) (Fu (@Zdb h aa aa i aa) Fz)))
def Zgy(h:Heap)(hw:Zx h.W)(hp:Z8 h=Y)(hb:Gm h=La)(hq:(ED h (Zr h).1).fault≠0):GP 89 [h.av] Y (ED h (Zr h).1).av []:=by exact gF [] func89 [] (Fc 9 (@CH h) (Ffb 10 (!Z8 h) (Fu (@Z1B h aa aa aa) (Fc 27 (@Z0z h aa) (Ftb 30 ((ED h (Zr h).1).fault != 0) Fz)))))
end Go.Proofs.YtgedmeaemofdkaaGreat
