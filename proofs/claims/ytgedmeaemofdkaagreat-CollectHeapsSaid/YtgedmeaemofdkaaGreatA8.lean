/-
 The statement CollectHeaps: part 8.
 Conditions: none.
-/
import Derived.Test.YtgedmeaemofdkaaGreatA7
set_option maxRecDepth 100000
set_option maxHeartbeats 2000000
set_option linter.all false
open Inhabited renaming default->X
open Bool renaming true->Y,false->Z,and_eq_true->Lf,eq_false_or_eq_true->Lk,eq_iff_iff->Ll
open List renaming map->M,take->Lc,filter->Ld,range->Le,mem_range->Lh,replicate->Li,getElem?_map->Lj,append_nil->Ln,find?_eq_none->Lo,getD->Lp,map_congr_left->Lq,map_set->Lr,append_assoc->Lv,filter_append->Lw,filter_cons->Lx,filter_nil->Ly,find?_range_eq_some->Lz,getElem?_set->LA,length_filter_le->LB,map_append->LC,map_drop->LD,map_take->LF,take_length->LG
open Decidable renaming decide->L
open Option renaming some->O,none->La,map_eq_some_iff->Ls,map_some->LH
open Int renaming toNat->Lb,fdiv_eq_ediv_of_nonneg->Lm
open Go.IntKind renaming u64->Lg,i64->Lt,u32->Lu
open Go.Proofs.Tryz
namespace Go.Proofs.YtgedmeaemofdkaaGreat
open Go.Sx
def G0(c:B2)(a:ZB):Bool:=ZV a&&L (a.K≠0)&&L (need c (Z5 a)≠-1)
def AH(c:B2)(a:ZB)(hm:0<=a.map/\a.map<=4294967295):GP 165 [c.av,a.av] Y (bL (G0 c a)) []:=by refine Zb [((6:Nat),[Hint.call Y (bL (ZV a)) []]),((15:Nat),[Hint.call Y (nI (Z5 a)) []]),((16:Nat),[Hint.call Y (nI (need c (Z5 a))) []])] [] [] dd func165 [Z,Z,Z,Z,Z,Z,Z,Z,Y] (φ:=GP 113 [a.av] Y (bL (ZV a)) []/\((ZV a&&a.K != (0:Int))=Y->GP 70 [a.av] Y (nI (Z5 a)) [])/\((ZV a&&a.K != (0:Int))=Y->GP 47 [c.av,nI (Z5 a)] Y (nI (need c (Z5 a))) [])/\(ZV a&&a.K != (0:Int)&&need c (Z5 a) != (-1:Int))=G0 c a) ?_ kr kr;exact⟨(@Nk (a) aa),(λb=>by(try simp only[bs]at b);exact@Ia (a) (by(try simp only[bs]at b);assumption)),(λb=>by(try simp only[bs]at b);exact@RG (c) (Z5 a)),(by grind[G0])⟩
def Cv(l:List Z0)(i:Nat)(n:Int):List Z0:=l.set i ⟨(l.getD i X).K,(l.getD i X).S,(l.getD i X).U+n,(l.getD i X).N⟩
def R3(h:Heap)(n:Int):Prop:=0<=h.B/\(h.P.getD h.B.toNat X).S=h.S/\(h.P.getD h.B.toNat X).U+n<=h.C.pw/\(Cs h.P:Int)<=Ed h.C
instance (h:Heap) (n:Int):Decidable (R3 h n):=by unfold R3;infer_instance
def HZ(h:Heap):List Z0:=(Z5B h.P (first h.P 1) h.S).1
def Bm(h:Heap)(n:Int):Heap×Int×Bool:=
 if R3 h n then(⟨h.C,h.W,Cv h.P h.B.toNat n,h.S,h.B⟩,4096+h.B*h.C.pw+(h.P.getD h.B.toNat X).U,Y)
 else if 0<=first h.P 1/\(Cs h.P:Int)<Ed h.C then
  (⟨h.C,h.W,Cv (HZ h) (first h.P 1).toNat n,h.S,first h.P 1⟩,4096+first h.P 1*h.C.pw+((HZ h).getD (first h.P 1).toNat X).U,Y)
 else(ZY,0,Z)
def Z29{l:List Z0}{i k:Nat}{p q}(h:i+k<=l.length):(ZQ l i k p q).length=l.length:=by rw[ZQ,List.length_set];exact N9 (by simpa using h) pq
def RB{h:Heap}(hs:h.S=0\/h.S=1)(b:0<=first h.P 1):HZ h=ZQ h.P (first h.P 1).toNat 1 ⟨1,h.S,0,0⟩ ⟨0,0,0,0⟩/\(HZ h).length=h.P.length/\(first h.P 1)<h.P.length /\ ((HZ h).getD (first h.P 1).toNat X)=⟨1,h.S,0,0⟩:=by
 obtain⟨_,h1,a⟩:=Ik b;have e:HZ h=ZQ h.P (first h.P 1).toNat 1 ⟨1,h.S,0,0⟩ ⟨0,0,0,0⟩:=by(rw[HZ,Z5B,if_pos oq,EN,if_pos oq,if_pos a];rfl)
 have c:(HZ h).length=h.P.length:=by rw[e];exact Z29 oq
 refine⟨e,c,by omega, ?_⟩;rw[e,ZQ,List.getD_eq_getElem?_getD,LA,if_pos rfl,if_pos (by rw[N9 qo pq];omega)];rfl
def Z96{c:B2}(a:Zq c=Y):2<=Ed c/\Ed c<=16:=by have:=BF.1 a;rw[Ed,if_pos a,GU oq];omega
def HR{c:B2}{i:Int}(a:Zq c=Y)(b:0<=i)(h1:i<c.pg):0<=i*c.pw/\i*c.pw+c.pw<=4096:=by have hb:=BF.1 a;have ha:=Hl a;have h2:0<=i*c.pw:=Int.mul_nonneg b oq;have d:(i+1)*c.pw<=c.pg*c.pw:=Int.mul_le_mul_of_nonneg_right oq oq;rw[Int.add_mul,Int.one_mul,Int.mul_comm c.pg]at d;omega
def OD(h:Heap)(n:Int)(m:Z8 h=Y)(hn:1<=n/\n<=256):GP 166 [h.av,nI n] Z (.tu [(Bm h n).1.av,uU (Bm h n).2.1,bL (Bm h n).2.2]) []:=by
 have x:=B5 m;obtain⟨o,o2,o3,o4,o5,o6,o7,o8,w⟩:=x;have hb:=(Ig.1 m).2.2.2.2.1;have v:=λr=>EL m (j:=h.B.toNat) r;have hr:=Z3w h.P 1;have e:=λb=>RB (h:=h) w b;have q:=Z6j h.P;have s:=Z96 o;have t:0<=h.B->0<=h.B*h.C.pw/\h.B*h.C.pw+h.C.pw<=4096:=λk=>HR o k oq;have u:0<=first h.P 1->0<=first h.P 1*h.C.pw/\first h.P 1*h.C.pw+h.C.pw<=4096:=λk=>HR o k (by have:=e k;omega)
 by_cases b:R3 h n;have d:Bm h n=(⟨h.C,h.W,Cv h.P h.B.toNat n,h.S,h.B⟩,4096+h.B*h.C.pw+(h.P.getD h.B.toNat X).U,Y):=by rw[Bm,if_pos b]
 unfold R3 at b;rw[show Bm h n=(Heap.mk h.C h.W (h.P.set h.B.toNat (Z0.mk (h.P.getD h.B.toNat X).K (h.P.getD h.B.toNat X).S ((h.P.getD h.B.toNat X).U+n) (h.P.getD h.B.toNat X).N)) h.S h.B,(4096:Int)+h.B*h.C.pw+(h.P.getD h.B.toNat X).U,Y)from by rw[d];rfl];let a:=h.P.getD h.B.toNat X;exact gF [] func166 []<|FA 11 14 Z0.dv h.P<|Fc 18 (@Mx h.C)<|Fc 21 (@Mo h.P oq)<|FmGq 32 (!decide (h.B<0)) Z0.dv h.P h.B<|FmGq 43 (!(L (h.B<0)||a.S != h.S)) Z0.dv h.P h.B<|FiG 45 (!(L (h.B<0)||a.S != h.S)) (a.U+n)<|Ffb 55 (L (h.B<0)||a.S != h.S||L (h.C.pw<a.U+n)||L (Ed h.C<(↑(Cs h.P):Int)))<|Fi 83 (h.B*h.C.pw)<|Fi 84 (4096+h.B*h.C.pw)<|Fmq 90 Z0.dv h.P h.B<|Fi 91 (4096+h.B*h.C.pw+a.U)<|Fv 92 (4096+h.B*h.C.pw+a.U)<|Fmq 101 Z0.dv h.P h.B<|Fi 103 (a.U+n)<|Fm0q Z0.dv h.P h.B<|FS 10105 Z0.dv h.P h.B.toNat (Z0.mk a.K a.S (a.U+n) a.N) (a.dv) Fz;by_cases l:0<=first h.P 1/\(Cs h.P:Int)<Ed h.C
 have d:Bm h n=(⟨h.C,h.W,Cv (HZ h) (first h.P 1).toNat n,h.S,first h.P 1⟩,4096+first h.P 1*h.C.pw+((HZ h).getD (first h.P 1).toNat X).U,Y):=by rw[Bm,if_neg b,if_pos l]
 obtain⟨y,z,q3,p⟩:=e l.1;obtain⟨r1,r2,r3⟩:=Ik l.1;have r4:HP h.P (first h.P 1).toNat 1=Y:=r3;rw[y]at d z p;have q6:=congrArg Z0.U p;simp only at q6;unfold R3 at b;rw[show Bm h n=(Heap.mk h.C h.W ((ZQ h.P (first h.P (1:Int)).toNat (1:Nat) (Z0.mk (1:Int) h.S (0:Int) (0:Int)) (Z0.mk (0:Int) (0:Int) (0:Int) (0:Int))).set (first h.P (1:Int)).toNat (Z0.mk ((ZQ h.P (first h.P (1:Int)).toNat (1:Nat) (Z0.mk (1:Int) h.S (0:Int) (0:Int)) (Z0.mk (0:Int) (0:Int) (0:Int) (0:Int))).getD (first h.P (1:Int)).toNat X).K ((ZQ h.P (first h.P (1:Int)).toNat (1:Nat) (Z0.mk (1:Int) h.S (0:Int) (0:Int)) (Z0.mk (0:Int) (0:Int) (0:Int) (0:Int))).getD (first h.P (1:Int)).toNat X).S (((ZQ h.P (first h.P (1:Int)).toNat (1:Nat) (Z0.mk (1:Int) h.S (0:Int) (0:Int)) (Z0.mk (0:Int) (0:Int) (0:Int) (0:Int))).getD (first h.P (1:Int)).toNat X).U+n) ((ZQ h.P (first h.P (1:Int)).toNat (1:Nat) (Z0.mk (1:Int) h.S (0:Int) (0:Int)) (Z0.mk (0:Int) (0:Int) (0:Int) (0:Int))).getD (first h.P (1:Int)).toNat X).N)) h.S (first h.P (1:Int)),(4096:Int)+first h.P (1:Int)*h.C.pw+((ZQ h.P (first h.P (1:Int)).toNat (1:Nat) (Z0.mk (1:Int) h.S (0:Int) (0:Int)) (Z0.mk (0:Int) (0:Int) (0:Int) (0:Int))).getD (first h.P (1:Int)).toNat X).U,Y)from by rw[d];rfl];let f:=ZQ h.P (first h.P 1).toNat 1 (Z0.mk 1 h.S 0 0) (Z0.mk 0 0 0 0);let c:=f.getD (first h.P 1).toNat X;let g:=h.P.getD h.B.toNat X;exact gF [] func166 []<|FA 11 14 Z0.dv h.P<|Fc 18 (@Mx h.C)<|Fc 21 (@Mo h.P oq)<|FmGq 32 (!decide (h.B<0)) Z0.dv h.P h.B<|FmGq 43 (!(L (h.B<0)||g.S != h.S)) Z0.dv h.P h.B<|FiG 45 (!(L (h.B<0)||g.S != h.S)) (g.U+n)<|Ftb 55 (L (h.B<0)||g.S != h.S||L (h.C.pw<g.U+n)||L (Ed h.C<(↑(Cs h.P):Int)))<|Fc 58 (@DF h.P (1) oq)<|Ffb 65 (L (first h.P (1:Int)<0)||L (Ed h.C<=(↑(Cs h.P):Int)))<|Fc 73 (@Z8Y h.P (first h.P 1) h.S oq oq oq aa)<|Fi 83 (first h.P 1*h.C.pw)<|Fi 84 (4096+first h.P 1*h.C.pw)<|Fmq 90 Z0.dv f (first h.P 1)<|Fi 91 (4096+first h.P 1*h.C.pw+c.U)<|Fv 92 (4096+first h.P 1*h.C.pw+c.U)<|Fmq 101 Z0.dv f (first h.P 1)<|Fi 103 (c.U+n)<|Fm0q Z0.dv f (first h.P 1)<|FS 10105 Z0.dv f ((first h.P 1).toNat) (Z0.mk c.K c.S (c.U+n) c.N) (c.dv) Fz;have d:Bm h n=(ZY,0,Z):=by rw[Bm,if_neg b,if_neg l]
 unfold R3 at b;rw[d];let i:=h.P.getD h.B.toNat X;exact gF [] func166 []<|FAx 11 14 Z0.dv h.P (by(simp[ZY, *];omega))<|Fc 18 (@Mx h.C)<|Fc 21 (@Mo h.P oq)<|FmGq 32 (!decide (h.B<0)) Z0.dv h.P h.B<|FmGq 43 (!(L (h.B<0)||i.S != h.S)) Z0.dv h.P h.B<|FiG 45 (!(L (h.B<0)||i.S != h.S)) (i.U+n)<|Ftb 55 (L (h.B<0)||i.S != h.S||L (h.C.pw<i.U+n)||L (Ed h.C<(↑(Cs h.P):Int)))<|Fc 58 (@DF h.P (1) oq)<|Ftb 65 (L (first h.P (1:Int)<0)||L (Ed h.C<=(↑(Cs h.P):Int)))<|Fnl (Fnl Fz)
def BG(h:Heap)(n k:Int):Heap×Int×Bool:=
 if 0<=first h.P k/\Cs h.P+k<=Ed h.C then(⟨h.C,h.W,(Hv h.C h.P (first h.P k) h.S n).1,h.S,h.B⟩,4096+first h.P k*h.C.pw,Y)else(ZY,0,Z)
def Z7q(h:Heap)(n k:Int)(q:Z8 h=Y)(hk:k=need h.C n)(l:1<=k):GP 167 [h.av,nI n,nI k] Z (.tu [(BG h n k).1.av,uU (BG h n k).2.1,bL (BG h n k).2.2]) []:=by
 have r:=B5 q;obtain⟨g,o2,o3,o4,o5,o6,o7,o8,o9⟩:=r;have hr:=Z3w h.P k;have c:0<=first h.P k->first h.P k+k<=h.P.length:=λi=>(Ik i).2.1
 have j:=Z6j h.P;have m:=Z96 g;have p:=Dy h.C n;have o:0<=first h.P k->0<=first h.P k*h.C.pw/\first h.P k*h.C.pw+h.C.pw<=4096:=λf=>HR g f (by have:=c f;omega)
 by_cases a:0<=first h.P k/\Cs h.P+k<=Ed h.C
 have b:BG h n k=(⟨h.C,h.W,(Hv h.C h.P (first h.P k) h.S n).1,h.S,h.B⟩,4096+first h.P k*h.C.pw,Y):=by rw[BG,if_pos a]
 rw[show BG h n k=(Heap.mk h.C h.W (Hv h.C h.P (first h.P k) h.S n).1 h.S h.B,(4096:Int)+first h.P k*h.C.pw,Y)from by rw[b]];let d:=!decide (first h.P k<0);exact gF [] func167 []<|Fc 13 (@DF h.P k oq)<|FcG 19 d (λa=>by(try simp only[bs]at a);exact@Mo h.P oq)<|FiG 21 d ((↑(Cs h.P):Int)+k)<|FcG 24 d (λa=>by(try simp only[bs]at a);exact@Mx h.C)<|Ffb 26 (L (first h.P k<0)||L (Ed h.C<(↑(Cs h.P):Int)+k))<|Fc 37 (@Zeq h.C h.P (first h.P k) h.S n oq)<|Fi 46 (first h.P k*h.C.pw)<|Fi 47 (4096+first h.P k*h.C.pw)<|Fv 48 (4096+first h.P k*h.C.pw) Fz;have b:BG h n k=(ZY,0,Z):=by rw[BG,if_neg a]
 rw[b];let e:=!decide (first h.P k<0);exact gF [] func167 []<|Fc 13 (@DF h.P k oq)<|FcG 19 e (λa=>by(try simp only[bs]at a);exact@Mo h.P oq)<|FiG 21 e ((↑(Cs h.P):Int)+k)<|FcG 24 e (λa=>by(try simp only[bs]at a);exact@Mx h.C)<|Ftb 26 (L (first h.P k<0)||L (Ed h.C<(↑(Cs h.P):Int)+k))<|Fnl (Fnl Fz)
def ZkD{h:Heap}{n:Int}(g:Z8 h=Y)(hn:1<=n/\n<=256):0<=(Bm h n).2.1/\(Bm h n).2.1<=8192/\((Bm h n).2.2=Y->(Bm h n).1.W=h.W/\4096<=(Bm h n).2.1)/\((Bm h n).2.2=Z->(Bm h n).1=ZY):=by
 obtain⟨m,o2,o3,o4,o5,o6,o7,o8,q⟩:=B5 g;have hb:=(Ig.1 g).2.2.2.2.1;have i:=λp=>EL g (j:=h.B.toNat) p;have a:=λc=>RB (h:=h) q c;have d:0<=h.B->0<=h.B*h.C.pw/\h.B*h.C.pw+h.C.pw<=4096:=λb=>HR m b oq;have f:0<=first h.P 1->0<=first h.P 1*h.C.pw/\first h.P 1*h.C.pw+h.C.pw<=4096:=λb=>HR m b (by have:=a b;omega)
 unfold Bm;split;rename_i c;unfold R3 at c;have o:=d c.1;have k:=i oq;refine⟨by simp only;omega,by simp only;omega,λ_=>⟨rfl,by simp only;omega⟩,λe=>by cases e⟩;split;rename_i l;have o:=f l.1;have k:=congrArg Z0.U (a l.1).2.2.2;simp only at k;refine⟨by simp only;omega,by simp only;omega,λ_=>⟨rfl,by simp only;omega⟩,λe=>by cases e⟩;exact⟨by simp,by simp,(λe=>nomatch e),λ_=>rfl⟩
def Zg2{h:Heap}{n k}(b:Z8 h=Y):0<=(BG h n k).2.1/\(BG h n k).2.1<=8192/\((BG h n k).2.2=Y->(BG h n k).1.W=h.W/\4096<=(BG h n k).2.1)/\((BG h n k).2.2=Z->(BG h n k).1=ZY):=by obtain⟨d,o2,o3,o4,o5,o6,o7,o8,o9⟩:=B5 b;unfold BG;split;rename_i a;have h3:=(Ik a.1);have h1:=HR (c:=h.C) (i:=first h.P k) d a.1 oq;exact⟨by simp only;omega,by simp only;omega,λ_=>⟨rfl,by simp only;omega⟩,λe=>by cases e⟩;exact⟨by simp,by simp,(λe=>nomatch e),λ_=>rfl⟩
def Eg(h:Heap)(a:ZB):Heap×Int×Bool:=if 0<need h.C (Z5 a)then BG h (Z5 a) (need h.C (Z5 a))else Bm h (Z5 a)
def Bb(h:Heap)(a:ZB):Heap×Int×Int:=
 if Z8 h=Y/\G0 h.C a=Y then(if(Eg h a).2.2=Y then((BC (Eg h a).1 (Eg h a).2.1 a).1,(Eg h a).2.1,0)else(ZY,0,3))else(ZY,0,1)
def SB:Zy []:=λw h=>by simp at h
def Z3G{c}{a:ZB}(h:G0 c a=Y):ZV a=Y/\1<=Z5 a/\Z5 a<=256/\0<=need c (Z5 a)/\a.K≠0:=by
 simp only[G0,Lf,decide_eq_true_eq]at h;have hv:=Gq.1 h.1.1;have hn:=Dy c (Z5 a);have hs:Z5 a=a.length+1:=by rw[Z5,if_pos h.1.1]
 exact⟨h.1.1,by omega,by omega,by omega,h.1.2⟩
def Z5J(h:Heap)(a:ZB)(p:Zy h.W)(hm:0<=a.map/\a.map<=4294967295):GP 114 [h.av,a.av] Z (.tu [(Bb h a).1.av,uU (Bb h a).2.1,nI (Bb h a).2.2]) []:=by
 by_cases f:Z8 h=Y;cases ha:G0 h.C a with
 |false =>
  have b:Bb h a=(ZY,0,1):=by rw[Bb,if_neg (by rw[ha];simp)]
  rw[b];exact gF [] func114 []<|Fc 13 (@CC h)<|FcG 19 (!!Z8 h) (λd=>by(try simp only[bs]at d);exact@AH h.C a aa)<|Fts 21 (!Z8 h||!G0 h.C a)<|Fnl (Fnl Fz)
 |true =>
  obtain⟨a1,q,r,a4,a5⟩:=Z3G ha;have l:=ZkD f ⟨q,r⟩;have m:=Zg2 (n:=Z5 a) (k:=need h.C (Z5 a)) f;have w1:Zy (Bm h (Z5 a)).1.W:=by
   cases e:(Bm h (Z5 a)).2.2 with|true=>rw[(l.2.2.1 e).1];exact p|false=>rw[l.2.2.2 e];exact SB
  have w2:Zy (BG h (Z5 a) (need h.C (Z5 a))).1.W:=by
   cases e:(BG h (Z5 a) (need h.C (Z5 a))).2.2 with|true=>rw[(m.2.2.1 e).1];exact p|false=>rw[m.2.2.2 e];exact SB
  by_cases o:0<need h.C (Z5 a);have b:Eg h a=BG h (Z5 a) (need h.C (Z5 a)):=by rw[Eg,if_pos o]
  have i {h_ c_ p_} (g:Fq h_ c_ p_):=Fc 13 (@CC h)<|FcG 19 (!!Z8 h) (λd=>by(try simp only[bs]at d);exact@AH h.C a aa)<|Ffs 21 (!Z8 h||!G0 h.C a)<|Fc 24 (@Ia a aa)<|Fc 28 (@RG h.C (Z5 a))<|Fc 32 (@OD h (Z5 a) aa oq)<|Ftb 37 (L (0<need h.C (Z5 a)))<|Fc 42 (@Z7q h (Z5 a) (need h.C (Z5 a)) aa (by rfl) aa) g;rcases bb (!(BG h (Z5 a) (need h.C (Z5 a))).2.2)with hc0|hc0<;>have c:=hc0<;>simp only[bs]at c;exact gF [] func114 (fO 5) (i (Ft 47 hc0<|Fnl (Fnl (Fa (by simp[Bb,b,ZY, *]:0=(Bb h a).1.C.pw)<|Fa (by simp[Bb,b,ZY, *]:0=(Bb h a).1.C.pg)<|Fa (by simp[Bb,b,ZY, *]:[]=M wD (Bb h a).1.W)<|Fa (by simp[Bb,b,ZY, *]:[]=M Z0.dv (Bb h a).1.P)<|Fa (by simp[Bb,b,ZY, *]:0=(Bb h a).1.S)<|Fa (by simp[Bb,b,ZY, *]:0=(Bb h a).1.B)<|Fa (by simp[Bb,b,ZY, *]:0=(Bb h a).2.1)<|Fa (by simp[Bb,b,ZY, *]:3=(Bb h a).2.2) Fz))));rw[show Bb h a=((BC (BG h (Z5 a) (need h.C (Z5 a))).1 (BG h (Z5 a) (need h.C (Z5 a))).2.1 a).1,(BG h (Z5 a) (need h.C (Z5 a))).2.1,(0:Int))from by simp[Bb,b,ZY, *]];exact gF [] func114 [] (i (Ff 47 hc0<|Fc 53 (@Z3Q ((BG h (Z5 a) (need h.C (Z5 a))).1) ((BG h (Z5 a) (need h.C (Z5 a))).2.1) a aa oq aa) Fz));have b:Eg h a=Bm h (Z5 a):=by rw[Eg,if_neg o]
  have j {h_ c_ p_} (g:Fq h_ c_ p_):=Fc 13 (@CC h)<|FcG 19 (!!Z8 h) (λd=>by(try simp only[bs]at d);exact@AH h.C a aa)<|Ffs 21 (!Z8 h||!G0 h.C a)<|Fc 24 (@Ia a aa)<|Fc 28 (@RG h.C (Z5 a))<|Fc 32 (@OD h (Z5 a) aa oq)<|Ffb 37 (L (0<need h.C (Z5 a))) g;rcases bb (!(Bm h (Z5 a)).2.2)with hc0|hc0<;>have c:=hc0<;>simp only[bs]at c;exact gF [] func114 (fO 5) (j (Ft 47 hc0<|Fnl (Fnl (Fa (by simp[Bb,b,ZY, *]:0=(Bb h a).1.C.pw)<|Fa (by simp[Bb,b,ZY, *]:0=(Bb h a).1.C.pg)<|Fa (by simp[Bb,b,ZY, *]:[]=M wD (Bb h a).1.W)<|Fa (by simp[Bb,b,ZY, *]:[]=M Z0.dv (Bb h a).1.P)<|Fa (by simp[Bb,b,ZY, *]:0=(Bb h a).1.S)<|Fa (by simp[Bb,b,ZY, *]:0=(Bb h a).1.B)<|Fa (by simp[Bb,b,ZY, *]:0=(Bb h a).2.1)<|Fa (by simp[Bb,b,ZY, *]:3=(Bb h a).2.2) Fz))));rw[show Bb h a=((BC (Bm h (Z5 a)).1 (Bm h (Z5 a)).2.1 a).1,(Bm h (Z5 a)).2.1,(0:Int))from by simp[Bb,b,ZY, *]];exact gF [] func114 [] (j (Ff 47 hc0<|Fc 53 (@Z3Q ((Bm h (Z5 a)).1) ((Bm h (Z5 a)).2.1) a aa oq aa) Fz))
 have s:Z8 h=Z:=by simpa using f
 have b:Bb h a=(ZY,0,1):=by rw[Bb,if_neg (by rw[s];simp)]
 rw[b];exact gF [] func114 []<|Fc 13 (@CC h)<|FcG 19 (!!Z8 h) (λd=>by(try simp only[bs]at d);exact@AH h.C a aa)<|Fts 21 (!Z8 h||!G0 h.C a)<|Fnl (Fnl Fz)
def RS(h:ZB)(hm:0<=h.map/\h.map<=4294967295):GP 120 [h.av] Y (bL (ZV h)) []:=by
 have hs:=λq=>Z4J (n:=h.length) q;have ho:0<=h.length->h.length<=32->ones h.length=2^h.length.toNat-1:=λh0 h1=>by rw[ones,Nat.min_eq_left oq]
 rcases Lk (L (h.K<(0:Int))||L ((3:Int)<h.K)||L (h.length<(0:Int))||L ((255:Int)<h.length))with hc0|hc0;have a:=hc0;simp only[bs]at a;refine Zb [((20:Nat),[Hint.br Y])] [] [] dd func120 [Z,Z,Z,Z,Z,Z,Z,Z,Z,Y] (φ:=(L (h.K<(0:Int))||L ((3:Int)<h.K)||L (h.length<(0:Int))||L ((255:Int)<h.length))=Y/\Y=Y/\Z=ZV h) ?_ kr kr;exact⟨aa,rfl,(by(simp[ZV, *];omega))⟩;have a:=hc0;simp only[bs]at a;obtain⟨⟨⟨c,d⟩,e⟩,f⟩:=a;rcases Lk (h.K==(1:Int))with hc1|hc1;have b:=hc1;simp only[bs]at b;refine Zb [((20:Nat),[Hint.br Z]),((23:Nat),[Hint.br Y]),((30:Nat),[Hint.int h.map]),((33:Nat),[Hint.call Y (uU (ones h.length)) []])] [] [] dd func120 [Z,Z,Z,Z,Z,Z,Z,Z,Z,Z,Z,Z,Z,Z,Z,Z,Y] (φ:=(L (h.K<(0:Int))||L ((3:Int)<h.K)||L (h.length<(0:Int))||L ((255:Int)<h.length))=Z/\Z=Z/\(h.K==(1:Int))=Y/\Y=Y/\(L (h.length<=(32:Int))=Y->Lg.wrap h.map=h.map)/\(L (h.length<=(32:Int))=Y->GP 170 [nI h.length] Y (uU (ones h.length)) [])/\(L (h.length<=(32:Int))&&L (h.map<=ones h.length))=ZV h) ?_ kr kr;exact⟨aa,rfl,aa,rfl,(by intro g;(try simp only[bs]at g);exact Bs rfl oq oq),(λg=>by(try simp only[bs]at g);exact@Rm (h.length)),(by grind[ZV])⟩;have b:=hc1;simp only[bs]at b;refine Zb [((20:Nat),[Hint.br Z]),((23:Nat),[Hint.br Z])] [] [] dd func120 [Z,Z,Z,Z,Z,Z,Z,Z,Z,Y] (φ:=(L (h.K<(0:Int))||L ((3:Int)<h.K)||L (h.length<(0:Int))||L ((255:Int)<h.length))=Z/\Z=Z/\(h.K==(1:Int))=Z/\Z=Z/\(h.K==h.K&&(h.length==h.length&&h.map==(0:Int)))=ZV h) ?_ kr kr;exact⟨aa,rfl,aa,rfl,(by grind[ZV])⟩
def EC(h:ZB)(hm:0<=h.map/\h.map<=4294967295):GP 69 [h.av] Y (nI (Z5 h)) []:=by rcases Lk (!ZV h)with hc0|hc0;have a:=hc0;simp only[bs]at a;refine Zb [((4:Nat),[Hint.call Y (bL (ZV h)) []]),((5:Nat),[Hint.br Y])] [] [] dd func69 [Y] (φ:=GP 120 [h.av] Y (bL (ZV h)) []/\(!ZV h)=Y/\Y=Y/\(0:Int)=Z5 h) ?_ kr kr;exact⟨(@RS (h) aa),aa,rfl,(by simp[Z5, *])⟩;have a:=hc0;simp only[bs]at a;have e:=Gq.1 a;obtain⟨g,⟨f,⟨d,⟨b,c⟩⟩⟩⟩:=e;refine Zb [((4:Nat),[Hint.call Y (bL (ZV h)) []]),((5:Nat),[Hint.br Z]),((8:Nat),[Hint.int (h.length+(1:Int))])] [] [] dd func69 [Y] (φ:=GP 120 [h.av] Y (bL (ZV h)) []/\(!ZV h)=Z/\Z=Z/\Lt.wrap (h.length+(1:Int))=h.length+(1:Int)/\h.length+(1:Int)=Z5 h) ?_ kr kr;exact⟨(@RS (h) aa),aa,rfl,(by exact Zf rfl oq oq),(by simp[Z5, *])⟩
def Ty(ws:List Int)(a n:Int)(hw:ws.length<=1048576)(h0:0<=a/\a<=18446744073709551615):GP 169 [Z2 ws,uU a,nI n] Y (.tu [nI (Zw ws a n).1,bL (Zw ws a n).2]) []:=by have e {h_ c_ p_} (f:Fq h_ c_ p_):=FvG 13 (!decide (a<4096)) (a-4096)<|FlG 15 (!decide (a<4096)) wD ws<|FvG 16 (!decide (a<4096)) (↑ws.length) f;rcases bb (L (a<4096)||L ((ws.length:Int)<a-4096))with hc0|hc0<;>have b:=hc0<;>simp only[bs]at b;rw[show Zw ws a n=((0:Int),Z)from by(simp[Zw, *];omega)];exact gF [] func169 [] (e (Ft 18 hc0 Fz));obtain⟨c,d⟩:=b;rw[show Zw ws a n=(a-(4096:Int),L (n<=(ws.length:Int)-(a-(4096:Int))))from by(simp[Zw, *];omega)];exact gF [] func169 [] (e (Ff 18 hc0<|Fv 20 (a-4096)<|Fi 21 (a-4096)<|Fl 25 wD ws<|Fi 27 ((ws.length:Int)-(a-4096)) Fz))
def Z4R(ws:List Int)(a:Int)(hw:ws.length<=1048576)(h0:0<=a/\a<=18446744073709551615):GP 163 [Z2 ws,uU a] Y (.tu [nI (C7 ws a).1,nI (C7 ws a).2]) []:=by have c {h_ c_ p_} (d:Fq h_ c_ p_):=Fc 11 (@Ty ws a (1) aa aa) d;rcases bb (!(Zw ws a 1).2)with hc0|hc0<;>have b:=hc0<;>simp only[bs]at b;rw[show C7 ws a=((0:Int),(2:Int))from by grind[Zw,C7]];exact gF [] func163 [] (c (Ft 15 hc0 Fz));rw[show C7 ws a=((Zw ws a (1:Int)).1,(0:Int))from by grind[Zw,C7]];exact gF [] func163 [] (c (Ff 15 hc0 Fz))
def Z0f(ws:List Int)(a:Int)(hw:ws.length<=1048576)(h0:0<=a/\a<=18446744073709551615):GP 111 [Z2 ws,uU a] Y (.tu [uU (Z1 ws a).1,nI (Z1 ws a).2]) []:=by rcases bb ((C7 ws a).2 != 0)with hc0|hc0<;>have b:=hc0<;>simp only[bs]at b;have c:=Z8g b;obtain⟨g,h⟩:=c;rw[show Z1 ws a=((0:Int),(C7 ws a).2)from by simp[Z1, *]];exact gF [] func111 []<|Fc 11 (@Z4R ws a aa aa)<|Ft 15 hc0 Fz;have d:=Z4r b;obtain⟨i,⟨e,f⟩⟩:=d;rw[show Z1 ws a=(ws.getD (C7 ws a).1.toNat X,(0:Int))from by simp[Z1, *]];refine Zb [((11:Nat),[Hint.call Y (AV.tu [nI (C7 ws a).1,nI (C7 ws a).2]) []]),((15:Nat),[Hint.br Z]),((19:Nat),[Hint.el (wD (ws.getD (C7 ws a).1.toNat X))])] [] [] dd func111 [] (φ:=GP 163 [Z2 ws,uU a] Y (AV.tu [nI (C7 ws a).1,nI (C7 ws a).2]) []/\((C7 ws a).2 != (0:Int))=Z/\Z=Z/\(0:Int)<=(C7 ws a).1/\(M wD ws)[(C7 ws a).1.toNat]?=O (wD (ws.getD (C7 ws a).1.toNat X))) ?_ kr kr;exact⟨(@Z4R (ws) (a) aa aa),aa,rfl,(by exact Zm oq oq oq)⟩
def BA(w:Int):Nat->Int|0=>w|1=>w/4|2=>w/16|3=>w/65536|_=>w/281474976710656
def ZS(w:Int):List Int:=[w%4,w/4%4,w/16%4096,w/65536%4294967296]
def Od(w:Int)(i:Nat):Tg:=⟨tm 49 [(0,uU w),(1,ZE [2,2,12,32]),(4,.d (.sl 0 [])),(5,nI 0),(6,nI ([64,62,60,48,16].getD i 0)),(12,ZE [2,2,12,32]),(13,nI 4),(14,nI i)],[],20⟩
def Zc4 w(i:Nat)(hi:i<4):CP (Zl f201 0) (Od w i).st .nrm (Od w (i+1)).st:=by
 have h:i=0\/i=1\/i=2\/i=3:=by omega
 rcases h with rfl|rfl|rfl|rfl;refine Zh [((16:Nat),[Hint.el (iD (2:Int))])] [] [] [] (φ:=(0:Int)<=(↑(0:Nat):Int)/\(M iD [(2:Int),(2:Int),(12:Int),(32:Int)])[(↑(0:Nat):Int).toNat]?=O (iD (2:Int))) ?_ kr kr kr;exact(by simp[*]);refine Zh [((16:Nat),[Hint.el (iD (2:Int))])] [] [] [] (φ:=(0:Int)<=(↑(1:Nat):Int)/\(M iD [(2:Int),(2:Int),(12:Int),(32:Int)])[(↑(1:Nat):Int).toNat]?=O (iD (2:Int))) ?_ kr kr kr;exact(by simp[*]);refine Zh [((16:Nat),[Hint.el (iD (12:Int))])] [] [] [] (φ:=(0:Int)<=(↑(2:Nat):Int)/\(M iD [(2:Int),(2:Int),(12:Int),(32:Int)])[(↑(2:Nat):Int).toNat]?=O (iD (12:Int))) ?_ kr kr kr;exact(by simp[*]);refine Zh [((16:Nat),[Hint.el (iD (32:Int))])] [] [] [] (φ:=(0:Int)<=(↑(3:Nat):Int)/\(M iD [(2:Int),(2:Int),(12:Int),(32:Int)])[(↑(3:Nat):Int).toNat]?=O (iD (32:Int))) ?_ kr kr kr;exact(by simp[*])
def Zje w:CP (Zl f201 0) (Od w 4).st (.ext 0) (Tg.st ⟨tm 49 [(0,uU w),(1,ZE [2,2,12,32]),(4,.d (.sl 0 [])),(5,nI 0)],[],60⟩):=by exact sF [] [] Fz
def Z3X(w:Int)  := Bp (S:=λi=>(Od w i).st) 4 (by kernel_rfl) (λi a=>Zc4 w i a) (Zje w)
def Z0C(w:Int)(i:Nat):Tg:=⟨tm 49 [(0,uU (BA w i)),(4,.d (.sl 0 [])),(5,nI 0),(9,.ow 480009),(29,ZE [2,2,12,32]),(30,nI 4),(31,nI i)],[(480009,.arr 35 1 (((ZS w).take i).map wD))],60⟩
def Zej(w:Int)(i:Nat)(h0:0<=w)(h1:w<=18446744073709551615)(hi:i<4):CP (Zl f201 2) (Z0C w i).st .nrm (Z0C w (i+1)).st:=by
 have o1:ones 2=3:=by decide
 have o2:ones 12=4095:=by decide
 have o3:ones 32=4294967295:=by decide
 have a0:bits .and .u64 w (ones 2)=w%4:=by rw[o1];exact R0 2 dd dd oq oq
 have a1:bits .and .u64 (w/4) (ones 2)=w/4%4:=by rw[o1];exact R0 2 dd dd oq oq
 have a2:bits .and .u64 (w/16) (ones 12)=w/16%4096:=by rw[o2];exact R0 12 dd dd oq oq
 have a3:bits .and .u64 (w/65536) (ones 32)=w/65536%4294967296:=by rw[o3];exact R0 32 dd dd oq oq
 have f1:(w/4).fdiv 4=w/16:=by rw[Lm _ dd];omega
 have f2:(w/16).fdiv 4096=w/65536:=by rw[Lm _ dd];omega
 have f3:(w/65536).fdiv 4294967296=w/281474976710656:=by rw[Lm _ dd];omega
 have h:i=0\/i=1\/i=2\/i=3:=by omega
 rcases h with rfl|rfl|rfl|rfl;exact sF [(496041,480009)] []<|Fh 33 [.el (iD 2)]<|Fa (by simp[BA,ZS, *]:0<=(↑(0:Nat):Int)/\(M iD [2,2,12,32])[(↑(0:Nat):Int).toNat]?=O (iD 2))<|Fc 38 (@Rm (2))<|Fg 39 (by assumption:bits BinOp.and Lg (BA w 0) (ones (2:Int))=BA w 0%4)<|Fs 40 (M wD [BA w 0%4])<|Fa (by simp[BA,ZS, *]:(M wD (Lc 0 (ZS w))).length+(M wD [BA w 0%4]).length<=2^30)<|Fs 41 (M wD [BA w 0%4])<|Fg 44 (Hs rfl dd:(BA w 0).fdiv (2^min (Lb 2) 64)=BA w 0/4)<|Fo ((0:Int)<=2) Fz;exact sF [(496041,480009)] [Y]<|Fh 33 [.el (iD 2)]<|Fa (by simp[BA,ZS, *]:0<=(↑(1:Nat):Int)/\(M iD [2,2,12,32])[(↑(1:Nat):Int).toNat]?=O (iD 2))<|Fc 38 (@Rm (2))<|Fg 39 (by assumption:bits BinOp.and Lg (BA w 1) (ones (2:Int))=BA w 1%4)<|Fs 40 (M wD [BA w 1%4])<|Fa (by simp[BA,ZS, *]:(M wD (Lc 1 (ZS w))).length+(M wD [BA w 1%4]).length<=2^30)<|Fs 41 (M wD [w%4,BA w 1%4])<|Fg 44 (Hs rfl dd:(BA w 1).fdiv (2^min (Lb 2) 64)=BA w 1/4)<|Fo ((0:Int)<=2)<|Fa (by(simp[BA,ZS, *];omega):BA w 1/4=BA w (1+1)) Fz;exact sF [(496041,480009)] [Y]<|Fh 33 [.el (iD 12)]<|Fa (by simp[BA,ZS, *]:0<=(↑(2:Nat):Int)/\(M iD [2,2,12,32])[(↑(2:Nat):Int).toNat]?=O (iD 12))<|Fc 38 (@Rm (12))<|Fg 39 (by assumption:bits BinOp.and Lg (BA w 2) (ones (12:Int))=BA w 2%4096)<|Fs 40 (M wD [BA w 2%4096])<|Fa (by simp[BA,ZS, *]:(M wD (Lc 2 (ZS w))).length+(M wD [BA w 2%4096]).length<=2^30)<|Fs 41 (M wD [w%4,w/4%4,BA w 2%4096])<|Fg 44 (Hs rfl dd:(BA w 2).fdiv (2^min (Lb 12) 64)=BA w 2/4096)<|Fo ((0:Int)<=12)<|Fa (by(simp[BA,ZS, *];omega):BA w 2/4096=BA w (2+1)) Fz;exact sF [(496041,480009)] [Y]<|Fh 33 [.el (iD 32)]<|Fa (by simp[BA,ZS, *]:0<=(↑(3:Nat):Int)/\(M iD [2,2,12,32])[(↑(3:Nat):Int).toNat]?=O (iD 32))<|Fc 38 (@Rm (32))<|Fg 39 (by assumption:bits BinOp.and Lg (BA w 3) (ones (32:Int))=BA w 3%4294967296)<|Fs 40 (M wD [BA w 3%4294967296])<|Fa (by simp[BA,ZS, *]:(M wD (Lc 3 (ZS w))).length+(M wD [BA w 3%4294967296]).length<=2^30)<|Fs 41 (M wD [w%4,w/4%4,w/16%4096,BA w 3%4294967296])<|Fg 44 (Hs rfl dd:(BA w 3).fdiv (2^min (Lb 32) 64)=BA w 3/4294967296)<|Fo ((0:Int)<=32)<|Fa (by(simp[BA,ZS, *];omega):BA w 3/4294967296=BA w (3+1)) Fz
def Zl5 w:CP (Zl f201 2) (Z0C w 4).st (.ext 2) (Tg.st ⟨tm 49 [(0,uU (w/281474976710656)),(4,.d (.sl 0 [])),(5,nI 0),(9,.ow 480009)],[(480009,.arr 35 1 ((ZS w).map wD))],60⟩):=by exact sF [] [] Fz
def Z4V(w:Int)(a:0<=w)(b:w<=18446744073709551615)  := Bp (S:=λi=>(Z0C w i).st) 4 (by kernel_rfl) (λi c=>Zej w i a b c) (Zl5 w)
def Z0P(w:Int)(h0:0<=w)(h1:w<=18446744073709551615)(h:w<281474976710656):GP 201 [uU w,ZE [2,2,12,32]] Y (.tu [Z2 (ZS w),nI 0]) []:=by exact gF [] func201 []<|Fh 9 [.own]<|Fu (@Z3X w)<|Fu (@Z4V w aa aa)<|Ffb 47 (w/(281474976710656:Int) != 0)<|Fa (H7 _:Cd (M wD (ZS w))) Fz
def Ze3(w:Int)(h0:0<=w)(h1:w<=18446744073709551615)(h:¬ w<281474976710656):GP 201 [uU w,ZE [2,2,12,32]] Y (.tu [Z2 [],nI 2]) []:=by exact gF [] func201 []<|Fh 9 [.own]<|Fu (@Z3X w)<|Fu (@Z4V w aa aa)<|Ftb 47 (w/(281474976710656:Int) != 0)<|Fnl Fz
def Zdh(w:Int)(h0:0<=w):Z6 w=if w<281474976710656/\w%4=1/\ZV (EI w)=Y then(EI w,Y)else(CQ,Z):=by
 have k1:(EI w).K=w/4%4:=rfl;have k2:(EI w).length=w/16%4096:=rfl;have k3:(EI w).map=w/65536%4294967296:=rfl;by_cases hv:ZV (EI w)=Y;have e:Zu (EI w)=(1+4*(EI w).K+16*(EI w).length+65536*(EI w).map,0):=by rw[Zu,if_pos hv]
 by_cases hc:w<281474976710656/\w%4=1;rw[Z6,e,if_pos ⟨rfl,by simp only;omega⟩,if_pos ⟨hc.1,hc.2,hv⟩];rw[Z6,e,if_neg (by simp only;omega),if_neg (λq=>hc ⟨q.1,q.2.1⟩)];have e:Zu (EI w)=(0,1):=by rw[Zu,if_neg hv]
 rw[Z6,e,if_neg pq,if_neg (λq=>hv q.2.2)]
def GH(w:Int)(h0:0<=w)(h1:w<=18446744073709551615):GP 161 [uU w] Y (.tu [(Z6 w).1.av,bL (Z6 w).2]) []:=by have hm:=Z21 w h0;rw[Zdh w h0];have u0:(ZS w).getD 0 X=w%4:=rfl;have u1:(ZS w).getD 1 X=w/4%4:=rfl;have u2:(ZS w).getD 2 X=w/16%4096:=rfl;have u3:(ZS w).getD 3 X=w/65536%4294967296:=rfl;have uL:(ZS w).length=4:=rfl;have k1:(EI w).K=w/4%4:=rfl;have k2:(EI w).length=w/16%4096:=rfl;have k3:(EI w).map=w/65536%4294967296:=rfl;by_cases ha:w<281474976710656;by_cases hb:w%4=1;by_cases hv:ZV (EI w)=Y;rw[if_pos ⟨ha,hb,hv⟩];have hv2:ZV ⟨w/4%4,w/16%4096,w/65536%4294967296⟩=Y:=hv;exact gF [] func161 []<|Fh 17 [.el (wD ((ZS w).getD 0 X))]<|Fh 23 [.el (wD ((ZS w).getD 1 X))]<|Fh 27 [.el (wD ((ZS w).getD 2 X))]<|Fh 31 [.el (wD ((ZS w).getD 3 X))]<|Fs 9 (M iD [2,2,12,32])<|Fc 10 (@Z0P w aa aa aa)<|Fa (by intro hg;(try simp only[bs]at hg);exact Zm oq oq oq:(!(0:Int) != 0)=Y->(0:Int)<=0/\(M wD (ZS w))[Lb 0]?=O (wD ((ZS w).getD 0 X)))<|Ffb 20 ((ZS w).getD 0 X != 1)<|Fa (Zm oq oq oq:(0:Int)<=1/\(M wD (ZS w))[Lb 1]?=O (wD ((ZS w).getD 1 X)))<|Fi 25 ((ZS w).getD 1 X)<|Fa (Zm oq oq oq:(0:Int)<=2/\(M wD (ZS w))[Lb 2]?=O (wD ((ZS w).getD 2 X)))<|Fi 29 ((ZS w).getD 2 X)<|Fa (Zm oq oq oq:(0:Int)<=3/\(M wD (ZS w))[Lb 3]?=O (wD ((ZS w).getD 3 X)))<|Fg 33 (Z0p oq oq:Lu.wrap ((ZS w).getD 3 X)=(ZS w).getD 3 X)<|Fc 36 (@RS (ZB.mk ((ZS w).getD 1 X) ((ZS w).getD 2 X) ((ZS w).getD 3 X)) aa)<|Ffs 37 (!ZV (ZB.mk ((ZS w).getD 1 X) ((ZS w).getD 2 X) ((ZS w).getD 3 X))) Fz;rw[if_neg (by simp[hv])];have hv':ZV ⟨w/4%4,w/16%4096,w/65536%4294967296⟩=Z:=eq_false_of_ne_true hv;exact gF [] func161 []<|Fh 17 [.el (wD ((ZS w).getD 0 X))]<|Fh 23 [.el (wD ((ZS w).getD 1 X))]<|Fh 27 [.el (wD ((ZS w).getD 2 X))]<|Fh 31 [.el (wD ((ZS w).getD 3 X))]<|Fs 9 (M iD [2,2,12,32])<|Fc 10 (@Z0P w aa aa aa)<|Fa (by intro hg;(try simp only[bs]at hg);exact Zm oq oq oq:(!(0:Int) != 0)=Y->(0:Int)<=0/\(M wD (ZS w))[Lb 0]?=O (wD ((ZS w).getD 0 X)))<|Ffb 20 ((ZS w).getD 0 X != 1)<|Fa (Zm oq oq oq:(0:Int)<=1/\(M wD (ZS w))[Lb 1]?=O (wD ((ZS w).getD 1 X)))<|Fi 25 ((ZS w).getD 1 X)<|Fa (Zm oq oq oq:(0:Int)<=2/\(M wD (ZS w))[Lb 2]?=O (wD ((ZS w).getD 2 X)))<|Fi 29 ((ZS w).getD 2 X)<|Fa (Zm oq oq oq:(0:Int)<=3/\(M wD (ZS w))[Lb 3]?=O (wD ((ZS w).getD 3 X)))<|Fg 33 (Z0p oq oq:Lu.wrap ((ZS w).getD 3 X)=(ZS w).getD 3 X)<|Fc 36 (@RS (ZB.mk ((ZS w).getD 1 X) ((ZS w).getD 2 X) ((ZS w).getD 3 X)) aa)<|Fts 37 (!ZV (ZB.mk ((ZS w).getD 1 X) ((ZS w).getD 2 X) ((ZS w).getD 3 X))) Fz;rw[if_neg (by simp[hb])];exact gF [] func161 []<|Fh 17 [.el (wD ((ZS w).getD 0 X))]<|Fs 9 (M iD [2,2,12,32])<|Fc 10 (@Z0P w aa aa aa)<|Fa (by intro hg;(try simp only[bs]at hg);exact Zm oq oq oq:(!(0:Int) != 0)=Y->(0:Int)<=0/\(M wD (ZS w))[Lb 0]?=O (wD ((ZS w).getD 0 X)))<|Ftb 20 ((ZS w).getD 0 X != 1) Fz;rw[if_neg (by simp[ha])];exact gF [] func161 []<|Fh 17 [.el (wD ([].getD 0 X))]<|Fs 9 (M iD [2,2,12,32])<|Fc 10 (@Ze3 w aa aa aa)<|Fa (by intro hg;(try simp only[bs]at hg);exact Zm oq oq oq:(!(2:Int) != 0)=Y->(0:Int)<=0/\(M wD [])[Lb 0]?=O (wD ([].getD 0 X))) Fz
end Go.Proofs.YtgedmeaemofdkaaGreat
namespace Go.Sx
def Z00(H:Heap)(x:AV):Option AV:=match x with|.d x=>O (.d x)|.rp e o=>O (.rp e o)|.ow b=>(match Nat.ble 8000 b with|true=>(match H b with|O (.arr _ s els)=>O (.d (.sl s els))|_=>La)|false=>La)|.os b o n=>(match Nat.ble 8000 b with|true=>(match H b with|O (.arr _ s els)=>O (.d (.sl s ((els.drop o).take n)))|_=>La)|false=>La)|_=>La
def Zfb{P f}{e0 e1:List DV}{t0 t1:Nat}{x:Value}(hx:x.oneCell'=Y)(h:GSpec P f [.rp e0 0,.rp e1 0] Y (.d (.sc x)) []) :LentSpec P f [.pt 0 0 0,.pt 1 0 0] [.box t0 (e0.map .d),.box t1 (e1.map .d)] (.d (.sc x)) [.box t0 (e0.map .d),.box t1 (e1.map .d)]:=by
 intro w Im ρ vs a0 a2 hρ a1 c z u;have box:∀(k:Nat) (e:List DV) (t:Nat) (v:Value) (p:Nat->Prop),(∀g,Im g->p g)->(∀β g,ρ k=O β->β.g=O g->p g)->(∃β,ρ k=O β/\RelB ρ w Im β (.box t (e.map .d)))->Zj ρ w Im (.pt k 0 0) v->Zj (λ_=>La) w p (.rp e 0) v:=by
  intro k e t v p hi m hb hv;obtain⟨β,hβ,r⟩:=hb;obtain⟨g,s,n,k1,rfl⟩:=R9 hv rfl;rw[hβ]at k1;cases k1;obtain⟨r1,r2,g2,cs,r3,r4,r5,r6,r7⟩:=r;cases r3;have:=@Zj.rp (λ_=>La) w p e 0 ⟨g,0,La⟩ rfl (m _ _ hβ rfl) (λj y hy=>by
   have hj:j<e.length:=(List.getElem?_eq_some_iff.1 hy).1;have hc:j<cs.size:=by rw[r5];simpa using hj
   have a:cs[j]?=O cs[j]:=Array.getElem?_eq_getElem hc;have l:=r7 j (.d y) cs[j] (by simp[hy]) a;refine⟨cs[j], ?_, ?_⟩;simp only[World.cell?,r4];simpa using a;cases l with
   |d l=>exact l.mono (Ext.refl _ _) hi)
  simpa using this
 refine(h w (λg=>Im g\/∃k β,ρ k=O β/\β.g=O g) vs ?_ a2 ?_).mono ?_;rintro g (m|⟨k,β,a,l⟩);exact a0 g m;exact(c k β g a l).1;intro i y v hy hv;cases i with
 |zero =>simp at hy;subst hy;exact box 0 e0 t0 v _ (λg m=>.inl m) (λβ g a l=>.inr ⟨0,β,a,l⟩) (z 0 _ rfl) (u 0 _ v rfl hv)
 |succ i=>cases i with
  |zero =>
   simp at hy;subst hy;exact box 1 e1 t1 v _ (λg m=>.inl m) (λβ g a l=>.inr ⟨1,β,a,l⟩) (z 1 _ rfl) (u 1 _ v rfl hv)
  |succ i=>simp at hy
 rintro e w' ⟨v,rfl,o,ρ',a3,_,_,_,_,_,_,hr⟩;have hv:=BV hr;subst hv;have ext:Ext Im w w':=⟨o.size,λg m=>o.block g (a0 g m) (λq=>q),o.rows⟩;refine⟨_,rfl,⟨o.os,o.tape,o.output,o.size,λk a _=>o.block k a (λq=>q),o.rows⟩,ρ,Im,λ_ _ h=>h,hρ,λg m=>.inl m,λg m=>Nat.lt_of_lt_of_le (a0 g m) o.size,
  λk β g a l=>⟨Nat.lt_of_lt_of_le (c k β g a l).1 o.size,.inr ⟨k,β,a,l⟩⟩,λk β g _ a l=>(c k β g a l).2,λk k' β β' g _ _=>a1 k k' β β' g, ?_,.d (.sc _ hx)⟩
 intro k B hB;obtain⟨β,b1,b2⟩:=z k B hB;exact⟨β,b1,b2.mono ext (λ_ h=>h) (λ_ _ h=>h) (λb β g a l=>(c b β g a l).1) (λg m=>o.block g (c k β g b1 m).1 (λq=>q))⟩
def Z1y{P}{f s:Nat}{fr res news}(h:∀(p:Option Addr) (c:Nat),GSpec P f [.d (.sc (.slice p 0 c))] fr res news):GSpec P f [.d (.sl s [])] fr res news:=by
 intro w m g r a y;have h0:g.size=1:=a;obtain⟨v,q⟩:∃v,g[0]?=O v:=⟨g[0]' oq,by simp⟩;have b:∀(p:Option Addr) (c:Nat),v=.slice p 0 c->Calls P f g w λe z=>∃v,e=.returned v/\Re w m fr res news v z:=λp c e=>by
  refine h p c w m g r a λi x u k o=>?_;match i with|0 =>simp only[List.getElem?_cons_zero,Option.some.injEq]at k;rw[q]at o;cases o;subst k;subst e;exact .d (.sc _ rfl)|i+1=>simp at k
 have j:=y 0 _ v rfl q;cases j with
 |d j =>
  generalize t:([]:List (List DV))=l at j;cases j with|slNil s p c=>exact b p c rfl|sl s els p n c fn a=>subst t;simp at a;subst a;exact b _ c rfl
end Go.Sx
namespace Go.Proofs.YtgedmeaemofdkaaGreat
open Go.Sx
def Heap.dvs(h:Heap):List DV:=[.sc (.int .i64 h.C.pw),.sc (.int .i64 h.C.pg),.sl 1 (h.W.map wD),.sl 4 (h.P.map Z0.dv),.sc (.int .i64 h.S),.sc (.int .i64 h.B)]
def ZaE(h:Heap)(a:Int)(hl:h.W.length<=1048576)(h0:0<=a/\a<=18446744073709551615):GP 160 [.rp [.sc (.int .i64 h.C.pw),.sc (.int .i64 h.C.pg),.sl 1 (h.W.map wD),.sl 4 (h.P.map Z0.dv),.sc (.int .i64 h.S),.sc (.int .i64 h.B)] 0,.rp [.sc (.int .u64 a)] 0] Y (uU (Z1 h.W a).1) []:=by exact gF [] func160 []<|Fc 9 (@Z0f h.W a aa aa) Fz
def IS(h:Heap)(a:Int)(hl:h.W.length<=1048576)(b:0<=a/\a<=18446744073709551615):LP 160 [.pt 0 0 0,.pt 1 0 0] [.box 28 h.cells,.box 35 [uU a]] (uU (Z1 h.W a).1) [.box 28 h.cells,.box 35 [uU a]]:=
 Zfb (e0:=h.dvs) (e1:=[.sc (.int .u64 a)]) rfl (ZaE h a hl b)
def N5(h:Heap)(a:Int)(hw:Zy h.W)(h0:0<=a/\a<=18446744073709551615):GP 109 [h.av,uU a] Y (.tu [(Z9 h a).1.av,nI (Z9 h a).2]) []:=by
 have r:=EM hw a;have hm:=Ij (Z1 h.W a).1 r.1;by_cases l:Z8 h=Y;have x:=B5 l;by_cases i:(Z3 h.C a).2.2=0;have oo:=GX x.1 i;have hz:(Z6 (Z1 h.W a).1).2=Y->Z5 (Z6 (Z1 h.W a).1).1=(Z6 (Z1 h.W a).1).1.length+1/\0<=(Z6 (Z1 h.W a).1).1.length/\(Z6 (Z1 h.W a).1).1.length<=255:=λe=>by(have r:=Z2b e;have:=Gq.1 r;rw[Z5,if_pos r];omega)
 have pp:=EL l (j:=(Z3 h.C a).1.toNat) oq;by_cases c3:((h.P.getD (Z3 h.C a).1.toNat X).K=1\/(h.P.getD (Z3 h.C a).1.toNat X).K=2)/\(Z3 h.C a).2.1<(h.P.getD (Z3 h.C a).1.toNat X).U/\(Z6 (Z1 h.W a).1).2=Y;have a1:=hz c3.2.2;by_cases c4:((h.P.getD (Z3 h.C a).1.toNat X).K=1/\(h.P.getD (Z3 h.C a).1.toNat X).U<(Z3 h.C a).2.1+Z5 (Z6 (Z1 h.W a).1).1)\/((h.P.getD (Z3 h.C a).1.toNat X).K=2/\((Z3 h.C a).2.1≠0\/Z5 (Z6 (Z1 h.W a).1).1≠(h.P.getD (Z3 h.C a).1.toNat X).U));have g:Z9 h a=(CQ,19):=by rw[Z9,if_pos l,if_pos i,if_pos c3,if_pos c4]
 rw[g];have s {h_ c_ p_} (m:Fq h_ c_ p_):=Fc 15 (@Eb h)<|Ffb 16 (!Z8 h)<|Fc 22 (@Gb h.C a oq oq)<|Ffb 27 ((Z3 h.C a).2.2 != 0)<|Fe 34 Z0.dv h.P ((Z3 h.C a).1)<|Fbq 38 [8002,8003] (@IS h a oq aa)<|Fc 39 (@GH ((Z1 h.W a).1) oq oq)<|Fc 43 (@EC ((Z6 (Z1 h.W a).1).1) aa) m;rcases bb (!(Z6 (Z1 h.W a).1).2||L ((h.P.getD (Z3 h.C a).1.toNat X).U<=(Z3 h.C a).2.1))with hc0|hc0<;>have b:=hc0<;>simp only[bs]at b;exact gF [] func109 []<|Fh 44 [.br Y] (s (Fa hc0 Fz));obtain⟨d,f⟩:=b;rcases bb ((h.P.getD (Z3 h.C a).1.toNat X).K==1)with hc1|hc1<;>have c:=hc1<;>simp only[bs]at c;let y:=h.P.getD (Z3 h.C a).1.toNat X;exact gF [] func109 []<|Fh 44 [.br Z]<|Fh 76 [.br Y] (s (Fa hc0<|Fa hc1<|Fi 61 (y.U-(Z3 h.C a).2.1)<|Ftb 53 (!decide (Z5 (Z6 (Z1 h.W a).1).1<=y.U-(Z3 h.C a).2.1)) Fz));let z:=h.P.getD (Z3 h.C a).1.toNat X;exact gF [] func109 []<|Fh 44 [.br Z]<|Fh 53 [.br Z]<|Fh 76 [.br Y] (s (Fa hc0<|Fa hc1<|Fb ((z.K==2)=Y)<|Ftb 63 (!((Z3 h.C a).2.1==0&&Z5 (Z6 (Z1 h.W a).1).1==z.U)) Fz));have g:Z9 h a=((Z6 (Z1 h.W a).1).1,0):=by rw[Z9,if_pos l,if_pos i,if_pos c3,if_neg c4]
 rw[g];have t {h_ c_ p_} (m:Fq h_ c_ p_):=Fc 15 (@Eb h)<|Ffb 16 (!Z8 h)<|Fc 22 (@Gb h.C a oq oq)<|Ffb 27 ((Z3 h.C a).2.2 != 0)<|Fe 34 Z0.dv h.P ((Z3 h.C a).1)<|Fbq 38 [8002,8003] (@IS h a oq aa)<|Fc 39 (@GH ((Z1 h.W a).1) oq oq)<|Fc 43 (@EC ((Z6 (Z1 h.W a).1).1) aa) m;rcases bb (!(Z6 (Z1 h.W a).1).2||L ((h.P.getD (Z3 h.C a).1.toNat X).U<=(Z3 h.C a).2.1))with hc0|hc0<;>have b:=hc0<;>simp only[bs]at b;exact gF [] func109 (fO 4)<|Fh 44 [.br Y] (t (Fa hc0<|Fa (by grind[CQ]:0=(Z6 (Z1 h.W a).1).1.K)<|Fa (by grind[CQ]:0=(Z6 (Z1 h.W a).1).1.length)<|Fa (by grind[CQ]:0=(Z6 (Z1 h.W a).1).1.map)<|Fa (by grind[CQ]:(19:Int)=0) Fz));obtain⟨d,f⟩:=b;rcases bb ((h.P.getD (Z3 h.C a).1.toNat X).K==1)with hc1|hc1<;>have c:=hc1<;>simp only[bs]at c;let y2:=h.P.getD (Z3 h.C a).1.toNat X;exact gF [] func109 []<|Fh 53 [.br Y]<|Fh 76 [.br Z] (t (Fa hc0<|Fa hc1<|Fi 61 (y2.U-(Z3 h.C a).2.1)<|Ffb 44 (!decide (Z5 (Z6 (Z1 h.W a).1).1<=y2.U-(Z3 h.C a).2.1)) Fz));let y3:=h.P.getD (Z3 h.C a).1.toNat X;exact gF [] func109 []<|Fh 53 [.br Z]<|Fh 63 [.br Y]<|Fh 76 [.br Z] (t (Fa hc0<|Fa hc1<|Fb ((y3.K==2)=Y)<|Ffb 44 (!((Z3 h.C a).2.1==0&&Z5 (Z6 (Z1 h.W a).1).1==y3.U)) Fz));have g:Z9 h a=(CQ,19):=by rw[Z9,if_pos l,if_pos i,if_neg c3]
 rw[g];have n {h_ c_ p_} (m:Fq h_ c_ p_):=Fc 15 (@Eb h)<|Ffb 16 (!Z8 h)<|Fc 22 (@Gb h.C a oq oq)<|Ffb 27 ((Z3 h.C a).2.2 != 0)<|Fe 34 Z0.dv h.P ((Z3 h.C a).1)<|Fbq 38 [8002,8003] (@IS h a oq aa)<|Fc 39 (@GH ((Z1 h.W a).1) oq oq)<|Fc 43 (@EC ((Z6 (Z1 h.W a).1).1) aa) m;rcases bb (!(Z6 (Z1 h.W a).1).2||L ((h.P.getD (Z3 h.C a).1.toNat X).U<=(Z3 h.C a).2.1))with hc0|hc0<;>have b:=hc0<;>simp only[bs]at b;exact gF [] func109 []<|Fh 44 [.br Y] (n (Fa hc0 Fz));obtain⟨d,f⟩:=b;rcases bb ((h.P.getD (Z3 h.C a).1.toNat X).K==1)with hc1|hc1<;>have c:=hc1<;>simp only[bs]at c;have w {h_ c_ p_} (m:Fq h_ c_ p_):=n<|Fa hc0<|Fa hc1<|Fi 61 ((h.P.getD (Z3 h.C a).1.toNat X).U-(Z3 h.C a).2.1) m;rcases bb (!decide (Z5 (Z6 (Z1 h.W a).1).1<=(h.P.getD (Z3 h.C a).1.toNat X).U-(Z3 h.C a).2.1))with hc2|hc2<;>have o:=hc2<;>simp only[bs]at o;exact gF [] func109 []<|Fh 44 [.br Z]<|Fh 76 [.br Y] (w (Ft 53 hc2 Fz));rw[show CQ=(Z6 (Z1 h.W a).1).1 from by grind[CQ]];exact gF [] func109 (fO 4)<|Fh 53 [.br Y]<|Fh 76 [.br Z] (w (Ff 44 hc2<|Fr ((Z6 (Z1 h.W a).1).1.K)<|Fr ((Z6 (Z1 h.W a).1).1.length)<|Fr ((Z6 (Z1 h.W a).1).1.map)<|Fa (by grind[CQ]:(0:Int)=19) Fz));rcases bb ((h.P.getD (Z3 h.C a).1.toNat X).K==2)with hc3|hc3<;>have p:=hc3<;>simp only[bs]at p;rcases bb (!((Z3 h.C a).2.1==0&&Z5 (Z6 (Z1 h.W a).1).1==(h.P.getD (Z3 h.C a).1.toNat X).U))with hc4|hc4<;>have k:=hc4<;>simp only[bs]at k;exact gF [] func109 []<|Fh 44 [.br Z]<|Fh 53 [.br Z]<|Fh 76 [.br Y] (n (Fa hc0<|Fa hc1<|Fa hc3<|Ft 63 hc4 Fz));obtain⟨u,v⟩:=k;rw[show CQ=(Z6 (Z1 h.W a).1).1 from by grind[CQ]];exact gF [] func109 (fO 8)<|Fh 53 [.br Z]<|Fh 63 [.br Y]<|Fh 76 [.br Z] (n (Fa hc0<|Fa hc1<|Fa hc3<|Ff 44 hc4<|Fr ((Z6 (Z1 h.W a).1).1.K)<|Fr ((Z6 (Z1 h.W a).1).1.length)<|Fr ((Z6 (Z1 h.W a).1).1.map)<|Fa (by grind[CQ]:(0:Int)=19) Fz));exact gF [] func109 []<|Fh 44 [.br Z]<|Fh 53 [.br Z]<|Fh 63 [.br Z] (n (Fa hc0<|Fa hc1<|Fa hc3 Fz));have g:Z9 h a=(CQ,2):=by rw[Z9,if_pos l,if_neg i]
 have e2:(Z3 h.C a).2.2=2:=by(unfold Z3 at i⊢;rw[if_pos x.1]at i⊢;split at i;simp at i;rename_i q;rw[if_neg q])
 rw[g];exact gF [] func109 [Y]<|Fc 15 (@Eb h)<|Ffb 16 (!Z8 h)<|Fc 22 (@Gb h.C a oq oq)<|Ftb 27 ((Z3 h.C a).2.2 != 0)<|Fr (0:Int)<|Fr (0:Int)<|Fr (0:Int)<|Fa ‹(Z3 h.C a).2.2=2› Fz;have g:Z9 h a=(CQ,1):=by rw[Z9,if_neg l]
 have a0:Z8 h=Z:=by simpa using l
 rw[g];exact gF [] func109 []<|Fc 15 (@Eb h)<|Ftb 16 (!Z8 h) Fz
def TG{α β:Type}{f:α->β}{l:List α}(h:l≠[]):l.map f≠[]:=by simpa using h
def Z8T(ws:List Int)(hw:ws.length<=1048576)(hne:ws≠[]):GP 123 [Z2 ws] Y (.ow 0) [.arr 35 1 (ws.map wD)]:=by exact gF [24007] func123 []<|Fa (TG hne:M wD ws≠[])<|FA 5 7 wD ws<|Fa (H7 _:Cd (M wD ws)) Fz
def Zlu(l:List Z0)(hl:l.length<=1048576)(hne:l≠[]):GP 124 [ZT l] Y (ZT l) []:=by exact gF [] func124 []<|Fa (TG hne:M Z0.dv l≠[])<|FA 5 7 Z0.dv l<|Fa (IL _:Cd (M Z0.dv l)) Fz
def SS{α:Type}{l:List α}(h:0<l.length):l≠[]:=by rintro rfl;simp at h
def pg(h:Heap)(i:Int):Z0:=h.P.getD i.toNat X
def B8(h:Heap)(i o:Int):Int:=(address h.C i o).1
def Df{h:Heap}(b:Zq h.C=Y)(i o:Int):0<=B8 h i o/\B8 h i o<=8192:=by have ha:=Hl b;unfold B8 address;rw[if_pos b];split;rename_i a;have a:=HM.1 a;have:=Po b a.1 a.2.1 a.2.2.1 a.2.2.2;simp only;omega;simp
def Ej(h:Heap)(i:Int):Nat->Int->Option (List Int)|0,_=>O []|f+1,o=>if o<(pg h i).U then(if(Z9 h (B8 h i o)).2=0 then(if(pg h i).K=2 then O [B8 h i o]else(Ej h i f (o+Z5 (Z9 h (B8 h i o)).1)).map (B8 h i o :: ·))else La)else O []
def SJ(h:Heap)(i o:Int)(acc:List Int):Tg:=⟨tm 70 [(1,nI i),(2,.pt 8002 0 0),(4,.d (.sl 0 [])),(5,nI 0),(6,.pt 32006 0 0),(7,.ow 48007),(8,nI o)],
 [(48007,.arr 35 1 (acc.map wD)),(32006,.box 86 [nI (pg h i).K,nI (pg h i).S,nI (pg h i).U,nI (pg h i).N]),(8002,.box 28 h.cells)],60⟩
def DG(acc:List Int):Tg:=⟨tm 70 [(7,.ow 48007)],[(48007,.arr 35 1 (acc.map wD))],60⟩
section
variable(h:Heap)(i o:Int)(acc:List Int)(b:Zy h.W)(a:Z8 h=Y)(hl:acc.length<=1048576)(c:0<=o/\o<=1000)
include b a hl c
theorem ZcI(h1:o<(pg h i).U)(f:(Z9 h (B8 h i o)).2=0)(h3:(pg h i).K≠2):CP (Zl f147 0) (SJ h i o acc).st .nrm (SJ h i (o+Z5 (Z9 h (B8 h i o)).1) (acc++[B8 h i o])).st:=by have j:=B5 a;have e:=Df j.1 i o;have k:=I8 (Z9 h (B8 h i o)).1;have g:=Iw b (B8 h i o);unfold B8 at e k g f;let d:=address h.C i o;exact sF [(512061,48007)] []<|Fh 61 [.els (M wD (acc++[d.1]))]<|Ftb 41 (L (o<(pg h i).U))<|Fc 47 (@Pw h.C i o)<|Fc 53 (@IZ h (d.1) aa oq)<|Ffb 57 ((Z9 h d.1).2 != 0)<|Fs 60 (M wD [d.1])<|Fa (by(simp[B8, *];omega):(M wD acc).length+(M wD [d.1]).length<=2^30)<|Fa (by simp[B8,LF,LD,Lr,LC,wD,iD]:M wD acc++M wD [d.1]=M wD (acc++[d.1]))<|Ffb 64 ((pg h i).K==2)<|Fc 67 (@Ia ((Z9 h d.1).1) aa)<|Fi 68 (o+Z5 (Z9 h d.1).1) Fz
theorem ZgP(h1:o<(pg h i).U)(f:(Z9 h (B8 h i o)).2=0)(h3:(pg h i).K=2):CP (Zl f147 0) (SJ h i o acc).st (.ext 0) (DG (acc++[B8 h i o])).st:=by have j:=B5 a;have e:=Df j.1 i o;have g:=Iw b (B8 h i o);unfold B8 at e g f;let d:=address h.C i o;exact sF [(512061,48007)] []<|Fh 61 [.els (M wD (acc++[d.1]))]<|Ftb 41 (L (o<(pg h i).U))<|Fc 47 (@Pw h.C i o)<|Fc 53 (@IZ h (d.1) aa oq)<|Ffb 57 ((Z9 h d.1).2 != 0)<|Fs 60 (M wD [d.1])<|Fa (by(simp[B8, *];omega):(M wD acc).length+(M wD [d.1]).length<=2^30)<|Fa (by simp[B8,LF,LD,Lr,LC,wD,iD]:M wD acc++M wD [d.1]=M wD (acc++[d.1]))<|Ftb 64 ((pg h i).K==2) Fz
theorem ZdX(h1:o<(pg h i).U)(e:¬ (Z9 h (B8 h i o)).2=0):CP (Zl f147 0) (SJ h i o acc).st .ret (Tg.st ⟨tm 70 [(4,.d (.sl 0 [])),(5,nI 19)],[],60⟩):=by have f:=B5 a;have d:=Df f.1 i o;unfold B8 at d e;exact sF [] []<|Ftb 41 (L (o<(pg h i).U))<|Fc 47 (@Pw h.C i o)<|Fc 53 (@IZ h ((address h.C i o).1) aa oq)<|Ftb 57 ((Z9 h (address h.C i o).1).2 != 0) Fz
omit b a hl c in
theorem Z75(h1:(pg h i).U<=o):CP (Zl f147 0) (SJ h i o acc).st (.ext 0) (DG acc).st:=by exact sF [] []<|Ffb 41 (L (o<(pg h i).U)) Fz
end
def Z0F{h a}(e:(Z9 h a).2=0):1<=Z5 (Z9 h a).1:=by have:=TL e;rw[Z5,if_pos this.2.2.2.2.1];omega
def Z6v(h:Heap) i(j:Zy h.W)(g:Z8 h=Y)(hu:(pg h i).U<=256):∀(f:Nat) (o:Int) (acc:List Int),(pg h i).U-o<=f->0<=o->o<=1000->(acc.length:Int)+f<=1000 -> (∀l,Ej h i f o=O l->G2 prog f147 0 (SJ h i o acc).st (.ext 0) (DG (acc++l)).st) /\ (Ej h i f o=La->G2 prog f147 0 (SJ h i o acc).st .ret (Tg.st ⟨tm 70 [(4,.d (.sl 0 [])),(5,nI 19)],[],60⟩)):=by
 intro f;induction f with
 |zero =>intro o acc n d p q;refine⟨λl a=>?_,λa=>by cases a⟩;simp only[Ej,Option.some.injEq]at a;subst a;rw[Ln];exact .endx (Z75 h i o acc oq)
 |succ f u =>
  intro o acc n d p q;unfold Ej;by_cases c:o<(pg h i).U;rw[if_pos c];by_cases b:(Z9 h (B8 h i o)).2=0;rw[if_pos b];by_cases e:(pg h i).K=2;rw[if_pos e];refine⟨λl a=>?_,λa=>by cases a⟩;cases a;exact .endx (ZgP h i o acc j g oq ⟨d,by omega⟩ c b e);rw[if_neg e];have hs:=Z0F b;have hb:=I8 (Z9 h (B8 h i o)).1;have k:=ZcI h i o acc j g oq ⟨d,by omega⟩ c b e;obtain⟨s,t⟩:=u (o+Z5 (Z9 h (B8 h i o)).1) (acc++[B8 h i o]) oq oq oq qo;refine⟨λl a=>?_,λa=>?_⟩
  .rw[Ls]at a;obtain⟨m,r,rfl⟩:=a;have:=s m r;rw[Lv]at this;exact .next k this
  .rw[Option.map_eq_none_iff]at a;exact .next k (t a)
  rw[if_neg b];exact⟨λl a=>(by cases a),λ_=>.endr (ZdX h i o acc j g oq ⟨d,by omega⟩ c b)⟩;rw[if_neg c];refine⟨λl a=>?_,λa=>by cases a⟩;cases a;rw[Ln];exact .endx (Z75 h i o acc oq)
def Zgc(h:Heap) i(l:List Int)(c:Zy h.W)(a:Z8 h=Y)(b:(pg h i).U<=256)(hl:Ej h i 256 0=O l):CP (Zk f147 0) (Tg.st ⟨tm 70 [(1,nI i),(2,.pt 8002 0 0),(4,.d (.sl 0 [])),(5,nI 0),(6,.pt 32006 0 0),(7,.ow 48007),(8,nI 0)], [(48007,.arr 35 1 []),(32006,.box 86 [nI (h.P.getD i.toNat X).K,nI (h.P.getD i.toNat X).S,nI (h.P.getD i.toNat X).U,nI (h.P.getD i.toNat X).N]),(8002,.box 28 h.cells)],60⟩) .nrm (DG l).st:=
 ((Z6v h i c a b 256 0 [] oq oq oq pq).1 l hl).ext kr
def Zkq(h:Heap) i(c:Zy h.W)(a:Z8 h=Y)(b:(pg h i).U<=256)(hl:Ej h i 256 0=La):CP (Zk f147 0) (Tg.st ⟨tm 70 [(1,nI i),(2,.pt 8002 0 0),(4,.d (.sl 0 [])),(5,nI 0),(6,.pt 32006 0 0),(7,.ow 48007),(8,nI 0)], [(48007,.arr 35 1 []),(32006,.box 86 [nI (h.P.getD i.toNat X).K,nI (h.P.getD i.toNat X).S,nI (h.P.getD i.toNat X).U,nI (h.P.getD i.toNat X).N]),(8002,.box 28 h.cells)],60⟩) .ret (Tg.st ⟨tm 70 [(4,.d (.sl 0 [])),(5,nI 19)],[],60⟩):=
 ((Z6v h i c a b 256 0 [] oq oq oq pq).2 hl).ret kr
def Ze(h:Heap)(i:Int):List Int×Int:=
 if Z8 h=Y then(if 0<=i/\i<h.P.length then(if(pg h i).K=0\/(pg h i).K=3 then([],0)else(match Ej h i 256 0 with|O l=>(l,0)|La=>([],19)))else([],2))else([],1)
def Sj(h:Heap) i(hw:Zy h.W):GP 147 [h.av,nI i] Z (.tu [Z2 (Ze h i).1,nI (Ze h i).2]) []:=by
 cases hp:Z8 h with
 |false =>
  have b:Ze h i=([],1):=by rw[Ze,if_neg (by rw[hp];simp)]
  rw[b];exact gF [] func147 []<|Fc 14 (@CC h)<|Ftb 15 (!Z8 h)<|Fnl Fz
 |true =>
  have po:=B5 hp;by_cases e:0<=i/\i<h.P.length;have m:=EL hp (j:=i.toNat) oq;have hu:(pg h i).U<=256:=m.2.2.2.2.2.2.2.1;cases hwk:Ej h i 256 0 with
  |none =>
   have b:Ze h i=if(h.P.getD i.toNat X).K=0\/(h.P.getD i.toNat X).K=3 then([],0)else([],19):=by rw[Ze,if_pos hp,if_pos e,hwk];rfl
   have g {h_ c_ p_} (f:Fq h_ c_ p_):=Fc 14 (@CC h)<|Ffb 15 (!Z8 h)<|FlG 22 (!decide (i<0)) Z0.dv h.P<|Ffb 24 (L (i<0)||L ((h.P.length:Int)<=i))<|Fe 28 Z0.dv h.P i f;rcases bb ((h.P.getD i.toNat X).K==0||(h.P.getD i.toNat X).K==3)with hc0|hc0<;>have a:=hc0<;>simp only[bs]at a;exact gF [] func147 (fO 8) (g (Ft 37 hc0<|Fnl (Fa (by rw[b,if_pos oq];rfl:[]=M wD (Ze h i).1)<|Fa (by rw[b,if_pos oq]:0=(Ze h i).2) Fz)));obtain⟨c,d⟩:=a;exact gF [] func147 (fO 18)<|Fh 7 [.own] (g (Ff 37 hc0<|Fu (@Zkq h i aa aa aa aa)<|Fnl (Fa (by rw[b,if_neg oq];rfl:[]=M wD (Ze h i).1)<|Fa (by rw[b,if_neg oq]:19=(Ze h i).2) Fz)))
  |some l =>
   have b:Ze h i=if(h.P.getD i.toNat X).K=0\/(h.P.getD i.toNat X).K=3 then([],0)else(l,0):=by rw[Ze,if_pos hp,if_pos e,hwk];rfl
   have k {h_ c_ p_} (f:Fq h_ c_ p_):=Fc 14 (@CC h)<|Ffb 15 (!Z8 h)<|FlG 22 (!decide (i<0)) Z0.dv h.P<|Ffb 24 (L (i<0)||L ((h.P.length:Int)<=i))<|Fe 28 Z0.dv h.P i f;rcases bb ((h.P.getD i.toNat X).K==0||(h.P.getD i.toNat X).K==3)with hc0|hc0<;>have a:=hc0<;>simp only[bs]at a;exact gF [] func147 (fO 8) (k (Ft 37 hc0<|Fnl (Fa (by rw[b,if_pos oq];rfl:[]=M wD (Ze h i).1)<|Fa (by rw[b,if_pos oq]:0=(Ze h i).2) Fz)));obtain⟨c,d⟩:=a;exact gF [] func147 (fO 18)<|Fh 7 [.own] (k (Ff 37 hc0<|Fu (@Zgc h i l aa aa aa aa)<|Fa (by refine congrArg _ ?_;rw[b,if_neg oq]:M wD l=M wD (Ze h i).1)<|Fa (by rw[b,if_neg oq]:0=(Ze h i).2) Fz))
  have b:Ze h i=([],2):=by rw[Ze,if_pos hp,if_neg e]
  rw[b];exact gF [] func147 []<|Fc 14 (@CC h)<|Ffb 15 (!Z8 h)<|FlG 22 (!decide (i<0)) Z0.dv h.P<|Ftb 24 (L (i<0)||L ((h.P.length:Int)<=i))<|Fnl Fz
def AB(l:List Int)(v:Int)(i:Nat):Tg:=⟨tm 18 [(0,Z2 l),(1,uU v),(4,bL Z),(5,nI i)],[],60⟩
def Z3Y(l:List Int)(v:Int)(i:Nat)(hl:l.length<=1048576)(hi:i<l.length)(hv:¬ l.getD i X=v):CP (Zl f17 0) (AB l v i).st .nrm (AB l v (i+1)).st:=by exact sF [] []<|FN 8 9 14 wD l i<|Ffb 17 (l.getD i X==v)<|Fx 11 i Fz
def Ziy(l:List Int)(v:Int)(i:Nat)(hl:l.length<=1048576)(hi:i<l.length)(hv:l.getD i X=v):CP (Zl f17 0) (AB l v i).st .ret (Tg.st ⟨tm 18 [(4,bL Y)],[],60⟩):=by exact sF [] []<|FN 8 9 14 wD l i<|Ftb 17 (l.getD i X==v) Fz
def hasEnd l v:CP (Zl f17 0) (AB l v l.length).st (.ext 0) (Tg.st ⟨tm 18 [],[],60⟩):=by exact sF [] []<|FO 8 9 wD l Fz
def BI{l:List Int}{v:Int}:v∈l↔∃i,i<l.length/\l.getD i X=v:=by rw[List.mem_iff_getElem];constructor;rintro⟨i,h,e⟩;exact⟨i,h,by simp[Lp,h,e]⟩;rintro⟨i,h,e⟩;exact⟨i,h,by simpa[Lp,h]using e⟩
def Z9X(l:List Int)(v:Int)(hl:l.length<=1048576)(h:v∉l)  := Bp (S:=λi=>(AB l v i).st) l.length (by kernel_rfl) (λi a=>Z3Y l v i hl a λe=>h (BI.2 ⟨i,a,e⟩)) (hasEnd l v)
def Zfz(l:List Int)(v:Int)(hl:l.length<=1048576)(h:v∈l):CP (Zk f17 0) (Tg.st ⟨tm 18 [(0,Z2 l),(1,uU v),(4,bL Z),(5,nI 0)],[],60⟩) .ret (Tg.st ⟨tm 18 [(4,bL Y)],[],60⟩):=by obtain⟨i,a,b⟩:=Z1n (BI.1 h);exact Ev (S:=λi=>(AB l v i).st) i kr (λj hj=>Z3Y l v j hl oq λe=>by have:=b j ⟨by omega,e⟩;omega) (Ziy l v i hl a.1 a.2)
def E5(l:List Int) v(hl:l.length<=1048576):GP 17 [Z2 l,uU v] Y (bL (L (v∈l))) []:=by by_cases h:v∈l;rw[decide_eq_true h];exact gF [] func17 []<|Fu (@Zfz l v aa aa) Fz;rw[decide_eq_false h];exact gF [] func17 []<|Fu (@Z9X l v aa aa) Fz
def Z9x{h i}:∀{f:Nat} {o:Int} {l:List Int},Ej h i f o=O l->l.length<=f
 |0,o,l,e=>by simp[Ej]at e;subst e;simp
 |f+1,o,l,e=>by
  unfold Ej at e;split at e
  .split at e
   .split at e
    .cases e;simp
    .rw[Ls]at e;obtain⟨m,a,rfl⟩:=e;have:=Z9x a;simp;omega
   .cases e
  .cases e;simp
def NL(h:Heap) i:(Ze h i).1.length<=256:=by
 unfold Ze;repeat' split
 all_goals first|(simp;done)|(rename_i e;exact Z9x e)
def Ce(h:Heap):Nat->Nat->List Int×Int|0,_=>([],0)|f+1,i=>if(Ze h i).2=0 then(if(Ce h f (i+1)).2=0 then((Ze h i).1++(Ce h f (i+1)).1,0)else([],(Ce h f (i+1)).2))else([],(Ze h i).2)
def Cx(h:Heap):List Int×Int:=if Z8 h=Y then Ce h h.P.length 0 else([],1)
def AP(h:Heap)(i:Nat)(acc:List Int):Tg:=⟨tm 31 [(1,.pt 8001 0 0),(2,.d (.sl 0 [])),(3,nI 0),(4,.ow 24004),(5,nI i)],[(24004,.arr 35 1 (acc.map wD)),(8001,.box 28 h.cells)],60⟩
section
variable(h:Heap)(i:Nat)(acc:List Int)(b:Zy h.W)(hl:h.P.length<=1048576)(a:acc.length<=1048576)
include b hl a
theorem Zjy(hi:i<h.P.length)(e:(Ze h i).2=0):CP (Zl f90 0) (AP h i acc).st .nrm (AP h (i+1) (acc++(Ze h i).1)).st:=by have hn:=NL h i;exact sF [(504029,24004)] []<|Fh 29 [.els (M wD (acc++(Ze h (i:Int)).1))]<|FM 14 15 Z0.dv h.P i<|Fc 21 (@Sj h ((i:Int)) aa)<|Ffb 25 ((Ze h (i:Int)).2 != 0)<|Fa (by(simp[*];omega):(M wD acc).length+(M wD (Ze h (i:Int)).1).length<=2^30)<|Fa (ms:M wD acc++M wD (Ze h (i:Int)).1=M wD (acc++(Ze h (i:Int)).1))<|Fx 17 i Fz
theorem Zf2(hi:i<h.P.length)(e:¬ (Ze h i).2=0):CP (Zl f90 0) (AP h i acc).st .ret (Tg.st ⟨tm 31 [(2,.d (.sl 0 [])),(3,nI (Ze h i).2)],[],60⟩):=by exact sF [] []<|FM 14 15 Z0.dv h.P i<|Fc 21 (@Sj h ((i:Int)) aa)<|Ftb 25 ((Ze h (i:Int)).2 != 0) Fz
omit b hl a in
theorem Zee:CP (Zl f90 0) (AP h h.P.length acc).st (.ext 0) (Tg.st ⟨tm 31 [(4,.ow 24004)],[(24004,.arr 35 1 (acc.map wD))],60⟩):=by exact sF [] []<|FO 14 15 Z0.dv h.P Fz
end
def Z7X(h:Heap)(c:Zy h.W)(hl:h.P.length<=1048576):∀(f i:Nat) (acc:List Int),i+f=h.P.length->acc.length+256*f<=1048576 -> ((Ce h f i).2=0->G2 prog f90 0 (AP h i acc).st (.ext 0) (Tg.st ⟨tm 31 [(4,.ow 24004)],[(24004,.arr 35 1 ((acc++(Ce h f i).1).map wD))],60⟩)) /\ (¬ (Ce h f i).2=0->G2 prog f90 0 (AP h i acc).st .ret (Tg.st ⟨tm 31 [(2,.d (.sl 0 [])),(3,nI (Ce h f i).2)],[],60⟩)):=by
 intro f;induction f with
 |zero =>
  intro i acc g _;have:i=h.P.length:=by omega
  subst this;refine⟨λ_=>?_,λe=>absurd rfl e⟩;rw[Ce,Ln];exact .endx (Zee h acc)
 |succ f l =>
  intro i acc g hb;have hn:=NL h i;unfold Ce;by_cases e:(Ze h i).2=0;rw[if_pos e];have b:=Zjy h i acc c hl oq oq e;obtain⟨j,k⟩:=l (i+1) (acc++(Ze h i).1) oq qo;by_cases a:(Ce h f (i+1)).2=0
  .rw[if_pos a];refine⟨λ_=>?_,λe=>absurd rfl e⟩;have:=j a;rw[Lv]at this;exact .next b this
  rw[if_neg a];exact⟨λe=>absurd e a,λ_=>.next b (k a)⟩;rw[if_neg e];exact⟨λd=>absurd d e,λ_=>.endr (Zf2 h i acc c hl oq oq e)⟩
def ZkX(h:Heap)(a:Zy h.W)(hl:h.P.length<=64)(e:(Ce h h.P.length 0).2=0):CP (Zk f90 0) (Tg.st ⟨tm 31 [(1,.pt 8001 0 0),(2,.d (.sl 0 [])),(3,nI 0),(4,.ow 24004),(5,nI 0)],[(24004,.arr 35 1 []),(8001,.box 28 h.cells)],60⟩) .nrm (Tg.st ⟨tm 31 [(4,.ow 24004)],[(24004,.arr 35 1 ((Ce h h.P.length 0).1.map wD))],60⟩):=
 ((Z7X h a oq h.P.length 0 [] oq qo).1 e).ext kr
def ZkW(h:Heap)(a:Zy h.W)(hl:h.P.length<=64)(e:¬ (Ce h h.P.length 0).2=0):CP (Zk f90 0) (Tg.st ⟨tm 31 [(1,.pt 8001 0 0),(2,.d (.sl 0 [])),(3,nI 0),(4,.ow 24004),(5,nI 0)],[(24004,.arr 35 1 []),(8001,.box 28 h.cells)],60⟩) .ret (Tg.st ⟨tm 31 [(2,.d (.sl 0 [])),(3,nI (Ce h h.P.length 0).2)],[],60⟩):=
 ((Z7X h a oq h.P.length 0 [] oq qo).2 e).ret kr
def ZiK(h:Heap):∀(f i:Nat),¬ (Ce h f i).2=0->(Ce h f i).1=[]
 |0,i,e=>absurd rfl e
 |f+1,i,e=>by
  unfold Ce at e⊢;split at e
  .rename_i a;rw[if_pos a];split at e
   .exact absurd rfl e
   .rename_i b;rw[if_neg b]
  .rename_i a;rw[if_neg a]
def Zct(h:Heap)(hw:Zy h.W):GP 90 [h.av] Z (.tu [Z2 (Cx h).1,nI (Cx h).2]) []:=by
 cases hp:Z8 h with
 |false =>
  have a:Cx h=([],1):=by rw[Cx,if_neg (by rw[hp];simp)]
  rw[a];exact gF [] func90 []<|Fc 9 (@CC h)<|Ftb 10 (!Z8 h)<|Fnl Fz
 |true =>
  have po:=B5 hp;have a:Cx h=Ce h h.P.length 0:=by rw[Cx,if_pos hp]
  by_cases e:(Ce h h.P.length 0).2=0;rw[show Cx h=((Ce h h.P.length (0:Nat)).1,(0:Int))from by grind[]];exact gF [] func90 []<|Fh 4 [.own]<|Fc 9 (@CC h)<|Ffb 10 (!Z8 h)<|Fu (@ZkX h aa oq aa) Fz;have b:=ZiK h _ _ e;exact gF [] func90 (fO 7)<|Fh 4 [.own]<|Fc 9 (@CC h)<|Ffb 10 (!Z8 h)<|Fu (@ZkW h aa oq aa)<|Fnl (Fa (by rw[a,b];rfl:[]=M wD (Cx h).1)<|Fa (by rw[a]:(Ce h h.P.length 0).2=(Cx h).2) Fz)
def Z8h{h:Heap}(c:Zq h.C=Y){i}:∀{f:Nat} {o:Int} {l:List Int},Ej h i f o=O l->∀x∈l,0<=x/\x<=8192
 |0,o,l,e=>by simp[Ej]at e;subst e;simp
 |f+1,o,l,e=>by
  have b:=Df c i o;unfold Ej at e;split at e
  .split at e
   .split at e
    .cases e;intro x a;simp at a;subst a;exact b
    .rw[Ls]at e;obtain⟨m,d,rfl⟩:=e;intro x a;rcases List.mem_cons.1 a with rfl|a
     .exact b
     .exact Z8h c d x a
   .cases e
  .cases e;simp
def Al{h:Heap}(a:Z8 h=Y) i:∀x∈(Ze h i).1,0<=x/\x<=8192:=by
 have b:=(B5 a).1;unfold Ze;repeat' split
 all_goals first|(simp;done)|(rename_i e;exact Z8h b e)
def Z5x{h:Heap}(b:Z8 h=Y):∀(f i:Nat),∀x∈(Ce h f i).1,0<=x/\x<=8192
 |0,i=>by simp[Ce]
 |f+1,i=>by
  unfold Ce;split
  .split
   .intro x a;rcases List.mem_append.1 a with a|a
    .exact Al b i x a
    .exact Z5x b f (i+1) x a
   .simp
  .simp
def Z6T(h:Heap):∀(f i:Nat),(Ce h f i).1.length<=256*f
 |0,i=>by simp[Ce]
 |f+1,i=>by
  have h1:=NL h i;have h2:=Z6T h f (i+1);unfold Ce;split
  .split
   .simp;omega
   .simp
  .simp
def Z7M(h:Heap):∀x∈(Cx h).1,0<=x/\x<=8192:=by unfold Cx;split;exact Z5x aa _ _;simp
def Z56(h:Heap):(Cx h).1.length<=16384:=by unfold Cx;split;rename_i a;have:=Z6T h h.P.length 0;have:=B5 a;omega;simp
def CM(h:Heap)(a:Int):Bool:=L ((Z9 h a).1.K≠0)
def Zt(h:Heap):List Int×Int:=((Cx h).1.filter (CM h),(Cx h).2)
def Z2a(h:Heap):∀x∈(Zt h).1,0<=x/\x<=8192:=λx a=>Z7M h x (List.mem_filter.1 a).1
def SI(h:Heap):(Zt h).1.length<=16384:=Nat.le_trans (LB _ _) (Z56 h)
def TI{l:List Int}{i:Nat}(a:i<l.length):l.take (i+1)=l.take i++[l.getD i X]:=by rw[List.take_succ];simp[Lp,a]
def PM(h:Heap)(l:List Int)(a:Int)(i:Nat):Tg:=⟨tm 42 [(1,.pt 8001 0 0),(4,Z2 l),(5,nI a),(6,.ow 24006),(7,nI i)],[(24006,.arr 35 1 (((l.take i).filter (CM h)).map wD)),(8001,.box 28 h.cells)],60⟩
def ZbB(h:Heap)(l:List Int) b(i:Nat)(hw:Zy h.W)(hl:l.length<=1048576)(j:∀x∈l,0<=x/\x<=8192)(c:i<l.length):CP (Zl f43 0) (PM h l b i).st .nrm (PM h l b (i+1)).st:=by
 have hx:=j (l.getD i X) (BI.2 ⟨i,c,rfl⟩);have g:((l.take i).filter (CM h)).length<=l.length:=Nat.le_trans (LB _ _) qo;have f:=TI c;by_cases d:(Z9 h (l.getD i X)).1.K=0;have e:(l.take (i+1)).filter (CM h)=(l.take i).filter (CM h):=by(have a:CM h (l.getD i X)=Z:=decide_eq_false (by simpa using d);rw[f,Lw,Lx,a,Ly];simp)
 exact sF [] (fO 5)<|FN 17 18 25 wD l i<|Fc 27 (@IZ h (l.getD i X) aa oq)<|Ffb 32 ((Z9 h (l.getD i X)).1.K != 0)<|Fx 20 i<|Fr (35:Int)<|Fa (by refine congrArg _ ?_;rw[e]:M wD (Ld (CM h) (Lc i l))=M wD (Ld (CM h) (Lc (i+1) l))) Fz;have e:(l.take (i+1)).filter (CM h)=(l.take i).filter (CM h)++[l.getD i X]:=by(have a:CM h (l.getD i X)=Y:=decide_eq_true d;rw[f,Lw,Lx,a,Ly];simp)
 exact sF [(504039,24006)] (fO 5)<|Fh 39 [.els (M wD (Ld (CM h) (Lc i l)++[l.getD i X]))]<|FN 17 18 25 wD l i<|Fc 27 (@IZ h (l.getD i X) aa oq)<|Ftb 32 ((Z9 h (l.getD i X)).1.K != 0)<|Fek 36 wD l (↑i) i<|Fs 38 (M wD [l.getD i X])<|Fa (by(simp[*];omega):(M wD (Ld (CM h) (Lc i l))).length+(M wD [l.getD i X]).length<=2^30)<|Fa (ms:M wD (Ld (CM h) (Lc i l))++M wD [l.getD i X]=M wD (Ld (CM h) (Lc i l)++[l.getD i X]))<|Fx 20 i<|Fr (35:Int)<|Fa (by refine congrArg _ ?_;rw[e]:M wD (Ld (CM h) (Lc i l)++[l.getD i X])=M wD (Ld (CM h) (Lc (i+1) l))) Fz
def ZfP(h:Heap) l a:CP (Zl f43 0) (PM h l a l.length).st (.ext 0) (Tg.st ⟨tm 42 [(5,nI a),(6,.ow 24006)],[(24006,.arr 35 1 ((l.filter (CM h)).map wD))],60⟩):=by have e:l.take l.length=l:=LG;exact sF [] (fO 2)<|FO 17 18 wD l<|Fr (35:Int)<|Fa (by refine congrArg _ ?_;rw[e]:M wD (Ld (CM h) (Lc l.length l))=M wD (Ld (CM h) l)) Fz
def Zdt(h:Heap)(l:List Int) a(d:Zy h.W)(hl:l.length<=1048576)(c:∀x∈l,0<=x/\x<=8192):CP (Zk f43 0) (Tg.st ⟨tm 42 [(1,.pt 8001 0 0),(4,Z2 l),(5,nI a),(6,.ow 24006),(7,nI 0)],[(24006,.arr 35 1 []),(8001,.box 28 h.cells)],60⟩) .nrm (Tg.st ⟨tm 42 [(5,nI a),(6,.ow 24006)],[(24006,.arr 35 1 ((l.filter (CM h)).map wD))],60⟩):=
 Bp (S:=λi=>(PM h l a i).st) l.length kr (λi b=>ZbB h l a i d hl c b) (ZfP h l a)
def Mj(h:Heap)(hw:Zy h.W):GP 43 [h.av] Z (.tu [Z2 (Zt h).1,nI (Zt h).2]) []:=by have hl:=Z56 h;have hr:=Z7M h;exact gF [] func43 []<|Fh 6 [.own]<|Fc 12 (@Zct h aa)<|Fu (@Zdt h ((Cx h).1) ((Cx h).2) aa oq aa) Fz
def Gk(h:Heap)(p o:Int):Int:=(Z1 h.W (address h.C p o).1).1
def Zf1{c:B2}(b:Zq c=Y) p o:0<=(address c p o).1/\(address c p o).1<=8192:=by have ha:=Hl b;unfold address;rw[if_pos b];split;rename_i a;have a:=HM.1 a;have:=Po b a.1 a.2.1 a.2.2.1 a.2.2.2;simp only;omega;simp
def Zjb(h:Heap) p o(a:Z8 h=Y):GP 235 [h.av,nI p,nI o] Y (uU (Gk h p o)) []:=by have b:=B5 a;have ar:=Zf1 b.1 p o;exact gF [] func235 []<|Fc 16 (@Pw h.C p o)<|Fc 23 (@Hx h.W ((address h.C p o).1) oq oq) Fz
def Z1H(h:Heap) p o(hp:Z8 h=Y):GP 220 [h.av,nI p,nI o] Y (uU (Gk h p o)) []:=by exact gF [] func220 []<|Fc 10 (@Zjb h p o aa) Fz
def Zad(h:Heap)(p o:Int)(b:Z8 h=Y)(a:0<=p/\p<h.C.pg)(h1:0<=o/\o<=64):GP 221 [h.av,nI p,nI o] Y (uU (4096+p*h.C.pw+o)) []:=by have c:=B5 b;have ap:=HR c.1 a.1 a.2;exact gF [] func221 []<|Fi 11 (p*h.C.pw)<|Fi 12 (4096+p*h.C.pw)<|Fi 14 (4096+p*h.C.pw+o)<|Fv 15 (4096+p*h.C.pw+o) Fz
def B1(l:List Z0):Nat->Nat|0=>0|i+1=>if(l.getD (i+1) X).K=3 then B1 l i else i+1
def Z8b{h:Heap}(a:Z8 h=Y):(h.P.getD 0 X).K≠3:=by have d:=Ig.1 a;have po:=B5 a;have b:=d.2.2.2.2.2;rw[Z1t oq oq,Lf]at b;have c:=of_decide_eq_true b.1;unfold G3 at c;omega
def Ae(h:Heap)(i:Nat):Tg:=⟨tm 15 [(1,nI i),(2,.pt 8002 0 0)],[(8002,.box 28 h.cells)],60⟩
def ZdP(h:Heap)(i:Nat)(hi:i+1<h.P.length)(hl:h.P.length<=1048576)(hk:(h.P.getD (i+1) X).K=3):CP (Zl f218 0) (Ae h (i+1)).st .nrm (Ae h i).st:=by
 have ei:((i+1:Nat):Int)-1=(i:Int):=by omega
 exact sF [] []<|Fek 8 Z0.dv h.P (↑(i+1):Int) (i+1)<|Ftb 11 ((h.P.getD (i+1) X).K==3)<|Fg 13 (by rw[CR oq oq];omega:Lt.wrap ((↑(i+1):Int)-1)=(i:Int)) Fz
def Z8m(h:Heap)(i:Nat)(hi:i<h.P.length)(hl:h.P.length<=1048576)(hk:¬ (h.P.getD i X).K=3):CP (Zl f218 0) (Ae h i).st (.ext 0) (Tg.st ⟨tm 15 [(1,nI i)],[],60⟩):=by exact sF [] []<|Fek 8 Z0.dv h.P (↑i) i<|Ffb 11 ((h.P.getD i X).K==3) Fz
def Z60(h:Heap)(b:Z8 h=Y)(hl:h.P.length<=1048576):∀i,i<h.P.length->G2 prog f218 0 (Ae h i).st (.ext 0) (Tg.st ⟨tm 15 [(1,nI (B1 h.P i))],[],60⟩)
 |0,hi=>.endx (Z8m h 0 hi hl (Z8b b))
 |i+1,hi=>by
  unfold B1;by_cases a:(h.P.getD (i+1) X).K=3
  .rw[if_pos a];exact .next (ZdP h i hi hl a) (Z60 h b hl i oq)
  .rw[if_neg a];exact .endx (Z8m h (i+1) hi hl a)
def ZiF(h:Heap)(i:Nat)(b:Z8 h=Y)(a:i<h.P.length)(hl:h.P.length<=1048576):CP (Zk f218 0) (Ae h i).st .nrm (Tg.st ⟨tm 15 [(1,nI (B1 h.P i))],[],60⟩):=
 (Z60 h b hl i a).ext kr
def Z50(h:Heap)(i:Nat)(a:Z8 h=Y)(hi:i<h.P.length):GP 218 [h.av,nI i] Y (nI (B1 h.P i)) []:=by have po:=B5 a;exact gF [] func218 []<|Fu (@ZiF h i aa aa oq) Fz
def Gh(h:Heap)(i:Int)(a:Int):Bool:=(L ((h.P.getD i.toNat X).K=1)&&L (Zc h.C<Z5 (Z9 h a).1))||(L ((h.P.getD i.toNat X).K=2)&&L ((Z9 h a).1.K=0))
def Cj(h:Heap)(i:Int)(l:List Int):Int:=(l.find? (Gh h i)).getD 0
def Ax(h:Heap)(i:Int)(l:List Int)(n:Nat):Tg:=⟨tm 61 [(1,nI i),(2,Z2 l),(3,.pt 8003 0 0),(6,uU 0),(7,nI n)],[(8003,.box 28 h.cells)],60⟩
section
variable(h:Heap)(i:Int)(l:List Int)(n:Nat)(b:Zy h.W)(hl:l.length<=1048576)(c:0<=i/\i<h.P.length)(d:h.P.length<=1048576)(a:∀x∈l,0<=x/\x<=8192)
include b hl c d a
theorem Z5s(j:n<l.length)(g:Gh h i (l.getD n X)=Z):CP (Zl f192 0) (Ax h i l n).st .nrm (Ax h i l (n+1)).st:=by have hx:=a (l.getD n X) (BI.2 ⟨n,j,rfl⟩);have hm:=Iw b (l.getD n X);simp only[Gh,bs]at g;let e:=Z9 h (l.getD n X);let f:=h.P.getD i.toNat X;exact sF [] []<|FN 13 14 21 wD l n<|Fc 23 (@IZ h (l.getD n X) aa oq)<|Fc 27 (@Ia (e.1) aa)<|Fc 30 (@Ng h.C)<|Fe 35 Z0.dv h.P i<|FeGq 47 (!(f.K==1&&!decide (Z5 e.1<=Zc h.C))) Z0.dv h.P i<|Ffb 56 (f.K==1&&!decide (Z5 e.1<=Zc h.C)||f.K==2&&e.1.K==0)<|Fx 16 n Fz
theorem Zdu(g:n<l.length)(e:Gh h i (l.getD n X)=Y):CP (Zl f192 0) (Ax h i l n).st .ret (Tg.st ⟨tm 61 [(6,uU (l.getD n X))],[],60⟩):=by have hx:=a (l.getD n X) (BI.2 ⟨n,g,rfl⟩);have hm:=Iw b (l.getD n X);simp only[Gh,bs]at e;refine Zh [((13:Nat),[Hint.int (l.length:Int)]),((14:Nat),[Hint.br Y]),((21:Nat),[Hint.el (wD (l.getD n X))]),((23:Nat),[Hint.call Y (AV.tu [(Z9 h (l.getD n X)).1.av,nI (Z9 h (l.getD n X)).2]) []]),((27:Nat),[Hint.call Y (nI (Z5 (Z9 h (l.getD n X)).1)) []]),((30:Nat),[Hint.call Y (nI (Zc h.C)) []]),((35:Nat),[Hint.el (h.P.getD i.toNat X).dv]),((47:Nat),[Hint.el (h.P.getD i.toNat X).dv]),((56:Nat),[Hint.br Y]),((59:Nat),[Hint.el (wD (l.getD n X))])] [] [] [] (φ:=(↑(M wD l).length:Int)=(l.length:Int)/\L ((n:Int)<(l.length:Int))=Y/\Y=Y/\((0:Int)<=(n:Int)/\(M wD l)[(n:Int).toNat]?=O (wD (l.getD n X)))/\GP 91 [h.av,uU (l.getD n X)] Y (AV.tu [(Z9 h (l.getD n X)).1.av,nI (Z9 h (l.getD n X)).2]) []/\GP 70 [(Z9 h (l.getD n X)).1.av] Y (nI (Z5 (Z9 h (l.getD n X)).1)) []/\GP 93 [h.C.av] Y (nI (Zc h.C)) []/\((0:Int)<=i/\(M Z0.dv h.P)[i.toNat]?=O (h.P.getD i.toNat X).dv)/\((!((h.P.getD i.toNat X).K==(1:Int)&&!decide (Z5 (Z9 h (l.getD n X)).1<=Zc h.C)))=Y->(0:Int)<=i/\(M Z0.dv h.P)[i.toNat]?=O (h.P.getD i.toNat X).dv)/\((h.P.getD i.toNat X).K==(1:Int)&&!decide (Z5 (Z9 h (l.getD n X)).1<=Zc h.C)||(h.P.getD i.toNat X).K==(2:Int)&&(Z9 h (l.getD n X)).1.K==(0:Int))=Y/\Y=Y/\(0:Int)<=(n:Int)/\(M wD l)[(n:Int).toNat]?=O (wD (l.getD n X))) ?_ kr kr kr;exact⟨(by simp only[List.length_map]),(by(simp only[bs];omega)),rfl,(by exact Zm oq oq oq),(@IZ (h) (l.getD n X) aa oq),(@Ia ((Z9 h (l.getD n X)).1) aa),(@Ng (h.C)),(by exact Zm oq oq oq),(by intro f;(try simp only[bs]at f);exact Zm oq oq oq),(by(simp only[bs];omega)),rfl,(by exact Zm oq oq oq)⟩
omit b hl c d a in
theorem ZkF:CP (Zl f192 0) (Ax h i l l.length).st (.ext 0) (Tg.st ⟨tm 61 [(6,uU 0)],[],60⟩):=by exact sF [] []<|FO 13 14 wD l Fz
end
def Ot{l:List Int}{f:Int->Bool}(h:l.find? f=La):∀n,n<l.length->f (l.getD n X)=Z:=by intro n a;have:=Lo.1 h (l.getD n X) (BI.2 ⟨n,a,rfl⟩);simpa using this
def Ag{f:Int->Bool}:∀{l:List Int} {x:Int},l.find? f=O x->∃n,n<l.length/\l.getD n X=x/\f x=Y/\∀m,m<n->f (l.getD m X)=Z
 |[],x,h=>by simp at h
 |a::l,x,h=>by
  rw[List.find?_cons]at h;split at h
  .rename_i b;cases h;exact⟨0,by simp,rfl,b,λm g=>by omega⟩
  .rename_i b;obtain⟨n,h1,c,d,e⟩:=Ag h;refine⟨n+1,by simp;omega,by simpa using c,d,λm g=>?_⟩;cases m with|zero=>simpa using b|succ m=>simpa using e m oq
def ZhY(h:Heap)(i:Int)(l:List Int)(f:Zy h.W)(hl:l.length<=1048576)(c:0<=i/\i<h.P.length)(d:h.P.length<=1048576)(e:∀x∈l,0<=x/\x<=8192)(b:l.find? (Gh h i)=La) :CP (Zk f192 0) (Tg.st ⟨tm 61 [(1,nI i),(2,Z2 l),(3,.pt 8003 0 0),(6,uU 0),(7,nI 0)],[(8003,.box 28 h.cells)],60⟩) .nrm (Tg.st ⟨tm 61 [(6,uU 0)],[],60⟩):=
 Bp (S:=λn=>(Ax h i l n).st) l.length kr (λn a=>Z5s h i l n f hl c d e a (Ot b n a)) (ZkF h i l)
def Zdl(h:Heap)(i:Int)(l:List Int)(x:Int)(d:Zy h.W)(hl:l.length<=1048576)(a:0<=i/\i<h.P.length)(b:h.P.length<=1048576)(c:∀x∈l,0<=x/\x<=8192)(k:l.find? (Gh h i)=O x) :CP (Zk f192 0) (Tg.st ⟨tm 61 [(1,nI i),(2,Z2 l),(3,.pt 8003 0 0),(6,uU 0),(7,nI 0)],[(8003,.box 28 h.cells)],60⟩) .ret (Tg.st ⟨tm 61 [(6,uU x)],[],60⟩):=by obtain⟨n,e,f,g,j⟩:=Ag k;subst f;exact Ev (S:=λn=>(Ax h i l n).st) n kr (λm o=>Z5s h i l m d hl a b c oq (j m o)) (Zdu h i l n d hl a b c e g)
def Z0J(h:Heap)(i:Int)(l:List Int)(hw:Zy h.W)(hl:l.length<=1048576)(hp:h.P.length<=1048576)(hi:0<=i/\i<h.P.length)(hr:∀x∈l,0<=x/\x<=8192):GP 192 [h.av,nI i,Z2 l] Y (uU (Cj h i l)) []:=by
 cases hf:l.find? (Gh h i)with
 |none =>
  have a:Cj h i l=0:=by rw[Cj,hf];rfl
  exact gF [] func192 (fO 6)<|Fu (@ZhY h i l aa aa aa aa aa aa)<|Fa (by rw[a]:0=Cj h i l) Fz
 |some x =>
  have a:Cj h i l=x:=by rw[Cj,hf];rfl
  exact gF [] func192 (fO 6)<|Fu (@Zdl h i l x aa aa aa aa aa aa)<|Fa (by rw[a]:x=Cj h i l) Fz
def BS(x:Bool):List DV:=[.sc (.bool x)]
def Gu(h:Heap)(a:Int):Int:=if(Z9 h a).1.K=0 then 1 else Z5 (Z9 h a).1
def D8(h:Heap)(i:Int)(a:Int)(o:Nat):Bool:=L (a-4096-i*h.C.pw<=o)&&L ((o:Int)<a-4096-i*h.C.pw+Gu h a)
def Co(h:Heap)(i:Int)(l:List Int):List Bool:=(Le h.C.pw.toNat).map λo=>l.any λa=>D8 h i a o
def El(h:Heap)(i:Int)(l:List Int)(a:Int)(w:Nat):List Bool:=(Le h.C.pw.toNat).map λ(o:Nat)=>(l.any λa=>D8 h i a o)||(L (a-4096-i*h.C.pw<=o)&&L ((o:Int)<a-4096-i*h.C.pw+w))
def Z5p(h:Heap) i l a w:(El h i l a w).length=h.C.pw.toNat:=by simp[El]
def Zk9(h:Heap) i l a:El h i l a 0=Co h i l:=by
 unfold El Co;refine Lq λo _=>?_;have:(L (a-4096-i*h.C.pw<=(o:Int))&&L ((o:Int)<a-4096-i*h.C.pw+(0:Nat)))=Z:=by(rw[Bool.and_eq_false_iff];simp;omega)
 rw[this,Bool.or_false]
def ZkV{h:Heap}{i:Int}{l}{a:Int}{w:Nat}(hh:¬ (0<=a-4096+w-i*h.C.pw/\a-4096+w-i*h.C.pw<h.C.pw)):El h i l a (w+1)=El h i l a w:=by unfold El;refine Lq λo b=>?_;have b:=Lh.1 b;congr 1;rw[Ll];simp;omega
def Zeg{h:Heap}{i:Int}{l}{a:Int}{w:Nat}(hh:0<=a-4096+w-i*h.C.pw/\a-4096+w-i*h.C.pw<h.C.pw):(El h i l a w).set (a-4096+w-i*h.C.pw).toNat Y=El h i l a (w+1):=by
 apply List.ext_getElem?;intro j;rw[LA,Z5p];unfold El;by_cases b:j<h.C.pw.toNat
 rw[Lj,Lj,List.getElem?_range b,LH,LH];by_cases c:(a-4096+w-i*h.C.pw).toNat=j;rw[if_pos c,if_pos oq];congr 1;symm;rw[Bool.or_eq_true];right;rw[Lf,decide_eq_true_eq,decide_eq_true_eq];omega;rw[if_neg c];congr 2;rw[Ll,Lf,Lf,decide_eq_true_eq,decide_eq_true_eq,decide_eq_true_eq];omega;rw[if_neg oq,Lj,Lj,List.getElem?_eq_none qo];rfl
def ZjC{h i l a}(hn:0<=Gu h a):El h i l a (Gu h a).toNat=Co h i (l++[a]):=by unfold El Co;refine Lq λo _=>?_;rw[List.any_append];congr 1;simp[D8];rw[Ll];simp;omega
def ZiA(h:Heap) i:Co h i []=Li h.C.pw.toNat Z:=by unfold Co;simp[List.map_const']
def Mn(h:Heap)(i:Int)(l:List Int)(k:Nat):Tg:=⟨tm 69 [(1,nI i),(2,Z2 l),(3,.pt 8003 0 0),(7,.ow 16017),(8,nI k)],[(16017,.arr 4 1 ((Co h i (l.take k)).map BS)),(8003,.box 28 h.cells)],60⟩
def MY(h:Heap)(i:Int)(l m:List Int)(k:Nat)(n:Int)(w:Nat):Tg:=⟨tm 69 [(1,nI i),(2,Z2 m),(3,.pt 8003 0 0),(7,.ow 16017),(8,nI k),(11,nI n),(12,nI w)],[(16017,.arr 4 1 ((El h i l (m.getD k X) w).map BS)),(8003,.box 28 h.cells)],60⟩
def ZhE(h:Heap)(i:Int)(l m:List Int)(k:Nat)(n:Int)(w:Nat)(q:Z8 h=Y)(hm:m.length<=1048576)(p:0<=i/\i<h.P.length)(hr:0<=m.getD k X/\m.getD k X<=8192)(hk:k<m.length)(hn:n<=256)(hw:w<n):CP (Zl f219 2) (MY h i l m k n w).st .nrm (MY h i l m k n (w+1)).st:=by have r:=B5 q;have ap:=HR r.1 p.1 oq;have g:=Z5p h i l (m.getD k X) w;by_cases f:0<=m.getD k X-4096+w-i*h.C.pw/\m.getD k X-4096+w-i*h.C.pw<h.C.pw;have e:=Zeg (l:=l) f;let b:=m.getD k X-4096+(w:Int)-i*h.C.pw;let a:=El h i l (m.getD k X) w;let j:=0<=m.getD k X-4096+(w:Int)-i*h.C.pw;let d:=a.set b.toNat Y;exact sF [] (fO 11)<|Fh 10067 [.els (M BS d)]<|Ftb 40 (L ((w:Int)<n))<|Fek 45 wD m (↑k) k<|Fi 47 (m.getD k X)<|Fi 48 (m.getD k X-4096)<|Fi 50 (m.getD k X-4096+(w:Int))<|Fi 55 (i*h.C.pw)<|Fi 56 b<|FlG 62 (decide j) BS a<|Ftb 64 (decide j&&L (m.getD k X-4096+(w:Int)-i*h.C.pw<(a.length:Int)))<|Fa (by grind[]:0<=m.getD k X-4096+(w:Int)-i*h.C.pw/\b.toNat<(M BS a).length)<|Fa (by grind[]:b.toNat<(M BS a).length)<|Fa (by rw[Lr];rfl:(M BS a).set b.toNat [DV.sc (Value.bool Y)]=M BS d)<|Fx 42 w<|Fr (4:Int)<|Fa (by refine congrArg _ ?_;exact e:M BS d=M BS (El h i l (m.getD k X) (w+1))) Fz;have e:=ZkV (l:=l) f;let c:=m.getD k X;let o:=0<=m.getD k X-4096+(w:Int)-i*h.C.pw;exact sF [] (fO 11)<|Ftb 40 (L ((w:Int)<n))<|Fek 45 wD m (↑k) k<|Fi 47 c<|Fi 48 (m.getD k X-4096)<|Fi 50 (m.getD k X-4096+(w:Int))<|Fi 55 (i*h.C.pw)<|Fi 56 (m.getD k X-4096+(w:Int)-i*h.C.pw)<|FlG 62 (decide o) BS (El h i l c w)<|Ffb 64 (decide o&&L (m.getD k X-4096+(w:Int)-i*h.C.pw<(↑(El h i l c w).length:Int)))<|Fx 42 w<|Fr (4:Int)<|Fa (by refine congrArg _ ?_;rw[e]:M BS (El h i l c w)=M BS (El h i l c (w+1))) Fz
def Zkm(h:Heap) i l m k(n:Int)(w:Nat)(hn:n<=w):CP (Zl f219 2) (MY h i l m k n w).st (.ext 2) (Tg.st ⟨tm 69 [(1,nI i),(2,Z2 m),(3,.pt 8003 0 0),(7,.ow 16017),(8,nI k)],[(16017,.arr 4 1 ((El h i l (m.getD k X) w).map BS)),(8003,.box 28 h.cells)],60⟩):=by exact sF [] []<|Ffb 40 (L ((w:Int)<n)) Fz
def Z8U(h:Heap)(i:Int)(m:List Int)(k:Nat)(n:Int)(g:Z8 h=Y)(e:m.length<=1048576)(d:0<=i/\i<h.P.length)(j:0<=m.getD k X/\m.getD k X<=8192)(a:k<m.length)(f:0<=n/\n<=256)(c:n=Gu h (m.getD k X)):CP (Zk f219 2) (Tg.st ⟨tm 69 [(1,nI i),(2,Z2 m),(3,.pt 8003 0 0),(7,.ow 16017),(8,nI k),(11,nI n),(12,nI 0)],[(16017,.arr 4 1 ((Co h i (m.take k)).map BS)),(8003,.box 28 h.cells)],60⟩) .nrm (Tg.st ⟨tm 69 [(1,nI i),(2,Z2 m),(3,.pt 8003 0 0),(7,.ow 16017),(8,nI k)],[(16017,.arr 4 1 ((Co h i (m.take (k+1))).map BS)),(8003,.box 28 h.cells)],60⟩):=by
 have:=Bp (S:=λw=>(MY h i (m.take k) m k n w).st) n.toNat kr (λw hw=>ZhE h i (m.take k) m k n w g e d j a f.2 oq) (Zkm h i (m.take k) m k n n.toNat oq);have b:El h i (m.take k) (m.getD k X) n.toNat=Co h i (m.take (k+1)):=by(rw[TI a,c];exact ZjC oq)
 rw[b]at this;simp only[MY,Zk9]at this;exact this
def ZaA(h:Heap)(i:Int)(l:List Int)(k:Nat)(g:Zy h.W)(d:Z8 h=Y)(hl:l.length<=1048576)(hi:0<=i/\i<h.P.length)(f:∀x∈l,0<=x/\x<=8192)(c:k<l.length):CP (Zl f219 0) (Mn h i l k).st .nrm (Mn h i l (k+1)).st:=by
 have po:=B5 d;have hx:=f (l.getD k X) (BI.2 ⟨k,c,rfl⟩);have hm:=Iw g (l.getD k X);have hs:=I8 (Z9 h (l.getD k X)).1;by_cases b:(Z9 h (l.getD k X)).1.K=0;have e:Gu h (l.getD k X)=1:=by rw[Gu,if_pos b]
 exact sF [] []<|FN 20 21 28 wD l k<|Fc 30 (@IZ h (l.getD k X) aa oq)<|Fc 34 (@Ia ((Z9 h (l.getD k X)).1) aa)<|Ftb 37 ((Z9 h (l.getD k X)).1.K==0)<|Fu (@Z8U h i l k (1) aa aa aa aa aa oq oq)<|Fx 23 k Fz;have e:Gu h (l.getD k X)=Z5 (Z9 h (l.getD k X)).1:=by rw[Gu,if_neg b]
 let a:=l.getD k X;exact sF [] []<|FN 20 21 28 wD l k<|Fc 30 (@IZ h a aa oq)<|Fc 34 (@Ia ((Z9 h a).1) aa)<|Ffb 37 ((Z9 h a).1.K==0)<|Fu (@Z8U h i l k (Z5 (Z9 h a).1) aa aa aa aa aa aa oq)<|Fx 23 k Fz
def Zc1(h:Heap) i l:CP (Zl f219 0) (Mn h i l l.length).st (.ext 0) (Tg.st ⟨tm 69 [(7,.ow 16017)],[(16017,.arr 4 1 ((Co h i l).map BS))],60⟩):=by have e:l.take l.length=l:=LG;exact sF [] [Z,Y]<|FO 20 21 wD l<|Fr (4:Int)<|Fa (by refine congrArg _ ?_;rw[e]:M BS (Co h i (Lc l.length l))=M BS (Co h i l)) Fz
def Zbf(h:Heap)(i:Int)(l:List Int)(e:Zy h.W)(c:Z8 h=Y)(hl:l.length<=1048576)(a:0<=i/\i<h.P.length)(d:∀x∈l,0<=x/\x<=8192):CP (Zk f219 0) (Tg.st ⟨tm 69 [(1,nI i),(2,Z2 l),(3,.pt 8003 0 0),(7,.ow 16017),(8,nI 0)],[(16017,.arr 4 1 ((Li h.C.pw.toNat Z).map BS)),(8003,.box 28 h.cells)],60⟩) .nrm (Tg.st ⟨tm 69 [(7,.ow 16017)],[(16017,.arr 4 1 ((Co h i l).map BS))],60⟩):=by have:=Bp (S:=λk=>(Mn h i l k).st) l.length kr (λk b=>ZaA h i l k e c hl a d b) (Zc1 h i l);simp only[Mn,List.take_zero,ZiA]at this;exact this
def Z9A(h:Heap)(i:Int)(l:List Int)(hw:Zy h.W)(a:Z8 h=Y)(hl:l.length<=1048576)(hi:0<=i/\i<h.P.length)(hr:∀x∈l,0<=x/\x<=8192):GP 219 [h.av,nI i,Z2 l] Z (.d (.sl 1 ((Co h i l).map BS))) []:=by have po:=B5 a;exact gF [] func219 []<|Fh 17 [.els (M BS (Li h.C.pw.toNat Z))]<|Fb (0<=h.C.pw/\h.C.pw<=h.C.pw/\h.C.pw*((↑(nat_lit 0):Int)+1)<=2^48)<|Fa (by rw[List.map_replicate];rfl:Li h.C.pw.toNat [DV.sc (Value.bool Z)]=M BS (Li h.C.pw.toNat Z))<|Fu (@Zbf h i l aa aa aa aa aa) Fz
def CB(h:Heap)(i:Nat):List Bool:=Co h i (Ze h (B1 h.P i:Nat)).1
def MK(h:Heap) i:(CB h i).length=h.C.pw.toNat:=by simp[CB,Co]
def Z0W l:∀i,B1 l i<=i
 |0=>Nat.le_refl _
 |i+1=>by
  have:=Z0W l i;unfold B1;split<;>omega
def Dq(h:Heap)(i:Nat)(u:List Bool)(k:Nat):Tg:=⟨tm 43 [(1,nI i),(2,.pt 8002 0 0),(4,uU 0),(7,.d (.sl 1 (u.map BS))),(8,nI k)],[(8002,.box 28 h.cells)],60⟩
section
variable(h:Heap)(i:Nat)(u:List Bool)(k:Nat)(a:Z8 h=Y)(b:i<h.P.length)(c:u.length<=64)
include a b c
theorem Z4a(hk:k<u.length)(d:u.getD k X=Y\/Gk h i k=0):CP (Zl f193 0) (Dq h i u k).st .nrm (Dq h i u (k+1)).st:=by have po:=B5 a;rcases d with d|d;exact sF [] []<|FN 23 24 29 BS u k<|FcG 36 (!u.getD k X) (λe=>by(try simp only[bs]at e);exact@Z1H h ((i:Int)) ((k:Int)) aa)<|Ffs 38 (!u.getD k X&&Gk h (i:Int) (k:Int) != 0)<|Fx 26 k Fz;exact sF [] []<|FN 23 24 29 BS u k<|FcG 36 (!u.getD k X) (λe=>by(try simp only[bs]at e);exact@Z1H h ((i:Int)) ((k:Int)) aa)<|Ffb 38 (!u.getD k X&&Gk h (i:Int) (k:Int) != 0)<|Fx 26 k Fz
theorem Zhc(hk:k<u.length)(d:u.getD k X=Z/\¬ Gk h i k=0):CP (Zl f193 0) (Dq h i u k).st .ret (Tg.st ⟨tm 43 [(4,uU (4096+i*h.C.pw+k))],[],60⟩):=by have po:=B5 a;obtain⟨e,f⟩:=d;exact sF [] []<|FN 23 24 29 BS u k<|FcG 36 (!u.getD k X) (λg=>by(try simp only[bs]at g);exact@Z1H h ((i:Int)) ((k:Int)) aa)<|Fts 38 (!u.getD k X&&Gk h (i:Int) (k:Int) != 0)<|Fc 42 (@Zad h ((i:Int)) ((k:Int)) aa oq oq) Fz
omit a b c in
theorem Zar:CP (Zl f193 0) (Dq h i u u.length).st (.ext 0) (Tg.st ⟨tm 43 [(4,uU 0)],[],60⟩):=by exact sF [] []<|FO 23 24 BS u Fz
end
def Hi(h:Heap)(i:Nat)(u:List Bool)(k:Nat):Bool:=!u.getD k X&&L (Gk h i k≠0)
def Ek(h:Heap)(i:Nat)(u:List Bool):Int:=match (Le u.length).find? (Hi h i u)with|O k=>4096+i*h.C.pw+k|La=>0
def ZcX(h:Heap)(i:Nat)(u:List Bool)(d:Z8 h=Y)(c:i<h.P.length)(e:u.length<=64)(b:(Le u.length).find? (Hi h i u)=La) :CP (Zk f193 0) (Tg.st ⟨tm 43 [(1,nI i),(2,.pt 8002 0 0),(4,uU 0),(7,.d (.sl 1 (u.map BS))),(8,nI 0)],[(8002,.box 28 h.cells)],60⟩) .nrm (Tg.st ⟨tm 43 [(4,uU 0)],[],60⟩):=by
 refine Bp (S:=λk=>(Dq h i u k).st) u.length kr (λk a=>Z4a h i u k d c e a ?_) (Zar h i u);have:=Lo.1 b k (Lh.2 a);simp only[Hi,bs]at this;cases hb:u.getD k X with|true=>exact .inl rfl|false =>rw[hb]at this;exact .inr (by simpa using this)
def ZbX(h:Heap)(i:Nat)(u:List Bool)(k:Nat)(d:Z8 h=Y)(c:i<h.P.length)(e:u.length<=64)(g:(Le u.length).find? (Hi h i u)=O k) :CP (Zk f193 0) (Tg.st ⟨tm 43 [(1,nI i),(2,.pt 8002 0 0),(4,uU 0),(7,.d (.sl 1 (u.map BS))),(8,nI 0)],[(8002,.box 28 h.cells)],60⟩) .ret (Tg.st ⟨tm 43 [(4,uU (4096+i*h.C.pw+k))],[],60⟩):=by
 obtain⟨a,b,f⟩:=Lz.1 g;have b:=Lh.1 b;refine Ev (S:=λk=>(Dq h i u k).st) k kr (λm j=>Z4a h i u m d c e oq ?_) (Zhc h i u k d c e b ?_);have:=f m j;simp only[Hi,bs]at this;cases hb:u.getD m X with|true=>exact .inl rfl|false =>rw[hb]at this;exact .inr (by simpa using this)
 simp only[Hi,bs]at a;exact⟨a.1,a.2⟩
def Z6X(h:Heap)(i:Nat)(hw:Zy h.W)(d:Z8 h=Y)(hi:i<h.P.length):GP 193 [h.av,nI i] Y (uU (Ek h i (CB h i))) []:=by
 have po:=B5 d;have hh:=Z0W h.P i;have hn:=NL h (B1 h.P i:Nat);have hr:=Al d (B1 h.P i:Nat);have e:=MK h i;unfold CB at e⊢;cases hf:(Le (Co h i (Ze h (B1 h.P i:Nat)).1).length).find? (Hi h i (Co h i (Ze h (B1 h.P i:Nat)).1))with
 |none =>
  have a:Ek h i (Co h i (Ze h (B1 h.P i:Nat)).1)=0:=by rw[Ek,hf]
  let b:=Ze h (↑(B1 h.P i):Int);exact gF [] func193 (fO 6)<|Fc 13 (@Z50 h i aa aa)<|Fc 14 (@Sj h ((↑(B1 h.P i):Int)) aa)<|Fc 20 (@Z9A h ((i:Int)) (b.1) aa aa oq oq aa)<|Fu (@ZcX h i (Co h (i:Int) b.1) aa aa oq aa)<|Fa (by rw[a]:0=Ek h i (Co h (i:Int) b.1)) Fz
 |some k =>
  have a:Ek h i (Co h i (Ze h (B1 h.P i:Nat)).1)=4096+i*h.C.pw+k:=by rw[Ek,hf]
  let c:=Ze h (↑(B1 h.P i):Int);exact gF [] func193 (fO 6)<|Fc 13 (@Z50 h i aa aa)<|Fc 14 (@Sj h ((↑(B1 h.P i):Int)) aa)<|Fc 20 (@Z9A h ((i:Int)) (c.1) aa aa oq oq aa)<|Fu (@ZbX h i (Co h (i:Int) c.1) k aa aa oq aa)<|Fa (by rw[a]:4096+(i:Int)*h.C.pw+(k:Int)=Ek h i (Co h (i:Int) c.1)) Fz
structure C0 where
 fault:Int
 page:Int
 addr:Int
 deriving DecidableEq,Inhabited
def C0.av(f:C0):AV:=.ag [nI f.fault,nI f.page,uU f.addr]
def pageF(h:Heap)(i:Nat):C0:=
 if(h.P.getD i X).K≠0/\(h.P.getD i X).S≠h.S then⟨2,i,0⟩
 else if(Ze h (i:Int)).2≠0 then⟨3,i,0⟩
 else if Cj h (i:Int) (Ze h (i:Int)).1≠0 then⟨5,i,Cj h (i:Int) (Ze h (i:Int)).1⟩
 else if Ek h i (CB h i)≠0 then⟨4,i,Ek h i (CB h i)⟩else⟨0,0,0⟩
def Z7m(h:Heap)(i:Nat)(hw:Zy h.W)(n:Z8 h=Y)(hi:i<h.P.length):GP 145 [h.av,nI i] Y (pageF h i).av []:=by have po:=B5 n;have hn:=NL h (i:Int);have hr:=Al n (i:Int);have j {h_ c_ p_} (b:Fq h_ c_ p_):=Fek 12 Z0.dv h.P (↑i) i<|FeG 20 ((h.P.getD i X).K != 0) Z0.dv h.P (↑i) i b;rcases bb ((h.P.getD i X).K != 0&&(h.P.getD i X).S != h.S)with hc0|hc0<;>have a:=hc0<;>simp only[bs]at a;obtain⟨f,g⟩:=a;rw[show pageF h i=C0.mk (2:Int) (i:Int) (0:Int)from by(simp only[pageF] ;exact sj)];exact gF [] func145 [] (j (Ft 26 hc0 Fz));have k {h_ c_ p_} (b:Fq h_ c_ p_):=j<|Ff 26 hc0<|Fc 32 (@Sj h ((i:Int)) aa) b;rcases bb ((Ze h (i:Int)).2 != 0)with hc1|hc1<;>have c:=hc1<;>simp only[bs]at c;rw[show pageF h i=C0.mk (3:Int) (i:Int) (0:Int)from by(simp only[pageF] ;exact sj)];exact gF [] func145 [] (k (Ft 36 hc1 Fz));have l {h_ c_ p_} (b:Fq h_ c_ p_):=k<|Ff 36 hc1<|Fc 42 (@Z0J h ((i:Int)) ((Ze h (i:Int)).1) aa oq oq oq aa) b;rcases bb (Cj h (i:Int) (Ze h (i:Int)).1 != 0)with hc2|hc2<;>have d:=hc2<;>simp only[bs]at d;rw[show pageF h i=C0.mk (5:Int) (i:Int) (Cj h (i:Int) (Ze h (i:Int)).1)from by(simp only[pageF] ;exact sj)];exact gF [] func145 [] (l (Ft 44 hc2 Fz));have m {h_ c_ p_} (b:Fq h_ c_ p_):=l<|Ff 44 hc2<|Fc 50 (@Z6X h i aa aa aa) b;rcases bb (Ek h i (CB h i) != 0)with hc3|hc3<;>have e:=hc3<;>simp only[bs]at e;rw[show pageF h i=C0.mk (4:Int) (i:Int) (Ek h i (CB h i))from by(simp only[pageF] ;exact sj)];exact gF [] func145 [] (m (Ft 52 hc3 Fz));rw[show pageF h i=C0.mk (0:Int) (0:Int) (0:Int)from by(simp only[pageF] ;exact sj)];exact gF [] func145 [] (m (Ff 52 hc3 Fz))
def Dn(h:Heap)(a:List Int)(i:Nat):Tg:=⟨tm 89 [(1,.pt 8001 0 0),(2,.pt 8002 0 0),(3,Z2 a),(5,nI i)],[(8002,.box 148 [nI 0,nI 0,uU 0]),(8001,.box 28 h.cells)],60⟩
def IX(c:ZB)(b a:List Int)(k:Nat):Bool:=Bt c k&&L (b.getD k X≠0)&&!decide (b.getD k X∈a)
def Az(h:Heap)(a c:List Int)(b:ZB)(i k:Nat):Tg:=⟨tm 89 [(1,.pt 8001 0 0),(2,.pt 8002 0 0),(3,Z2 a),(5,nI i),(6,.pt 488006 0 0),(8,Z2 c),(10,nI k)],[(488006,.box 52 [nI b.K,nI b.length,u32 b.map]),(8002,.box 148 [nI 0,nI 0,uU 0]),(8001,.box 28 h.cells)],64⟩
section
variable(h:Heap)(a b:List Int)(c:ZB)(i k:Nat)(f:0<=c.map/\c.map<=4294967295)(hl:a.length<=1048576)(d:b.length<=4096)(g:0<=a.getD i X/\a.getD i X<=8192)(e:i<a.length)
include f hl d g e
theorem Z5V(hk:k<b.length)(j:IX c b a k=Z):CP (Zl f146 2) (Az h a b c i k).st .nrm (Az h a b c i (k+1)).st:=by simp only[IX,bs]at j;rcases j with(j|j)|j;let m:=Bt c (k:Int)&&b.getD k X != 0;exact sF [] []<|FM 46 47 wD b k<|Fc 52 (@RN c ((k:Int)) aa)<|FeG 56 (Bt c (k:Int)) wD b (↑k) k<|FeG 64 m wD b (↑k) k<|FcG 66 m (λl=>by(try simp only[bs]at l);exact@E5 a (b.getD k X) aa)<|Ffs 68 (Bt c (k:Int)&&b.getD k X != 0&&!decide (b.getD k X∈a))<|Fx 49 k Fz;let n:=Bt c (k:Int)&&b.getD k X != 0;exact sF [] []<|FM 46 47 wD b k<|Fc 52 (@RN c ((k:Int)) aa)<|FeG 56 (Bt c (k:Int)) wD b (↑k) k<|FeG 64 n wD b (↑k) k<|FcG 66 n (λl=>by(try simp only[bs]at l);exact@E5 a (b.getD k X) aa)<|Ffb 68 (Bt c (k:Int)&&b.getD k X != 0&&!decide (b.getD k X∈a))<|Fx 49 k Fz;let o:=Bt c (k:Int)&&b.getD k X != 0;exact sF [] []<|FM 46 47 wD b k<|Fc 52 (@RN c ((k:Int)) aa)<|FeG 56 (Bt c (k:Int)) wD b (↑k) k<|FeG 64 o wD b (↑k) k<|FcG 66 o (λl=>by(try simp only[bs]at l);exact@E5 a (b.getD k X) aa)<|Ffs 68 (Bt c (k:Int)&&b.getD k X != 0&&!decide (b.getD k X∈a))<|Fx 49 k Fz
theorem Zds(hk:k<b.length)(j:IX c b a k=Y):CP (Zl f146 2) (Az h a b c i k).st .ret (Tg.st ⟨tm 89 [(2,.pt 8002 0 0)],[(8002,.box 148 [nI 6,nI (Z3 h.C (a.getD i X+1+k)).1,uU (a.getD i X+1+k)])],64⟩):=by simp only[IX,bs]at j;obtain⟨⟨m,n⟩,o⟩:=j;let l:=Bt c (k:Int)&&b.getD k X != 0;exact sF [] []<|FM 46 47 wD b k<|Fc 52 (@RN c ((k:Int)) aa)<|FeG 56 (Bt c (k:Int)) wD b (↑k) k<|FeG 64 l wD b (↑k) k<|FcG 66 l (λp=>by(try simp only[bs]at p);exact@E5 a (b.getD k X) aa)<|Fts 68 (Bt c (k:Int)&&b.getD k X != 0&&!decide (b.getD k X∈a))<|Fek 71 wD a (↑i) i<|Fv 73 (a.getD i X+1)<|Fv 75 (↑k)<|Fv 76 (a.getD i X+1+(k:Int))<|Fc 81 (@H5 h.C (a.getD i X+1+(k:Int)) oq oq) Fz
omit f hl d g e in
theorem ZdV:CP (Zl f146 2) (Az h a b c i b.length).st (.ext 2) (Tg.st ⟨tm 89 [(1,.pt 8001 0 0),(2,.pt 8002 0 0),(3,Z2 a),(5,nI i)],[(8002,.box 148 [nI 0,nI 0,uU 0]),(8001,.box 28 h.cells)],64⟩):=by exact sF [] []<|FO 46 47 wD b Fz
end
section
variable(h:Heap)(a b:List Int)(c:ZB)(i:Nat)(f:0<=c.map/\c.map<=4294967295)(hl:a.length<=1048576)(d:b.length<=4096)(g:0<=a.getD i X/\a.getD i X<=8192)(e:i<a.length)
include f hl d g e
theorem Zbo(l:(Le b.length).find? (IX c b a)=La):CP (Zk f146 2) (Az h a b c i 0).st .nrm (Tg.st ⟨tm 89 [(1,.pt 8001 0 0),(2,.pt 8002 0 0),(3,Z2 a),(5,nI i)],[(8002,.box 148 [nI 0,nI 0,uU 0]),(8001,.box 28 h.cells)],64⟩):=by refine Bp (S:=λk=>(Az h a b c i k).st) b.length kr (λk j=>Z5V h a b c i k f hl d g e j ?_) (ZdV h a b c i);have:=Lo.1 l k (Lh.2 j);simpa using this
theorem ZeG(k:Nat)(p:(Le b.length).find? (IX c b a)=O k):CP (Zk f146 2) (Tg.st ⟨tm 89 [(1,.pt 8001 0 0),(2,.pt 8002 0 0),(3,Z2 a),(5,nI i),(6,.pt 488006 0 0),(8,Z2 b),(10,nI 0)],[(488006,.box 52 [nI c.K,nI c.length,u32 c.map]),(8002,.box 148 [nI 0,nI 0,uU 0]),(8001,.box 28 h.cells)],64⟩) .ret (Tg.st ⟨tm 89 [(2,.pt 8002 0 0)],[(8002,.box 148 [nI 6,nI (Z3 h.C (a.getD i X+1+k)).1,uU (a.getD i X+1+k)])],64⟩):=by obtain⟨n,j,o⟩:=Lz.1 p;have j:=Lh.1 j;refine Ev (S:=λk=>(Az h a b c i k).st) k kr (λm l=>Z5V h a b c i m f hl d g e oq ?_) (Zds h a b c i k f hl d g e j n);have:=o m l;simpa using this
end
end Go.Proofs.YtgedmeaemofdkaaGreat
