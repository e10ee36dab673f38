/-
 The statement BoundRequests: part 8.
 Conditions: none.
-/
import Derived.Test.YtkmnngahjnkdmaaGreatE7
set_option maxRecDepth 100000
set_option maxHeartbeats 2000000
set_option linter.all false
open Inhabited renaming default->X
open Option renaming some->Y,none->O,map_eq_some_iff->Ln,map_some->LR
open Bool renaming true->Z,false->La,and_eq_true->Lf,eq_iff_iff->Lq,or_eq_true->Lx
open List renaming map->M,range->Lb,filter->Lc,take->Ld,mem_range->Le,replicate->Lh,getElem?_map->Li,find?_eq_none->Ll,find?_range_eq_some->Lm,append_nil->Lr,getD->Ls,map_congr_left->Lt,map_set->Lu,mem_of_getElem?->Lv,append_assoc->LA,ext_getElem?->LB,filter_append->LC,filter_cons->LD,filter_nil->LF,getElem?_set->LG,length_filter_le->LH,length_map->LI,map_append->LJ,map_drop->LK,map_take->LL,take_length->LM,zip_cons_cons->LN
open Decidable renaming decide->L
open Int renaming tmod_eq_emod_of_nonneg->Lg,emod_lt_of_pos->Lo,emod_nonneg->Lp,add_emod_right->Ly,emod_emod->Lz
open Nat renaming ble->Lj,le_of_ble_eq_true->Lk,lt_of_lt_of_le->Lw,beq->LO,le_trans->LQ
open Go.Proofs.Tryz
namespace Go.Proofs.YtkmnngahjnkdmaaGreat
open Go.Sx
def BB(c:ZU)(hd:Zo):Bool:=ZV hd&&L (hd.K≠0)&&L (need c (Z1 hd)≠-1)
def D4(c:ZU)(hd:Zo)(hm:0<=hd.map/\hd.map<=4294967295):GP 84 [c.av,hd.av] Z (bL (BB c hd)) []:=by refine Zb [((6:Nat),[Hint.call Z (bL (ZV hd)) []]),((15:Nat),[Hint.call Z (nI (Z1 hd)) []]),((16:Nat),[Hint.call Z (nI (need c (Z1 hd))) []])] [] [] dd func84 [La,La,La,La,La,La,La,La,Z] (φ:=GP 100 [hd.av] Z (bL (ZV hd)) []/\((ZV hd&&hd.K != (0:Int))=Z->GP 85 [hd.av] Z (nI (Z1 hd)) [])/\((ZV hd&&hd.K != (0:Int))=Z->GP 24 [c.av,nI (Z1 hd)] Z (nI (need c (Z1 hd))) [])/\(ZV hd&&hd.K != (0:Int)&&need c (Z1 hd) != (-1:Int))=BB c hd) ?_ kr kr;exact⟨(@Nv (hd) aa),(λa=>by(try simp only[bs]at a);exact@Ix (hd) (by(try simp only[bs]at a);assumption)),(λa=>by(try simp only[bs]at a);exact@RX (c) (Z1 hd)),(by grind[BB])⟩
def Cw(l:List Z0)(i:Nat)(n:Int):List Z0:=l.set i ⟨(l.getD i X).K,(l.getD i X).S,(l.getD i X).U+n,(l.getD i X).N⟩
def GH(h:Heap)(n:Int):Prop:=0<=h.B/\(h.P.getD h.B.toNat X).S=h.S/\(h.P.getD h.B.toNat X).U+n<=h.C.pw/\(Bw h.P:Int)<=ZY h.C
instance (h:Heap) (n:Int):Decidable (GH h n):=by unfold GH;infer_instance
def Ib(h:Heap):List Z0:=(Z9R h.P (first h.P 1) h.S).1
def Bo(h:Heap)(n:Int):Heap×Int×Bool:=
 if GH h n then(⟨h.C,h.W,Cw h.P h.B.toNat n,h.S,h.B⟩,4096+h.B*h.C.pw+(h.P.getD h.B.toNat X).U,Z)
 else if 0<=first h.P 1/\(Bw h.P:Int)<ZY h.C then
  (⟨h.C,h.W,Cw (Ib h) (first h.P 1).toNat n,h.S,first h.P 1⟩,4096+first h.P 1*h.C.pw+((Ib h).getD (first h.P 1).toNat X).U,Z)
 else(ZH,0,La)
def Z3E{l:List Z0}{i k:Nat}{p q}(h:i+k<=l.length):(ZF l i k p q).length=l.length:=by rw[ZF,List.length_set];exact Ni (by simpa using h) pq
def Nm{h:Heap}(hs:h.S=0\/h.S=1)(b:0<=first h.P 1):Ib h=ZF h.P (first h.P 1).toNat 1 ⟨1,h.S,0,0⟩ ⟨0,0,0,0⟩/\(Ib h).length=h.P.length/\(first h.P 1)<h.P.length /\ ((Ib h).getD (first h.P 1).toNat X)=⟨1,h.S,0,0⟩:=by
 obtain⟨_,h1,a⟩:=HU b;have e:Ib h=ZF h.P (first h.P 1).toNat 1 ⟨1,h.S,0,0⟩ ⟨0,0,0,0⟩:=by(rw[Ib,Z9R,if_pos oq,EQ,if_pos oq,if_pos a];rfl)
 have c:(Ib h).length=h.P.length:=by rw[e];exact Z3E oq
 refine⟨e,c,by omega, ?_⟩;rw[e,ZF,List.getD_eq_getElem?_getD,LG,if_pos rfl,if_pos (by rw[Ni qo pq];omega)];rfl
def Sz{c:ZU}(a:Zm c=Z):2<=ZY c/\ZY c<=16:=by have:=BR.1 a;rw[ZY,if_pos a,H5 oq];omega
def Il{c:ZU}{i:Int}(a:Zm c=Z)(b:0<=i)(h1:i<c.pg):0<=i*c.pw/\i*c.pw+c.pw<=4096:=by have hb:=BR.1 a;have ha:=HM a;have h2:0<=i*c.pw:=Int.mul_nonneg b oq;have d:(i+1)*c.pw<=c.pg*c.pw:=Int.mul_le_mul_of_nonneg_right oq oq;rw[Int.add_mul,Int.one_mul,Int.mul_comm c.pg]at d;omega
def OY(h:Heap)(n:Int)(m:Z9 h=Z)(hn:1<=n/\n<=256):GP 86 [h.av,nI n] La (.tu [(Bo h n).1.av,uU (Bo h n).2.1,bL (Bo h n).2.2]) []:=by
 have x:=B7 m;obtain⟨o,o2,o3,o4,o5,o6,o7,o8,w⟩:=x;have hb:=(Hl.1 m).2.2.2.2.1;have v:=λr=>Ew m (j:=h.B.toNat) r;have hr:=Z1M h.P 1;have e:=λb=>Nm (h:=h) w b;have q:=Z7o h.P;have s:=Sz o;have t:0<=h.B->0<=h.B*h.C.pw/\h.B*h.C.pw+h.C.pw<=4096:=λk=>Il o k oq;have u:0<=first h.P 1->0<=first h.P 1*h.C.pw/\first h.P 1*h.C.pw+h.C.pw<=4096:=λk=>Il o k (by have:=e k;omega)
 by_cases b:GH h n;have d:Bo h n=(⟨h.C,h.W,Cw h.P h.B.toNat n,h.S,h.B⟩,4096+h.B*h.C.pw+(h.P.getD h.B.toNat X).U,Z):=by rw[Bo,if_pos b]
 unfold GH at b;rw[show Bo h n=(Heap.mk h.C h.W (h.P.set h.B.toNat (Z0.mk (h.P.getD h.B.toNat X).K (h.P.getD h.B.toNat X).S ((h.P.getD h.B.toNat X).U+n) (h.P.getD h.B.toNat X).N)) h.S h.B,(4096:Int)+h.B*h.C.pw+(h.P.getD h.B.toNat X).U,Z)from by rw[d];rfl];let a:=h.P.getD h.B.toNat X;exact gF [] func86 []<|FA 11 14 Z0.dv h.P<|Fc 18 (@Mt h.C)<|Fc 21 (@TB h.P oq)<|FmGq 32 (!decide (h.B<0)) Z0.dv h.P h.B<|FmGq 43 (!(L (h.B<0)||a.S != h.S)) Z0.dv h.P h.B<|FiG 45 (!(L (h.B<0)||a.S != h.S)) (a.U+n)<|Ffb 55 (L (h.B<0)||a.S != h.S||L (h.C.pw<a.U+n)||L (ZY h.C<(↑(Bw h.P):Int)))<|Fi 83 (h.B*h.C.pw)<|Fi 84 (4096+h.B*h.C.pw)<|Fmq 90 Z0.dv h.P h.B<|Fi 91 (4096+h.B*h.C.pw+a.U)<|Fv 92 (4096+h.B*h.C.pw+a.U)<|Fmq 101 Z0.dv h.P h.B<|Fi 103 (a.U+n)<|Fm0q Z0.dv h.P h.B<|FS 10105 Z0.dv h.P h.B.toNat (Z0.mk a.K a.S (a.U+n) a.N) (a.dv) Fz;by_cases l:0<=first h.P 1/\(Bw h.P:Int)<ZY h.C
 have d:Bo h n=(⟨h.C,h.W,Cw (Ib h) (first h.P 1).toNat n,h.S,first h.P 1⟩,4096+first h.P 1*h.C.pw+((Ib h).getD (first h.P 1).toNat X).U,Z):=by rw[Bo,if_neg b,if_pos l]
 obtain⟨y,z,q3,p⟩:=e l.1;obtain⟨r1,r2,r3⟩:=HU l.1;have r4:HJ h.P (first h.P 1).toNat 1=Z:=r3;rw[y]at d z p;have q6:=congrArg Z0.U p;simp only at q6;unfold GH at b;rw[show Bo h n=(Heap.mk h.C h.W ((ZF h.P (first h.P (1:Int)).toNat (1:Nat) (Z0.mk (1:Int) h.S (0:Int) (0:Int)) (Z0.mk (0:Int) (0:Int) (0:Int) (0:Int))).set (first h.P (1:Int)).toNat (Z0.mk ((ZF h.P (first h.P (1:Int)).toNat (1:Nat) (Z0.mk (1:Int) h.S (0:Int) (0:Int)) (Z0.mk (0:Int) (0:Int) (0:Int) (0:Int))).getD (first h.P (1:Int)).toNat X).K ((ZF h.P (first h.P (1:Int)).toNat (1:Nat) (Z0.mk (1:Int) h.S (0:Int) (0:Int)) (Z0.mk (0:Int) (0:Int) (0:Int) (0:Int))).getD (first h.P (1:Int)).toNat X).S (((ZF h.P (first h.P (1:Int)).toNat (1:Nat) (Z0.mk (1:Int) h.S (0:Int) (0:Int)) (Z0.mk (0:Int) (0:Int) (0:Int) (0:Int))).getD (first h.P (1:Int)).toNat X).U+n) ((ZF h.P (first h.P (1:Int)).toNat (1:Nat) (Z0.mk (1:Int) h.S (0:Int) (0:Int)) (Z0.mk (0:Int) (0:Int) (0:Int) (0:Int))).getD (first h.P (1:Int)).toNat X).N)) h.S (first h.P (1:Int)),(4096:Int)+first h.P (1:Int)*h.C.pw+((ZF h.P (first h.P (1:Int)).toNat (1:Nat) (Z0.mk (1:Int) h.S (0:Int) (0:Int)) (Z0.mk (0:Int) (0:Int) (0:Int) (0:Int))).getD (first h.P (1:Int)).toNat X).U,Z)from by rw[d];rfl];let f:=ZF h.P (first h.P 1).toNat 1 (Z0.mk 1 h.S 0 0) (Z0.mk 0 0 0 0);let c:=f.getD (first h.P 1).toNat X;let g:=h.P.getD h.B.toNat X;exact gF [] func86 []<|FA 11 14 Z0.dv h.P<|Fc 18 (@Mt h.C)<|Fc 21 (@TB h.P oq)<|FmGq 32 (!decide (h.B<0)) Z0.dv h.P h.B<|FmGq 43 (!(L (h.B<0)||g.S != h.S)) Z0.dv h.P h.B<|FiG 45 (!(L (h.B<0)||g.S != h.S)) (g.U+n)<|Ftb 55 (L (h.B<0)||g.S != h.S||L (h.C.pw<g.U+n)||L (ZY h.C<(↑(Bw h.P):Int)))<|Fc 58 (@Dr h.P (1) oq)<|Ffb 65 (L (first h.P (1:Int)<0)||L (ZY h.C<=(↑(Bw h.P):Int)))<|Fc 73 (@Z9n h.P (first h.P 1) h.S oq oq oq aa)<|Fi 83 (first h.P 1*h.C.pw)<|Fi 84 (4096+first h.P 1*h.C.pw)<|Fmq 90 Z0.dv f (first h.P 1)<|Fi 91 (4096+first h.P 1*h.C.pw+c.U)<|Fv 92 (4096+first h.P 1*h.C.pw+c.U)<|Fmq 101 Z0.dv f (first h.P 1)<|Fi 103 (c.U+n)<|Fm0q Z0.dv f (first h.P 1)<|FS 10105 Z0.dv f ((first h.P 1).toNat) (Z0.mk c.K c.S (c.U+n) c.N) (c.dv) Fz;have d:Bo h n=(ZH,0,La):=by rw[Bo,if_neg b,if_neg l]
 unfold GH at b;rw[d];let i:=h.P.getD h.B.toNat X;exact gF [] func86 []<|FAx 11 14 Z0.dv h.P (by(simp[ZH, *];omega))<|Fc 18 (@Mt h.C)<|Fc 21 (@TB h.P oq)<|FmGq 32 (!decide (h.B<0)) Z0.dv h.P h.B<|FmGq 43 (!(L (h.B<0)||i.S != h.S)) Z0.dv h.P h.B<|FiG 45 (!(L (h.B<0)||i.S != h.S)) (i.U+n)<|Ftb 55 (L (h.B<0)||i.S != h.S||L (h.C.pw<i.U+n)||L (ZY h.C<(↑(Bw h.P):Int)))<|Fc 58 (@Dr h.P (1) oq)<|Ftb 65 (L (first h.P (1:Int)<0)||L (ZY h.C<=(↑(Bw h.P):Int)))<|Fnl (Fnl Fz)
def BL(h:Heap)(n k:Int):Heap×Int×Bool:=
 if 0<=first h.P k/\Bw h.P+k<=ZY h.C then(⟨h.C,h.W,(H7 h.C h.P (first h.P k) h.S n).1,h.S,h.B⟩,4096+first h.P k*h.C.pw,Z)else(ZH,0,La)
def Z8A(h:Heap)(n k:Int)(q:Z9 h=Z)(hk:k=need h.C n)(l:1<=k):GP 87 [h.av,nI n,nI k] La (.tu [(BL h n k).1.av,uU (BL h n k).2.1,bL (BL h n k).2.2]) []:=by
 have r:=B7 q;obtain⟨g,o2,o3,o4,o5,o6,o7,o8,o9⟩:=r;have hr:=Z1M h.P k;have c:0<=first h.P k->first h.P k+k<=h.P.length:=λi=>(HU i).2.1
 have j:=Z7o h.P;have m:=Sz g;have p:=N3 h.C n;have o:0<=first h.P k->0<=first h.P k*h.C.pw/\first h.P k*h.C.pw+h.C.pw<=4096:=λf=>Il g f (by have:=c f;omega)
 by_cases a:0<=first h.P k/\Bw h.P+k<=ZY h.C
 have b:BL h n k=(⟨h.C,h.W,(H7 h.C h.P (first h.P k) h.S n).1,h.S,h.B⟩,4096+first h.P k*h.C.pw,Z):=by rw[BL,if_pos a]
 rw[show BL h n k=(Heap.mk h.C h.W (H7 h.C h.P (first h.P k) h.S n).1 h.S h.B,(4096:Int)+first h.P k*h.C.pw,Z)from by rw[b]];let d:=!decide (first h.P k<0);exact gF [] func87 []<|Fc 13 (@Dr h.P k oq)<|FcG 19 d (λa=>by(try simp only[bs]at a);exact@TB h.P oq)<|FiG 21 d ((↑(Bw h.P):Int)+k)<|FcG 24 d (λa=>by(try simp only[bs]at a);exact@Mt h.C)<|Ffb 26 (L (first h.P k<0)||L (ZY h.C<(↑(Bw h.P):Int)+k))<|Fc 37 (@Zig h.C h.P (first h.P k) h.S n oq)<|Fi 46 (first h.P k*h.C.pw)<|Fi 47 (4096+first h.P k*h.C.pw)<|Fv 48 (4096+first h.P k*h.C.pw) Fz;have b:BL h n k=(ZH,0,La):=by rw[BL,if_neg a]
 rw[b];let e:=!decide (first h.P k<0);exact gF [] func87 []<|Fc 13 (@Dr h.P k oq)<|FcG 19 e (λa=>by(try simp only[bs]at a);exact@TB h.P oq)<|FiG 21 e ((↑(Bw h.P):Int)+k)<|FcG 24 e (λa=>by(try simp only[bs]at a);exact@Mt h.C)<|Ftb 26 (L (first h.P k<0)||L (ZY h.C<(↑(Bw h.P):Int)+k))<|Fnl (Fnl Fz)
def ZaG{h:Heap}{n:Int}(g:Z9 h=Z)(hn:1<=n/\n<=256):0<=(Bo h n).2.1/\(Bo h n).2.1<=8192/\((Bo h n).2.2=Z->(Bo h n).1.W=h.W/\4096<=(Bo h n).2.1)/\((Bo h n).2.2=La->(Bo h n).1=ZH):=by
 obtain⟨m,o2,o3,o4,o5,o6,o7,o8,q⟩:=B7 g;have hb:=(Hl.1 g).2.2.2.2.1;have i:=λp=>Ew g (j:=h.B.toNat) p;have a:=λc=>Nm (h:=h) q c;have d:0<=h.B->0<=h.B*h.C.pw/\h.B*h.C.pw+h.C.pw<=4096:=λb=>Il m b oq;have f:0<=first h.P 1->0<=first h.P 1*h.C.pw/\first h.P 1*h.C.pw+h.C.pw<=4096:=λb=>Il m b (by have:=a b;omega)
 unfold Bo;split;rename_i c;unfold GH at c;have o:=d c.1;have k:=i oq;refine⟨by simp only;omega,by simp only;omega,λ_=>⟨rfl,by simp only;omega⟩,λe=>by cases e⟩;split;rename_i l;have o:=f l.1;have k:=congrArg Z0.U (a l.1).2.2.2;simp only at k;refine⟨by simp only;omega,by simp only;omega,λ_=>⟨rfl,by simp only;omega⟩,λe=>by cases e⟩;exact⟨by simp,by simp,(λe=>nomatch e),λ_=>rfl⟩
def Zab{h:Heap}{n k}(b:Z9 h=Z):0<=(BL h n k).2.1/\(BL h n k).2.1<=8192/\((BL h n k).2.2=Z->(BL h n k).1.W=h.W/\4096<=(BL h n k).2.1)/\((BL h n k).2.2=La->(BL h n k).1=ZH):=by obtain⟨d,o2,o3,o4,o5,o6,o7,o8,o9⟩:=B7 b;unfold BL;split;rename_i a;have h3:=(HU a.1);have h1:=Il (c:=h.C) (i:=first h.P k) d a.1 oq;exact⟨by simp only;omega,by simp only;omega,λ_=>⟨rfl,by simp only;omega⟩,λe=>by cases e⟩;exact⟨by simp,by simp,(λe=>nomatch e),λ_=>rfl⟩
def El(h:Heap)(hd:Zo):Heap×Int×Bool:=if 0<need h.C (Z1 hd)then BL h (Z1 hd) (need h.C (Z1 hd))else Bo h (Z1 hd)
def Zd(h:Heap)(hd:Zo):Heap×Int×Int:=
 if Z9 h=Z/\BB h.C hd=Z then(if(El h hd).2.2=Z then((B8 (El h hd).1 (El h hd).2.1 hd).1,(El h hd).2.1,0)else(ZH,0,3))else(ZH,0,1)
def Ai:Zz []:=λw h=>by simp at h
def TT{c}{hd:Zo}(h:BB c hd=Z):ZV hd=Z/\1<=Z1 hd/\Z1 hd<=256/\0<=need c (Z1 hd)/\hd.K≠0:=by
 simp only[BB,Lf,decide_eq_true_eq]at h;have hv:=GC.1 h.1.1;have hn:=N3 c (Z1 hd);have hs:Z1 hd=hd.length+1:=by rw[Z1,if_pos h.1.1]
 exact⟨h.1.1,by omega,by omega,by omega,h.1.2⟩
def Ic(h:Heap)(hd:Zo)(o:Zz h.W)(hm:0<=hd.map/\hd.map<=4294967295):GP 35 [h.av,hd.av] La (.tu [(Zd h hd).1.av,uU (Zd h hd).2.1,nI (Zd h hd).2.2]) []:=by
 by_cases d:Z9 h=Z;cases ha:BB h.C hd with
 |false =>
  have a:Zd h hd=(ZH,0,1):=by rw[Zd,if_neg (by rw[ha];simp)]
  rw[a];exact gF [] func35 []<|Fc 13 (@CS h)<|FcG 19 (!!Z9 h) (λc=>by(try simp only[bs]at c);exact@D4 h.C hd aa)<|Fts 21 (!Z9 h||!BB h.C hd)<|Fnl (Fnl Fz)
 |true =>
  obtain⟨a1,p,q,a4,a5⟩:=TT ha;have j:=ZaG d ⟨p,q⟩;have l:=Zab (n:=Z1 hd) (k:=need h.C (Z1 hd)) d;have w1:Zz (Bo h (Z1 hd)).1.W:=by
   cases e:(Bo h (Z1 hd)).2.2 with|true=>rw[(j.2.2.1 e).1];exact o|false=>rw[j.2.2.2 e];exact Ai
  have w2:Zz (BL h (Z1 hd) (need h.C (Z1 hd))).1.W:=by
   cases e:(BL h (Z1 hd) (need h.C (Z1 hd))).2.2 with|true=>rw[(l.2.2.1 e).1];exact o|false=>rw[l.2.2.2 e];exact Ai
  by_cases m:0<need h.C (Z1 hd);have a:El h hd=BL h (Z1 hd) (need h.C (Z1 hd)):=by rw[El,if_pos m]
  have g {h_ c_ p_} (f:Fq h_ c_ p_):=Fc 13 (@CS h)<|FcG 19 (!!Z9 h) (λc=>by(try simp only[bs]at c);exact@D4 h.C hd aa)<|Ffs 21 (!Z9 h||!BB h.C hd)<|Fc 24 (@Ix hd aa)<|Fc 28 (@RX h.C (Z1 hd))<|Fc 32 (@OY h (Z1 hd) aa oq)<|Ftb 37 (L (0<need h.C (Z1 hd)))<|Fc 42 (@Z8A h (Z1 hd) (need h.C (Z1 hd)) aa (by rfl) aa) f;rcases bb (!(BL h (Z1 hd) (need h.C (Z1 hd))).2.2)with hc0|hc0<;>have b:=hc0<;>simp only[bs]at b;exact gF [] func35 (fO 5) (g (Ft 47 hc0<|Fnl (Fnl (Fa (by simp[Zd,a,ZH, *]:0=(Zd h hd).1.C.pw)<|Fa (by simp[Zd,a,ZH, *]:0=(Zd h hd).1.C.pg)<|Fa (by simp[Zd,a,ZH, *]:[]=M wD (Zd h hd).1.W)<|Fa (by simp[Zd,a,ZH, *]:[]=M Z0.dv (Zd h hd).1.P)<|Fa (by simp[Zd,a,ZH, *]:0=(Zd h hd).1.S)<|Fa (by simp[Zd,a,ZH, *]:0=(Zd h hd).1.B)<|Fa (by simp[Zd,a,ZH, *]:0=(Zd h hd).2.1)<|Fa (by simp[Zd,a,ZH, *]:3=(Zd h hd).2.2) Fz))));rw[show Zd h hd=((B8 (BL h (Z1 hd) (need h.C (Z1 hd))).1 (BL h (Z1 hd) (need h.C (Z1 hd))).2.1 hd).1,(BL h (Z1 hd) (need h.C (Z1 hd))).2.1,(0:Int))from by simp[Zd,a,ZH, *]];exact gF [] func35 [] (g (Ff 47 hc0<|Fc 53 (@Z5l ((BL h (Z1 hd) (need h.C (Z1 hd))).1) ((BL h (Z1 hd) (need h.C (Z1 hd))).2.1) hd aa oq aa) Fz));have a:El h hd=Bo h (Z1 hd):=by rw[El,if_neg m]
  have i {h_ c_ p_} (f:Fq h_ c_ p_):=Fc 13 (@CS h)<|FcG 19 (!!Z9 h) (λc=>by(try simp only[bs]at c);exact@D4 h.C hd aa)<|Ffs 21 (!Z9 h||!BB h.C hd)<|Fc 24 (@Ix hd aa)<|Fc 28 (@RX h.C (Z1 hd))<|Fc 32 (@OY h (Z1 hd) aa oq)<|Ffb 37 (L (0<need h.C (Z1 hd))) f;rcases bb (!(Bo h (Z1 hd)).2.2)with hc0|hc0<;>have b:=hc0<;>simp only[bs]at b;exact gF [] func35 (fO 5) (i (Ft 47 hc0<|Fnl (Fnl (Fa (by simp[Zd,a,ZH, *]:0=(Zd h hd).1.C.pw)<|Fa (by simp[Zd,a,ZH, *]:0=(Zd h hd).1.C.pg)<|Fa (by simp[Zd,a,ZH, *]:[]=M wD (Zd h hd).1.W)<|Fa (by simp[Zd,a,ZH, *]:[]=M Z0.dv (Zd h hd).1.P)<|Fa (by simp[Zd,a,ZH, *]:0=(Zd h hd).1.S)<|Fa (by simp[Zd,a,ZH, *]:0=(Zd h hd).1.B)<|Fa (by simp[Zd,a,ZH, *]:0=(Zd h hd).2.1)<|Fa (by simp[Zd,a,ZH, *]:3=(Zd h hd).2.2) Fz))));rw[show Zd h hd=((B8 (Bo h (Z1 hd)).1 (Bo h (Z1 hd)).2.1 hd).1,(Bo h (Z1 hd)).2.1,(0:Int))from by simp[Zd,a,ZH, *]];exact gF [] func35 [] (i (Ff 47 hc0<|Fc 53 (@Z5l ((Bo h (Z1 hd)).1) ((Bo h (Z1 hd)).2.1) hd aa oq aa) Fz))
 have r:Z9 h=La:=by simpa using d
 have a:Zd h hd=(ZH,0,1):=by rw[Zd,if_neg (by rw[r];simp)]
 rw[a];exact gF [] func35 []<|Fc 13 (@CS h)<|FcG 19 (!!Z9 h) (λc=>by(try simp only[bs]at c);exact@D4 h.C hd aa)<|Fts 21 (!Z9 h||!BB h.C hd)<|Fnl (Fnl Fz)
def pg(h:Heap)(i:Int):Z0:=h.P.getD i.toNat X
def Bf(h:Heap)(i o:Int):Int:=(address h.C i o).1
def M0{h:Heap}(b:Zm h.C=Z)(i o:Int):0<=Bf h i o/\Bf h i o<=8192:=by have ha:=HM b;unfold Bf address;rw[if_pos b];split;rename_i a;have a:=HT.1 a;have:=Po b a.1 a.2.1 a.2.2.1 a.2.2.2;simp only;omega;simp
def Ep(h:Heap)(i:Int):Nat->Int->Option (List Int)|0,_=>Y []|f+1,o=>if o<(pg h i).U then(if(Zc h (Bf h i o)).2=0 then(if(pg h i).K=2 then Y [Bf h i o]else(Ep h i f (o+Z1 (Zc h (Bf h i o)).1)).map (Bf h i o :: ·))else O)else Y []
def AJ(h:Heap)(i o:Int)(acc:List Int):Tg:=⟨tm 70 [(1,nI i),(2,.pt 8002 0 0),(4,.d (.sl 0 [])),(5,nI 0),(6,.pt 32006 0 0),(7,.ow 48007),(8,nI o)],
 [(48007,.arr 44 1 (acc.map wD)),(32006,.box 79 [nI (pg h i).K,nI (pg h i).S,nI (pg h i).U,nI (pg h i).N]),(8002,.box 27 h.cells)],60⟩
def M3(acc:List Int):Tg:=⟨tm 70 [(7,.ow 48007)],[(48007,.arr 44 1 (acc.map wD))],60⟩
section
variable(h:Heap)(i o:Int)(acc:List Int)(b:Zz h.W)(a:Z9 h=Z)(hl:acc.length<=1048576)(c:0<=o/\o<=1000)
include b a hl c
theorem ZfL(h1:o<(pg h i).U)(f:(Zc h (Bf h i o)).2=0)(h3:(pg h i).K≠2):CP (Zn f166 0) (AJ h i o acc).st .nrm (AJ h i (o+Z1 (Zc h (Bf h i o)).1) (acc++[Bf h i o])).st:=by have j:=B7 a;have e:=M0 j.1 i o;have k:=Ip (Zc h (Bf h i o)).1;have g:=IE b (Bf h i o);unfold Bf at e k g f;let d:=address h.C i o;exact sF [(512061,48007)] []<|Fh 61 [.els (M wD (acc++[d.1]))]<|Ftb 41 (L (o<(pg h i).U))<|Fc 47 (@Z0K h.C i o)<|Fc 53 (@Nt h (d.1) aa oq)<|Ffb 57 ((Zc h d.1).2 != 0)<|Fs 60 (M wD [d.1])<|Fa (by(simp[Bf, *];omega):(M wD acc).length+(M wD [d.1]).length<=2^30)<|Fa (by simp[Bf,LL,LK,Lu,LJ,wD,iD]:M wD acc++M wD [d.1]=M wD (acc++[d.1]))<|Ffb 64 ((pg h i).K==2)<|Fc 67 (@Ix ((Zc h d.1).1) aa)<|Fi 68 (o+Z1 (Zc h d.1).1) Fz
theorem Zh3(h1:o<(pg h i).U)(f:(Zc h (Bf h i o)).2=0)(h3:(pg h i).K=2):CP (Zn f166 0) (AJ h i o acc).st (.ext 0) (M3 (acc++[Bf h i o])).st:=by have j:=B7 a;have e:=M0 j.1 i o;have g:=IE b (Bf h i o);unfold Bf at e g f;let d:=address h.C i o;exact sF [(512061,48007)] []<|Fh 61 [.els (M wD (acc++[d.1]))]<|Ftb 41 (L (o<(pg h i).U))<|Fc 47 (@Z0K h.C i o)<|Fc 53 (@Nt h (d.1) aa oq)<|Ffb 57 ((Zc h d.1).2 != 0)<|Fs 60 (M wD [d.1])<|Fa (by(simp[Bf, *];omega):(M wD acc).length+(M wD [d.1]).length<=2^30)<|Fa (by simp[Bf,LL,LK,Lu,LJ,wD,iD]:M wD acc++M wD [d.1]=M wD (acc++[d.1]))<|Ftb 64 ((pg h i).K==2) Fz
theorem ZhM(h1:o<(pg h i).U)(e:¬ (Zc h (Bf h i o)).2=0):CP (Zn f166 0) (AJ h i o acc).st .ret (Tg.st ⟨tm 70 [(4,.d (.sl 0 [])),(5,nI 19)],[],60⟩):=by have f:=B7 a;have d:=M0 f.1 i o;unfold Bf at d e;exact sF [] []<|Ftb 41 (L (o<(pg h i).U))<|Fc 47 (@Z0K h.C i o)<|Fc 53 (@Nt h ((address h.C i o).1) aa oq)<|Ftb 57 ((Zc h (address h.C i o).1).2 != 0) Fz
omit b a hl c in
theorem Z4b(h1:(pg h i).U<=o):CP (Zn f166 0) (AJ h i o acc).st (.ext 0) (M3 acc).st:=by exact sF [] []<|Ffb 41 (L (o<(pg h i).U)) Fz
end
def Z2n{h a}(e:(Zc h a).2=0):1<=Z1 (Zc h a).1:=by have:=MN e;rw[Z1,if_pos this.2.2.2.2.1];omega
def Z6A(h:Heap) i(j:Zz h.W)(g:Z9 h=Z)(hu:(pg h i).U<=256):∀(f:Nat) (o:Int) (acc:List Int),(pg h i).U-o<=f->0<=o->o<=1000->(acc.length:Int)+f<=1000 -> (∀l,Ep h i f o=Y l->Gh prog f166 0 (AJ h i o acc).st (.ext 0) (M3 (acc++l)).st) /\ (Ep h i f o=O->Gh prog f166 0 (AJ h i o acc).st .ret (Tg.st ⟨tm 70 [(4,.d (.sl 0 [])),(5,nI 19)],[],60⟩)):=by
 intro f;induction f with
 |zero =>intro o acc n d p q;refine⟨λl a=>?_,λa=>by cases a⟩;simp only[Ep,Option.some.injEq]at a;subst a;rw[Lr];exact .endx (Z4b h i o acc oq)
 |succ f u =>
  intro o acc n d p q;unfold Ep;by_cases c:o<(pg h i).U;rw[if_pos c];by_cases b:(Zc h (Bf h i o)).2=0;rw[if_pos b];by_cases e:(pg h i).K=2;rw[if_pos e];refine⟨λl a=>?_,λa=>by cases a⟩;cases a;exact .endx (Zh3 h i o acc j g oq ⟨d,by omega⟩ c b e);rw[if_neg e];have hs:=Z2n b;have hb:=Ip (Zc h (Bf h i o)).1;have k:=ZfL h i o acc j g oq ⟨d,by omega⟩ c b e;obtain⟨s,t⟩:=u (o+Z1 (Zc h (Bf h i o)).1) (acc++[Bf h i o]) oq oq oq qo;refine⟨λl a=>?_,λa=>?_⟩
  .rw[Ln]at a;obtain⟨m,r,rfl⟩:=a;have:=s m r;rw[LA]at this;exact .next k this
  .rw[Option.map_eq_none_iff]at a;exact .next k (t a)
  rw[if_neg b];exact⟨λl a=>(by cases a),λ_=>.endr (ZhM h i o acc j g oq ⟨d,by omega⟩ c b)⟩;rw[if_neg c];refine⟨λl a=>?_,λa=>by cases a⟩;cases a;rw[Lr];exact .endx (Z4b h i o acc oq)
def ZlD(h:Heap) i(l:List Int)(c:Zz h.W)(a:Z9 h=Z)(b:(pg h i).U<=256)(hl:Ep h i 256 0=Y l):CP (Zl f166 0) (Tg.st ⟨tm 70 [(1,nI i),(2,.pt 8002 0 0),(4,.d (.sl 0 [])),(5,nI 0),(6,.pt 32006 0 0),(7,.ow 48007),(8,nI 0)], [(48007,.arr 44 1 []),(32006,.box 79 [nI (h.P.getD i.toNat X).K,nI (h.P.getD i.toNat X).S,nI (h.P.getD i.toNat X).U,nI (h.P.getD i.toNat X).N]),(8002,.box 27 h.cells)],60⟩) .nrm (M3 l).st:=
 ((Z6A h i c a b 256 0 [] oq oq oq pq).1 l hl).ext kr
def Zhn(h:Heap) i(c:Zz h.W)(a:Z9 h=Z)(b:(pg h i).U<=256)(hl:Ep h i 256 0=O):CP (Zl f166 0) (Tg.st ⟨tm 70 [(1,nI i),(2,.pt 8002 0 0),(4,.d (.sl 0 [])),(5,nI 0),(6,.pt 32006 0 0),(7,.ow 48007),(8,nI 0)], [(48007,.arr 44 1 []),(32006,.box 79 [nI (h.P.getD i.toNat X).K,nI (h.P.getD i.toNat X).S,nI (h.P.getD i.toNat X).U,nI (h.P.getD i.toNat X).N]),(8002,.box 27 h.cells)],60⟩) .ret (Tg.st ⟨tm 70 [(4,.d (.sl 0 [])),(5,nI 19)],[],60⟩):=
 ((Z6A h i c a b 256 0 [] oq oq oq pq).2 hl).ret kr
def Zh(h:Heap)(i:Int):List Int×Int:=
 if Z9 h=Z then(if 0<=i/\i<h.P.length then(if(pg h i).K=0\/(pg h i).K=3 then([],0)else(match Ep h i 256 0 with|Y l=>(l,0)|O=>([],19)))else([],2))else([],1)
def SB(h:Heap) i(hw:Zz h.W):GP 166 [h.av,nI i] La (.tu [Z2 (Zh h i).1,nI (Zh h i).2]) []:=by
 cases hp:Z9 h with
 |false =>
  have b:Zh h i=([],1):=by rw[Zh,if_neg (by rw[hp];simp)]
  rw[b];exact gF [] func166 []<|Fc 14 (@CS h)<|Ftb 15 (!Z9 h)<|Fnl Fz
 |true =>
  have po:=B7 hp;by_cases e:0<=i/\i<h.P.length;have m:=Ew hp (j:=i.toNat) oq;have hu:(pg h i).U<=256:=m.2.2.2.2.2.2.2.1;cases hwk:Ep h i 256 0 with
  |none =>
   have b:Zh h i=if(h.P.getD i.toNat X).K=0\/(h.P.getD i.toNat X).K=3 then([],0)else([],19):=by rw[Zh,if_pos hp,if_pos e,hwk];rfl
   have g {h_ c_ p_} (f:Fq h_ c_ p_):=Fc 14 (@CS h)<|Ffb 15 (!Z9 h)<|FlG 22 (!decide (i<0)) Z0.dv h.P<|Ffb 24 (L (i<0)||L ((h.P.length:Int)<=i))<|Fe 28 Z0.dv h.P i f;rcases bb ((h.P.getD i.toNat X).K==0||(h.P.getD i.toNat X).K==3)with hc0|hc0<;>have a:=hc0<;>simp only[bs]at a;exact gF [] func166 (fO 8) (g (Ft 37 hc0<|Fnl (Fa (by rw[b,if_pos oq];rfl:[]=M wD (Zh h i).1)<|Fa (by rw[b,if_pos oq]:0=(Zh h i).2) Fz)));obtain⟨c,d⟩:=a;exact gF [] func166 (fO 18)<|Fh 7 [.own] (g (Ff 37 hc0<|Fu (@Zhn h i aa aa aa aa)<|Fnl (Fa (by rw[b,if_neg oq];rfl:[]=M wD (Zh h i).1)<|Fa (by rw[b,if_neg oq]:19=(Zh h i).2) Fz)))
  |some l =>
   have b:Zh h i=if(h.P.getD i.toNat X).K=0\/(h.P.getD i.toNat X).K=3 then([],0)else(l,0):=by rw[Zh,if_pos hp,if_pos e,hwk];rfl
   have k {h_ c_ p_} (f:Fq h_ c_ p_):=Fc 14 (@CS h)<|Ffb 15 (!Z9 h)<|FlG 22 (!decide (i<0)) Z0.dv h.P<|Ffb 24 (L (i<0)||L ((h.P.length:Int)<=i))<|Fe 28 Z0.dv h.P i f;rcases bb ((h.P.getD i.toNat X).K==0||(h.P.getD i.toNat X).K==3)with hc0|hc0<;>have a:=hc0<;>simp only[bs]at a;exact gF [] func166 (fO 8) (k (Ft 37 hc0<|Fnl (Fa (by rw[b,if_pos oq];rfl:[]=M wD (Zh h i).1)<|Fa (by rw[b,if_pos oq]:0=(Zh h i).2) Fz)));obtain⟨c,d⟩:=a;exact gF [] func166 (fO 18)<|Fh 7 [.own] (k (Ff 37 hc0<|Fu (@ZlD h i l aa aa aa aa)<|Fa (by refine congrArg _ ?_;rw[b,if_neg oq]:M wD l=M wD (Zh h i).1)<|Fa (by rw[b,if_neg oq]:0=(Zh h i).2) Fz))
  have b:Zh h i=([],2):=by rw[Zh,if_pos hp,if_neg e]
  rw[b];exact gF [] func166 []<|Fc 14 (@CS h)<|Ffb 15 (!Z9 h)<|FlG 22 (!decide (i<0)) Z0.dv h.P<|Ftb 24 (L (i<0)||L ((h.P.length:Int)<=i))<|Fnl Fz
def M9(l:List Int)(v:Int)(i:Nat):Tg:=⟨tm 18 [(0,Z2 l),(1,uU v),(4,bL La),(5,nI i)],[],60⟩
def Z9K(l:List Int)(v:Int)(i:Nat)(hl:l.length<=1048576)(hi:i<l.length)(hv:¬ l.getD i X=v):CP (Zn f44 0) (M9 l v i).st .nrm (M9 l v (i+1)).st:=by exact sF [] []<|FN 8 9 14 wD l i<|Ffb 17 (l.getD i X==v)<|Fx 11 i Fz
def Zbs(l:List Int)(v:Int)(i:Nat)(hl:l.length<=1048576)(hi:i<l.length)(hv:l.getD i X=v):CP (Zn f44 0) (M9 l v i).st .ret (Tg.st ⟨tm 18 [(4,bL Z)],[],60⟩):=by exact sF [] []<|FN 8 9 14 wD l i<|Ftb 17 (l.getD i X==v) Fz
def hasEnd l v:CP (Zn f44 0) (M9 l v l.length).st (.ext 0) (Tg.st ⟨tm 18 [],[],60⟩):=by exact sF [] []<|FO 8 9 wD l Fz
def C1{l:List Int}{v:Int}:v∈l↔∃i,i<l.length/\l.getD i X=v:=by rw[List.mem_iff_getElem];constructor;rintro⟨i,h,e⟩;exact⟨i,h,by simp[Ls,h,e]⟩;rintro⟨i,h,e⟩;exact⟨i,h,by simpa[Ls,h]using e⟩
def ZhP(l:List Int)(v:Int)(hl:l.length<=1048576)(h:v∉l)  := Bs (S:=λi=>(M9 l v i).st) l.length (by kernel_rfl) (λi a=>Z9K l v i hl a λe=>h (C1.2 ⟨i,a,e⟩)) (hasEnd l v)
def ZgQ(l:List Int)(v:Int)(hl:l.length<=1048576)(h:v∈l):CP (Zl f44 0) (Tg.st ⟨tm 18 [(0,Z2 l),(1,uU v),(4,bL La),(5,nI 0)],[],60⟩) .ret (Tg.st ⟨tm 18 [(4,bL Z)],[],60⟩):=by obtain⟨i,a,b⟩:=Z2y (C1.1 h);exact EF (S:=λi=>(M9 l v i).st) i kr (λj hj=>Z9K l v j hl oq λe=>by have:=b j ⟨by omega,e⟩;omega) (Zbs l v i hl a.1 a.2)
theorem Ei(l:List Int) v(hl:l.length<=1048576):GP 44 [Z2 l,uU v] Z (bL (L (v∈l))) []:=by by_cases h:v∈l;rw[decide_eq_true h];exact gF [] func44 []<|Fu (@ZgQ l v aa aa) Fz;rw[decide_eq_false h];exact gF [] func44 []<|Fu (@ZhP l v aa aa) Fz
def Za2{h i}:∀{f:Nat} {o:Int} {l:List Int},Ep h i f o=Y l->l.length<=f
 |0,o,l,e=>by simp[Ep]at e;subst e;simp
 |f+1,o,l,e=>by
  unfold Ep at e;split at e
  .split at e
   .split at e
    .cases e;simp
    .rw[Ln]at e;obtain⟨m,a,rfl⟩:=e;have:=Za2 a;simp;omega
   .cases e
  .cases e;simp
def Ra(h:Heap) i:(Zh h i).1.length<=256:=by
 unfold Zh;repeat' split
 all_goals first|(simp;done)|(rename_i e;exact Za2 e)
def Cn(h:Heap):Nat->Nat->List Int×Int|0,_=>([],0)|f+1,i=>if(Zh h i).2=0 then(if(Cn h f (i+1)).2=0 then((Zh h i).1++(Cn h f (i+1)).1,0)else([],(Cn h f (i+1)).2))else([],(Zh h i).2)
def CH(h:Heap):List Int×Int:=if Z9 h=Z then Cn h h.P.length 0 else([],1)
def DT(h:Heap)(i:Nat)(acc:List Int):Tg:=⟨tm 31 [(1,.pt 8001 0 0),(2,.d (.sl 0 [])),(3,nI 0),(4,.ow 24004),(5,nI i)],[(24004,.arr 44 1 (acc.map wD)),(8001,.box 27 h.cells)],60⟩
section
variable(h:Heap)(i:Nat)(acc:List Int)(b:Zz h.W)(hl:h.P.length<=1048576)(a:acc.length<=1048576)
include b hl a
theorem Zc0(hi:i<h.P.length)(e:(Zh h i).2=0):CP (Zn f146 0) (DT h i acc).st .nrm (DT h (i+1) (acc++(Zh h i).1)).st:=by have hn:=Ra h i;exact sF [(504029,24004)] []<|Fh 29 [.els (M wD (acc++(Zh h (i:Int)).1))]<|FM 14 15 Z0.dv h.P i<|Fc 21 (@SB h ((i:Int)) aa)<|Ffb 25 ((Zh h (i:Int)).2 != 0)<|Fa (by(simp[*];omega):(M wD acc).length+(M wD (Zh h (i:Int)).1).length<=2^30)<|Fa (ms:M wD acc++M wD (Zh h (i:Int)).1=M wD (acc++(Zh h (i:Int)).1))<|Fx 17 i Fz
theorem ZhR(hi:i<h.P.length)(e:¬ (Zh h i).2=0):CP (Zn f146 0) (DT h i acc).st .ret (Tg.st ⟨tm 31 [(2,.d (.sl 0 [])),(3,nI (Zh h i).2)],[],60⟩):=by exact sF [] []<|FM 14 15 Z0.dv h.P i<|Fc 21 (@SB h ((i:Int)) aa)<|Ftb 25 ((Zh h (i:Int)).2 != 0) Fz
omit b hl a in
theorem ZcT:CP (Zn f146 0) (DT h h.P.length acc).st (.ext 0) (Tg.st ⟨tm 31 [(4,.ow 24004)],[(24004,.arr 44 1 (acc.map wD))],60⟩):=by exact sF [] []<|FO 14 15 Z0.dv h.P Fz
end
def Z9m(h:Heap)(c:Zz h.W)(hl:h.P.length<=1048576):∀(f i:Nat) (acc:List Int),i+f=h.P.length->acc.length+256*f<=1048576 -> ((Cn h f i).2=0->Gh prog f146 0 (DT h i acc).st (.ext 0) (Tg.st ⟨tm 31 [(4,.ow 24004)],[(24004,.arr 44 1 ((acc++(Cn h f i).1).map wD))],60⟩)) /\ (¬ (Cn h f i).2=0->Gh prog f146 0 (DT h i acc).st .ret (Tg.st ⟨tm 31 [(2,.d (.sl 0 [])),(3,nI (Cn h f i).2)],[],60⟩)):=by
 intro f;induction f with
 |zero =>
  intro i acc g _;have:i=h.P.length:=by omega
  subst this;refine⟨λ_=>?_,λe=>absurd rfl e⟩;rw[Cn,Lr];exact .endx (ZcT h acc)
 |succ f l =>
  intro i acc g hb;have hn:=Ra h i;unfold Cn;by_cases e:(Zh h i).2=0;rw[if_pos e];have b:=Zc0 h i acc c hl oq oq e;obtain⟨j,k⟩:=l (i+1) (acc++(Zh h i).1) oq qo;by_cases a:(Cn h f (i+1)).2=0
  .rw[if_pos a];refine⟨λ_=>?_,λe=>absurd rfl e⟩;have:=j a;rw[LA]at this;exact .next b this
  rw[if_neg a];exact⟨λe=>absurd e a,λ_=>.next b (k a)⟩;rw[if_neg e];exact⟨λd=>absurd d e,λ_=>.endr (ZhR h i acc c hl oq oq e)⟩
def ZkT(h:Heap)(a:Zz h.W)(hl:h.P.length<=64)(e:(Cn h h.P.length 0).2=0):CP (Zl f146 0) (Tg.st ⟨tm 31 [(1,.pt 8001 0 0),(2,.d (.sl 0 [])),(3,nI 0),(4,.ow 24004),(5,nI 0)],[(24004,.arr 44 1 []),(8001,.box 27 h.cells)],60⟩) .nrm (Tg.st ⟨tm 31 [(4,.ow 24004)],[(24004,.arr 44 1 ((Cn h h.P.length 0).1.map wD))],60⟩):=
 ((Z9m h a oq h.P.length 0 [] oq qo).1 e).ext kr
def ZhV(h:Heap)(a:Zz h.W)(hl:h.P.length<=64)(e:¬ (Cn h h.P.length 0).2=0):CP (Zl f146 0) (Tg.st ⟨tm 31 [(1,.pt 8001 0 0),(2,.d (.sl 0 [])),(3,nI 0),(4,.ow 24004),(5,nI 0)],[(24004,.arr 44 1 []),(8001,.box 27 h.cells)],60⟩) .ret (Tg.st ⟨tm 31 [(2,.d (.sl 0 [])),(3,nI (Cn h h.P.length 0).2)],[],60⟩):=
 ((Z9m h a oq h.P.length 0 [] oq qo).2 e).ret kr
def ZlS(h:Heap):∀(f i:Nat),¬ (Cn h f i).2=0->(Cn h f i).1=[]
 |0,i,e=>absurd rfl e
 |f+1,i,e=>by
  unfold Cn at e⊢;split at e
  .rename_i a;rw[if_pos a];split at e
   .exact absurd rfl e
   .rename_i b;rw[if_neg b]
  .rename_i a;rw[if_neg a]
def Zkh(h:Heap)(hw:Zz h.W):GP 146 [h.av] La (.tu [Z2 (CH h).1,nI (CH h).2]) []:=by
 cases hp:Z9 h with
 |false =>
  have a:CH h=([],1):=by rw[CH,if_neg (by rw[hp];simp)]
  rw[a];exact gF [] func146 []<|Fc 9 (@CS h)<|Ftb 10 (!Z9 h)<|Fnl Fz
 |true =>
  have po:=B7 hp;have a:CH h=Cn h h.P.length 0:=by rw[CH,if_pos hp]
  by_cases e:(Cn h h.P.length 0).2=0;rw[show CH h=((Cn h h.P.length (0:Nat)).1,(0:Int))from by grind[]];exact gF [] func146 []<|Fh 4 [.own]<|Fc 9 (@CS h)<|Ffb 10 (!Z9 h)<|Fu (@ZkT h aa oq aa) Fz;have b:=ZlS h _ _ e;exact gF [] func146 (fO 7)<|Fh 4 [.own]<|Fc 9 (@CS h)<|Ffb 10 (!Z9 h)<|Fu (@ZhV h aa oq aa)<|Fnl (Fa (by rw[a,b];rfl:[]=M wD (CH h).1)<|Fa (by rw[a]:(Cn h h.P.length 0).2=(CH h).2) Fz)
def Z7X{h:Heap}(c:Zm h.C=Z){i}:∀{f:Nat} {o:Int} {l:List Int},Ep h i f o=Y l->∀x∈l,0<=x/\x<=8192
 |0,o,l,e=>by simp[Ep]at e;subst e;simp
 |f+1,o,l,e=>by
  have b:=M0 c i o;unfold Ep at e;split at e
  .split at e
   .split at e
    .cases e;intro x a;simp at a;subst a;exact b
    .rw[Ln]at e;obtain⟨m,d,rfl⟩:=e;intro x a;rcases List.mem_cons.1 a with rfl|a
     .exact b
     .exact Z7X c d x a
   .cases e
  .cases e;simp
def AD{h:Heap}(a:Z9 h=Z) i:∀x∈(Zh h i).1,0<=x/\x<=8192:=by
 have b:=(B7 a).1;unfold Zh;repeat' split
 all_goals first|(simp;done)|(rename_i e;exact Z7X b e)
def Za0{h:Heap}(b:Z9 h=Z):∀(f i:Nat),∀x∈(Cn h f i).1,0<=x/\x<=8192
 |0,i=>by simp[Cn]
 |f+1,i=>by
  unfold Cn;split
  .split
   .intro x a;rcases List.mem_append.1 a with a|a
    .exact AD b i x a
    .exact Za0 b f (i+1) x a
   .simp
  .simp
def Z6K(h:Heap):∀(f i:Nat),(Cn h f i).1.length<=256*f
 |0,i=>by simp[Cn]
 |f+1,i=>by
  have h1:=Ra h i;have h2:=Z6K h f (i+1);unfold Cn;split
  .split
   .simp;omega
   .simp
  .simp
def Z7N(h:Heap):∀x∈(CH h).1,0<=x/\x<=8192:=by unfold CH;split;exact Za0 aa _ _;simp
def Z9o(h:Heap):(CH h).1.length<=16384:=by unfold CH;split;rename_i a;have:=Z6K h h.P.length 0;have:=B7 a;omega;simp
def CY(h:Heap)(a:Int):Bool:=L ((Zc h a).1.K≠0)
def Zt(h:Heap):List Int×Int:=((CH h).1.filter (CY h),(CH h).2)
def Z3U(h:Heap):∀x∈(Zt h).1,0<=x/\x<=8192:=λx a=>Z7N h x (List.mem_filter.1 a).1
def AI(h:Heap):(Zt h).1.length<=16384:=LQ (LH _ _) (Z9o h)
def Ta{l:List Int}{i:Nat}(a:i<l.length):l.take (i+1)=l.take i++[l.getD i X]:=by rw[List.take_succ];simp[Ls,a]
def OF(h:Heap)(l:List Int)(a:Int)(i:Nat):Tg:=⟨tm 42 [(1,.pt 8001 0 0),(4,Z2 l),(5,nI a),(6,.ow 24006),(7,nI i)],[(24006,.arr 44 1 (((l.take i).filter (CY h)).map wD)),(8001,.box 27 h.cells)],60⟩
def ZbL(h:Heap)(l:List Int) b(i:Nat)(hw:Zz h.W)(hl:l.length<=1048576)(j:∀x∈l,0<=x/\x<=8192)(c:i<l.length):CP (Zn f89 0) (OF h l b i).st .nrm (OF h l b (i+1)).st:=by
 have hx:=j (l.getD i X) (C1.2 ⟨i,c,rfl⟩);have g:((l.take i).filter (CY h)).length<=l.length:=LQ (LH _ _) qo;have f:=Ta c;by_cases d:(Zc h (l.getD i X)).1.K=0;have e:(l.take (i+1)).filter (CY h)=(l.take i).filter (CY h):=by(have a:CY h (l.getD i X)=La:=decide_eq_false (by simpa using d);rw[f,LC,LD,a,LF];simp)
 exact sF [] (fO 5)<|FN 17 18 25 wD l i<|Fc 27 (@Nt h (l.getD i X) aa oq)<|Ffb 32 ((Zc h (l.getD i X)).1.K != 0)<|Fx 20 i<|Fr (44:Int)<|Fa (by refine congrArg _ ?_;rw[e]:M wD (Lc (CY h) (Ld i l))=M wD (Lc (CY h) (Ld (i+1) l))) Fz;have e:(l.take (i+1)).filter (CY h)=(l.take i).filter (CY h)++[l.getD i X]:=by(have a:CY h (l.getD i X)=Z:=decide_eq_true d;rw[f,LC,LD,a,LF];simp)
 exact sF [(504039,24006)] (fO 5)<|Fh 39 [.els (M wD (Lc (CY h) (Ld i l)++[l.getD i X]))]<|FN 17 18 25 wD l i<|Fc 27 (@Nt h (l.getD i X) aa oq)<|Ftb 32 ((Zc h (l.getD i X)).1.K != 0)<|Fek 36 wD l (↑i) i<|Fs 38 (M wD [l.getD i X])<|Fa (by(simp[*];omega):(M wD (Lc (CY h) (Ld i l))).length+(M wD [l.getD i X]).length<=2^30)<|Fa (ms:M wD (Lc (CY h) (Ld i l))++M wD [l.getD i X]=M wD (Lc (CY h) (Ld i l)++[l.getD i X]))<|Fx 20 i<|Fr (44:Int)<|Fa (by refine congrArg _ ?_;rw[e]:M wD (Lc (CY h) (Ld i l)++[l.getD i X])=M wD (Lc (CY h) (Ld (i+1) l))) Fz
def ZgJ(h:Heap) l a:CP (Zn f89 0) (OF h l a l.length).st (.ext 0) (Tg.st ⟨tm 42 [(5,nI a),(6,.ow 24006)],[(24006,.arr 44 1 ((l.filter (CY h)).map wD))],60⟩):=by have e:l.take l.length=l:=LM;exact sF [] (fO 2)<|FO 17 18 wD l<|Fr (44:Int)<|Fa (by refine congrArg _ ?_;rw[e]:M wD (Lc (CY h) (Ld l.length l))=M wD (Lc (CY h) l)) Fz
def ZfR(h:Heap)(l:List Int) a(d:Zz h.W)(hl:l.length<=1048576)(c:∀x∈l,0<=x/\x<=8192):CP (Zl f89 0) (Tg.st ⟨tm 42 [(1,.pt 8001 0 0),(4,Z2 l),(5,nI a),(6,.ow 24006),(7,nI 0)],[(24006,.arr 44 1 []),(8001,.box 27 h.cells)],60⟩) .nrm (Tg.st ⟨tm 42 [(5,nI a),(6,.ow 24006)],[(24006,.arr 44 1 ((l.filter (CY h)).map wD))],60⟩):=
 Bs (S:=λi=>(OF h l a i).st) l.length kr (λi b=>ZbL h l a i d hl c b) (ZgJ h l a)
def Mu(h:Heap)(hw:Zz h.W):GP 89 [h.av] La (.tu [Z2 (Zt h).1,nI (Zt h).2]) []:=by have hl:=Z9o h;have hr:=Z7N h;exact gF [] func89 []<|Fh 6 [.own]<|Fc 12 (@Zkh h aa)<|Fu (@ZfR h ((CH h).1) ((CH h).2) aa oq aa) Fz
def Gz(h:Heap)(p o:Int):Int:=(Z5 h.W (address h.C p o).1).1
def Zg9{c:ZU}(b:Zm c=Z) p o:0<=(address c p o).1/\(address c p o).1<=8192:=by have ha:=HM b;unfold address;rw[if_pos b];split;rename_i a;have a:=HT.1 a;have:=Po b a.1 a.2.1 a.2.2.1 a.2.2.2;simp only;omega;simp
def ZjD(h:Heap) p o(a:Z9 h=Z):GP 232 [h.av,nI p,nI o] Z (uU (Gz h p o)) []:=by have b:=B7 a;have ar:=Zg9 b.1 p o;exact gF [] func232 []<|Fc 16 (@Z0K h.C p o)<|Fc 23 (@HV h.W ((address h.C p o).1) oq oq) Fz
def Z3X(h:Heap) p o(hp:Z9 h=Z):GP 217 [h.av,nI p,nI o] Z (uU (Gz h p o)) []:=by exact gF [] func217 []<|Fc 10 (@ZjD h p o aa) Fz
def ZlR(h:Heap)(p o:Int)(b:Z9 h=Z)(a:0<=p/\p<h.C.pg)(h1:0<=o/\o<=64):GP 218 [h.av,nI p,nI o] Z (uU (4096+p*h.C.pw+o)) []:=by have c:=B7 b;have ap:=Il c.1 a.1 a.2;exact gF [] func218 []<|Fi 11 (p*h.C.pw)<|Fi 12 (4096+p*h.C.pw)<|Fi 14 (4096+p*h.C.pw+o)<|Fv 15 (4096+p*h.C.pw+o) Fz
def B4(l:List Z0):Nat->Nat|0=>0|i+1=>if(l.getD (i+1) X).K=3 then B4 l i else i+1
def Z9a{h:Heap}(a:Z9 h=Z):(h.P.getD 0 X).K≠3:=by have d:=Hl.1 a;have po:=B7 a;have b:=d.2.2.2.2.2;rw[Z1E oq oq,Lf]at b;have c:=of_decide_eq_true b.1;unfold Gi at c;omega
def Aa(h:Heap)(i:Nat):Tg:=⟨tm 15 [(1,nI i),(2,.pt 8002 0 0)],[(8002,.box 27 h.cells)],60⟩
def ZdP(h:Heap)(i:Nat)(hi:i+1<h.P.length)(hl:h.P.length<=1048576)(hk:(h.P.getD (i+1) X).K=3):CP (Zn f215 0) (Aa h (i+1)).st .nrm (Aa h i).st:=by
 have ei:((i+1:Nat):Int)-1=(i:Int):=by omega
 exact sF [] []<|Fek 8 Z0.dv h.P (↑(i+1):Int) (i+1)<|Ftb 11 ((h.P.getD (i+1) X).K==3)<|Fg 13 (by rw[E6 oq oq];omega:IntKind.i64.wrap ((↑(i+1):Int)-1)=(i:Int)) Fz
def Z6j(h:Heap)(i:Nat)(hi:i<h.P.length)(hl:h.P.length<=1048576)(hk:¬ (h.P.getD i X).K=3):CP (Zn f215 0) (Aa h i).st (.ext 0) (Tg.st ⟨tm 15 [(1,nI i)],[],60⟩):=by exact sF [] []<|Fek 8 Z0.dv h.P (↑i) i<|Ffb 11 ((h.P.getD i X).K==3) Fz
def Z5h(h:Heap)(b:Z9 h=Z)(hl:h.P.length<=1048576):∀i,i<h.P.length->Gh prog f215 0 (Aa h i).st (.ext 0) (Tg.st ⟨tm 15 [(1,nI (B4 h.P i))],[],60⟩)
 |0,hi=>.endx (Z6j h 0 hi hl (Z9a b))
 |i+1,hi=>by
  unfold B4;by_cases a:(h.P.getD (i+1) X).K=3
  .rw[if_pos a];exact .next (ZdP h i hi hl a) (Z5h h b hl i oq)
  .rw[if_neg a];exact .endx (Z6j h (i+1) hi hl a)
def Zgg(h:Heap)(i:Nat)(b:Z9 h=Z)(a:i<h.P.length)(hl:h.P.length<=1048576):CP (Zl f215 0) (Aa h i).st .nrm (Tg.st ⟨tm 15 [(1,nI (B4 h.P i))],[],60⟩):=
 (Z5h h b hl i a).ext kr
def Z78(h:Heap)(i:Nat)(a:Z9 h=Z)(hi:i<h.P.length):GP 215 [h.av,nI i] Z (nI (B4 h.P i)) []:=by have po:=B7 a;exact gF [] func215 []<|Fu (@Zgg h i aa aa oq) Fz
def Gv(h:Heap)(i:Int)(a:Int):Bool:=(L ((h.P.getD i.toNat X).K=1)&&L (Z6 h.C<Z1 (Zc h a).1))||(L ((h.P.getD i.toNat X).K=2)&&L ((Zc h a).1.K=0))
def Cs(h:Heap)(i:Int)(l:List Int):Int:=(l.find? (Gv h i)).getD 0
def M5(h:Heap)(i:Int)(l:List Int)(n:Nat):Tg:=⟨tm 61 [(1,nI i),(2,Z2 l),(3,.pt 8003 0 0),(6,uU 0),(7,nI n)],[(8003,.box 27 h.cells)],60⟩
section
variable(h:Heap)(i:Int)(l:List Int)(n:Nat)(b:Zz h.W)(hl:l.length<=1048576)(c:0<=i/\i<h.P.length)(d:h.P.length<=1048576)(a:∀x∈l,0<=x/\x<=8192)
include b hl c d a
theorem Z90(j:n<l.length)(g:Gv h i (l.getD n X)=La):CP (Zn f167 0) (M5 h i l n).st .nrm (M5 h i l (n+1)).st:=by have hx:=a (l.getD n X) (C1.2 ⟨n,j,rfl⟩);have hm:=IE b (l.getD n X);simp only[Gv,bs]at g;let e:=Zc h (l.getD n X);let f:=h.P.getD i.toNat X;exact sF [] []<|FN 13 14 21 wD l n<|Fc 23 (@Nt h (l.getD n X) aa oq)<|Fc 27 (@Ix (e.1) aa)<|Fc 30 (@HB h.C)<|Fe 35 Z0.dv h.P i<|FeGq 47 (!(f.K==1&&!decide (Z1 e.1<=Z6 h.C))) Z0.dv h.P i<|Ffb 56 (f.K==1&&!decide (Z1 e.1<=Z6 h.C)||f.K==2&&e.1.K==0)<|Fx 16 n Fz
theorem ZcQ(g:n<l.length)(e:Gv h i (l.getD n X)=Z):CP (Zn f167 0) (M5 h i l n).st .ret (Tg.st ⟨tm 61 [(6,uU (l.getD n X))],[],60⟩):=by have hx:=a (l.getD n X) (C1.2 ⟨n,g,rfl⟩);have hm:=IE b (l.getD n X);simp only[Gv,bs]at e;refine Zi [((13:Nat),[Hint.int (l.length:Int)]),((14:Nat),[Hint.br Z]),((21:Nat),[Hint.el (wD (l.getD n X))]),((23:Nat),[Hint.call Z (AV.tu [(Zc h (l.getD n X)).1.av,nI (Zc h (l.getD n X)).2]) []]),((27:Nat),[Hint.call Z (nI (Z1 (Zc h (l.getD n X)).1)) []]),((30:Nat),[Hint.call Z (nI (Z6 h.C)) []]),((35:Nat),[Hint.el (h.P.getD i.toNat X).dv]),((47:Nat),[Hint.el (h.P.getD i.toNat X).dv]),((56:Nat),[Hint.br Z]),((59:Nat),[Hint.el (wD (l.getD n X))])] [] [] [] (φ:=(↑(M wD l).length:Int)=(l.length:Int)/\L ((n:Int)<(l.length:Int))=Z/\Z=Z/\((0:Int)<=(n:Int)/\(M wD l)[(n:Int).toNat]?=Y (wD (l.getD n X)))/\GP 56 [h.av,uU (l.getD n X)] Z (AV.tu [(Zc h (l.getD n X)).1.av,nI (Zc h (l.getD n X)).2]) []/\GP 85 [(Zc h (l.getD n X)).1.av] Z (nI (Z1 (Zc h (l.getD n X)).1)) []/\GP 29 [h.C.av] Z (nI (Z6 h.C)) []/\((0:Int)<=i/\(M Z0.dv h.P)[i.toNat]?=Y (h.P.getD i.toNat X).dv)/\((!((h.P.getD i.toNat X).K==(1:Int)&&!decide (Z1 (Zc h (l.getD n X)).1<=Z6 h.C)))=Z->(0:Int)<=i/\(M Z0.dv h.P)[i.toNat]?=Y (h.P.getD i.toNat X).dv)/\((h.P.getD i.toNat X).K==(1:Int)&&!decide (Z1 (Zc h (l.getD n X)).1<=Z6 h.C)||(h.P.getD i.toNat X).K==(2:Int)&&(Zc h (l.getD n X)).1.K==(0:Int))=Z/\Z=Z/\(0:Int)<=(n:Int)/\(M wD l)[(n:Int).toNat]?=Y (wD (l.getD n X))) ?_ kr kr kr;exact⟨(by simp only[LI]),(by(simp only[bs];omega)),rfl,(by exact Zp oq oq oq),(@Nt (h) (l.getD n X) aa oq),(@Ix ((Zc h (l.getD n X)).1) aa),(@HB (h.C)),(by exact Zp oq oq oq),(by intro f;(try simp only[bs]at f);exact Zp oq oq oq),(by(simp only[bs];omega)),rfl,(by exact Zp oq oq oq)⟩
omit b hl c d a in
theorem ZfT:CP (Zn f167 0) (M5 h i l l.length).st (.ext 0) (Tg.st ⟨tm 61 [(6,uU 0)],[],60⟩):=by exact sF [] []<|FO 13 14 wD l Fz
end
def Z0D{l:List Int}{f:Int->Bool}(h:l.find? f=O):∀n,n<l.length->f (l.getD n X)=La:=by intro n a;have:=Ll.1 h (l.getD n X) (C1.2 ⟨n,a,rfl⟩);simpa using this
def A4{f:Int->Bool}:∀{l:List Int} {x:Int},l.find? f=Y x->∃n,n<l.length/\l.getD n X=x/\f x=Z/\∀m,m<n->f (l.getD m X)=La
 |[],x,h=>by simp at h
 |a::l,x,h=>by
  rw[List.find?_cons]at h;split at h
  .rename_i b;cases h;exact⟨0,by simp,rfl,b,λm g=>by omega⟩
  .rename_i b;obtain⟨n,h1,c,d,e⟩:=A4 h;refine⟨n+1,by simp;omega,by simpa using c,d,λm g=>?_⟩;cases m with|zero=>simpa using b|succ m=>simpa using e m oq
def Zl3(h:Heap)(i:Int)(l:List Int)(f:Zz h.W)(hl:l.length<=1048576)(c:0<=i/\i<h.P.length)(d:h.P.length<=1048576)(e:∀x∈l,0<=x/\x<=8192)(b:l.find? (Gv h i)=O) :CP (Zl f167 0) (Tg.st ⟨tm 61 [(1,nI i),(2,Z2 l),(3,.pt 8003 0 0),(6,uU 0),(7,nI 0)],[(8003,.box 27 h.cells)],60⟩) .nrm (Tg.st ⟨tm 61 [(6,uU 0)],[],60⟩):=
 Bs (S:=λn=>(M5 h i l n).st) l.length kr (λn a=>Z90 h i l n f hl c d e a (Z0D b n a)) (ZfT h i l)
def ZdH(h:Heap)(i:Int)(l:List Int)(x:Int)(d:Zz h.W)(hl:l.length<=1048576)(a:0<=i/\i<h.P.length)(b:h.P.length<=1048576)(c:∀x∈l,0<=x/\x<=8192)(k:l.find? (Gv h i)=Y x) :CP (Zl f167 0) (Tg.st ⟨tm 61 [(1,nI i),(2,Z2 l),(3,.pt 8003 0 0),(6,uU 0),(7,nI 0)],[(8003,.box 27 h.cells)],60⟩) .ret (Tg.st ⟨tm 61 [(6,uU x)],[],60⟩):=by obtain⟨n,e,f,g,j⟩:=A4 k;subst f;exact EF (S:=λn=>(M5 h i l n).st) n kr (λm o=>Z90 h i l m d hl a b c oq (j m o)) (ZcQ h i l n d hl a b c e g)
def Z3a(h:Heap)(i:Int)(l:List Int)(hw:Zz h.W)(hl:l.length<=1048576)(hp:h.P.length<=1048576)(hi:0<=i/\i<h.P.length)(hr:∀x∈l,0<=x/\x<=8192):GP 167 [h.av,nI i,Z2 l] Z (uU (Cs h i l)) []:=by
 cases hf:l.find? (Gv h i)with
 |none =>
  have a:Cs h i l=0:=by rw[Cs,hf];rfl
  exact gF [] func167 (fO 6)<|Fu (@Zl3 h i l aa aa aa aa aa aa)<|Fa (by rw[a]:0=Cs h i l) Fz
 |some x =>
  have a:Cs h i l=x:=by rw[Cs,hf];rfl
  exact gF [] func167 (fO 6)<|Fu (@ZdH h i l x aa aa aa aa aa aa)<|Fa (by rw[a]:x=Cs h i l) Fz
def C2(x:Bool):List DV:=[.sc (.bool x)]
def GJ(h:Heap)(a:Int):Int:=if(Zc h a).1.K=0 then 1 else Z1 (Zc h a).1
def Dq(h:Heap)(i:Int)(a:Int)(o:Nat):Bool:=L (a-4096-i*h.C.pw<=o)&&L ((o:Int)<a-4096-i*h.C.pw+GJ h a)
def Cx(h:Heap)(i:Int)(l:List Int):List Bool:=(Lb h.C.pw.toNat).map λo=>l.any λa=>Dq h i a o
def Et(h:Heap)(i:Int)(l:List Int)(a:Int)(w:Nat):List Bool:=(Lb h.C.pw.toNat).map λ(o:Nat)=>(l.any λa=>Dq h i a o)||(L (a-4096-i*h.C.pw<=o)&&L ((o:Int)<a-4096-i*h.C.pw+w))
def Z9Y(h:Heap) i l a w:(Et h i l a w).length=h.C.pw.toNat:=by simp[Et]
def Zlh(h:Heap) i l a:Et h i l a 0=Cx h i l:=by
 unfold Et Cx;refine Lt λo _=>?_;have:(L (a-4096-i*h.C.pw<=(o:Int))&&L ((o:Int)<a-4096-i*h.C.pw+(0:Nat)))=La:=by(rw[Bool.and_eq_false_iff];simp;omega)
 rw[this,Bool.or_false]
def Zls{h:Heap}{i:Int}{l}{a:Int}{w:Nat}(hh:¬ (0<=a-4096+w-i*h.C.pw/\a-4096+w-i*h.C.pw<h.C.pw)):Et h i l a (w+1)=Et h i l a w:=by unfold Et;refine Lt λo b=>?_;have b:=Le.1 b;congr 1;rw[Lq];simp;omega
def Zf5{h:Heap}{i:Int}{l}{a:Int}{w:Nat}(hh:0<=a-4096+w-i*h.C.pw/\a-4096+w-i*h.C.pw<h.C.pw):(Et h i l a w).set (a-4096+w-i*h.C.pw).toNat Z=Et h i l a (w+1):=by
 apply LB;intro j;rw[LG,Z9Y];unfold Et;by_cases b:j<h.C.pw.toNat
 rw[Li,Li,List.getElem?_range b,LR,LR];by_cases c:(a-4096+w-i*h.C.pw).toNat=j;rw[if_pos c,if_pos oq];congr 1;symm;rw[Lx];right;rw[Lf,decide_eq_true_eq,decide_eq_true_eq];omega;rw[if_neg c];congr 2;rw[Lq,Lf,Lf,decide_eq_true_eq,decide_eq_true_eq,decide_eq_true_eq];omega;rw[if_neg oq,Li,Li,List.getElem?_eq_none qo];rfl
def Zm0{h i l a}(hn:0<=GJ h a):Et h i l a (GJ h a).toNat=Cx h i (l++[a]):=by unfold Et Cx;refine Lt λo _=>?_;rw[List.any_append];congr 1;simp[Dq];rw[Lq];simp;omega
def ZaA(h:Heap) i:Cx h i []=Lh h.C.pw.toNat La:=by unfold Cx;simp[List.map_const']
def MB(h:Heap)(i:Int)(l:List Int)(k:Nat):Tg:=⟨tm 69 [(1,nI i),(2,Z2 l),(3,.pt 8003 0 0),(7,.ow 16017),(8,nI k)],[(16017,.arr 4 1 ((Cx h i (l.take k)).map C2)),(8003,.box 27 h.cells)],60⟩
def Ti(h:Heap)(i:Int)(l m:List Int)(k:Nat)(n:Int)(w:Nat):Tg:=⟨tm 69 [(1,nI i),(2,Z2 m),(3,.pt 8003 0 0),(7,.ow 16017),(8,nI k),(11,nI n),(12,nI w)],[(16017,.arr 4 1 ((Et h i l (m.getD k X) w).map C2)),(8003,.box 27 h.cells)],60⟩
def Zhq(h:Heap)(i:Int)(l m:List Int)(k:Nat)(n:Int)(w:Nat)(q:Z9 h=Z)(hm:m.length<=1048576)(p:0<=i/\i<h.P.length)(hr:0<=m.getD k X/\m.getD k X<=8192)(hk:k<m.length)(hn:n<=256)(hw:w<n):CP (Zn f216 2) (Ti h i l m k n w).st .nrm (Ti h i l m k n (w+1)).st:=by have r:=B7 q;have ap:=Il r.1 p.1 oq;have g:=Z9Y h i l (m.getD k X) w;by_cases f:0<=m.getD k X-4096+w-i*h.C.pw/\m.getD k X-4096+w-i*h.C.pw<h.C.pw;have e:=Zf5 (l:=l) f;let b:=m.getD k X-4096+(w:Int)-i*h.C.pw;let a:=Et h i l (m.getD k X) w;let j:=0<=m.getD k X-4096+(w:Int)-i*h.C.pw;let d:=a.set b.toNat Z;exact sF [] (fO 11)<|Fh 10067 [.els (M C2 d)]<|Ftb 40 (L ((w:Int)<n))<|Fek 45 wD m (↑k) k<|Fi 47 (m.getD k X)<|Fi 48 (m.getD k X-4096)<|Fi 50 (m.getD k X-4096+(w:Int))<|Fi 55 (i*h.C.pw)<|Fi 56 b<|FlG 62 (decide j) C2 a<|Ftb 64 (decide j&&L (m.getD k X-4096+(w:Int)-i*h.C.pw<(a.length:Int)))<|Fa (by grind[]:0<=m.getD k X-4096+(w:Int)-i*h.C.pw/\b.toNat<(M C2 a).length)<|Fa (by grind[]:b.toNat<(M C2 a).length)<|Fa (by rw[Lu];rfl:(M C2 a).set b.toNat [DV.sc (Value.bool Z)]=M C2 d)<|Fx 42 w<|Fr (4:Int)<|Fa (by refine congrArg _ ?_;exact e:M C2 d=M C2 (Et h i l (m.getD k X) (w+1))) Fz;have e:=Zls (l:=l) f;let c:=m.getD k X;let o:=0<=m.getD k X-4096+(w:Int)-i*h.C.pw;exact sF [] (fO 11)<|Ftb 40 (L ((w:Int)<n))<|Fek 45 wD m (↑k) k<|Fi 47 c<|Fi 48 (m.getD k X-4096)<|Fi 50 (m.getD k X-4096+(w:Int))<|Fi 55 (i*h.C.pw)<|Fi 56 (m.getD k X-4096+(w:Int)-i*h.C.pw)<|FlG 62 (decide o) C2 (Et h i l c w)<|Ffb 64 (decide o&&L (m.getD k X-4096+(w:Int)-i*h.C.pw<(↑(Et h i l c w).length:Int)))<|Fx 42 w<|Fr (4:Int)<|Fa (by refine congrArg _ ?_;rw[e]:M C2 (Et h i l c w)=M C2 (Et h i l c (w+1))) Fz
def ZeC(h:Heap) i l m k(n:Int)(w:Nat)(hn:n<=w):CP (Zn f216 2) (Ti h i l m k n w).st (.ext 2) (Tg.st ⟨tm 69 [(1,nI i),(2,Z2 m),(3,.pt 8003 0 0),(7,.ow 16017),(8,nI k)],[(16017,.arr 4 1 ((Et h i l (m.getD k X) w).map C2)),(8003,.box 27 h.cells)],60⟩):=by exact sF [] []<|Ffb 40 (L ((w:Int)<n)) Fz
def Z6M(h:Heap)(i:Int)(m:List Int)(k:Nat)(n:Int)(g:Z9 h=Z)(e:m.length<=1048576)(d:0<=i/\i<h.P.length)(j:0<=m.getD k X/\m.getD k X<=8192)(a:k<m.length)(f:0<=n/\n<=256)(c:n=GJ h (m.getD k X)):CP (Zl f216 2) (Tg.st ⟨tm 69 [(1,nI i),(2,Z2 m),(3,.pt 8003 0 0),(7,.ow 16017),(8,nI k),(11,nI n),(12,nI 0)],[(16017,.arr 4 1 ((Cx h i (m.take k)).map C2)),(8003,.box 27 h.cells)],60⟩) .nrm (Tg.st ⟨tm 69 [(1,nI i),(2,Z2 m),(3,.pt 8003 0 0),(7,.ow 16017),(8,nI k)],[(16017,.arr 4 1 ((Cx h i (m.take (k+1))).map C2)),(8003,.box 27 h.cells)],60⟩):=by
 have:=Bs (S:=λw=>(Ti h i (m.take k) m k n w).st) n.toNat kr (λw hw=>Zhq h i (m.take k) m k n w g e d j a f.2 oq) (ZeC h i (m.take k) m k n n.toNat oq);have b:Et h i (m.take k) (m.getD k X) n.toNat=Cx h i (m.take (k+1)):=by(rw[Ta a,c];exact Zm0 oq)
 rw[b]at this;simp only[Ti,Zlh]at this;exact this
def ZcK(h:Heap)(i:Int)(l:List Int)(k:Nat)(g:Zz h.W)(d:Z9 h=Z)(hl:l.length<=1048576)(hi:0<=i/\i<h.P.length)(f:∀x∈l,0<=x/\x<=8192)(c:k<l.length):CP (Zn f216 0) (MB h i l k).st .nrm (MB h i l (k+1)).st:=by
 have po:=B7 d;have hx:=f (l.getD k X) (C1.2 ⟨k,c,rfl⟩);have hm:=IE g (l.getD k X);have hs:=Ip (Zc h (l.getD k X)).1;by_cases b:(Zc h (l.getD k X)).1.K=0;have e:GJ h (l.getD k X)=1:=by rw[GJ,if_pos b]
 exact sF [] []<|FN 20 21 28 wD l k<|Fc 30 (@Nt h (l.getD k X) aa oq)<|Fc 34 (@Ix ((Zc h (l.getD k X)).1) aa)<|Ftb 37 ((Zc h (l.getD k X)).1.K==0)<|Fu (@Z6M h i l k (1) aa aa aa aa aa oq oq)<|Fx 23 k Fz;have e:GJ h (l.getD k X)=Z1 (Zc h (l.getD k X)).1:=by rw[GJ,if_neg b]
 let a:=l.getD k X;exact sF [] []<|FN 20 21 28 wD l k<|Fc 30 (@Nt h a aa oq)<|Fc 34 (@Ix ((Zc h a).1) aa)<|Ffb 37 ((Zc h a).1.K==0)<|Fu (@Z6M h i l k (Z1 (Zc h a).1) aa aa aa aa aa aa oq)<|Fx 23 k Fz
def ZcH(h:Heap) i l:CP (Zn f216 0) (MB h i l l.length).st (.ext 0) (Tg.st ⟨tm 69 [(7,.ow 16017)],[(16017,.arr 4 1 ((Cx h i l).map C2))],60⟩):=by have e:l.take l.length=l:=LM;exact sF [] [La,Z]<|FO 20 21 wD l<|Fr (4:Int)<|Fa (by refine congrArg _ ?_;rw[e]:M C2 (Cx h i (Ld l.length l))=M C2 (Cx h i l)) Fz
def Zgq(h:Heap)(i:Int)(l:List Int)(e:Zz h.W)(c:Z9 h=Z)(hl:l.length<=1048576)(a:0<=i/\i<h.P.length)(d:∀x∈l,0<=x/\x<=8192):CP (Zl f216 0) (Tg.st ⟨tm 69 [(1,nI i),(2,Z2 l),(3,.pt 8003 0 0),(7,.ow 16017),(8,nI 0)],[(16017,.arr 4 1 ((Lh h.C.pw.toNat La).map C2)),(8003,.box 27 h.cells)],60⟩) .nrm (Tg.st ⟨tm 69 [(7,.ow 16017)],[(16017,.arr 4 1 ((Cx h i l).map C2))],60⟩):=by have:=Bs (S:=λk=>(MB h i l k).st) l.length kr (λk b=>ZcK h i l k e c hl a d b) (ZcH h i l);simp only[MB,List.take_zero,ZaA]at this;exact this
def Z7T(h:Heap)(i:Int)(l:List Int)(hw:Zz h.W)(a:Z9 h=Z)(hl:l.length<=1048576)(hi:0<=i/\i<h.P.length)(hr:∀x∈l,0<=x/\x<=8192):GP 216 [h.av,nI i,Z2 l] La (.d (.sl 1 ((Cx h i l).map C2))) []:=by have po:=B7 a;exact gF [] func216 []<|Fh 17 [.els (M C2 (Lh h.C.pw.toNat La))]<|Fb (0<=h.C.pw/\h.C.pw<=h.C.pw/\h.C.pw*((↑(nat_lit 0):Int)+1)<=2^48)<|Fa (by rw[List.map_replicate];rfl:Lh h.C.pw.toNat [DV.sc (Value.bool La)]=M C2 (Lh h.C.pw.toNat La))<|Fu (@Zgq h i l aa aa aa aa aa) Fz
def CQ(h:Heap)(i:Nat):List Bool:=Cx h i (Zh h (B4 h.P i:Nat)).1
theorem MY(h:Heap) i:(CQ h i).length=h.C.pw.toNat:=by simp[CQ,Cx]
def Z2p l:∀i,B4 l i<=i
 |0=>Nat.le_refl _
 |i+1=>by
  have:=Z2p l i;unfold B4;split<;>omega
def Dx(h:Heap)(i:Nat)(u:List Bool)(k:Nat):Tg:=⟨tm 43 [(1,nI i),(2,.pt 8002 0 0),(4,uU 0),(7,.d (.sl 1 (u.map C2))),(8,nI k)],[(8002,.box 27 h.cells)],60⟩
section
variable(h:Heap)(i:Nat)(u:List Bool)(k:Nat)(a:Z9 h=Z)(b:i<h.P.length)(c:u.length<=64)
include a b c
theorem Z7n(hk:k<u.length)(hd:u.getD k X=Z\/Gz h i k=0):CP (Zn f168 0) (Dx h i u k).st .nrm (Dx h i u (k+1)).st:=by have po:=B7 a;rcases hd with hd|hd;exact sF [] []<|FN 23 24 29 C2 u k<|FcG 36 (!u.getD k X) (λd=>by(try simp only[bs]at d);exact@Z3X h ((i:Int)) ((k:Int)) aa)<|Ffs 38 (!u.getD k X&&Gz h (i:Int) (k:Int) != 0)<|Fx 26 k Fz;exact sF [] []<|FN 23 24 29 C2 u k<|FcG 36 (!u.getD k X) (λd=>by(try simp only[bs]at d);exact@Z3X h ((i:Int)) ((k:Int)) aa)<|Ffb 38 (!u.getD k X&&Gz h (i:Int) (k:Int) != 0)<|Fx 26 k Fz
theorem Zks(hk:k<u.length)(hd:u.getD k X=La/\¬ Gz h i k=0):CP (Zn f168 0) (Dx h i u k).st .ret (Tg.st ⟨tm 43 [(4,uU (4096+i*h.C.pw+k))],[],60⟩):=by have po:=B7 a;obtain⟨d,e⟩:=hd;exact sF [] []<|FN 23 24 29 C2 u k<|FcG 36 (!u.getD k X) (λf=>by(try simp only[bs]at f);exact@Z3X h ((i:Int)) ((k:Int)) aa)<|Fts 38 (!u.getD k X&&Gz h (i:Int) (k:Int) != 0)<|Fc 42 (@ZlR h ((i:Int)) ((k:Int)) aa oq oq) Fz
omit a b c in
theorem ZhN:CP (Zn f168 0) (Dx h i u u.length).st (.ext 0) (Tg.st ⟨tm 43 [(4,uU 0)],[],60⟩):=by exact sF [] []<|FO 23 24 C2 u Fz
end
def Hz(h:Heap)(i:Nat)(u:List Bool)(k:Nat):Bool:=!u.getD k X&&L (Gz h i k≠0)
def Eu(h:Heap)(i:Nat)(u:List Bool):Int:=match (Lb u.length).find? (Hz h i u)with|Y k=>4096+i*h.C.pw+k|O=>0
def ZjX(h:Heap)(i:Nat)(u:List Bool)(d:Z9 h=Z)(c:i<h.P.length)(e:u.length<=64)(b:(Lb u.length).find? (Hz h i u)=O) :CP (Zl f168 0) (Tg.st ⟨tm 43 [(1,nI i),(2,.pt 8002 0 0),(4,uU 0),(7,.d (.sl 1 (u.map C2))),(8,nI 0)],[(8002,.box 27 h.cells)],60⟩) .nrm (Tg.st ⟨tm 43 [(4,uU 0)],[],60⟩):=by
 refine Bs (S:=λk=>(Dx h i u k).st) u.length kr (λk a=>Z7n h i u k d c e a ?_) (ZhN h i u);have:=Ll.1 b k (Le.2 a);simp only[Hz,bs]at this;cases hb:u.getD k X with|true=>exact .inl rfl|false =>rw[hb]at this;exact .inr (by simpa using this)
def Zjc(h:Heap)(i:Nat)(u:List Bool)(k:Nat)(d:Z9 h=Z)(c:i<h.P.length)(e:u.length<=64)(g:(Lb u.length).find? (Hz h i u)=Y k) :CP (Zl f168 0) (Tg.st ⟨tm 43 [(1,nI i),(2,.pt 8002 0 0),(4,uU 0),(7,.d (.sl 1 (u.map C2))),(8,nI 0)],[(8002,.box 27 h.cells)],60⟩) .ret (Tg.st ⟨tm 43 [(4,uU (4096+i*h.C.pw+k))],[],60⟩):=by
 obtain⟨a,b,f⟩:=Lm.1 g;have b:=Le.1 b;refine EF (S:=λk=>(Dx h i u k).st) k kr (λm j=>Z7n h i u m d c e oq ?_) (Zks h i u k d c e b ?_);have:=f m j;simp only[Hz,bs]at this;cases hb:u.getD m X with|true=>exact .inl rfl|false =>rw[hb]at this;exact .inr (by simpa using this)
 simp only[Hz,bs]at a;exact⟨a.1,a.2⟩
def Z4l(h:Heap)(i:Nat)(hw:Zz h.W)(d:Z9 h=Z)(hi:i<h.P.length):GP 168 [h.av,nI i] Z (uU (Eu h i (CQ h i))) []:=by
 have po:=B7 d;have hh:=Z2p h.P i;have hn:=Ra h (B4 h.P i:Nat);have hr:=AD d (B4 h.P i:Nat);have e:=MY h i;unfold CQ at e⊢;cases hf:(Lb (Cx h i (Zh h (B4 h.P i:Nat)).1).length).find? (Hz h i (Cx h i (Zh h (B4 h.P i:Nat)).1))with
 |none =>
  have a:Eu h i (Cx h i (Zh h (B4 h.P i:Nat)).1)=0:=by rw[Eu,hf]
  let b:=Zh h (↑(B4 h.P i):Int);exact gF [] func168 (fO 6)<|Fc 13 (@Z78 h i aa aa)<|Fc 14 (@SB h ((↑(B4 h.P i):Int)) aa)<|Fc 20 (@Z7T h ((i:Int)) (b.1) aa aa oq oq aa)<|Fu (@ZjX h i (Cx h (i:Int) b.1) aa aa oq aa)<|Fa (by rw[a]:0=Eu h i (Cx h (i:Int) b.1)) Fz
 |some k =>
  have a:Eu h i (Cx h i (Zh h (B4 h.P i:Nat)).1)=4096+i*h.C.pw+k:=by rw[Eu,hf]
  let c:=Zh h (↑(B4 h.P i):Int);exact gF [] func168 (fO 6)<|Fc 13 (@Z78 h i aa aa)<|Fc 14 (@SB h ((↑(B4 h.P i):Int)) aa)<|Fc 20 (@Z7T h ((i:Int)) (c.1) aa aa oq oq aa)<|Fu (@Zjc h i (Cx h (i:Int) c.1) k aa aa oq aa)<|Fa (by rw[a]:4096+(i:Int)*h.C.pw+(k:Int)=Eu h i (Cx h (i:Int) c.1)) Fz
structure C8 where
 fault:Int
 page:Int
 addr:Int
 deriving DecidableEq,Inhabited
def C8.av(f:C8):AV:=.ag [nI f.fault,nI f.page,uU f.addr]
def pageF(h:Heap)(i:Nat):C8:=
 if(h.P.getD i X).K≠0/\(h.P.getD i X).S≠h.S then⟨2,i,0⟩
 else if(Zh h (i:Int)).2≠0 then⟨3,i,0⟩
 else if Cs h (i:Int) (Zh h (i:Int)).1≠0 then⟨5,i,Cs h (i:Int) (Zh h (i:Int)).1⟩
 else if Eu h i (CQ h i)≠0 then⟨4,i,Eu h i (CQ h i)⟩else⟨0,0,0⟩
def Z8N(h:Heap)(i:Nat)(hw:Zz h.W)(n:Z9 h=Z)(hi:i<h.P.length):GP 112 [h.av,nI i] Z (pageF h i).av []:=by have po:=B7 n;have hn:=Ra h (i:Int);have hr:=AD n (i:Int);have j {h_ c_ p_} (b:Fq h_ c_ p_):=Fek 12 Z0.dv h.P (↑i) i<|FeG 20 ((h.P.getD i X).K != 0) Z0.dv h.P (↑i) i b;rcases bb ((h.P.getD i X).K != 0&&(h.P.getD i X).S != h.S)with hc0|hc0<;>have a:=hc0<;>simp only[bs]at a;obtain⟨f,g⟩:=a;rw[show pageF h i=C8.mk (2:Int) (i:Int) (0:Int)from by(simp only[pageF] ;exact sj)];exact gF [] func112 [] (j (Ft 26 hc0 Fz));have k {h_ c_ p_} (b:Fq h_ c_ p_):=j<|Ff 26 hc0<|Fc 32 (@SB h ((i:Int)) aa) b;rcases bb ((Zh h (i:Int)).2 != 0)with hc1|hc1<;>have c:=hc1<;>simp only[bs]at c;rw[show pageF h i=C8.mk (3:Int) (i:Int) (0:Int)from by(simp only[pageF] ;exact sj)];exact gF [] func112 [] (k (Ft 36 hc1 Fz));have l {h_ c_ p_} (b:Fq h_ c_ p_):=k<|Ff 36 hc1<|Fc 42 (@Z3a h ((i:Int)) ((Zh h (i:Int)).1) aa oq oq oq aa) b;rcases bb (Cs h (i:Int) (Zh h (i:Int)).1 != 0)with hc2|hc2<;>have d:=hc2<;>simp only[bs]at d;rw[show pageF h i=C8.mk (5:Int) (i:Int) (Cs h (i:Int) (Zh h (i:Int)).1)from by(simp only[pageF] ;exact sj)];exact gF [] func112 [] (l (Ft 44 hc2 Fz));have m {h_ c_ p_} (b:Fq h_ c_ p_):=l<|Ff 44 hc2<|Fc 50 (@Z4l h i aa aa aa) b;rcases bb (Eu h i (CQ h i) != 0)with hc3|hc3<;>have e:=hc3<;>simp only[bs]at e;rw[show pageF h i=C8.mk (4:Int) (i:Int) (Eu h i (CQ h i))from by(simp only[pageF] ;exact sj)];exact gF [] func112 [] (m (Ft 52 hc3 Fz));rw[show pageF h i=C8.mk (0:Int) (0:Int) (0:Int)from by(simp only[pageF] ;exact sj)];exact gF [] func112 [] (m (Ff 52 hc3 Fz))
def Dc(h:Heap)(a:List Int)(i:Nat):Tg:=⟨tm 89 [(1,.pt 8001 0 0),(2,.pt 8002 0 0),(3,Z2 a),(5,nI i)],[(8002,.box 104 [nI 0,nI 0,uU 0]),(8001,.box 27 h.cells)],60⟩
def N5(hd:Zo)(b a:List Int)(k:Nat):Bool:=BI hd k&&L (b.getD k X≠0)&&!decide (b.getD k X∈a)
def AS(h:Heap)(a b:List Int)(hd:Zo)(i k:Nat):Tg:=⟨tm 89 [(1,.pt 8001 0 0),(2,.pt 8002 0 0),(3,Z2 a),(5,nI i),(6,.pt 488006 0 0),(8,Z2 b),(10,nI k)],[(488006,.box 31 [nI hd.K,nI hd.length,u32 hd.map]),(8002,.box 104 [nI 0,nI 0,uU 0]),(8001,.box 27 h.cells)],64⟩
section
variable(h:Heap)(a b:List Int)(hd:Zo)(i k:Nat)(e:0<=hd.map/\hd.map<=4294967295)(hl:a.length<=1048576)(c:b.length<=4096)(f:0<=a.getD i X/\a.getD i X<=8192)(d:i<a.length)
include e hl c f d
theorem Z4M(hk:k<b.length)(g:N5 hd b a k=La):CP (Zn f113 2) (AS h a b hd i k).st .nrm (AS h a b hd i (k+1)).st:=by simp only[N5,bs]at g;rcases g with(g|g)|g;let l:=BI hd (k:Int)&&b.getD k X != 0;exact sF [] []<|FM 46 47 wD b k<|Fc 52 (@SK hd ((k:Int)) aa)<|FeG 56 (BI hd (k:Int)) wD b (↑k) k<|FeG 64 l wD b (↑k) k<|FcG 66 l (λj=>by(try simp only[bs]at j);exact@Ei a (b.getD k X) aa)<|Ffs 68 (BI hd (k:Int)&&b.getD k X != 0&&!decide (b.getD k X∈a))<|Fx 49 k Fz;let m:=BI hd (k:Int)&&b.getD k X != 0;exact sF [] []<|FM 46 47 wD b k<|Fc 52 (@SK hd ((k:Int)) aa)<|FeG 56 (BI hd (k:Int)) wD b (↑k) k<|FeG 64 m wD b (↑k) k<|FcG 66 m (λj=>by(try simp only[bs]at j);exact@Ei a (b.getD k X) aa)<|Ffb 68 (BI hd (k:Int)&&b.getD k X != 0&&!decide (b.getD k X∈a))<|Fx 49 k Fz;let n:=BI hd (k:Int)&&b.getD k X != 0;exact sF [] []<|FM 46 47 wD b k<|Fc 52 (@SK hd ((k:Int)) aa)<|FeG 56 (BI hd (k:Int)) wD b (↑k) k<|FeG 64 n wD b (↑k) k<|FcG 66 n (λj=>by(try simp only[bs]at j);exact@Ei a (b.getD k X) aa)<|Ffs 68 (BI hd (k:Int)&&b.getD k X != 0&&!decide (b.getD k X∈a))<|Fx 49 k Fz
theorem Zj0(hk:k<b.length)(g:N5 hd b a k=Z):CP (Zn f113 2) (AS h a b hd i k).st .ret (Tg.st ⟨tm 89 [(2,.pt 8002 0 0)],[(8002,.box 104 [nI 6,nI (Z4 h.C (a.getD i X+1+k)).1,uU (a.getD i X+1+k)])],64⟩):=by simp only[N5,bs]at g;obtain⟨⟨l,m⟩,n⟩:=g;let j:=BI hd (k:Int)&&b.getD k X != 0;exact sF [] []<|FM 46 47 wD b k<|Fc 52 (@SK hd ((k:Int)) aa)<|FeG 56 (BI hd (k:Int)) wD b (↑k) k<|FeG 64 j wD b (↑k) k<|FcG 66 j (λo=>by(try simp only[bs]at o);exact@Ei a (b.getD k X) aa)<|Fts 68 (BI hd (k:Int)&&b.getD k X != 0&&!decide (b.getD k X∈a))<|Fek 71 wD a (↑i) i<|Fv 73 (a.getD i X+1)<|Fv 75 (↑k)<|Fv 76 (a.getD i X+1+(k:Int))<|Fc 81 (@Hn h.C (a.getD i X+1+(k:Int)) oq oq) Fz
omit e hl c f d in
theorem ZbX:CP (Zn f113 2) (AS h a b hd i b.length).st (.ext 2) (Tg.st ⟨tm 89 [(1,.pt 8001 0 0),(2,.pt 8002 0 0),(3,Z2 a),(5,nI i)],[(8002,.box 104 [nI 0,nI 0,uU 0]),(8001,.box 27 h.cells)],64⟩):=by exact sF [] []<|FO 46 47 wD b Fz
end
section
variable(h:Heap)(a b:List Int)(hd:Zo)(i:Nat)(e:0<=hd.map/\hd.map<=4294967295)(hl:a.length<=1048576)(c:b.length<=4096)(f:0<=a.getD i X/\a.getD i X<=8192)(d:i<a.length)
include e hl c f d
theorem Zd0(j:(Lb b.length).find? (N5 hd b a)=O):CP (Zl f113 2) (AS h a b hd i 0).st .nrm (Tg.st ⟨tm 89 [(1,.pt 8001 0 0),(2,.pt 8002 0 0),(3,Z2 a),(5,nI i)],[(8002,.box 104 [nI 0,nI 0,uU 0]),(8001,.box 27 h.cells)],64⟩):=by refine Bs (S:=λk=>(AS h a b hd i k).st) b.length kr (λk g=>Z4M h a b hd i k e hl c f d g ?_) (ZbX h a b hd i);have:=Ll.1 j k (Le.2 g);simpa using this
theorem Zlk(k:Nat)(o:(Lb b.length).find? (N5 hd b a)=Y k):CP (Zl f113 2) (Tg.st ⟨tm 89 [(1,.pt 8001 0 0),(2,.pt 8002 0 0),(3,Z2 a),(5,nI i),(6,.pt 488006 0 0),(8,Z2 b),(10,nI 0)],[(488006,.box 31 [nI hd.K,nI hd.length,u32 hd.map]),(8002,.box 104 [nI 0,nI 0,uU 0]),(8001,.box 27 h.cells)],64⟩) .ret (Tg.st ⟨tm 89 [(2,.pt 8002 0 0)],[(8002,.box 104 [nI 6,nI (Z4 h.C (a.getD i X+1+k)).1,uU (a.getD i X+1+k)])],64⟩):=by obtain⟨l,g,n⟩:=Lm.1 o;have g:=Le.1 g;refine EF (S:=λk=>(AS h a b hd i k).st) k kr (λm j=>Z4M h a b hd i m e hl c f d oq ?_) (Zj0 h a b hd i k e hl c f d g l);have:=n m j;simpa using this
end
def Z4n(h:Heap) a:(CG h a).1.length<=4096:=by unfold CG;split;rename_i e;have po:=B7 (Su e).2.2.1;have:=Z5C h.W (a+1) (Zy h a).1.length;omega;simp
def HI(h:Heap)(a:List Int)(i:Nat):Option Nat:=(Lb (CG h (a.getD i X)).1.length).find? (N5 (Zy h (a.getD i X)).1 (CG h (a.getD i X)).1 a)
section
variable(h:Heap)(a:List Int)(i:Nat)(b:Zz h.W)(hl:a.length<=1048576)(hr:0<=a.getD i X/\a.getD i X<=8192)(hi:i<a.length)
include b hl hr hi
theorem Z80(d:HI h a i=O):CP (Zn f113 0) (Dc h a i).st .nrm (Dc h a (i+1)).st:=by have hm:=Z3d b (a.getD i X);have hf:(CG h (a.getD i X)).1.length<=4096:=Z4n h _;unfold HI at d;let c:=a.getD i X;exact sF [] []<|FN 22 23 30 wD a i<|Fc 32 (@NN h c aa oq)<|Fek 39 wD a (↑i) i<|Fc 41 (@Z5S h c aa oq)<|Fu (@Zd0 h a ((CG h c).1) ((Zy h c).1) i aa aa aa aa aa aa)<|Fx 25 i Fz
theorem ZiP(k:Nat)(d:HI h a i=Y k):CP (Zn f113 0) (Dc h a i).st .ret (Tg.st ⟨tm 89 [(2,.pt 8002 0 0)],[(8002,.box 104 [nI 6,nI (Z4 h.C (a.getD i X+1+k)).1,uU (a.getD i X+1+k)])],60⟩):=by have hm:=Z3d b (a.getD i X);have hf:(CG h (a.getD i X)).1.length<=4096:=Z4n h _;unfold HI at d;let c:=a.getD i X;exact sF [] []<|FN 22 23 30 wD a i<|Fc 32 (@NN h c aa oq)<|Fek 39 wD a (↑i) i<|Fc 41 (@Z5S h c aa oq)<|Fu (@Zlk h a ((CG h c).1) ((Zy h c).1) i aa aa aa aa aa k aa) Fz
end
def Zio(h:Heap) a:CP (Zn f113 0) (Dc h a a.length).st (.ext 0) (Tg.st ⟨tm 89 [(2,.pt 8002 0 0)],[(8002,.box 104 [nI 0,nI 0,uU 0])],60⟩):=by exact sF [] []<|FO 22 23 wD a Fz
def ER(h:Heap)(a:List Int):C8:=
 match (Lb a.length).find? (λi=>(HI h a i).isSome)with|none=>⟨0,0,0⟩|some i=>⟨6,(Z4 h.C (a.getD i X+1+((HI h a i).getD 0:Nat))).1,a.getD i X+1+((HI h a i).getD 0:Nat)⟩
section
variable(h:Heap)(a:List Int)(c:Zz h.W)(hl:a.length<=1048576)(b:∀x∈a,0<=x/\x<=8192)
include c hl b
theorem Zhy(e:(Lb a.length).find? (λi=>(HI h a i).isSome)=O):CP (Zl f113 0) (Dc h a 0).st .nrm (Tg.st ⟨tm 89 [(2,.pt 8002 0 0)],[(8002,.box 104 [nI 0,nI 0,uU 0])],60⟩):=by refine Bs (S:=λk=>(Dc h a k).st) a.length kr (λk d=>Z80 h a k c hl (b _ (C1.2 ⟨k,d,rfl⟩)) d ?_) (Zio h a);have:=Ll.1 e k (Le.2 d);simpa using this
theorem Zao(i k:Nat)(j:(Lb a.length).find? (λi=>(HI h a i).isSome)=Y i)(e:HI h a i=Y k):CP (Zl f113 0) (Tg.st ⟨tm 89 [(1,.pt 8001 0 0),(2,.pt 8002 0 0),(3,Z2 a),(5,nI 0)],[(8002,.box 104 [nI 0,nI 0,uU 0]),(8001,.box 27 h.cells)],60⟩) .ret (Tg.st ⟨tm 89 [(2,.pt 8002 0 0)],[(8002,.box 104 [nI 6,nI (Z4 h.C (a.getD i X+1+k)).1,uU (a.getD i X+1+k)])],60⟩):=by obtain⟨h1,d,g⟩:=Lm.1 j;have d:=Le.1 d;refine EF (S:=λk=>(Dc h a k).st) i kr (λm f=>Z80 h a m c hl (b _ (C1.2 ⟨m,by omega,rfl⟩)) oq ?_) (ZiP h a i c hl (b _ (C1.2 ⟨i,d,rfl⟩)) d k e);have:=g m f;simpa using this
end
def Z2O(h:Heap)(hw:Zz h.W):GP 113 [h.av] Z (ER h (Zt h).1).av []:=by
 have hl:=AI h;have hr:=Z3U h;cases hb:(Lb (Zt h).1.length).find? (λi=>(HI h (Zt h).1 i).isSome)with
 |none =>
  have e:ER h (Zt h).1=⟨0,0,0⟩:=by simp only[ER,hb]
  rw[e];exact gF [] func113 []<|Fc 17 (@Mu h aa)<|Fu (@Zhy h ((Zt h).1) aa oq aa aa) Fz
 |some i =>
  have a:=(Lm.1 hb).1;obtain⟨k,b⟩:=Option.isSome_iff_exists.1 a;have e:ER h (Zt h).1=⟨6,(Z4 h.C ((Zt h).1.getD i X+1+(k:Nat))).1,(Zt h).1.getD i X+1+(k:Nat)⟩:=by simp only[ER,hb,b,Option.getD_some]
  rw[e];exact gF [] func113 []<|Fc 17 (@Mu h aa)<|Fu (@Zao h ((Zt h).1) aa oq aa i k aa aa) Fz
def Zi3(h:Heap)(hw:Zz h.W)(hp:Z9 h=La):GP 57 [h.av] Z (C8.mk 1 0 0).av []:=by exact gF [] func57 []<|Fc 9 (@CS h)<|Ftb 10 (!Z9 h) Fz
def DW(h:Heap)(i:Nat):Tg:=⟨tm 65 [(1,.pt 8001 0 0),(2,.pt 8002 0 0),(3,nI i)],[(8002,.box 104 [nI 0,nI 0,uU 0]),(8001,.box 27 h.cells)],60⟩
section
variable(h:Heap)(i:Nat)(hw:Zz h.W)(a:Z9 h=Z)
include hw a
theorem Z5a(hi:i<h.P.length)(hb:(pageF h i).fault=0):CP (Zn f57 0) (DW h i).st .nrm (DW h (i+1)).st:=by have po:=B7 a;exact sF [] []<|FM 15 16 Z0.dv h.P i<|Fc 21 (@Z8N h i aa aa aa)<|Ffb 24 ((pageF h i).fault != 0)<|Fx 18 i Fz
theorem ZdR(hi:i<h.P.length)(hb:(pageF h i).fault≠0):CP (Zn f57 0) (DW h i).st .ret (Tg.st ⟨tm 65 [(2,.pt 8002 0 0)],[(8002,.box 104 [nI (pageF h i).fault,nI (pageF h i).page,uU (pageF h i).addr])],60⟩):=by have po:=B7 a;exact sF [] []<|FM 15 16 Z0.dv h.P i<|Fc 21 (@Z8N h i aa aa aa)<|Ftb 24 ((pageF h i).fault != 0) Fz
end
def Zeg(h:Heap)(a:Z9 h=Z):CP (Zn f57 0) (DW h h.P.length).st (.ext 0) (Tg.st ⟨tm 65 [(1,.pt 8001 0 0),(2,.pt 8002 0 0)],[(8002,.box 104 [nI 0,nI 0,uU 0]),(8001,.box 27 h.cells)],60⟩):=by have po:=B7 a;exact sF [] []<|FO 15 16 Z0.dv h.P Fz
def GA(h:Heap):Option Nat:=(Lb h.P.length).find? (λi=>L ((pageF h i).fault≠0))
section
variable(h:Heap)(b:Zz h.W)(a:Z9 h=Z)
include b a
theorem Z3r(d:GA h=O):CP (Zl f57 0) (DW h 0).st .nrm (Tg.st ⟨tm 65 [(1,.pt 8001 0 0),(2,.pt 8002 0 0)],[(8002,.box 104 [nI 0,nI 0,uU 0]),(8001,.box 27 h.cells)],60⟩):=by refine Bs (S:=λk=>(DW h k).st) h.P.length kr (λk c=>Z5a h k b a c ?_) (Zeg h a);have:=Ll.1 d k (Le.2 c);simpa using this
theorem Zgx(i:Nat)(g:GA h=Y i):CP (Zl f57 0) (Tg.st ⟨tm 65 [(1,.pt 8001 0 0),(2,.pt 8002 0 0),(3,nI 0)],[(8002,.box 104 [nI 0,nI 0,uU 0]),(8001,.box 27 h.cells)],60⟩) .ret (Tg.st ⟨tm 65 [(2,.pt 8002 0 0)],[(8002,.box 104 [nI (pageF h i).fault,nI (pageF h i).page,uU (pageF h i).addr])],60⟩):=by obtain⟨e,c,f⟩:=Lm.1 g;have c:=Le.1 c;refine EF (S:=λk=>(DW h k).st) i kr (λm d=>Z5a h m b a oq ?_) (ZdR h i b a c (by simpa using e));have:=f m d;simpa using this
end
def ZbP(h:Heap)(hw:Zz h.W)(hp:Z9 h=Z)(i:Nat)(hb:GA h=Y i):GP 57 [h.av] Z (pageF h i).av []:=by exact gF [] func57 []<|Fc 9 (@CS h)<|Ffb 10 (!Z9 h)<|Fu (@Zgx h aa aa i aa) Fz
def Zd3(h:Heap)(hw:Zz h.W)(hp:Z9 h=Z)(hb:GA h=O)(hq:(ER h (Zt h).1).fault≠0):GP 57 [h.av] Z (ER h (Zt h).1).av []:=by exact gF [] func57 []<|Fc 9 (@CS h)<|Ffb 10 (!Z9 h)<|Fu (@Z3r h aa aa aa)<|Fc 27 (@Z2O h aa)<|Ftb 30 ((ER h (Zt h).1).fault != 0) Fz
end Go.Proofs.YtkmnngahjnkdmaaGreat
namespace Go.Sx
def PS(H:Heap)(x:AV):Option AV:=match x with|.d x=>Y (.d x)|.rp e o=>Y (.rp e o)|.ow b=>(match Lj 8000 b with|true=>(match H b with|Y (.arr _ s els)=>Y (.d (.sl s els))|_=>O)|false=>O)|.os b o n=>(match Lj 8000 b with|true=>(match H b with|Y (.arr _ s els)=>Y (.d (.sl s ((els.drop o).take n)))|_=>O)|false=>O)|_=>O
def Zek{P f}{e0 e1:List DV}{t0 t1:Nat}{x:Value}(hx:x.oneCell'=Z)(h:GSpec P f [.rp e0 0,.rp e1 0] Z (.d (.sc x)) []) :LentSpec P f [.pt 0 0 0,.pt 1 0 0] [.box t0 (e0.map .d),.box t1 (e1.map .d)] (.d (.sc x)) [.box t0 (e0.map .d),.box t1 (e1.map .d)]:=by
 intro w Im ρ vs a0 a2 hρ a1 c z u;have box:∀(k:Nat) (e:List DV) (t:Nat) (v:Value) (p:Nat->Prop),(∀g,Im g->p g)->(∀β g,ρ k=Y β->β.g=Y g->p g)->(∃β,ρ k=Y β/\RelB ρ w Im β (.box t (e.map .d)))->Zk ρ w Im (.pt k 0 0) v->Zk (λ_=>O) w p (.rp e 0) v:=by
  intro k e t v p hi m hb hv;obtain⟨β,hβ,r⟩:=hb;obtain⟨g,s,n,k1,rfl⟩:=RL hv rfl;rw[hβ]at k1;cases k1;obtain⟨r1,r2,g2,cs,r3,r4,r5,r6,r7⟩:=r;cases r3;have:=@Zk.rp (λ_=>O) w p e 0 ⟨g,0,O⟩ rfl (m _ _ hβ rfl) (λj y hy=>by
   have hj:j<e.length:=(List.getElem?_eq_some_iff.1 hy).1;have hc:j<cs.size:=by rw[r5];simpa using hj
   have a:cs[j]?=Y cs[j]:=Array.getElem?_eq_getElem hc;have l:=r7 j (.d y) cs[j] (by simp[hy]) a;refine⟨cs[j], ?_, ?_⟩;simp only[World.cell?,r4];simpa using a;cases l with
   |d l=>exact l.mono (Ext.refl _ _) hi)
  simpa using this
 refine(h w (λg=>Im g\/∃k β,ρ k=Y β/\β.g=Y g) vs ?_ a2 ?_).mono ?_;rintro g (m|⟨k,β,a,l⟩);exact a0 g m;exact(c k β g a l).1;intro i y v hy hv;cases i with
 |zero =>simp at hy;subst hy;exact box 0 e0 t0 v _ (λg m=>.inl m) (λβ g a l=>.inr ⟨0,β,a,l⟩) (z 0 _ rfl) (u 0 _ v rfl hv)
 |succ i=>cases i with
  |zero =>
   simp at hy;subst hy;exact box 1 e1 t1 v _ (λg m=>.inl m) (λβ g a l=>.inr ⟨1,β,a,l⟩) (z 1 _ rfl) (u 1 _ v rfl hv)
  |succ i=>simp at hy
 rintro e w' ⟨v,rfl,o,ρ',a3,_,_,_,_,_,_,hr⟩;have hv:=BV hr;subst hv;have ext:Ext Im w w':=⟨o.size,λg m=>o.block g (a0 g m) (λq=>q),o.rows⟩;refine⟨_,rfl,⟨o.os,o.tape,o.output,o.size,λk a _=>o.block k a (λq=>q),o.rows⟩,ρ,Im,λ_ _ h=>h,hρ,λg m=>.inl m,λg m=>Lw (a0 g m) o.size,
  λk β g a l=>⟨Lw (c k β g a l).1 o.size,.inr ⟨k,β,a,l⟩⟩,λk β g _ a l=>(c k β g a l).2,λk k' β β' g _ _=>a1 k k' β β' g, ?_,.d (.sc _ hx)⟩
 intro k B hB;obtain⟨β,b1,b2⟩:=z k B hB;exact⟨β,b1,b2.mono ext (λ_ h=>h) (λ_ _ h=>h) (λb β g a l=>(c b β g a l).1) (λg m=>o.block g (c k β g b1 m).1 (λq=>q))⟩
def Ox{P}{f s:Nat}{fr res news}(h:∀(p:Option Addr) (c:Nat),GSpec P f [.d (.sc (.slice p 0 c))] fr res news):GSpec P f [.d (.sl s [])] fr res news:=by
 intro w m g r a y;have h0:g.size=1:=a;obtain⟨v,q⟩:∃v,g[0]?=Y v:=⟨g[0]' oq,by simp⟩;have b:∀(p:Option Addr) (c:Nat),v=.slice p 0 c->Calls P f g w λe z=>∃v,e=.returned v/\RF w m fr res news v z:=λp c e=>by
  refine h p c w m g r a λi x u k o=>?_;match i with|0 =>simp only[List.getElem?_cons_zero,Option.some.injEq]at k;rw[q]at o;cases o;subst k;subst e;exact .d (.sc _ rfl)|i+1=>simp at k
 have j:=y 0 _ v rfl q;cases j with
 |d j =>
  generalize t:([]:List (List DV))=l at j;cases j with|slNil s p c=>exact b p c rfl|sl s els p n c fn a=>subst t;simp at a;subst a;exact b _ c rfl
def fzL(f:Nat->Option Nat)(H:Heap)(x:AV):Option AV:=match x with|.d x=>Y (.d x)|.rp e o=>Y (.rp e o)|.pt b i o=>(match f b with|Y k=>Y (.pt k i o)|O=>O)|.os b o n=>(match f b with|Y k=>Y (.os k o n)|O=>PS H (.os b o n))|.ow b=>(match f b with|Y k=>Y (.ow k)|O=>PS H (.ow b))|_=>O
def fzM(f:Nat->Option Nat)(H:Heap)(x:AV):Option AV:=match x with|.ag l=>(match HL (fzL f H) l with|Y r=>Y (.ag r)|O=>O)|.ic t x=>(match fzL f H x with|Y r=>Y (.ic t r)|O=>O)|x=>fzL f H x
def fzT(f:Nat->Option Nat)(H:Heap)(x:AV):Option AV:=match x with|.tu l=>(match HL (fzM f H) l with|Y r=>Y (.tu r)|O=>O)|x=>fzM f H x
def fzB(f:Nat->Option Nat)(H:Heap)(m b:Nat)(E:Z3):Option (Z3×List Prop):=match E with
 |.dead=>match Lj (b+1) m with|Z=>Y (.dead,[])|La=>O
 |.box _ cells1=>match H b with|some (.box ty cells)=>(match HL (fzM f H) cells with|some a=>Y (.box ty (Ik Sy a cells1).1,(Ik Sy a cells1).2)|none=>O)|_=>O
 |.arr .. => match H b with|some (.arr ty s els)=>Y (.arr ty s els,[])|_=>O
 |.mp _=>match H b with|some (.mp ks)=>Y (.mp ks,[])|_=>O
def Pm(f:Nat->Option Nat)(H:Heap)(m:Nat):List Nat->List Z3->Option (List Z3×List Prop)|[],[]=>Y ([],[])|b::l,E::r=>(match fzB f H m b E,Pm f H m l r with|some (B,p),some (rs,q)=>Y (B::rs,p++q)|_,_=>O)|_,_=>O
def upto:Nat->Nat->List Nat|_,0=>[]|k,n+1=>k::upto (k+1) n
def Oc:Nat->List Nat->Bool|_,[]=>Z|k,b::l=>(LO b k||(Lj 8000 b&&Lj b 15999))&&Oc (k+1) l
theorem Ty:∀(n k i:Nat),i<n->(upto k n)[i]?=Y (k+i)
 |0,_,_,h=>by omega
 |n+1,k,0,_=>rfl
 |n+1,k,i+1,h=>by
  simp only[upto,List.getElem?_cons_succ];rw[Ty n (k+1) i oq,show k+1+i=k+(i+1)from by omega]
theorem Z0m:∀(n k:Nat),(upto k n).length=n|0,_=>rfl|n+1,k=>by simp[upto,Z0m n (k+1)]
def Z47:∀{l:List Nat} {k i b:Nat},Oc k l=Z->l[i]?=Y b->b=k+i\/(8000<=b/\b<16000)
 |[],_,_,_,_,h=>by simp at h
 |c::l,k,i,b,hk,h=>by
  simp only[Oc,Lf,Lx]at hk;cases i with
  |zero =>
   simp at h;subst h;rcases hk.1 with h|h
   .simp_all
   .exact .inr ⟨Lk h.1,by have:=Lk h.2;omega⟩
  |succ i =>
   rcases Z47 hk.2 (by simpa using h)with h|h;all_goals omega
def AR:∀{l:List Nat} {m:List Z3} {b:Nat} {B:Z3},Bv (l.zip m) b=Y B->∃i:Nat,l[i]?=Y b/\m[i]?=Y B
 |[],_,_,_,h=>by simp[Bv]at h
 |_::_,[],_,_,h=>by simp[Bv]at h
 |c::l,C::m,b,B,h=>by
  simp only[LN,Bv]at h;split at h
  .rename_i e;cases h;exact⟨0,by simp[e],rfl⟩
  .obtain⟨i,a,d⟩:=AR h;exact⟨i+1,by simpa using a,by simpa using d⟩
def Zga{l:List Nat}:∀{m:List Z3} {b:Nat},l.length=m.length->Bv (l.zip m) b=O->b∉l:=by
 induction l with
 |nil=>grind
 |cons c l d =>
  intro m b a h;cases m with|nil=>cases a|cons B m =>have:=d (m:=m) (b:=b);simp only[LN,Bv]at h;simp_all;grind
def Ny(P:Program)(hints:List (Nat×List Hint))(a:List (Nat×Tg×Ex×Tg))(ids keep:List Nat)(fn:Func)(args:List AV)(pre:List Z3)(res:AV)(post:List Z3):Option ZL:=
 match fn.body with|none=>O|some c=>match Cp P hints a c ⟨args.map (HX (Io ids))++Lh (fn.ntmps-args.length) .any,Bv (ids.zip (pre.map (GL ids))),2⟩with|none=>O|some r=>match r.e with|.ext _=>O|_=>match Ru P r.s.tmps r.s.H fn.results.toList with|none=>O|some l=>match fzT (λb=>E5 b (upto 0 pre.length++keep) 0) r.s.H (SF l),Pm (λb=>E5 b (upto 0 pre.length++keep) 0) r.s.H pre.length (upto 0 pre.length++keep) post with|some x,some (bs,q)=>(match nodupB (upto 0 pre.length++keep)&&Lj pre.length 8000&&(nodupB ids&&Oc 0 ids&&LO ids.length pre.length)with|true=>Y ⟨r.e,r.s,r.ph++((Ij x res).2++q),r.eq++((Ij x res).1,res)::(bs.map G9).zip (post.map G9)⟩|false=>O)|_,_=>O
section
variable{Ow:Own}{Im0:Nat->Prop}{w0:World}{ρ ρ':ZM}{w:World}{Im t:Nat->Prop}{H:Heap}{clk:Nat}{f:Nat->Option Nat}
theorem Z5r{x v}{s:Nat}{els:List (List DV)}(I:Inv Ow Im0 w0 ρ w Im H clk)(r:∀g,Im g->t g)(hx:Zk ρ w Im x v)(h:EX H x=Y (s,els))(d:∀a n c,v=.slice (Y a) n c->n≠0->t a.block):CM w t (.sl s els) v:=by
 obtain⟨p,c,rfl,j,m,z,b⟩:=AH I hx h;by_cases l:els=[];subst l;exact .slNil _ _ _;rcases b with b|⟨q,rfl,hq,b⟩;grind;have hn:els.length≠0:=by grind
 refine .sl s els q els.length c (λi o=>(w.cell? ⟨q.block,q.off+(i*s+o),O⟩).getD undef) rfl m j (z l) hq (d q _ c rfl hn) ?_ ?_;grind;intro i e o y k ho;obtain⟨u,k1,k2⟩:=b i e o y k ho;rw[k1];exact k2.mono (Ext.refl _ _) r
theorem Z29(I:Inv Ow Im0 w0 ρ w Im H clk)(hf:∀b k β,f b=Y k->ρ b=Y β->ρ' k=Y β)(hi:∀g,Im g->t g)(hz:∀b β g,8000<=b->f b=O->live H b->ρ b=Y β->β.g=Y g->t g){x y:AV}{v}(i:Zk ρ w Im x v)(h:fzL f H x=Y y):Zk ρ' w t y v:=by
 unfold fzL at h;split at h;cases h;cases i with|d i=>exact .d (i.mono (Ext.refl _ _) hi)
 cases h;cases i with|rp l p q=>exact .rp l (hi _ p) (λj x i=>let ⟨v,k1,k2⟩:=q j x i;⟨v,k1,k2.mono (Ext.refl _ _) hi⟩)
 split at h;rename_i k o;cases h;obtain⟨g,s,n,l,rfl⟩:=NJ i;exact .pt (hf _ _ _ o l);cases h;rename_i b oo m;split at h;rename_i k o;cases h;cases i with|os l p q r h5=>exact .os (hf _ _ _ o l) p q r h5
 .rename_i o;simp only[PS]at h;split at h;rotate_left;cases h;rename_i u;split at h;rotate_left;cases h;rename_i ty s els hb;cases h;refine .d (Z5r I hi i (by simp[EX,hb]) λa n c hv hn=>?_);subst hv;generalize z:Value.slice (Y a) n c=vv at i;cases i with|os l p q r h5 =>injection z with e1 e2 e3;rcases h5 with h5|⟨g,hg,e,_⟩;omega;rw[<-e1]at e;cases e;exact hz b _ _ (Lk u) o ⟨_,hb,by simp⟩ l hg
 rename_i b;split at h;rename_i k o;cases h;cases i with|ow l p q r=>exact .ow (hf _ _ _ o l) p q r
 .rename_i o;simp only[PS]at h;split at h;rotate_left;cases h;rename_i u;split at h;rotate_left;cases h;rename_i ty s els hb;cases h;refine .d (Z5r I hi i (by simp[EX,hb]) λa n c hv hn=>?_);subst hv;generalize z:Value.slice (Y a) n c=vv at i;cases i with|ow l p q r =>injection z with e1 e2 e3;rcases r with r|⟨g,hg,e,_⟩;omega;rw[<-e1]at e;cases e;exact hz b _ _ (Lk u) o ⟨_,hb,by simp⟩ l hg
 cases h
theorem Z2U(I:Inv Ow Im0 w0 ρ w Im H clk)(j:∀b k β,f b=Y k->ρ b=Y β->ρ' k=Y β)(l:∀g,Im g->t g)(m:∀b β g,8000<=b->f b=O->live H b->ρ b=Y β->β.g=Y g->t g){x y:AV}{v}(c:Zk ρ w Im x v)(h:fzM f H x=Y y):Zk ρ' w t y v:=by
 unfold fzM at h;split at h
 .split at h;rotate_left;cases h;rename_i r d;cases h;obtain⟨h1,h2⟩:=Sw d;obtain⟨e,rfl,k1,n,k3⟩:=Hx c;refine .ag _ e oq n λi a u ha hu=>?_;grind[Z29]
 .split at h;rotate_left;cases h;rename_i r d;cases h;cases c with|ic c=>exact .ic (Z29 I j l m c d)
 grind[Z29]
theorem ZiW(I:Inv Ow Im0 w0 ρ w Im H clk)(hf:∀b k β,f b=Y k->ρ b=Y β->ρ' k=Y β)(hi:∀g,Im g->t g)(hz:∀b β g,8000<=b->f b=O->live H b->ρ b=Y β->β.g=Y g->t g){x y:AV}{v}(e:Zk ρ w Im x v)(h:fzT f H x=Y y):Zk ρ' w t y v:=by
 unfold fzT at h;split at h
 .split at h;rotate_left;cases h;rename_i r d;cases h;obtain⟨h1,h2⟩:=Sw d;cases e with|tu _ c k1 k3 =>refine .tu _ c oq λi a u ha hu=>?_;grind[Z2U]
 grind[Z2U]
theorem ZbK{m b}{E C:Z3}{p:List Prop}(h:fzB f H m b E=Y (C,p))(hE:E≠.dead):live H b:=by
 cases E with|dead=>grind|box d c =>simp only[fzB]at h;split at h;rename_i a;exact⟨_,a,by simp⟩;cases h|arr ty s els =>simp only[fzB]at h;split at h;rename_i a;exact⟨_,a,by simp⟩;cases h|mp ks =>simp only[fzB]at h;split at h;rename_i a;exact⟨_,a,by simp⟩;cases h
theorem Zh4(I:Inv Ow Im0 w0 ρ w Im H clk)(hf:∀b k β,f b=Y k->ρ b=Y β->ρ' k=Y β)(v:∀g,Im g->t g)(hz:∀b β g,8000<=b->f b=O->live H b->ρ b=Y β->β.g=Y g->t g){m b}{E C:Z3}{p:List Prop}(h:fzB f H m b E=Y (C,p))(x:B9 p)(hE:E≠.dead):∃β,ρ b=Y β/\RelB ρ' w t β C:=by
 cases E with|dead=>grind|box n d =>simp only[fzB]at h;split at h;rotate_left;cases h;rename_i ty cells c;split at h;rotate_left;cases h;rename_i cs j;cases h;obtain⟨β,a,h0,e,g,r,k1,z,k3,l,k4⟩:=I.blk b _ c;obtain⟨f1,f2⟩:=Sw j;obtain⟨c1,c2⟩:=Pt x;refine⟨β,a,by omega,e,g,r,k1,z,by omega,l,λo y u hy hu=>?_⟩;grind[Z2U,Z36]|arr n s1 q =>simp only[fzB]at h;split at h;rotate_left;cases h;rename_i ty s els c;cases h;obtain⟨β,a,i⟩:=I.blk b _ c;exact⟨β,a,RelB.arr_any (by rfl) i v⟩|mp ks =>simp only[fzB]at h;split at h;rotate_left;cases h;rename_i c;cases h;obtain⟨β,a,i⟩:=I.blk b _ c;exact⟨β,a,i⟩
theorem Z46{m}:∀{l:List Nat} {post a:List Z3} {q:List Prop},Pm f H m l post=Y (a,q)->B9 q->l.length=post.length/\a.length=post.length /\
  ∀(k:Nat) (E:Z3),post[k]?=Y E->∃(b:Nat) (C:Z3) (p:List Prop),l[k]?=Y b/\a[k]?=Y C/\fzB f H m b E=Y (C,p)/\B9 p
 |[],[],a,q,h,_=>by cases h;grind
 |b::l,E::post,a,q,h,hq=>by
  simp only[Pm]at h;split at h;rotate_left
  .cases h
  rename_i B p e q' hB c;cases h;obtain⟨q1,d⟩:=Hk.1 hq;obtain⟨h1,h2,h3⟩:=Z46 c d;grind
 |[],E::post,a,q,h,_=>by cases h
 |b::l,[],a,q,h,_=>by cases h
end
def Bb{P:Program}{f:Nat}{fn:Func}{args pre res post}(hints:List (Nat×List Hint)) cuts ids keep(hf:P.funcs[f]?=Y fn) fl{φ:Prop}(hφ:φ)(h1:Rp fl (Ny P hints cuts ids keep fn args pre res post)=φ)(h2:N1 fl (Ny P hints cuts ids keep fn args pre res post)=Nb fl (Ny P hints cuts ids keep fn args pre res post)):BorSpec P f args pre res post:=by
 rw[<-h1]at hφ;obtain⟨hφ,h2⟩:=TK hφ h2;clear h1;cases hr:Ny P hints cuts ids keep fn args pre res post with
 |none=>rw[hr]at hφ;exact hφ.elim
 |some r =>
  rw[hr]at hφ h2;have heq:EJ r.eq:=Au h2;have hph:B9 r.ph:=hφ;clear h2 hφ;unfold Ny at hr;split at hr;cases hr;rename_i c hb;split at hr;cases hr;rename_i q hq;split at hr;cases hr;rename_i hne;split at hr;cases hr;rename_i l hl;generalize hfin:upto 0 pre.length++keep=fin at hr;split at hr;rotate_left;cases hr;rename_i x bs qq hx hbs;split at hr;rotate_left;cases hr;rename_i hok;simp only[Lf]at hok;have hnd:=Mh hok.1.1;have h8:=Lk hok.1.2;have hidn:=Mh hok.2.1.1;have hido:=λi b h=>Z47 (i:=i) (b:=b) hok.2.1.2 h;have hidl:=Nat.eq_of_beq_eq_true hok.2.2;cases hr;obtain⟨hph1,hph'⟩:=Hk.1 hph;obtain⟨hph2,hph3⟩:=Hk.1 hph';have heq1:=heq.left;have hxe:(Ij x res).1=res:=heq.right ((Ij x res).1,res) pq;obtain⟨b1,b2,b3⟩:=Z46 hbs hph3;have hbe:bs=post:=by
   apply LB;intro i;by_cases hi:i<bs.length;have hi':i<post.length:=by omega
   have:(G9 bs[i],G9 post[i])∈(bs.map G9).zip (post.map G9):=by(refine List.mem_iff_getElem?.2 ⟨i, ?_⟩;simp[List.getElem?_zip_eq_some,hi,hi'])
   have:=Z2J (heq.right (G9 bs[i],G9 post[i]) (List.mem_cons_of_mem _ this));grind;grind
  subst hbe;have hfl:∀k,k<pre.length->fin[k]?=Y k:=by grind[Z0m,Ty]
  have hfm:pre.length<=fin.length:=by grind
  intro w Im ρ vs hIm hsz hρ hinj hbnd hpre hargs;refine calls_of_wp hf hb ?_;let ρ0:ZM:=λb=>match E5 b ids 0 with|Y k=>ρ k|O=>O
  have hρ0:∀b β,ρ0 b=Y β->∃k:Nat,ids[k]?=Y b/\ρ k=Y β:=by(intro b β h;simp only[ρ0]at h;split at h;rename_i k hk;obtain⟨_,q2⟩:=IR hk;grind;cases h)
  have hρi:∀(k b:Nat),ids[k]?=Y b->ρ0 b=ρ k:=by
   intro k b hk;simp only[ρ0];cases hx:E5 b ids 0 with|none=>exact absurd (Lv hk) (Ds hx)|some k2 =>obtain⟨_,q⟩:=IR hx;grind[Ad]
  have hren:∀k β,ρ k=Y β->ρ0 (ids.getD k 0)=Y β:=by grind
  have hS:Sys (GZ ρ) Im w (args.map (HX (Io ids))++Lh (fn.ntmps-args.length) .any) (Bv (ids.zip (pre.map (GL ids)))) 2 {tmps:=vs++Array.replicate (fn.ntmps-vs.size) undef,defers:=[]} w:=by
   refine⟨ρ0,Im,⟨Kept.refl _ _,(λb b' β β' g _ _ h1 h2 h3 h4=>?_),(λb β g _ h h'=>?_),(λb β g h h'=>?_),(λb β g h h'=>?_),hIm,(λg h=>.inl h),(λb B h=>?_),(λb hb h=>?_),by omega,λb β hb h=>?_⟩,⟨by simp[hsz],λi y v hy hv=>?_,rfl⟩⟩;obtain⟨k,k1,k2⟩:=hρ0 b β h1;obtain⟨k',k1',k2'⟩:=hρ0 b' β' h2;grind;grind;grind;obtain⟨k,k1,k2⟩:=hρ0 b β h;exact .inr ⟨k,β,k2,h'⟩;obtain⟨i,h1,h2⟩:=AR h;simp only[Li,Ln]at h2;obtain⟨C,h2,rfl⟩:=h2;obtain⟨β,m1,m2⟩:=hpre i C h2;exact⟨β,by grind,Z14 (λ_ h=>h) hren m2⟩;cases hc:ρ0 b<;>grind;obtain⟨k,k1,k2⟩:=hρ0 b β h;rcases hido k b k1 with q|q;have:b=k:=by omega
   subst this;exact k2;omega;rw[List.getElem?_append]at hy;simp only[Array.getElem?_append]at hv;rw[hsz]at hv;simp only[LI]at hy;split at hy;rename_i hi;rw[if_pos hi]at hv;simp only[Li,Ln]at hy;obtain⟨z,hz,rfl⟩:=hy;obtain⟨q1,q2,q3⟩:=O6 (w:=w) (Im:=Im) (Im':=Im) hren;exact Me (λ_ h=>h) q1 q2 q3 (hargs i z v hz hv);have:=Lv hy;rw[(List.mem_replicate.1 this).2];exact .any _
  refine wp_mono (MH hq hph1 heq1 _ _ _ _ _ hS) ?_;rintro e a' w' ⟨rfl,hS'⟩;have post:a'.defers=[]/\∃v,(results fn a'.tmps).run P w'=.ok v w'/\∃u,Ending.returned v=.returned u/\Kept (OwA (GZ ρ)) w w'/\∃(ρ':ZM) (Im':Nat->Prop),(∀k β,ρ k=Y β->ρ' k=Y β)/\(∀k β,ρ' k=Y β->k<bs.length) /\
   (∀g,Im' g->Im g\/w.heap.size<=g\/OwA (GZ ρ) g)/\(∀g,Im' g->g<w'.heap.size) /\
   (∀k β g,ρ' k=Y β->β.g=Y g->g<w'.heap.size/\(w.heap.size<=g\/OwA (GZ ρ) g)) /\
   (∀k β g,live (hL bs) k->ρ' k=Y β->β.g=Y g->¬ Im' g) /\
   (∀k k' β β' g,live (hL bs) k->live (hL bs) k'->ρ' k=Y β->ρ' k'=Y β'->β.g=Y g->β'.g=Y g->k=k') /\
   (∀(k:Nat) (B:Z3),bs[k]?=Y B->∃β,ρ' k=Y β/\RelB ρ' w' Im' β B)/\Zk ρ' w' Im' res u:=by
   obtain⟨ρf,Imf,I,T⟩:=hS';obtain⟨v,h1,h2⟩:=Z1U I T hl;let ρ':ZM:=λk=>if k<pre.length then ρ k else match fin[k]? with|Y b=>ρf b|O=>O
   have hlow:∀k,k<pre.length->ρ' k=ρ k:=λk hk=>by grind
   have hhigh:∀(k b:Nat),¬ k<pre.length->fin[k]?=Y b->ρ' k=ρf b:=λk b hk hb=>by grind
   have hname:∀(k b:Nat) (β:Bi),fin[k]?=Y b->ρf b=Y β->ρ' k=Y β:=by
    intro k b β hb hβ;by_cases hk:k<pre.length
    .rw[hfl k hk]at hb;cases hb;rw[hlow k hk];exact I.one.2 k β oq hβ
    .grind
   have hnm:∀b k β,E5 b fin 0=Y k->ρf b=Y β->ρ' k=Y β:=by
    intro b k β hk hβ;obtain⟨_,q2⟩:=IR hk;exact hname k b β (by simpa using q2) hβ
   let Im':Nat->Prop:=λg=>Imf g\/∃b β,8000<=b/\E5 b fin 0=O/\live q.s.H b/\ρf b=Y β/\β.g=Y g;have hi:∀g,Imf g->Im' g:=λg h=>.inl h;have hz:∀b β g,8000<=b->E5 b fin 0=O->live q.s.H b->ρf b=Y β->β.g=Y g->Im' g:=λb β g k1 k2 k3 k4 k5=>.inr ⟨b,β,k1,k2,k3,k4,k5⟩;have hlv:∀k,live (hL bs) k->∃b β,fin[k]?=Y b/\live q.s.H b/\ρf b=Y β/\ρ' k=Y β:=by
    rintro k ⟨E,hE,hd⟩;obtain⟨b,C,p,k1,k2,k3,k4⟩:=b3 k E hE;have hlb:=ZbK k3 hd;obtain⟨B,hB,_⟩:=id hlb;obtain⟨β,m1,_⟩:=I.blk b B hB;exact⟨b,β,k1,hlb,m1,hname k b β k1 m1⟩
   refine⟨T.defers,v,h1,v,rfl,I.kept,ρ',Im', ?_, ?_, ?_, ?_, ?_, ?_, ?_, ?_, ?_⟩
   .grind
   .grind
   .rintro g (hg|⟨b,β,_,_,_,hb,hg⟩)
    .exact I.im0 g hg
    .exact(I.own b β g hb hg).elim (λh=>.inr (.inl h.1)) (λh=>.inr (.inr h))
   .rintro g (hg|⟨b,β,_,_,_,hb,hg⟩)
    .exact I.imb g hg
    .exact I.bnd b β g hb hg
   .intro k β g hk hg;by_cases hkp:k<pre.length
    .rw[hlow k hkp]at hk;exact⟨Lw (hbnd k β g hk hg).1 I.kept.size,.inr ⟨k,β,hk,hg⟩⟩
    .simp only[ρ',if_neg hkp]at hk;split at hk
     .rename_i b hb;exact⟨I.bnd b β g hk hg,(I.own b β g hk hg).imp (·.1) (λh=>h)⟩
     .cases hk
   .intro k β g hlk hk hg;obtain⟨b,β2,k1,k2,k3,k4⟩:=hlv k hlk;rw[hk]at k4;cases k4;rintro(h|⟨b2,β3,_,m2,m3,m4,m5⟩)
    .exact I.notIm b β g k2 k3 hg h
    .have:=I.inj b b2 β β3 g k2 m3 k3 m4 hg m5;subst this;exact absurd (Lv k1) (Ds m2)
   .intro k k' β β' g l1 l2 q1 q2 q3 q4;obtain⟨b,β2,k1,k2,k3,k4⟩:=hlv k l1;obtain⟨b',β2',k1',k2',k3',k4'⟩:=hlv k' l2;rw[q1]at k4;cases k4;rw[q2]at k4';cases k4';have:=I.inj b b' β β' g k2 k2' k3 k3' q3 q4;grind[Ad]
   .intro k B hB;by_cases hd:B=.dead
    .subst hd;obtain⟨b,C,p,k1,k2,k3,k4⟩:=b3 k .dead hB;simp only[fzB]at k3;split at k3;rotate_left
     .cases k3
     rename_i hbm;have hbm:=Lk hbm;have e:=Ad hnd k1 (hfl b oq);subst e;obtain⟨β,m1,_⟩:=hpre k _ (List.getElem?_eq_getElem oq);exact⟨β,by grind,trivial⟩
    .obtain⟨b,C,p,k1,k2,k3,k4⟩:=b3 k B hB;rw[hB]at k2;cases k2;obtain⟨β,m1,m2⟩:=Zh4 I hnm hi hz k3 k4 hd;grind
   .grind[Z5n,ZiW]
  cases hqe:q.e with|nrm=>exact post|ret=>exact post|ext n=>grind
section
variable{hs:List (Nat×List Hint)}{cs:List (Nat×Tg×Ex×Tg)}{φ0:Prop}
theorem borF{P:Program}{f:Nat}{fn:Func}{args pre res post} ids keep(c:P.funcs[f]?=Y fn) fl(h:Fq hs cs φ0)(a:Mq fl (Ny P hs cs ids keep fn args pre res post)=φ0:=by kernel_rfl)(b:N1 fl (Ny P hs cs ids keep fn args pre res post)=Nb fl (Ny P hs cs ids keep fn args pre res post):=by kernel_rfl):BorSpec P f args pre res post:=
 Bb hs cs ids keep c fl (OR (Eq.mpr a h.p)) rfl b
theorem lF{P:Program}{f:Nat}{fn:Func}{args pre res post}(c:P.funcs[f]?=Y fn) fl(h:Fq hs cs φ0)(a:Mq fl (Ny P hs cs [0] [] fn args pre res post)=φ0:=by kernel_rfl)(b:N1 fl (Ny P hs cs [0] [] fn args pre res post)=Nb fl (Ny P hs cs [0] [] fn args pre res post):=by kernel_rfl):BorSpec P f args pre res post:=
 Bb hs cs [0] [] c fl (OR (Eq.mpr a h.p)) rfl b
end
end Go.Sx
namespace Go.Proofs.YtkmnngahjnkdmaaGreat
open Go.Sx
structure Tape where
 l:List Int
 at':Int
 deriving Inhabited
def Tape.b(t:Tape):Z3:=.box 37 [.d (.sl 1 (t.l.map iD)),nI t.at']
def C9(t:Tape):Prop:=t.l.length<=140737488355328/\0<=t.at'/\t.at'<=1048576
def Tape.next(t:Tape)(n:Int):Int:=if n<1 then 0 else(if t.at'<t.l.length then t.l.getD t.at'.toNat X else t.at'*7+3)%n
def Tape.step(t:Tape)(n:Int):Tape:=if n<1 then t else⟨t.l,t.at'+1⟩
def Z7i(v:Int){n:Int}(h:1<=n):-n<v.tmod n/\v.tmod n<n:=by
 by_cases a:0<=v;rw[Lg a];have:=Lp v (b:=n) oq;have:=Lo v (b:=n) oq;omega;have e:v.tmod n=-((-v).tmod n):=by rw[Int.neg_tmod];omega
 rw[e,Lg oq];have:=Lp (-v) (b:=n) oq;have:=Lo (-v) (b:=n) oq;omega
def Zfj(v:Int){n:Int}(h:1<=n):(v.tmod n+n).tmod n=v%n:=by
 have hr:=Z7i v h;rw[Lg oq,Ly];by_cases a:0<=v;rw[Lg a,Lz];have e:v=n*v.tdiv n+v.tmod n:=(Int.mul_tdiv_add_tmod v n).symm;conv=>rhs;rw[e]
 rw[Int.mul_add_emod_self_left]
def BJ t(n:Int)(e:C9 t)(hn:n<=1099511627776)(d:-1099511627776<=n):LP 11 [.pt 0 0 0,nI n] [t.b] (nI (t.next n)) [(t.step n).b]:=by
 unfold C9 at e;have h1:=λh=>Z7i (t.l.getD t.at'.toNat X) (n:=n) h;have h2:=λh=>Zfj (t.l.getD t.at'.toNat X) (n:=n) h;have h3:1<=n->0<=(t.at'*7+3)%n/\(t.at'*7+3)%n<n:=λh=>⟨Lp _ oq,Lo _ oq⟩;have h4:((t.at'*7+3)%n+n)%n=(t.at'*7+3)%n:=by rw[Ly,Lz]
 rcases bb (L (n<1))with hc0|hc0<;>have a:=hc0<;>simp only[bs]at a;rw[show t.step n=t from by simp[Tape.next,Tape.step, *]];exact lF func11 [Z]<|Ft 7 hc0<|Fa (by simp[Tape.next,Tape.step, *]:0=t.next n) Fz;have c {h_ c_ p_} (f:Fq h_ c_ p_):=Ff 7 hc0<|Fi 12 (t.at'*7)<|Fi 13 (t.at'*(7:Int)+3)<|Fl 22 iD t.l f;rcases bb (L (t.at'<(t.l.length:Int)))with hc1|hc1<;>have b:=hc1<;>simp only[bs]at b;rw[show t.step n=Tape.mk t.l (t.at'+(1:Int))from by simp[Tape.next,Tape.step, *]];exact lF func11 [Z] (c (Ft 23 hc1<|Fe 32 iD t.l t.at'<|Fi 38 (t.at'+1)<|Fo (n≠0)<|Fi 45 ((t.l.getD t.at'.toNat X).tmod n+n)<|Fg 47 (Lg oq:((t.l.getD t.at'.toNat X).tmod n+n).tmod n=((t.l.getD t.at'.toNat X).tmod n+n)%n)<|Fo (n≠0)<|Fa (by grind[Tape.next,Tape.step]:((t.l.getD t.at'.toNat X).tmod n+n)%n=t.next n) Fz));rw[show t.step n=Tape.mk t.l (t.at'+(1:Int))from by simp[Tape.next,Tape.step, *]];exact lF func11 [Z] (c (Ff 23 hc1<|Fi 38 (t.at'+1)<|Fg 43 (Lg oq:(t.at'*(7:Int)+3).tmod n=(t.at'*(7:Int)+3)%n)<|Fo (n≠0)<|Fi 45 ((t.at'*(7:Int)+3)%n+n)<|Fg 47 (Lg oq:((t.at'*(7:Int)+3)%n+n).tmod n=((t.at'*(7:Int)+3)%n+n)%n)<|Fo (n≠0)<|Fa (by simp[Tape.next,Tape.step, *]:((t.at'*(7:Int)+3)%n+n)%n=t.next n) Fz))
def Z0O t(ht:C9 t):LP 27 [.pt 0 0 0] [t.b] (bL (L ((t.l.length:Int)<=t.at'))) [t.b]:=by exact lF func27 []<|Fl 11 iD t.l Fz
def Tape.C(t:Tape):ZU:=⟨[16,16,20,32].getD (t.next 4).toNat X,[8,12,16,20,24].getD ((t.step 4).next 5).toNat X⟩
def H8(t:Tape){n:Int}(h:1<=n):0<=t.next n/\t.next n<n:=by
 unfold Tape.next
 rw[if_neg oq];exact⟨Lp _ oq,Lo _ oq⟩
def step_ok{t}(a:C9 t) n(h:t.at'<1048576):C9 (t.step n):=by unfold C9 at a⊢;unfold Tape.step;split;exact a;simp only;omega
def Zh2 t(a:C9 t)(ha:t.at'<=1000000):LP 60 [.pt 0 0 0] [t.b] (t.C.av) [((t.step 4).step 5).b]:=by have h1:=H8 t (n:=4) dd;have h2:=H8 (t.step 4) (n:=5) dd;have h3:=step_ok a 4 oq;exact lF func60 []<|Fh 7 [.el (iD ([16,16,20,32].getD (t.next 4).toNat X))]<|Fh 12 [.el (iD ([8,12,16,20,24].getD ((t.step 4).next 5).toNat X))]<|Fs 3 (M iD [16,16,20,32])<|Fp 5 (@BJ t (4) aa oq oq)<|Fa (by simp[Tape.C, *]:0<=t.next 4/\(t.next 4).toNat<(M iD [16,16,20,32]).length)<|Fa (by grind[Tape.C]:(M iD [16,16,20,32])[(t.next 4).toNat]?=Y (iD ([16,16,20,32].getD (t.next 4).toNat X)))<|Fs 8 (M iD [8,12,16,20,24])<|Fp 10 (@BJ (t.step 4) (5) aa oq oq)<|Fa (by simp[Tape.C, *]:0<=(t.step 4).next 5/\((t.step 4).next 5).toNat<(M iD [8,12,16,20,24]).length)<|Fa (by grind[Tape.C]:(M iD [8,12,16,20,24])[((t.step 4).next 5).toNat]?=Y (iD ([8,12,16,20,24].getD ((t.step 4).next 5).toNat X))) Fz
end Go.Proofs.YtkmnngahjnkdmaaGreat
