/-
 The statement CollectRoom: part 8.
 Conditions: none.
-/
import Derived.Test.YtgedmeaemofdkaaGreatU7
set_option maxRecDepth 100000
set_option maxHeartbeats 2000000
set_option linter.all false
open Inhabited renaming default->X
open Option renaming some->Y,none->L,map_eq_some_iff->Lo,map_some->LR
open Bool renaming true->Z,false->La,and_eq_true->Lg,eq_iff_iff->Lv,or_eq_true->LB
open List renaming map->M,range->Lb,filter->Lc,mem_range->Ld,take->Le,replicate->Lh,getElem?_map->Li,find?_eq_none->Ll,find?_range_eq_some->Lm,map_set->Ln,map_append->Lr,map_drop->Ls,map_take->Lt,mem_of_getElem?->Lu,append_nil->Lw,getD->Lx,length_map->Ly,map_congr_left->Lz,append_assoc->LF,ext_getElem?->LG,filter_append->LH,filter_cons->LI,filter_nil->LJ,length_filter_le->LK,mem_append->LL,mem_cons->LM,take_length->LN
open Decidable renaming decide->O
open Int renaming tmod_eq_emod_of_nonneg->Lf,emod_lt_of_pos->Lp,emod_nonneg->Lq,add_emod_right->LC,emod_emod->LD
open Nat renaming ble->Lj,le_of_ble_eq_true->Lk,lt_of_lt_of_le->LA,beq->LO,le_trans->LQ
open Go.Proofs.Tryz
namespace Go.Proofs.YtgedmeaemofdkaaGreat
open Go.Sx
def BH(h:Heap)(n k:Int):Heap×Int×Bool:=
 if 0<=first h.P k/\Bj h.P+k<=CW h.C then(⟨h.C,h.W,(GE h.C h.P (first h.P k) h.S n).1,h.S,h.B⟩,4096+first h.P k*h.C.pw,Z)else(B6,0,La)
def Z5d(h:Heap)(n k:Int)(q:Z8 h=Z)(hk:k=need h.C n)(l:1<=k):GP 167 [h.av,int n,int k] La (.tu [(BH h n k).1.av,u64 (BH h n k).2.1,bool (BH h n k).2.2]) []:=by
 have r:=B1 q;obtain⟨g,o2,o3,o4,o5,o6,o7,o8,o9⟩:=r;have hr:=Z1t h.P k;have c:0<=first h.P k->first h.P k+k<=h.P.length:=λi=>(HS i).2.1
 have j:=Z7P h.P;have m:=Z6N g;have p:=A9 h.C n;have o:0<=first h.P k->0<=first h.P k*h.C.pw/\first h.P k*h.C.pw+h.C.pw<=4096:=λf=>HY g f (by have:=c f;omega)
 by_cases a:0<=first h.P k/\Bj h.P+k<=CW h.C
 have b:BH h n k=(⟨h.C,h.W,(GE h.C h.P (first h.P k) h.S n).1,h.S,h.B⟩,4096+first h.P k*h.C.pw,Z):=by rw[BH,if_pos a]
 rw[show BH h n k=(Heap.mk h.C h.W (GE h.C h.P (first h.P k) h.S n).1 h.S h.B,(4096:Int)+first h.P k*h.C.pw,Z)from by rw[b]];let d:=!decide (first h.P k<0);exact gF [] func167 [] (Fc 13 (@D2 h.P k oq) (FcG 19 d (λa=>by(try simp only[bs]at a);exact@Sg h.P oq) (FiG 21 d ((↑(Bj h.P):Int)+k) (FcG 24 d (λa=>by(try simp only[bs]at a);exact@MJ h.C) (Ffb 26 (O (first h.P k<0)||O (CW h.C<(↑(Bj h.P):Int)+k)) (Fc 37 (@ZfI h.C h.P (first h.P k) h.S n oq) (Fi 46 (first h.P k*h.C.pw) (Fi 47 (4096+first h.P k*h.C.pw) (Fv 48 (4096+first h.P k*h.C.pw) Fz)))))))));have b:BH h n k=(B6,0,La):=by rw[BH,if_neg a]
 rw[b];let e:=!decide (first h.P k<0);exact gF [] func167 [] (Fc 13 (@D2 h.P k oq) (FcG 19 e (λa=>by(try simp only[bs]at a);exact@Sg h.P oq) (FiG 21 e ((↑(Bj h.P):Int)+k) (FcG 24 e (λa=>by(try simp only[bs]at a);exact@MJ h.C) (Ftb 26 (O (first h.P k<0)||O (CW h.C<(↑(Bj h.P):Int)+k)) (Fnl (Fnl Fz)))))))
def Za1{h:Heap}{n:Int}(g:Z8 h=Z)(hn:1<=n/\n<=256):0<=(Bf h n).2.1/\(Bf h n).2.1<=8192/\((Bf h n).2.2=Z->(Bf h n).1.W=h.W/\4096<=(Bf h n).2.1)/\((Bf h n).2.2=La->(Bf h n).1=B6):=by
 obtain⟨m,o2,o3,o4,o5,o6,o7,o8,q⟩:=B1 g;have hb:=(I5.1 g).2.2.2.2.1;have i:=λp=>Ea g (j:=h.B.toNat) p;have a:=λc=>NT (h:=h) q c;have d:0<=h.B->0<=h.B*h.C.pw/\h.B*h.C.pw+h.C.pw<=4096:=λb=>HY m b oq;have f:0<=first h.P 1->0<=first h.P 1*h.C.pw/\first h.P 1*h.C.pw+h.C.pw<=4096:=λb=>HY m b (by have:=a b;omega)
 unfold Bf;split;rename_i c;unfold IL at c;have o:=d c.1;have k:=i oq;refine⟨by simp only;omega,by simp only;omega,λ_=>⟨rfl,by simp only;omega⟩,λe=>by cases e⟩;split;rename_i l;have o:=f l.1;have k:=congrArg Z0.U (a l.1).2.2.2;simp only at k;refine⟨by simp only;omega,by simp only;omega,λ_=>⟨rfl,by simp only;omega⟩,λe=>by cases e⟩;exact⟨by simp,by simp,(λe=>nomatch e),λ_=>rfl⟩
def Zef{h:Heap}{n k}(b:Z8 h=Z):0<=(BH h n k).2.1/\(BH h n k).2.1<=8192/\((BH h n k).2.2=Z->(BH h n k).1.W=h.W/\4096<=(BH h n k).2.1)/\((BH h n k).2.2=La->(BH h n k).1=B6):=by obtain⟨d,o2,o3,o4,o5,o6,o7,o8,o9⟩:=B1 b;unfold BH;split;rename_i a;have h3:=(HS a.1);have h1:=HY (c:=h.C) (i:=first h.P k) d a.1 oq;exact⟨by simp only;omega,by simp only;omega,λ_=>⟨rfl,by simp only;omega⟩,λe=>by cases e⟩;exact⟨by simp,by simp,(λe=>nomatch e),λ_=>rfl⟩
def Ch(h:Heap)(a:Zy):Heap×Int×Bool:=if 0<need h.C (Z5 a)then BH h (Z5 a) (need h.C (Z5 a))else Bf h (Z5 a)
def ZT(h:Heap)(a:Zy):Heap×Int×Int:=
 if Z8 h=Z/\EU h.C a=Z then(if(Ch h a).2.2=Z then((BN (Ch h a).1 (Ch h a).2.1 a).1,(Ch h a).2.1,0)else(B6,0,3))else(B6,0,1)
def AQ:Zx []:=λw h=>by simp at h
def DY{c}{a:Zy}(h:EU c a=Z):ZR a=Z/\1<=Z5 a/\Z5 a<=256/\0<=need c (Z5 a)/\a.K≠0:=by
 simp only[EU,Lg,decide_eq_true_eq]at h;have hv:=Gl.1 h.1.1;have hn:=A9 c (Z5 a);have hs:Z5 a=a.length+1:=by rw[Z5,if_pos h.1.1]
 exact⟨h.1.1,by omega,by omega,by omega,h.1.2⟩
def Z8x(h:Heap)(a:Zy)(p:Zx h.W)(hm:0<=a.map/\a.map<=4294967295):GP 114 [h.av,a.av] La (.tu [(ZT h a).1.av,u64 (ZT h a).2.1,int (ZT h a).2.2]) []:=by
 by_cases f:Z8 h=Z;cases ha:EU h.C a with
 |false =>
  have b:ZT h a=(B6,0,1):=by rw[ZT,if_neg (by rw[ha];simp)]
  rw[b];exact gF [] func114 [] (Fc 13 (@CL h) (FcG 19 (!!Z8 h) (λd=>by(try simp only[bs]at d);exact@Ds h.C a aa) (Fts 21 (!Z8 h||!EU h.C a) (Fnl (Fnl Fz)))))
 |true =>
  obtain⟨a1,q,r,a4,a5⟩:=DY ha;have l:=Za1 f ⟨q,r⟩;have m:=Zef (n:=Z5 a) (k:=need h.C (Z5 a)) f;have w1:Zx (Bf h (Z5 a)).1.W:=by
   cases e:(Bf h (Z5 a)).2.2 with|true=>rw[(l.2.2.1 e).1];exact p|false=>rw[l.2.2.2 e];exact AQ
  have w2:Zx (BH h (Z5 a) (need h.C (Z5 a))).1.W:=by
   cases e:(BH h (Z5 a) (need h.C (Z5 a))).2.2 with|true=>rw[(m.2.2.1 e).1];exact p|false=>rw[m.2.2.2 e];exact AQ
  by_cases o:0<need h.C (Z5 a);have b:Ch h a=BH h (Z5 a) (need h.C (Z5 a)):=by rw[Ch,if_pos o]
  have i {h_ c_ p_} (g:Fq h_ c_ p_):=Fc 13 (@CL h) (FcG 19 (!!Z8 h) (λd=>by(try simp only[bs]at d);exact@Ds h.C a aa) (Ffs 21 (!Z8 h||!EU h.C a) (Fc 24 (@I8 a aa) (Fc 28 (@NR h.C (Z5 a)) (Fc 32 (@PH h (Z5 a) aa oq) (Ftb 37 (O (0<need h.C (Z5 a))) (Fc 42 (@Z5d h (Z5 a) (need h.C (Z5 a)) aa (by rfl) aa) g)))))));rcases bb (!(BH h (Z5 a) (need h.C (Z5 a))).2.2)with hc0|hc0<;>have c:=hc0<;>simp only[bs]at c;exact gF [] func114 (fO 5) (i (Ft 47 hc0 (Fnl (Fnl (Fa (by simp[ZT,b,B6, *]:0=(ZT h a).1.C.pw) (Fa (by simp[ZT,b,B6, *]:0=(ZT h a).1.C.pg) (Fa (by simp[ZT,b,B6, *]:[]=M wdv (ZT h a).1.W) (Fa (by simp[ZT,b,B6, *]:[]=M Z0.dv (ZT h a).1.P) (Fa (by simp[ZT,b,B6, *]:0=(ZT h a).1.S) (Fa (by simp[ZT,b,B6, *]:0=(ZT h a).1.B) (Fa (by simp[ZT,b,B6, *]:0=(ZT h a).2.1) (Fa (by simp[ZT,b,B6, *]:3=(ZT h a).2.2) Fz))))))))))));rw[show ZT h a=((BN (BH h (Z5 a) (need h.C (Z5 a))).1 (BH h (Z5 a) (need h.C (Z5 a))).2.1 a).1,(BH h (Z5 a) (need h.C (Z5 a))).2.1,(0:Int))from by simp[ZT,b,B6, *]];exact gF [] func114 [] (i (Ff 47 hc0 (Fc 53 (@Z4S ((BH h (Z5 a) (need h.C (Z5 a))).1) ((BH h (Z5 a) (need h.C (Z5 a))).2.1) a aa oq aa) Fz)));have b:Ch h a=Bf h (Z5 a):=by rw[Ch,if_neg o]
  have j {h_ c_ p_} (g:Fq h_ c_ p_):=Fc 13 (@CL h) (FcG 19 (!!Z8 h) (λd=>by(try simp only[bs]at d);exact@Ds h.C a aa) (Ffs 21 (!Z8 h||!EU h.C a) (Fc 24 (@I8 a aa) (Fc 28 (@NR h.C (Z5 a)) (Fc 32 (@PH h (Z5 a) aa oq) (Ffb 37 (O (0<need h.C (Z5 a))) g))))));rcases bb (!(Bf h (Z5 a)).2.2)with hc0|hc0<;>have c:=hc0<;>simp only[bs]at c;exact gF [] func114 (fO 5) (j (Ft 47 hc0 (Fnl (Fnl (Fa (by simp[ZT,b,B6, *]:0=(ZT h a).1.C.pw) (Fa (by simp[ZT,b,B6, *]:0=(ZT h a).1.C.pg) (Fa (by simp[ZT,b,B6, *]:[]=M wdv (ZT h a).1.W) (Fa (by simp[ZT,b,B6, *]:[]=M Z0.dv (ZT h a).1.P) (Fa (by simp[ZT,b,B6, *]:0=(ZT h a).1.S) (Fa (by simp[ZT,b,B6, *]:0=(ZT h a).1.B) (Fa (by simp[ZT,b,B6, *]:0=(ZT h a).2.1) (Fa (by simp[ZT,b,B6, *]:3=(ZT h a).2.2) Fz))))))))))));rw[show ZT h a=((BN (Bf h (Z5 a)).1 (Bf h (Z5 a)).2.1 a).1,(Bf h (Z5 a)).2.1,(0:Int))from by simp[ZT,b,B6, *]];exact gF [] func114 [] (j (Ff 47 hc0 (Fc 53 (@Z4S ((Bf h (Z5 a)).1) ((Bf h (Z5 a)).2.1) a aa oq aa) Fz)))
 have s:Z8 h=La:=by simpa using f
 have b:ZT h a=(B6,0,1):=by rw[ZT,if_neg (by rw[s];simp)]
 rw[b];exact gF [] func114 [] (Fc 13 (@CL h) (FcG 19 (!!Z8 h) (λd=>by(try simp only[bs]at d);exact@Ds h.C a aa) (Fts 21 (!Z8 h||!EU h.C a) (Fnl (Fnl Fz)))))
def pg(h:Heap)(i:Int):Z0:=h.P.getD i.toNat X
def Bb(h:Heap)(i o:Int):Int:=(address h.C i o).1
def AN{h:Heap}(b:Zs h.C=Z)(i o:Int):0<=Bb h i o/\Bb h i o<=8192:=by have ha:=HM b;unfold Bb address;rw[if_pos b];split;rename_i a;have a:=HU.1 a;have:=OZ b a.1 a.2.1 a.2.2.1 a.2.2.2;simp only;omega;simp
def Er(h:Heap)(i:Int):Nat->Int->Option (List Int)|0,_=>Y []|f+1,o=>if o<(pg h i).U then(if(Z9 h (Bb h i o)).2=0 then(if(pg h i).K=2 then Y [Bb h i o]else(Er h i f (o+Z5 (Z9 h (Bb h i o)).1)).map (Bb h i o :: ·))else L)else Y []
def A6(h:Heap)(i o:Int)(acc:List Int):Tg:=⟨tm 70 [(1,int i),(2,.pt 8002 0 0),(4,.d (.sl 0 [])),(5,int 0),(6,.pt 32006 0 0),(7,.ow 48007),(8,int o)],
 [(48007,.arr 35 1 (acc.map wdv)),(32006,.box 86 [int (pg h i).K,int (pg h i).S,int (pg h i).U,int (pg h i).N]),(8002,.box 28 h.cells)],60⟩
def Dk(acc:List Int):Tg:=⟨tm 70 [(7,.ow 48007)],[(48007,.arr 35 1 (acc.map wdv))],60⟩
section
variable (h:Heap) (i o:Int) (acc:List Int) (b:Zx h.W) (a:Z8 h=Z) (hl:acc.length<=1048576) (c:0<=o/\o<=1000)
include b a hl c
theorem ZaR(h1:o<(pg h i).U)(f:(Z9 h (Bb h i o)).2=0)(h3:(pg h i).K≠2):CP (Zo f147 0) (A6 h i o acc).st .nrm (A6 h i (o+Z5 (Z9 h (Bb h i o)).1) (acc++[Bb h i o])).st:=by have j:=B1 a;have e:=AN j.1 i o;have k:=Ic (Z9 h (Bb h i o)).1;have g:=IC b (Bb h i o);unfold Bb at e k g f;let d:=address h.C i o;exact sF [(512061,48007)] [] (Fh 61 [.els (M wdv (acc++[d.1]))] (Ftb 41 (O (o<(pg h i).U)) (Fc 47 (@O0 h.C i o) (Fc 53 (@N5 h (d.1) aa oq) (Ffb 57 ((Z9 h d.1).2 != 0) (Fs 60 (M wdv [d.1]) (Fa (by(simp[Bb, *];omega):(M wdv acc).length+(M wdv [d.1]).length<=2^30) (Fa (by simp[Bb,Lt,Ls,Ln,Lr,wdv,idv]:M wdv acc++M wdv [d.1]=M wdv (acc++[d.1])) (Ffb 64 ((pg h i).K==2) (Fc 67 (@I8 ((Z9 h d.1).1) aa) (Fi 68 (o+Z5 (Z9 h d.1).1) Fz)))))))))))
theorem ZhG(h1:o<(pg h i).U)(f:(Z9 h (Bb h i o)).2=0)(h3:(pg h i).K=2):CP (Zo f147 0) (A6 h i o acc).st (.ext 0) (Dk (acc++[Bb h i o])).st:=by have j:=B1 a;have e:=AN j.1 i o;have g:=IC b (Bb h i o);unfold Bb at e g f;let d:=address h.C i o;exact sF [(512061,48007)] [] (Fh 61 [.els (M wdv (acc++[d.1]))] (Ftb 41 (O (o<(pg h i).U)) (Fc 47 (@O0 h.C i o) (Fc 53 (@N5 h (d.1) aa oq) (Ffb 57 ((Z9 h d.1).2 != 0) (Fs 60 (M wdv [d.1]) (Fa (by(simp[Bb, *];omega):(M wdv acc).length+(M wdv [d.1]).length<=2^30) (Fa (by simp[Bb,Lt,Ls,Ln,Lr,wdv,idv]:M wdv acc++M wdv [d.1]=M wdv (acc++[d.1])) (Ftb 64 ((pg h i).K==2) Fz)))))))))
theorem ZfM(h1:o<(pg h i).U)(e:¬ (Z9 h (Bb h i o)).2=0):CP (Zo f147 0) (A6 h i o acc).st .ret (Tg.st ⟨tm 70 [(4,.d (.sl 0 [])),(5,int 19)],[],60⟩):=by have f:=B1 a;have d:=AN f.1 i o;unfold Bb at d e;exact sF [] [] (Ftb 41 (O (o<(pg h i).U)) (Fc 47 (@O0 h.C i o) (Fc 53 (@N5 h ((address h.C i o).1) aa oq) (Ftb 57 ((Z9 h (address h.C i o).1).2 != 0) Fz))))
omit b a hl c in
theorem Z4n(h1:(pg h i).U<=o):CP (Zo f147 0) (A6 h i o acc).st (.ext 0) (Dk acc).st:=by exact sF [] [] (Ffb 41 (O (o<(pg h i).U)) Fz)
end
def Z1h{h a}(e:(Z9 h a).2=0):1<=Z5 (Z9 h a).1:=by have:=MM e;rw[Z5,if_pos this.2.2.2.2.1];omega
def Z4c(h:Heap) i(j:Zx h.W)(g:Z8 h=Z)(hu:(pg h i).U<=256):∀(f:Nat) (o:Int) (acc:List Int),(pg h i).U-o<=f->0<=o->o<=1000->(acc.length:Int)+f<=1000 -> (∀l,Er h i f o=Y l->Ga prog f147 0 (A6 h i o acc).st (.ext 0) (Dk (acc++l)).st) /\ (Er h i f o=L->Ga prog f147 0 (A6 h i o acc).st .ret (Tg.st ⟨tm 70 [(4,.d (.sl 0 [])),(5,int 19)],[],60⟩)):=by
 intro f;induction f with
 |zero =>intro o acc n d p q;refine⟨λl a=>?_,λa=>by cases a⟩;simp only[Er,Option.some.injEq]at a;subst a;rw[Lw];exact .endx (Z4n h i o acc oq)
 |succ f u =>
  intro o acc n d p q;unfold Er;by_cases c:o<(pg h i).U;rw[if_pos c];by_cases b:(Z9 h (Bb h i o)).2=0;rw[if_pos b];by_cases e:(pg h i).K=2;rw[if_pos e];refine⟨λl a=>?_,λa=>by cases a⟩;cases a;exact .endx (ZhG h i o acc j g oq ⟨d,by omega⟩ c b e);rw[if_neg e];have hs:=Z1h b;have hb:=Ic (Z9 h (Bb h i o)).1;have k:=ZaR h i o acc j g oq ⟨d,by omega⟩ c b e;obtain⟨s,t⟩:=u (o+Z5 (Z9 h (Bb h i o)).1) (acc++[Bb h i o]) oq oq oq qo;refine⟨λl a=>?_,λa=>?_⟩
  .rw[Lo]at a;obtain⟨m,r,rfl⟩:=a;have:=s m r;rw[LF]at this;exact .next k this
  .rw[Option.map_eq_none_iff]at a;exact .next k (t a)
  rw[if_neg b];exact⟨λl a=>(by cases a),λ_=>.endr (ZfM h i o acc j g oq ⟨d,by omega⟩ c b)⟩;rw[if_neg c];refine⟨λl a=>?_,λa=>by cases a⟩;cases a;rw[Lw];exact .endx (Z4n h i o acc oq)
def Zhz(h:Heap) i(l:List Int)(c:Zx h.W)(a:Z8 h=Z)(b:(pg h i).U<=256)(hl:Er h i 256 0=Y l):CP (Zk f147 0) (Tg.st ⟨tm 70 [(1,int i),(2,.pt 8002 0 0),(4,.d (.sl 0 [])),(5,int 0),(6,.pt 32006 0 0),(7,.ow 48007),(8,int 0)], [(48007,.arr 35 1 []),(32006,.box 86 [int (h.P.getD i.toNat X).K,int (h.P.getD i.toNat X).S,int (h.P.getD i.toNat X).U,int (h.P.getD i.toNat X).N]),(8002,.box 28 h.cells)],60⟩) .nrm (Dk l).st:=
 ((Z4c h i c a b 256 0 [] oq oq oq pq).1 l hl).ext kr
def Z9I(h:Heap) i(c:Zx h.W)(a:Z8 h=Z)(b:(pg h i).U<=256)(hl:Er h i 256 0=L):CP (Zk f147 0) (Tg.st ⟨tm 70 [(1,int i),(2,.pt 8002 0 0),(4,.d (.sl 0 [])),(5,int 0),(6,.pt 32006 0 0),(7,.ow 48007),(8,int 0)], [(48007,.arr 35 1 []),(32006,.box 86 [int (h.P.getD i.toNat X).K,int (h.P.getD i.toNat X).S,int (h.P.getD i.toNat X).U,int (h.P.getD i.toNat X).N]),(8002,.box 28 h.cells)],60⟩) .ret (Tg.st ⟨tm 70 [(4,.d (.sl 0 [])),(5,int 19)],[],60⟩):=
 ((Z4c h i c a b 256 0 [] oq oq oq pq).2 hl).ret kr
def Zd(h:Heap)(i:Int):List Int×Int:=
 if Z8 h=Z then(if 0<=i/\i<h.P.length then(if(pg h i).K=0\/(pg h i).K=3 then([],0)else(match Er h i 256 0 with|Y l=>(l,0)|L=>([],19)))else([],2))else([],1)
def So(h:Heap) i(hw:Zx h.W):GP 147 [h.av,int i] La (.tu [Z3 (Zd h i).1,int (Zd h i).2]) []:=by
 cases hp:Z8 h with
 |false =>
  have b:Zd h i=([],1):=by rw[Zd,if_neg (by rw[hp];simp)]
  rw[b];exact gF [] func147 [] (Fc 14 (@CL h) (Ftb 15 (!Z8 h) (Fnl Fz)))
 |true =>
  have po:=B1 hp;by_cases e:0<=i/\i<h.P.length;have m:=Ea hp (j:=i.toNat) oq;have hu:(pg h i).U<=256:=m.2.2.2.2.2.2.2.1;cases hwk:Er h i 256 0 with
  |none =>
   have b:Zd h i=if(h.P.getD i.toNat X).K=0\/(h.P.getD i.toNat X).K=3 then([],0)else([],19):=by rw[Zd,if_pos hp,if_pos e,hwk];rfl
   have g {h_ c_ p_} (f:Fq h_ c_ p_):=Fc 14 (@CL h) (Ffb 15 (!Z8 h) (FlG 22 (!decide (i<0)) Z0.dv h.P (Ffb 24 (O (i<0)||O ((h.P.length:Int)<=i)) (Fe 28 Z0.dv h.P i f))));rcases bb ((h.P.getD i.toNat X).K==0||(h.P.getD i.toNat X).K==3)with hc0|hc0<;>have a:=hc0<;>simp only[bs]at a;exact gF [] func147 (fO 8) (g (Ft 37 hc0 (Fnl (Fa (by rw[b,if_pos oq];rfl:[]=M wdv (Zd h i).1) (Fa (by rw[b,if_pos oq]:0=(Zd h i).2) Fz)))));obtain⟨c,d⟩:=a;exact gF [] func147 (fO 18) (Fh 7 [.own] (g (Ff 37 hc0 (Fu (@Z9I h i aa aa aa aa) (Fnl (Fa (by rw[b,if_neg oq];rfl:[]=M wdv (Zd h i).1) (Fa (by rw[b,if_neg oq]:19=(Zd h i).2) Fz)))))))
  |some l =>
   have b:Zd h i=if(h.P.getD i.toNat X).K=0\/(h.P.getD i.toNat X).K=3 then([],0)else(l,0):=by rw[Zd,if_pos hp,if_pos e,hwk];rfl
   have k {h_ c_ p_} (f:Fq h_ c_ p_):=Fc 14 (@CL h) (Ffb 15 (!Z8 h) (FlG 22 (!decide (i<0)) Z0.dv h.P (Ffb 24 (O (i<0)||O ((h.P.length:Int)<=i)) (Fe 28 Z0.dv h.P i f))));rcases bb ((h.P.getD i.toNat X).K==0||(h.P.getD i.toNat X).K==3)with hc0|hc0<;>have a:=hc0<;>simp only[bs]at a;exact gF [] func147 (fO 8) (k (Ft 37 hc0 (Fnl (Fa (by rw[b,if_pos oq];rfl:[]=M wdv (Zd h i).1) (Fa (by rw[b,if_pos oq]:0=(Zd h i).2) Fz)))));obtain⟨c,d⟩:=a;exact gF [] func147 (fO 18) (Fh 7 [.own] (k (Ff 37 hc0 (Fu (@Zhz h i l aa aa aa aa) (Fa (by refine congrArg _ ?_;rw[b,if_neg oq]:M wdv l=M wdv (Zd h i).1) (Fa (by rw[b,if_neg oq]:0=(Zd h i).2) Fz))))))
  have b:Zd h i=([],2):=by rw[Zd,if_pos hp,if_neg e]
  rw[b];exact gF [] func147 [] (Fc 14 (@CL h) (Ffb 15 (!Z8 h) (FlG 22 (!decide (i<0)) Z0.dv h.P (Ftb 24 (O (i<0)||O ((h.P.length:Int)<=i)) (Fnl Fz)))))
def Ma(l:List Int)(v:Int)(i:Nat):Tg:=⟨tm 18 [(0,Z3 l),(1,u64 v),(4,bool La),(5,int i)],[],60⟩
def Z8J(l:List Int)(v:Int)(i:Nat)(hl:l.length<=1048576)(hi:i<l.length)(hv:¬ l.getD i X=v):CP (Zo f17 0) (Ma l v i).st .nrm (Ma l v (i+1)).st:=by exact sF [] [] (FN 8 9 14 wdv l i (Ffb 17 (l.getD i X==v) (Fx 11 i Fz)))
def Zio(l:List Int)(v:Int)(i:Nat)(hl:l.length<=1048576)(hi:i<l.length)(hv:l.getD i X=v):CP (Zo f17 0) (Ma l v i).st .ret (Tg.st ⟨tm 18 [(4,bool Z)],[],60⟩):=by exact sF [] [] (FN 8 9 14 wdv l i (Ftb 17 (l.getD i X==v) Fz))
def hasEnd l v:CP (Zo f17 0) (Ma l v l.length).st (.ext 0) (Tg.st ⟨tm 18 [],[],60⟩):=by exact sF [] [] (FO 8 9 wdv l Fz)
def Bs{l:List Int}{v:Int}:v∈l↔∃i,i<l.length/\l.getD i X=v:=by rw[List.mem_iff_getElem];constructor;rintro⟨i,h,e⟩;exact⟨i,h,by simp[Lx,h,e]⟩;rintro⟨i,h,e⟩;exact⟨i,h,by simpa[Lx,h]using e⟩
def Zei(l:List Int)(v:Int)(hl:l.length<=1048576)(h:v∉l)  := Bw (S:=λi=>(Ma l v i).st) l.length (by kernel_rfl) (λi a=>Z8J l v i hl a λe=>h (Bs.2 ⟨i,a,e⟩)) (hasEnd l v)
def ZhA(l:List Int)(v:Int)(hl:l.length<=1048576)(h:v∈l):CP (Zk f17 0) (Tg.st ⟨tm 18 [(0,Z3 l),(1,u64 v),(4,bool La),(5,int 0)],[],60⟩) .ret (Tg.st ⟨tm 18 [(4,bool Z)],[],60⟩):=by obtain⟨i,a,b⟩:=Z1j (Bs.1 h);exact G5 (S:=λi=>(Ma l v i).st) i kr (λj hj=>Z8J l v j hl oq λe=>by have:=b j ⟨by omega,e⟩;omega) (Zio l v i hl a.1 a.2)
def Ec(l:List Int) v(hl:l.length<=1048576):GP 17 [Z3 l,u64 v] Z (bool (O (v∈l))) []:=by by_cases h:v∈l;rw[decide_eq_true h];exact gF [] func17 [] (Fu (@ZhA l v aa aa) Fz);rw[decide_eq_false h];exact gF [] func17 [] (Fu (@Zei l v aa aa) Fz)
def Z6f{h i}:∀{f:Nat} {o:Int} {l:List Int},Er h i f o=Y l->l.length<=f
 |0,o,l,e=>by simp[Er]at e;subst e;simp
 |f+1,o,l,e=>by
  unfold Er at e;split at e
  .split at e
   .split at e
    .cases e;simp
    .rw[Lo]at e;obtain⟨m,a,rfl⟩:=e;have:=Z6f a;simp;omega
   .cases e
  .cases e;simp
def Nw(h:Heap) i:(Zd h i).1.length<=256:=by
 unfold Zd;repeat' split
 all_goals first|(simp;done)|(rename_i e;exact Z6f e)
def Co(h:Heap):Nat->Nat->List Int×Int|0,_=>([],0)|f+1,i=>if(Zd h i).2=0 then(if(Co h f (i+1)).2=0 then((Zd h i).1++(Co h f (i+1)).1,0)else([],(Co h f (i+1)).2))else([],(Zd h i).2)
def CC(h:Heap):List Int×Int:=if Z8 h=Z then Co h h.P.length 0 else([],1)
def Dh(h:Heap)(i:Nat)(acc:List Int):Tg:=⟨tm 31 [(1,.pt 8001 0 0),(2,.d (.sl 0 [])),(3,int 0),(4,.ow 24004),(5,int i)],[(24004,.arr 35 1 (acc.map wdv)),(8001,.box 28 h.cells)],60⟩
section
variable (h:Heap) (i:Nat) (acc:List Int) (b:Zx h.W) (hl:h.P.length<=1048576) (a:acc.length<=1048576)
include b hl a
theorem ZfL(hi:i<h.P.length)(e:(Zd h i).2=0):CP (Zo f90 0) (Dh h i acc).st .nrm (Dh h (i+1) (acc++(Zd h i).1)).st:=by have hn:=Nw h i;exact sF [(504029,24004)] [] (Fh 29 [.els (M wdv (acc++(Zd h (i:Int)).1))] (FM 14 15 Z0.dv h.P i (Fc 21 (@So h ((i:Int)) aa) (Ffb 25 ((Zd h (i:Int)).2 != 0) (Fa (by(simp[*];omega):(M wdv acc).length+(M wdv (Zd h (i:Int)).1).length<=2^30) (Fa (ms:M wdv acc++M wdv (Zd h (i:Int)).1=M wdv (acc++(Zd h (i:Int)).1)) (Fx 17 i Fz)))))))
theorem ZkE(hi:i<h.P.length)(e:¬ (Zd h i).2=0):CP (Zo f90 0) (Dh h i acc).st .ret (Tg.st ⟨tm 31 [(2,.d (.sl 0 [])),(3,int (Zd h i).2)],[],60⟩):=by exact sF [] [] (FM 14 15 Z0.dv h.P i (Fc 21 (@So h ((i:Int)) aa) (Ftb 25 ((Zd h (i:Int)).2 != 0) Fz)))
omit b hl a in
theorem Zd6:CP (Zo f90 0) (Dh h h.P.length acc).st (.ext 0) (Tg.st ⟨tm 31 [(4,.ow 24004)],[(24004,.arr 35 1 (acc.map wdv))],60⟩):=by exact sF [] [] (FO 14 15 Z0.dv h.P Fz)
end
def Z88(h:Heap)(c:Zx h.W)(hl:h.P.length<=1048576):∀(f i:Nat) (acc:List Int),i+f=h.P.length->acc.length+256*f<=1048576 -> ((Co h f i).2=0->Ga prog f90 0 (Dh h i acc).st (.ext 0) (Tg.st ⟨tm 31 [(4,.ow 24004)],[(24004,.arr 35 1 ((acc++(Co h f i).1).map wdv))],60⟩)) /\ (¬ (Co h f i).2=0->Ga prog f90 0 (Dh h i acc).st .ret (Tg.st ⟨tm 31 [(2,.d (.sl 0 [])),(3,int (Co h f i).2)],[],60⟩)):=by
 intro f;induction f with
 |zero =>
  intro i acc g _;have:i=h.P.length:=by omega
  subst this;refine⟨λ_=>?_,λe=>absurd rfl e⟩;rw[Co,Lw];exact .endx (Zd6 h acc)
 |succ f l =>
  intro i acc g hb;have hn:=Nw h i;unfold Co;by_cases e:(Zd h i).2=0;rw[if_pos e];have b:=ZfL h i acc c hl oq oq e;obtain⟨j,k⟩:=l (i+1) (acc++(Zd h i).1) oq qo;by_cases a:(Co h f (i+1)).2=0
  .rw[if_pos a];refine⟨λ_=>?_,λe=>absurd rfl e⟩;have:=j a;rw[LF]at this;exact .next b this
  rw[if_neg a];exact⟨λe=>absurd e a,λ_=>.next b (k a)⟩;rw[if_neg e];exact⟨λd=>absurd d e,λ_=>.endr (ZkE h i acc c hl oq oq e)⟩
def ZbF(h:Heap)(a:Zx h.W)(hl:h.P.length<=64)(e:(Co h h.P.length 0).2=0):CP (Zk f90 0) (Tg.st ⟨tm 31 [(1,.pt 8001 0 0),(2,.d (.sl 0 [])),(3,int 0),(4,.ow 24004),(5,int 0)],[(24004,.arr 35 1 []),(8001,.box 28 h.cells)],60⟩) .nrm (Tg.st ⟨tm 31 [(4,.ow 24004)],[(24004,.arr 35 1 ((Co h h.P.length 0).1.map wdv))],60⟩):=
 ((Z88 h a oq h.P.length 0 [] oq qo).1 e).ext kr
def ZfF(h:Heap)(a:Zx h.W)(hl:h.P.length<=64)(e:¬ (Co h h.P.length 0).2=0):CP (Zk f90 0) (Tg.st ⟨tm 31 [(1,.pt 8001 0 0),(2,.d (.sl 0 [])),(3,int 0),(4,.ow 24004),(5,int 0)],[(24004,.arr 35 1 []),(8001,.box 28 h.cells)],60⟩) .ret (Tg.st ⟨tm 31 [(2,.d (.sl 0 [])),(3,int (Co h h.P.length 0).2)],[],60⟩):=
 ((Z88 h a oq h.P.length 0 [] oq qo).2 e).ret kr
def Zfa(h:Heap):∀(f i:Nat),¬ (Co h f i).2=0->(Co h f i).1=[]
 |0,i,e=>absurd rfl e
 |f+1,i,e=>by
  unfold Co at e⊢;split at e
  .rename_i a;rw[if_pos a];split at e
   .exact absurd rfl e
   .rename_i b;rw[if_neg b]
  .rename_i a;rw[if_neg a]
def ZaN(h:Heap)(hw:Zx h.W):GP 90 [h.av] La (.tu [Z3 (CC h).1,int (CC h).2]) []:=by
 cases hp:Z8 h with
 |false =>
  have a:CC h=([],1):=by rw[CC,if_neg (by rw[hp];simp)]
  rw[a];exact gF [] func90 [] (Fc 9 (@CL h) (Ftb 10 (!Z8 h) (Fnl Fz)))
 |true =>
  have po:=B1 hp;have a:CC h=Co h h.P.length 0:=by rw[CC,if_pos hp]
  by_cases e:(Co h h.P.length 0).2=0;rw[show CC h=((Co h h.P.length (0:Nat)).1,(0:Int))from by grind[]];exact gF [] func90 [] (Fh 4 [.own] (Fc 9 (@CL h) (Ffb 10 (!Z8 h) (Fu (@ZbF h aa oq aa) Fz))));have b:=Zfa h _ _ e;exact gF [] func90 (fO 7) (Fh 4 [.own] (Fc 9 (@CL h) (Ffb 10 (!Z8 h) (Fu (@ZfF h aa oq aa) (Fnl (Fa (by rw[a,b];rfl:[]=M wdv (CC h).1) (Fa (by rw[a]:(Co h h.P.length 0).2=(CC h).2) Fz)))))))
def Z5A{h:Heap}(c:Zs h.C=Z){i}:∀{f:Nat} {o:Int} {l:List Int},Er h i f o=Y l->∀x∈l,0<=x/\x<=8192
 |0,o,l,e=>by simp[Er]at e;subst e;simp
 |f+1,o,l,e=>by
  have b:=AN c i o;unfold Er at e;split at e
  .split at e
   .split at e
    .cases e;intro x a;simp at a;subst a;exact b
    .rw[Lo]at e;obtain⟨m,d,rfl⟩:=e;intro x a;rcases LM.1 a with rfl|a
     .exact b
     .exact Z5A c d x a
   .cases e
  .cases e;simp
def Az{h:Heap}(a:Z8 h=Z) i:∀x∈(Zd h i).1,0<=x/\x<=8192:=by
 have b:=(B1 a).1;unfold Zd;repeat' split
 all_goals first|(simp;done)|(rename_i e;exact Z5A b e)
def Z3I{h:Heap}(b:Z8 h=Z):∀(f i:Nat),∀x∈(Co h f i).1,0<=x/\x<=8192
 |0,i=>by simp[Co]
 |f+1,i=>by
  unfold Co;split
  .split
   .intro x a;rcases LL.1 a with a|a
    .exact Az b i x a
    .exact Z3I b f (i+1) x a
   .simp
  .simp
def Z74(h:Heap):∀(f i:Nat),(Co h f i).1.length<=256*f
 |0,i=>by simp[Co]
 |f+1,i=>by
  have h1:=Nw h i;have h2:=Z74 h f (i+1);unfold Co;split
  .split
   .simp;omega
   .simp
  .simp
def Z7l(h:Heap):∀x∈(CC h).1,0<=x/\x<=8192:=by unfold CC;split;exact Z3I aa _ _;simp
def Z7X(h:Heap):(CC h).1.length<=16384:=by unfold CC;split;rename_i a;have:=Z74 h h.P.length 0;have:=B1 a;omega;simp
def Cz(h:Heap)(a:Int):Bool:=O ((Z9 h a).1.K≠0)
def Zg(h:Heap):List Int×Int:=((CC h).1.filter (Cz h),(CC h).2)
def Oo(h:Heap):∀x∈(Zg h).1,0<=x/\x<=8192:=λx a=>Z7l h x (List.mem_filter.1 a).1
def SF(h:Heap):(Zg h).1.length<=16384:=LQ (LK _ _) (Z7X h)
def M1{l:List Int}{i:Nat}(a:i<l.length):l.take (i+1)=l.take i++[l.getD i X]:=by rw[List.take_succ];simp[Lx,a]
def Z04(h:Heap)(l:List Int)(a:Int)(i:Nat):Tg:=⟨tm 42 [(1,.pt 8001 0 0),(4,Z3 l),(5,int a),(6,.ow 24006),(7,int i)],[(24006,.arr 35 1 (((l.take i).filter (Cz h)).map wdv)),(8001,.box 28 h.cells)],60⟩
def Zgj(h:Heap)(l:List Int) b(i:Nat)(hw:Zx h.W)(hl:l.length<=1048576)(j:∀x∈l,0<=x/\x<=8192)(c:i<l.length):CP (Zo f43 0) (Z04 h l b i).st .nrm (Z04 h l b (i+1)).st:=by
 have hx:=j (l.getD i X) (Bs.2 ⟨i,c,rfl⟩);have g:((l.take i).filter (Cz h)).length<=l.length:=LQ (LK _ _) qo;have f:=M1 c;by_cases d:(Z9 h (l.getD i X)).1.K=0;have e:(l.take (i+1)).filter (Cz h)=(l.take i).filter (Cz h):=by(have a:Cz h (l.getD i X)=La:=decide_eq_false (by simpa using d);rw[f,LH,LI,a,LJ];simp)
 exact sF [] (fO 5) (FN 17 18 25 wdv l i (Fc 27 (@N5 h (l.getD i X) aa oq) (Ffb 32 ((Z9 h (l.getD i X)).1.K != 0) (Fx 20 i (Fr (35:Int) (Fa (by refine congrArg _ ?_;rw[e]:M wdv (Lc (Cz h) (Le i l))=M wdv (Lc (Cz h) (Le (i+1) l))) Fz))))));have e:(l.take (i+1)).filter (Cz h)=(l.take i).filter (Cz h)++[l.getD i X]:=by(have a:Cz h (l.getD i X)=Z:=decide_eq_true d;rw[f,LH,LI,a,LJ];simp)
 exact sF [(504039,24006)] (fO 5) (Fh 39 [.els (M wdv (Lc (Cz h) (Le i l)++[l.getD i X]))] (FN 17 18 25 wdv l i (Fc 27 (@N5 h (l.getD i X) aa oq) (Ftb 32 ((Z9 h (l.getD i X)).1.K != 0) (Fek 36 wdv l (↑i) i (Fs 38 (M wdv [l.getD i X]) (Fa (by(simp[*];omega):(M wdv (Lc (Cz h) (Le i l))).length+(M wdv [l.getD i X]).length<=2^30) (Fa (ms:M wdv (Lc (Cz h) (Le i l))++M wdv [l.getD i X]=M wdv (Lc (Cz h) (Le i l)++[l.getD i X])) (Fx 20 i (Fr (35:Int) (Fa (by refine congrArg _ ?_;rw[e]:M wdv (Lc (Cz h) (Le i l)++[l.getD i X])=M wdv (Lc (Cz h) (Le (i+1) l))) Fz)))))))))))
def Zgc(h:Heap) l a:CP (Zo f43 0) (Z04 h l a l.length).st (.ext 0) (Tg.st ⟨tm 42 [(5,int a),(6,.ow 24006)],[(24006,.arr 35 1 ((l.filter (Cz h)).map wdv))],60⟩):=by have e:l.take l.length=l:=LN;exact sF [] (fO 2) (FO 17 18 wdv l (Fr (35:Int) (Fa (by refine congrArg _ ?_;rw[e]:M wdv (Lc (Cz h) (Le l.length l))=M wdv (Lc (Cz h) l)) Fz)))
def Zgq(h:Heap)(l:List Int) a(d:Zx h.W)(hl:l.length<=1048576)(c:∀x∈l,0<=x/\x<=8192):CP (Zk f43 0) (Tg.st ⟨tm 42 [(1,.pt 8001 0 0),(4,Z3 l),(5,int a),(6,.ow 24006),(7,int 0)],[(24006,.arr 35 1 []),(8001,.box 28 h.cells)],60⟩) .nrm (Tg.st ⟨tm 42 [(5,int a),(6,.ow 24006)],[(24006,.arr 35 1 ((l.filter (Cz h)).map wdv))],60⟩):=
 Bw (S:=λi=>(Z04 h l a i).st) l.length kr (λi b=>Zgj h l a i d hl c b) (Zgc h l a)
def DN(h:Heap)(hw:Zx h.W):GP 43 [h.av] La (.tu [Z3 (Zg h).1,int (Zg h).2]) []:=by have hl:=Z7X h;have hr:=Z7l h;exact gF [] func43 [] (Fh 6 [.own] (Fc 12 (@ZaN h aa) (Fu (@Zgq h ((CC h).1) ((CC h).2) aa oq aa) Fz)))
def Gr(h:Heap)(p o:Int):Int:=(Z1 h.W (address h.C p o).1).1
def Zbu{c:ZY}(b:Zs c=Z) p o:0<=(address c p o).1/\(address c p o).1<=8192:=by have ha:=HM b;unfold address;rw[if_pos b];split;rename_i a;have a:=HU.1 a;have:=OZ b a.1 a.2.1 a.2.2.1 a.2.2.2;simp only;omega;simp
def Zjr(h:Heap) p o(a:Z8 h=Z):GP 235 [h.av,int p,int o] Z (u64 (Gr h p o)) []:=by have b:=B1 a;have ar:=Zbu b.1 p o;exact gF [] func235 [] (Fc 16 (@O0 h.C p o) (Fc 23 (@HF h.W ((address h.C p o).1) oq oq) Fz))
def Z3q(h:Heap) p o(hp:Z8 h=Z):GP 220 [h.av,int p,int o] Z (u64 (Gr h p o)) []:=by exact gF [] func220 [] (Fc 10 (@Zjr h p o aa) Fz)
def Zj5(h:Heap)(p o:Int)(b:Z8 h=Z)(a:0<=p/\p<h.C.pg)(h1:0<=o/\o<=64):GP 221 [h.av,int p,int o] Z (u64 (4096+p*h.C.pw+o)) []:=by have c:=B1 b;have ap:=HY c.1 a.1 a.2;exact gF [] func221 [] (Fi 11 (p*h.C.pw) (Fi 12 (4096+p*h.C.pw) (Fi 14 (4096+p*h.C.pw+o) (Fv 15 (4096+p*h.C.pw+o) Fz))))
def ZX(l:List Z0):Nat->Nat|0=>0|i+1=>if(l.getD (i+1) X).K=3 then ZX l i else i+1
def Z7A{h:Heap}(a:Z8 h=Z):(h.P.getD 0 X).K≠3:=by have d:=I5.1 a;have po:=B1 a;have b:=d.2.2.2.2.2;rw[Z18 oq oq,Lg]at b;have c:=of_decide_eq_true b.1;unfold G9 at c;omega
def SS(h:Heap)(i:Nat):Tg:=⟨tm 15 [(1,int i),(2,.pt 8002 0 0)],[(8002,.box 28 h.cells)],60⟩
def Zbv(h:Heap)(i:Nat)(hi:i+1<h.P.length)(hl:h.P.length<=1048576)(hk:(h.P.getD (i+1) X).K=3):CP (Zo f218 0) (SS h (i+1)).st .nrm (SS h i).st:=by
 have ei:((i+1:Nat):Int)-1=(i:Int):=by omega
 exact sF [] [] (Fek 8 Z0.dv h.P (↑(i+1):Int) (i+1) (Ftb 11 ((h.P.getD (i+1) X).K==3) (Fg 13 (by rw[CY oq oq];omega:IntKind.i64.wrap ((↑(i+1):Int)-1)=(i:Int)) Fz)))
def Z6w(h:Heap)(i:Nat)(hi:i<h.P.length)(hl:h.P.length<=1048576)(hk:¬ (h.P.getD i X).K=3):CP (Zo f218 0) (SS h i).st (.ext 0) (Tg.st ⟨tm 15 [(1,int i)],[],60⟩):=by exact sF [] [] (Fek 8 Z0.dv h.P (↑i) i (Ffb 11 ((h.P.getD i X).K==3) Fz))
def Z8A(h:Heap)(b:Z8 h=Z)(hl:h.P.length<=1048576):∀i,i<h.P.length->Ga prog f218 0 (SS h i).st (.ext 0) (Tg.st ⟨tm 15 [(1,int (ZX h.P i))],[],60⟩)
 |0,hi=>.endx (Z6w h 0 hi hl (Z7A b))
 |i+1,hi=>by
  unfold ZX;by_cases a:(h.P.getD (i+1) X).K=3
  .rw[if_pos a];exact .next (Zbv h i hi hl a) (Z8A h b hl i oq)
  .rw[if_neg a];exact .endx (Z6w h (i+1) hi hl a)
def Zcx(h:Heap)(i:Nat)(b:Z8 h=Z)(a:i<h.P.length)(hl:h.P.length<=1048576):CP (Zk f218 0) (SS h i).st .nrm (Tg.st ⟨tm 15 [(1,int (ZX h.P i))],[],60⟩):=
 (Z8A h b hl i a).ext kr
def Z57(h:Heap)(i:Nat)(a:Z8 h=Z)(hi:i<h.P.length):GP 218 [h.av,int i] Z (int (ZX h.P i)) []:=by have po:=B1 a;exact gF [] func218 [] (Fu (@Zcx h i aa aa oq) Fz)
def Gp(h:Heap)(i:Int)(a:Int):Bool:=(O ((h.P.getD i.toNat X).K=1)&&O (Zb h.C<Z5 (Z9 h a).1))||(O ((h.P.getD i.toNat X).K=2)&&O ((Z9 h a).1.K=0))
def Cq(h:Heap)(i:Int)(l:List Int):Int:=(l.find? (Gp h i)).getD 0
def Dn(h:Heap)(i:Int)(l:List Int)(n:Nat):Tg:=⟨tm 61 [(1,int i),(2,Z3 l),(3,.pt 8003 0 0),(6,u64 0),(7,int n)],[(8003,.box 28 h.cells)],60⟩
section
variable (h:Heap) (i:Int) (l:List Int) (n:Nat) (b:Zx h.W) (hl:l.length<=1048576) (c:0<=i/\i<h.P.length) (d:h.P.length<=1048576) (a:∀x∈l,0<=x/\x<=8192)
include b hl c d a
theorem Z7Q(j:n<l.length)(g:Gp h i (l.getD n X)=La):CP (Zo f192 0) (Dn h i l n).st .nrm (Dn h i l (n+1)).st:=by have hx:=a (l.getD n X) (Bs.2 ⟨n,j,rfl⟩);have hm:=IC b (l.getD n X);simp only[Gp,bs]at g;let e:=Z9 h (l.getD n X);let f:=h.P.getD i.toNat X;exact sF [] [] (FN 13 14 21 wdv l n (Fc 23 (@N5 h (l.getD n X) aa oq) (Fc 27 (@I8 (e.1) aa) (Fc 30 (@Na h.C) (Fe 35 Z0.dv h.P i (FeGq 47 (!(f.K==1&&!decide (Z5 e.1<=Zb h.C))) Z0.dv h.P i (Ffb 56 (f.K==1&&!decide (Z5 e.1<=Zb h.C)||f.K==2&&e.1.K==0) (Fx 16 n Fz))))))))
theorem Zkm(g:n<l.length)(e:Gp h i (l.getD n X)=Z):CP (Zo f192 0) (Dn h i l n).st .ret (Tg.st ⟨tm 61 [(6,u64 (l.getD n X))],[],60⟩):=by have hx:=a (l.getD n X) (Bs.2 ⟨n,g,rfl⟩);have hm:=IC b (l.getD n X);simp only[Gp,bs]at e;refine Zh [((13:Nat),[Hint.int (l.length:Int)]),((14:Nat),[Hint.br Z]),((21:Nat),[Hint.el (wdv (l.getD n X))]),((23:Nat),[Hint.call Z (AV.tu [(Z9 h (l.getD n X)).1.av,int (Z9 h (l.getD n X)).2]) []]),((27:Nat),[Hint.call Z (int (Z5 (Z9 h (l.getD n X)).1)) []]),((30:Nat),[Hint.call Z (int (Zb h.C)) []]),((35:Nat),[Hint.el (h.P.getD i.toNat X).dv]),((47:Nat),[Hint.el (h.P.getD i.toNat X).dv]),((56:Nat),[Hint.br Z]),((59:Nat),[Hint.el (wdv (l.getD n X))])] [] [] [] (φ:=(↑(M wdv l).length:Int)=(l.length:Int)/\O ((n:Int)<(l.length:Int))=Z/\Z=Z/\((0:Int)<=(n:Int)/\(M wdv l)[(n:Int).toNat]?=Y (wdv (l.getD n X)))/\GP 91 [h.av,u64 (l.getD n X)] Z (AV.tu [(Z9 h (l.getD n X)).1.av,int (Z9 h (l.getD n X)).2]) []/\GP 70 [(Z9 h (l.getD n X)).1.av] Z (int (Z5 (Z9 h (l.getD n X)).1)) []/\GP 93 [h.C.av] Z (int (Zb h.C)) []/\((0:Int)<=i/\(M Z0.dv h.P)[i.toNat]?=Y (h.P.getD i.toNat X).dv)/\((!((h.P.getD i.toNat X).K==(1:Int)&&!decide (Z5 (Z9 h (l.getD n X)).1<=Zb h.C)))=Z->(0:Int)<=i/\(M Z0.dv h.P)[i.toNat]?=Y (h.P.getD i.toNat X).dv)/\((h.P.getD i.toNat X).K==(1:Int)&&!decide (Z5 (Z9 h (l.getD n X)).1<=Zb h.C)||(h.P.getD i.toNat X).K==(2:Int)&&(Z9 h (l.getD n X)).1.K==(0:Int))=Z/\Z=Z/\(0:Int)<=(n:Int)/\(M wdv l)[(n:Int).toNat]?=Y (wdv (l.getD n X))) ?_ kr kr kr;exact⟨(by simp only[Ly]),(by(simp only[bs];omega)),rfl,(by exact Zm oq oq oq),(@N5 (h) (l.getD n X) aa oq),(@I8 ((Z9 h (l.getD n X)).1) aa),(@Na (h.C)),(by exact Zm oq oq oq),(by intro f;(try simp only[bs]at f);exact Zm oq oq oq),(by(simp only[bs];omega)),rfl,(by exact Zm oq oq oq)⟩
omit b hl c d a in
theorem Zc8:CP (Zo f192 0) (Dn h i l l.length).st (.ext 0) (Tg.st ⟨tm 61 [(6,u64 0)],[],60⟩):=by exact sF [] [] (FO 13 14 wdv l Fz)
end
def Z0c{l:List Int}{f:Int->Bool}(h:l.find? f=L):∀n,n<l.length->f (l.getD n X)=La:=by intro n a;have:=Ll.1 h (l.getD n X) (Bs.2 ⟨n,a,rfl⟩);simpa using this
def Aw{f:Int->Bool}:∀{l:List Int} {x:Int},l.find? f=Y x->∃n,n<l.length/\l.getD n X=x/\f x=Z/\∀m,m<n->f (l.getD m X)=La
 |[],x,h=>by simp at h
 |a::l,x,h=>by
  rw[List.find?_cons]at h;split at h
  .rename_i b;cases h;exact⟨0,by simp,rfl,b,λm g=>by omega⟩
  .rename_i b;obtain⟨n,h1,c,d,e⟩:=Aw h;refine⟨n+1,by simp;omega,by simpa using c,d,λm g=>?_⟩;cases m with|zero=>simpa using b|succ m=>simpa using e m oq
def Zf7(h:Heap)(i:Int)(l:List Int)(f:Zx h.W)(hl:l.length<=1048576)(c:0<=i/\i<h.P.length)(d:h.P.length<=1048576)(e:∀x∈l,0<=x/\x<=8192)(b:l.find? (Gp h i)=L) :CP (Zk f192 0) (Tg.st ⟨tm 61 [(1,int i),(2,Z3 l),(3,.pt 8003 0 0),(6,u64 0),(7,int 0)],[(8003,.box 28 h.cells)],60⟩) .nrm (Tg.st ⟨tm 61 [(6,u64 0)],[],60⟩):=
 Bw (S:=λn=>(Dn h i l n).st) l.length kr (λn a=>Z7Q h i l n f hl c d e a (Z0c b n a)) (Zc8 h i l)
def Zcg(h:Heap)(i:Int)(l:List Int)(x:Int)(d:Zx h.W)(hl:l.length<=1048576)(a:0<=i/\i<h.P.length)(b:h.P.length<=1048576)(c:∀x∈l,0<=x/\x<=8192)(k:l.find? (Gp h i)=Y x) :CP (Zk f192 0) (Tg.st ⟨tm 61 [(1,int i),(2,Z3 l),(3,.pt 8003 0 0),(6,u64 0),(7,int 0)],[(8003,.box 28 h.cells)],60⟩) .ret (Tg.st ⟨tm 61 [(6,u64 x)],[],60⟩):=by obtain⟨n,e,f,g,j⟩:=Aw k;subst f;exact G5 (S:=λn=>(Dn h i l n).st) n kr (λm o=>Z7Q h i l m d hl a b c oq (j m o)) (Zkm h i l n d hl a b c e g)
def Z2u(h:Heap)(i:Int)(l:List Int)(hw:Zx h.W)(hl:l.length<=1048576)(hp:h.P.length<=1048576)(hi:0<=i/\i<h.P.length)(hr:∀x∈l,0<=x/\x<=8192):GP 192 [h.av,int i,Z3 l] Z (u64 (Cq h i l)) []:=by
 cases hf:l.find? (Gp h i)with
 |none =>
  have a:Cq h i l=0:=by rw[Cq,hf];rfl
  exact gF [] func192 (fO 6) (Fu (@Zf7 h i l aa aa aa aa aa aa) (Fa (by rw[a]:0=Cq h i l) Fz))
 |some x =>
  have a:Cq h i l=x:=by rw[Cq,hf];rfl
  exact gF [] func192 (fO 6) (Fu (@Zcg h i l x aa aa aa aa aa aa) (Fa (by rw[a]:x=Cq h i l) Fz))
def BU(x:Bool):List DV:=[.sc (.bool x)]
def GB(h:Heap)(a:Int):Int:=if(Z9 h a).1.K=0 then 1 else Z5 (Z9 h a).1
def DW(h:Heap)(i:Int)(a:Int)(o:Nat):Bool:=O (a-4096-i*h.C.pw<=o)&&O ((o:Int)<a-4096-i*h.C.pw+GB h a)
def Cu(h:Heap)(i:Int)(l:List Int):List Bool:=(Lb h.C.pw.toNat).map λo=>l.any λa=>DW h i a o
def Ej(h:Heap)(i:Int)(l:List Int)(a:Int)(w:Nat):List Bool:=(Lb h.C.pw.toNat).map λ(o:Nat)=>(l.any λa=>DW h i a o)||(O (a-4096-i*h.C.pw<=o)&&O ((o:Int)<a-4096-i*h.C.pw+w))
def Z8k(h:Heap) i l a w:(Ej h i l a w).length=h.C.pw.toNat:=by simp[Ej]
def Zfn(h:Heap) i l a:Ej h i l a 0=Cu h i l:=by
 unfold Ej Cu;refine Lz λo _=>?_;have:(O (a-4096-i*h.C.pw<=(o:Int))&&O ((o:Int)<a-4096-i*h.C.pw+(0:Nat)))=La:=by(rw[Bool.and_eq_false_iff];simp;omega)
 rw[this,Bool.or_false]
def Zbd{h:Heap}{i:Int}{l}{a:Int}{w:Nat}(hh:¬ (0<=a-4096+w-i*h.C.pw/\a-4096+w-i*h.C.pw<h.C.pw)):Ej h i l a (w+1)=Ej h i l a w:=by unfold Ej;refine Lz λo b=>?_;have b:=Ld.1 b;congr 1;rw[Lv];simp;omega
def Zg1{h:Heap}{i:Int}{l}{a:Int}{w:Nat}(hh:0<=a-4096+w-i*h.C.pw/\a-4096+w-i*h.C.pw<h.C.pw):(Ej h i l a w).set (a-4096+w-i*h.C.pw).toNat Z=Ej h i l a (w+1):=by
 apply LG;intro j;rw[List.getElem?_set,Z8k];unfold Ej;by_cases b:j<h.C.pw.toNat
 rw[Li,Li,List.getElem?_range b,LR,LR];by_cases c:(a-4096+w-i*h.C.pw).toNat=j;rw[if_pos c,if_pos oq];congr 1;symm;rw[LB];right;rw[Lg,decide_eq_true_eq,decide_eq_true_eq];omega;rw[if_neg c];congr 2;rw[Lv,Lg,Lg,decide_eq_true_eq,decide_eq_true_eq,decide_eq_true_eq];omega;rw[if_neg oq,Li,Li,List.getElem?_eq_none qo];rfl
def Za7{h i l a}(hn:0<=GB h a):Ej h i l a (GB h a).toNat=Cu h i (l++[a]):=by unfold Ej Cu;refine Lz λo _=>?_;rw[List.any_append];congr 1;simp[DW];rw[Lv];simp;omega
def ZbO(h:Heap) i:Cu h i []=Lh h.C.pw.toNat La:=by unfold Cu;simp[List.map_const']
def Mi(h:Heap)(i:Int)(l:List Int)(k:Nat):Tg:=⟨tm 69 [(1,int i),(2,Z3 l),(3,.pt 8003 0 0),(7,.ow 16017),(8,int k)],[(16017,.arr 4 1 ((Cu h i (l.take k)).map BU)),(8003,.box 28 h.cells)],60⟩
def Mn(h:Heap)(i:Int)(l m:List Int)(k:Nat)(n:Int)(w:Nat):Tg:=⟨tm 69 [(1,int i),(2,Z3 m),(3,.pt 8003 0 0),(7,.ow 16017),(8,int k),(11,int n),(12,int w)],[(16017,.arr 4 1 ((Ej h i l (m.getD k X) w).map BU)),(8003,.box 28 h.cells)],60⟩
def Zbl(h:Heap)(i:Int)(l m:List Int)(k:Nat)(n:Int)(w:Nat)(q:Z8 h=Z)(hm:m.length<=1048576)(p:0<=i/\i<h.P.length)(hr:0<=m.getD k X/\m.getD k X<=8192)(hk:k<m.length)(hn:n<=256)(hw:w<n):CP (Zo f219 2) (Mn h i l m k n w).st .nrm (Mn h i l m k n (w+1)).st:=by have r:=B1 q;have ap:=HY r.1 p.1 oq;have g:=Z8k h i l (m.getD k X) w;by_cases f:0<=m.getD k X-4096+w-i*h.C.pw/\m.getD k X-4096+w-i*h.C.pw<h.C.pw;have e:=Zg1 (l:=l) f;let b:=m.getD k X-4096+(w:Int)-i*h.C.pw;let a:=Ej h i l (m.getD k X) w;let j:=0<=m.getD k X-4096+(w:Int)-i*h.C.pw;let d:=a.set b.toNat Z;exact sF [] (fO 11) (Fh 10067 [.els (M BU d)] (Ftb 40 (O ((w:Int)<n)) (Fek 45 wdv m (↑k) k (Fi 47 (m.getD k X) (Fi 48 (m.getD k X-4096) (Fi 50 (m.getD k X-4096+(w:Int)) (Fi 55 (i*h.C.pw) (Fi 56 b (FlG 62 (decide j) BU a (Ftb 64 (decide j&&O (m.getD k X-4096+(w:Int)-i*h.C.pw<(a.length:Int))) (Fa (by grind[]:0<=m.getD k X-4096+(w:Int)-i*h.C.pw/\b.toNat<(M BU a).length) (Fa (by grind[]:b.toNat<(M BU a).length) (Fa (by rw[Ln];rfl:(M BU a).set b.toNat [DV.sc (Value.bool Z)]=M BU d) (Fx 42 w (Fr (4:Int) (Fa (by refine congrArg _ ?_;exact e:M BU d=M BU (Ej h i l (m.getD k X) (w+1))) Fz))))))))))))))));have e:=Zbd (l:=l) f;let c:=m.getD k X;let o:=0<=m.getD k X-4096+(w:Int)-i*h.C.pw;exact sF [] (fO 11) (Ftb 40 (O ((w:Int)<n)) (Fek 45 wdv m (↑k) k (Fi 47 c (Fi 48 (m.getD k X-4096) (Fi 50 (m.getD k X-4096+(w:Int)) (Fi 55 (i*h.C.pw) (Fi 56 (m.getD k X-4096+(w:Int)-i*h.C.pw) (FlG 62 (decide o) BU (Ej h i l c w) (Ffb 64 (decide o&&O (m.getD k X-4096+(w:Int)-i*h.C.pw<(↑(Ej h i l c w).length:Int))) (Fx 42 w (Fr (4:Int) (Fa (by refine congrArg _ ?_;rw[e]:M BU (Ej h i l c w)=M BU (Ej h i l c (w+1))) Fz))))))))))))
def ZhW(h:Heap) i l m k(n:Int)(w:Nat)(hn:n<=w):CP (Zo f219 2) (Mn h i l m k n w).st (.ext 2) (Tg.st ⟨tm 69 [(1,int i),(2,Z3 m),(3,.pt 8003 0 0),(7,.ow 16017),(8,int k)],[(16017,.arr 4 1 ((Ej h i l (m.getD k X) w).map BU)),(8003,.box 28 h.cells)],60⟩):=by exact sF [] [] (Ffb 40 (O ((w:Int)<n)) Fz)
def Z7a(h:Heap)(i:Int)(m:List Int)(k:Nat)(n:Int)(g:Z8 h=Z)(e:m.length<=1048576)(d:0<=i/\i<h.P.length)(j:0<=m.getD k X/\m.getD k X<=8192)(a:k<m.length)(f:0<=n/\n<=256)(c:n=GB h (m.getD k X)):CP (Zk f219 2) (Tg.st ⟨tm 69 [(1,int i),(2,Z3 m),(3,.pt 8003 0 0),(7,.ow 16017),(8,int k),(11,int n),(12,int 0)],[(16017,.arr 4 1 ((Cu h i (m.take k)).map BU)),(8003,.box 28 h.cells)],60⟩) .nrm (Tg.st ⟨tm 69 [(1,int i),(2,Z3 m),(3,.pt 8003 0 0),(7,.ow 16017),(8,int k)],[(16017,.arr 4 1 ((Cu h i (m.take (k+1))).map BU)),(8003,.box 28 h.cells)],60⟩):=by
 have:=Bw (S:=λw=>(Mn h i (m.take k) m k n w).st) n.toNat kr (λw hw=>Zbl h i (m.take k) m k n w g e d j a f.2 oq) (ZhW h i (m.take k) m k n n.toNat oq);have b:Ej h i (m.take k) (m.getD k X) n.toNat=Cu h i (m.take (k+1)):=by(rw[M1 a,c];exact Za7 oq)
 rw[b]at this;simp only[Mn,Zfn]at this;exact this
def Zgk(h:Heap)(i:Int)(l:List Int)(k:Nat)(g:Zx h.W)(d:Z8 h=Z)(hl:l.length<=1048576)(hi:0<=i/\i<h.P.length)(f:∀x∈l,0<=x/\x<=8192)(c:k<l.length):CP (Zo f219 0) (Mi h i l k).st .nrm (Mi h i l (k+1)).st:=by
 have po:=B1 d;have hx:=f (l.getD k X) (Bs.2 ⟨k,c,rfl⟩);have hm:=IC g (l.getD k X);have hs:=Ic (Z9 h (l.getD k X)).1;by_cases b:(Z9 h (l.getD k X)).1.K=0;have e:GB h (l.getD k X)=1:=by rw[GB,if_pos b]
 exact sF [] [] (FN 20 21 28 wdv l k (Fc 30 (@N5 h (l.getD k X) aa oq) (Fc 34 (@I8 ((Z9 h (l.getD k X)).1) aa) (Ftb 37 ((Z9 h (l.getD k X)).1.K==0) (Fu (@Z7a h i l k (1) aa aa aa aa aa oq oq) (Fx 23 k Fz))))));have e:GB h (l.getD k X)=Z5 (Z9 h (l.getD k X)).1:=by rw[GB,if_neg b]
 let a:=l.getD k X;exact sF [] [] (FN 20 21 28 wdv l k (Fc 30 (@N5 h a aa oq) (Fc 34 (@I8 ((Z9 h a).1) aa) (Ffb 37 ((Z9 h a).1.K==0) (Fu (@Z7a h i l k (Z5 (Z9 h a).1) aa aa aa aa aa aa oq) (Fx 23 k Fz))))))
def ZgD(h:Heap) i l:CP (Zo f219 0) (Mi h i l l.length).st (.ext 0) (Tg.st ⟨tm 69 [(7,.ow 16017)],[(16017,.arr 4 1 ((Cu h i l).map BU))],60⟩):=by have e:l.take l.length=l:=LN;exact sF [] [La,Z] (FO 20 21 wdv l (Fr (4:Int) (Fa (by refine congrArg _ ?_;rw[e]:M BU (Cu h i (Le l.length l))=M BU (Cu h i l)) Fz)))
def Z9F(h:Heap)(i:Int)(l:List Int)(e:Zx h.W)(c:Z8 h=Z)(hl:l.length<=1048576)(a:0<=i/\i<h.P.length)(d:∀x∈l,0<=x/\x<=8192):CP (Zk f219 0) (Tg.st ⟨tm 69 [(1,int i),(2,Z3 l),(3,.pt 8003 0 0),(7,.ow 16017),(8,int 0)],[(16017,.arr 4 1 ((Lh h.C.pw.toNat La).map BU)),(8003,.box 28 h.cells)],60⟩) .nrm (Tg.st ⟨tm 69 [(7,.ow 16017)],[(16017,.arr 4 1 ((Cu h i l).map BU))],60⟩):=by have:=Bw (S:=λk=>(Mi h i l k).st) l.length kr (λk b=>Zgk h i l k e c hl a d b) (ZgD h i l);simp only[Mi,List.take_zero,ZbO]at this;exact this
def Z4j(h:Heap)(i:Int)(l:List Int)(hw:Zx h.W)(a:Z8 h=Z)(hl:l.length<=1048576)(hi:0<=i/\i<h.P.length)(hr:∀x∈l,0<=x/\x<=8192):GP 219 [h.av,int i,Z3 l] La (.d (.sl 1 ((Cu h i l).map BU))) []:=by have po:=B1 a;exact gF [] func219 [] (Fh 17 [.els (M BU (Lh h.C.pw.toNat La))] (Fb (0<=h.C.pw/\h.C.pw<=h.C.pw/\h.C.pw*((↑(nat_lit 0):Int)+1)<=2^48) (Fa (by rw[List.map_replicate];rfl:Lh h.C.pw.toNat [DV.sc (Value.bool La)]=M BU (Lh h.C.pw.toNat La)) (Fu (@Z9F h i l aa aa aa aa aa) Fz))))
def CI(h:Heap)(i:Nat):List Bool:=Cu h i (Zd h (ZX h.P i:Nat)).1
def Mu(h:Heap) i:(CI h i).length=h.C.pw.toNat:=by simp[CI,Cu]
def Z1n l:∀i,ZX l i<=i
 |0=>Nat.le_refl _
 |i+1=>by
  have:=Z1n l i;unfold ZX;split<;>omega
def AR(h:Heap)(i:Nat)(u:List Bool)(k:Nat):Tg:=⟨tm 43 [(1,int i),(2,.pt 8002 0 0),(4,u64 0),(7,.d (.sl 1 (u.map BU))),(8,int k)],[(8002,.box 28 h.cells)],60⟩
section
variable (h:Heap) (i:Nat) (u:List Bool) (k:Nat) (a:Z8 h=Z) (b:i<h.P.length) (c:u.length<=64)
include a b c
theorem Z6T(hk:k<u.length)(d:u.getD k X=Z\/Gr h i k=0):CP (Zo f193 0) (AR h i u k).st .nrm (AR h i u (k+1)).st:=by have po:=B1 a;rcases d with d|d;exact sF [] [] (FN 23 24 29 BU u k (FcG 36 (!u.getD k X) (λe=>by(try simp only[bs]at e);exact@Z3q h ((i:Int)) ((k:Int)) aa) (Ffs 38 (!u.getD k X&&Gr h (i:Int) (k:Int) != 0) (Fx 26 k Fz))));exact sF [] [] (FN 23 24 29 BU u k (FcG 36 (!u.getD k X) (λe=>by(try simp only[bs]at e);exact@Z3q h ((i:Int)) ((k:Int)) aa) (Ffb 38 (!u.getD k X&&Gr h (i:Int) (k:Int) != 0) (Fx 26 k Fz))))
theorem ZjA(hk:k<u.length)(d:u.getD k X=La/\¬ Gr h i k=0):CP (Zo f193 0) (AR h i u k).st .ret (Tg.st ⟨tm 43 [(4,u64 (4096+i*h.C.pw+k))],[],60⟩):=by have po:=B1 a;obtain⟨e,f⟩:=d;exact sF [] [] (FN 23 24 29 BU u k (FcG 36 (!u.getD k X) (λg=>by(try simp only[bs]at g);exact@Z3q h ((i:Int)) ((k:Int)) aa) (Fts 38 (!u.getD k X&&Gr h (i:Int) (k:Int) != 0) (Fc 42 (@Zj5 h ((i:Int)) ((k:Int)) aa oq oq) Fz))))
omit a b c in
theorem ZcJ:CP (Zo f193 0) (AR h i u u.length).st (.ext 0) (Tg.st ⟨tm 43 [(4,u64 0)],[],60⟩):=by exact sF [] [] (FO 23 24 BU u Fz)
end
def Hx(h:Heap)(i:Nat)(u:List Bool)(k:Nat):Bool:=!u.getD k X&&O (Gr h i k≠0)
def Ei(h:Heap)(i:Nat)(u:List Bool):Int:=match (Lb u.length).find? (Hx h i u)with|Y k=>4096+i*h.C.pw+k|L=>0
def ZaD(h:Heap)(i:Nat)(u:List Bool)(d:Z8 h=Z)(c:i<h.P.length)(e:u.length<=64)(b:(Lb u.length).find? (Hx h i u)=L) :CP (Zk f193 0) (Tg.st ⟨tm 43 [(1,int i),(2,.pt 8002 0 0),(4,u64 0),(7,.d (.sl 1 (u.map BU))),(8,int 0)],[(8002,.box 28 h.cells)],60⟩) .nrm (Tg.st ⟨tm 43 [(4,u64 0)],[],60⟩):=by
 refine Bw (S:=λk=>(AR h i u k).st) u.length kr (λk a=>Z6T h i u k d c e a ?_) (ZcJ h i u);have:=Ll.1 b k (Ld.2 a);simp only[Hx,bs]at this;cases hb:u.getD k X with|true=>exact .inl rfl|false =>rw[hb]at this;exact .inr (by simpa using this)
def ZeF(h:Heap)(i:Nat)(u:List Bool)(k:Nat)(d:Z8 h=Z)(c:i<h.P.length)(e:u.length<=64)(g:(Lb u.length).find? (Hx h i u)=Y k) :CP (Zk f193 0) (Tg.st ⟨tm 43 [(1,int i),(2,.pt 8002 0 0),(4,u64 0),(7,.d (.sl 1 (u.map BU))),(8,int 0)],[(8002,.box 28 h.cells)],60⟩) .ret (Tg.st ⟨tm 43 [(4,u64 (4096+i*h.C.pw+k))],[],60⟩):=by
 obtain⟨a,b,f⟩:=Lm.1 g;have b:=Ld.1 b;refine G5 (S:=λk=>(AR h i u k).st) k kr (λm j=>Z6T h i u m d c e oq ?_) (ZjA h i u k d c e b ?_);have:=f m j;simp only[Hx,bs]at this;cases hb:u.getD m X with|true=>exact .inl rfl|false =>rw[hb]at this;exact .inr (by simpa using this)
 simp only[Hx,bs]at a;exact⟨a.1,a.2⟩
def Z8Q(h:Heap)(i:Nat)(hw:Zx h.W)(d:Z8 h=Z)(hi:i<h.P.length):GP 193 [h.av,int i] Z (u64 (Ei h i (CI h i))) []:=by
 have po:=B1 d;have hh:=Z1n h.P i;have hn:=Nw h (ZX h.P i:Nat);have hr:=Az d (ZX h.P i:Nat);have e:=Mu h i;unfold CI at e⊢;cases hf:(Lb (Cu h i (Zd h (ZX h.P i:Nat)).1).length).find? (Hx h i (Cu h i (Zd h (ZX h.P i:Nat)).1))with
 |none =>
  have a:Ei h i (Cu h i (Zd h (ZX h.P i:Nat)).1)=0:=by rw[Ei,hf]
  let b:=Zd h (↑(ZX h.P i):Int);exact gF [] func193 (fO 6) (Fc 13 (@Z57 h i aa aa) (Fc 14 (@So h ((↑(ZX h.P i):Int)) aa) (Fc 20 (@Z4j h ((i:Int)) (b.1) aa aa oq oq aa) (Fu (@ZaD h i (Cu h (i:Int) b.1) aa aa oq aa) (Fa (by rw[a]:0=Ei h i (Cu h (i:Int) b.1)) Fz)))))
 |some k =>
  have a:Ei h i (Cu h i (Zd h (ZX h.P i:Nat)).1)=4096+i*h.C.pw+k:=by rw[Ei,hf]
  let c:=Zd h (↑(ZX h.P i):Int);exact gF [] func193 (fO 6) (Fc 13 (@Z57 h i aa aa) (Fc 14 (@So h ((↑(ZX h.P i):Int)) aa) (Fc 20 (@Z4j h ((i:Int)) (c.1) aa aa oq oq aa) (Fu (@ZeF h i (Cu h (i:Int) c.1) k aa aa oq aa) (Fa (by rw[a]:4096+(i:Int)*h.C.pw+(k:Int)=Ei h i (Cu h (i:Int) c.1)) Fz)))))
structure Ci where
 fault:Int
 page:Int
 addr:Int
 deriving DecidableEq,Inhabited
def Ci.av(f:Ci):AV:=.ag [int f.fault,int f.page,u64 f.addr]
def pageF(h:Heap)(i:Nat):Ci:=
 if(h.P.getD i X).K≠0/\(h.P.getD i X).S≠h.S then⟨2,i,0⟩
 else if(Zd h (i:Int)).2≠0 then⟨3,i,0⟩
 else if Cq h (i:Int) (Zd h (i:Int)).1≠0 then⟨5,i,Cq h (i:Int) (Zd h (i:Int)).1⟩
 else if Ei h i (CI h i)≠0 then⟨4,i,Ei h i (CI h i)⟩else⟨0,0,0⟩
def Z9j(h:Heap)(i:Nat)(hw:Zx h.W)(n:Z8 h=Z)(hi:i<h.P.length):GP 145 [h.av,int i] Z (pageF h i).av []:=by have po:=B1 n;have hn:=Nw h (i:Int);have hr:=Az n (i:Int);have j {h_ c_ p_} (b:Fq h_ c_ p_):=Fek 12 Z0.dv h.P (↑i) i (FeG 20 ((h.P.getD i X).K != 0) Z0.dv h.P (↑i) i b);rcases bb ((h.P.getD i X).K != 0&&(h.P.getD i X).S != h.S)with hc0|hc0<;>have a:=hc0<;>simp only[bs]at a;obtain⟨f,g⟩:=a;rw[show pageF h i=Ci.mk (2:Int) (i:Int) (0:Int)from by(simp only[pageF] ;exact sj)];exact gF [] func145 [] (j (Ft 26 hc0 Fz));have k {h_ c_ p_} (b:Fq h_ c_ p_):=j (Ff 26 hc0 (Fc 32 (@So h ((i:Int)) aa) b));rcases bb ((Zd h (i:Int)).2 != 0)with hc1|hc1<;>have c:=hc1<;>simp only[bs]at c;rw[show pageF h i=Ci.mk (3:Int) (i:Int) (0:Int)from by(simp only[pageF] ;exact sj)];exact gF [] func145 [] (k (Ft 36 hc1 Fz));have l {h_ c_ p_} (b:Fq h_ c_ p_):=k (Ff 36 hc1 (Fc 42 (@Z2u h ((i:Int)) ((Zd h (i:Int)).1) aa oq oq oq aa) b));rcases bb (Cq h (i:Int) (Zd h (i:Int)).1 != 0)with hc2|hc2<;>have d:=hc2<;>simp only[bs]at d;rw[show pageF h i=Ci.mk (5:Int) (i:Int) (Cq h (i:Int) (Zd h (i:Int)).1)from by(simp only[pageF] ;exact sj)];exact gF [] func145 [] (l (Ft 44 hc2 Fz));have m {h_ c_ p_} (b:Fq h_ c_ p_):=l (Ff 44 hc2 (Fc 50 (@Z8Q h i aa aa aa) b));rcases bb (Ei h i (CI h i) != 0)with hc3|hc3<;>have e:=hc3<;>simp only[bs]at e;rw[show pageF h i=Ci.mk (4:Int) (i:Int) (Ei h i (CI h i))from by(simp only[pageF] ;exact sj)];exact gF [] func145 [] (m (Ft 52 hc3 Fz));rw[show pageF h i=Ci.mk (0:Int) (0:Int) (0:Int)from by(simp only[pageF] ;exact sj)];exact gF [] func145 [] (m (Ff 52 hc3 Fz))
def AY(h:Heap)(a:List Int)(i:Nat):Tg:=⟨tm 89 [(1,.pt 8001 0 0),(2,.pt 8002 0 0),(3,Z3 a),(5,int i)],[(8002,.box 148 [int 0,int 0,u64 0]),(8001,.box 28 h.cells)],60⟩
def II(c:Zy)(b a:List Int)(k:Nat):Bool:=Bo c k&&O (b.getD k X≠0)&&!decide (b.getD k X∈a)
def AI(h:Heap)(a c:List Int)(b:Zy)(i k:Nat):Tg:=⟨tm 89 [(1,.pt 8001 0 0),(2,.pt 8002 0 0),(3,Z3 a),(5,int i),(6,.pt 488006 0 0),(8,Z3 c),(10,int k)],[(488006,.box 52 [int b.K,int b.length,u32 b.map]),(8002,.box 148 [int 0,int 0,u64 0]),(8001,.box 28 h.cells)],64⟩
section
variable (h:Heap) (a b:List Int) (c:Zy) (i k:Nat) (f:0<=c.map/\c.map<=4294967295) (hl:a.length<=1048576) (d:b.length<=4096) (g:0<=a.getD i X/\a.getD i X<=8192) (e:i<a.length)
include f hl d g e
theorem Z92(hk:k<b.length)(j:II c b a k=La):CP (Zo f146 2) (AI h a b c i k).st .nrm (AI h a b c i (k+1)).st:=by simp only[II,bs]at j;rcases j with(j|j)|j;let m:=Bo c (k:Int)&&b.getD k X != 0;exact sF [] [] (FM 46 47 wdv b k (Fc 52 (@Sf c ((k:Int)) aa) (FeG 56 (Bo c (k:Int)) wdv b (↑k) k (FeG 64 m wdv b (↑k) k (FcG 66 m (λl=>by(try simp only[bs]at l);exact@Ec a (b.getD k X) aa) (Ffs 68 (Bo c (k:Int)&&b.getD k X != 0&&!decide (b.getD k X∈a)) (Fx 49 k Fz)))))));let n:=Bo c (k:Int)&&b.getD k X != 0;exact sF [] [] (FM 46 47 wdv b k (Fc 52 (@Sf c ((k:Int)) aa) (FeG 56 (Bo c (k:Int)) wdv b (↑k) k (FeG 64 n wdv b (↑k) k (FcG 66 n (λl=>by(try simp only[bs]at l);exact@Ec a (b.getD k X) aa) (Ffb 68 (Bo c (k:Int)&&b.getD k X != 0&&!decide (b.getD k X∈a)) (Fx 49 k Fz)))))));let o:=Bo c (k:Int)&&b.getD k X != 0;exact sF [] [] (FM 46 47 wdv b k (Fc 52 (@Sf c ((k:Int)) aa) (FeG 56 (Bo c (k:Int)) wdv b (↑k) k (FeG 64 o wdv b (↑k) k (FcG 66 o (λl=>by(try simp only[bs]at l);exact@Ec a (b.getD k X) aa) (Ffs 68 (Bo c (k:Int)&&b.getD k X != 0&&!decide (b.getD k X∈a)) (Fx 49 k Fz)))))))
theorem ZcC(hk:k<b.length)(j:II c b a k=Z):CP (Zo f146 2) (AI h a b c i k).st .ret (Tg.st ⟨tm 89 [(2,.pt 8002 0 0)],[(8002,.box 148 [int 6,int (Z2 h.C (a.getD i X+1+k)).1,u64 (a.getD i X+1+k)])],64⟩):=by simp only[II,bs]at j;obtain⟨⟨m,n⟩,o⟩:=j;let l:=Bo c (k:Int)&&b.getD k X != 0;exact sF [] [] (FM 46 47 wdv b k (Fc 52 (@Sf c ((k:Int)) aa) (FeG 56 (Bo c (k:Int)) wdv b (↑k) k (FeG 64 l wdv b (↑k) k (FcG 66 l (λp=>by(try simp only[bs]at p);exact@Ec a (b.getD k X) aa) (Fts 68 (Bo c (k:Int)&&b.getD k X != 0&&!decide (b.getD k X∈a)) (Fek 71 wdv a (↑i) i (Fv 73 (a.getD i X+1) (Fv 75 (↑k) (Fv 76 (a.getD i X+1+(k:Int)) (Fc 81 (@GG h.C (a.getD i X+1+(k:Int)) oq oq) Fz)))))))))))
omit f hl d g e in
theorem Zc7:CP (Zo f146 2) (AI h a b c i b.length).st (.ext 2) (Tg.st ⟨tm 89 [(1,.pt 8001 0 0),(2,.pt 8002 0 0),(3,Z3 a),(5,int i)],[(8002,.box 148 [int 0,int 0,u64 0]),(8001,.box 28 h.cells)],64⟩):=by exact sF [] [] (FO 46 47 wdv b Fz)
end
section
variable (h:Heap) (a b:List Int) (c:Zy) (i:Nat) (f:0<=c.map/\c.map<=4294967295) (hl:a.length<=1048576) (d:b.length<=4096) (g:0<=a.getD i X/\a.getD i X<=8192) (e:i<a.length)
include f hl d g e
theorem ZbH(l:(Lb b.length).find? (II c b a)=L):CP (Zk f146 2) (AI h a b c i 0).st .nrm (Tg.st ⟨tm 89 [(1,.pt 8001 0 0),(2,.pt 8002 0 0),(3,Z3 a),(5,int i)],[(8002,.box 148 [int 0,int 0,u64 0]),(8001,.box 28 h.cells)],64⟩):=by refine Bw (S:=λk=>(AI h a b c i k).st) b.length kr (λk j=>Z92 h a b c i k f hl d g e j ?_) (Zc7 h a b c i);have:=Ll.1 l k (Ld.2 j);simpa using this
theorem Zc0(k:Nat)(p:(Lb b.length).find? (II c b a)=Y k):CP (Zk f146 2) (Tg.st ⟨tm 89 [(1,.pt 8001 0 0),(2,.pt 8002 0 0),(3,Z3 a),(5,int i),(6,.pt 488006 0 0),(8,Z3 b),(10,int 0)],[(488006,.box 52 [int c.K,int c.length,u32 c.map]),(8002,.box 148 [int 0,int 0,u64 0]),(8001,.box 28 h.cells)],64⟩) .ret (Tg.st ⟨tm 89 [(2,.pt 8002 0 0)],[(8002,.box 148 [int 6,int (Z2 h.C (a.getD i X+1+k)).1,u64 (a.getD i X+1+k)])],64⟩):=by obtain⟨n,j,o⟩:=Lm.1 p;have j:=Ld.1 j;refine G5 (S:=λk=>(AI h a b c i k).st) k kr (λm l=>Z92 h a b c i m f hl d g e oq ?_) (ZcC h a b c i k f hl d g e j n);have:=o m l;simpa using this
end
def Z8o(h:Heap) a:(Ct h a).1.length<=4096:=by unfold Ct;split;rename_i e;have po:=B1 (NG e).2.2.1;have:=Z7x h.W (a+1) (Zp h a).1.length;omega;simp
def HB(h:Heap)(a:List Int)(i:Nat):Option Nat:=(Lb (Ct h (a.getD i X)).1.length).find? (II (Zp h (a.getD i X)).1 (Ct h (a.getD i X)).1 a)
section
variable (h:Heap) (a:List Int) (i:Nat) (b:Zx h.W) (hl:a.length<=1048576) (hr:0<=a.getD i X/\a.getD i X<=8192) (hi:i<a.length)
include b hl hr hi
theorem Z73(d:HB h a i=L):CP (Zo f146 0) (AY h a i).st .nrm (AY h a (i+1)).st:=by have hm:=Z0B b (a.getD i X);have hf:(Ct h (a.getD i X)).1.length<=4096:=Z8o h _;unfold HB at d;let c:=a.getD i X;exact sF [] [] (FN 22 23 30 wdv a i (Fc 32 (@Iz h c aa oq) (Fek 39 wdv a (↑i) i (Fc 41 (@Z6y h c aa oq) (Fu (@ZbH h a ((Ct h c).1) ((Zp h c).1) i aa aa aa aa aa aa) (Fx 25 i Fz))))))
theorem Zdk(k:Nat)(d:HB h a i=Y k):CP (Zo f146 0) (AY h a i).st .ret (Tg.st ⟨tm 89 [(2,.pt 8002 0 0)],[(8002,.box 148 [int 6,int (Z2 h.C (a.getD i X+1+k)).1,u64 (a.getD i X+1+k)])],60⟩):=by have hm:=Z0B b (a.getD i X);have hf:(Ct h (a.getD i X)).1.length<=4096:=Z8o h _;unfold HB at d;let c:=a.getD i X;exact sF [] [] (FN 22 23 30 wdv a i (Fc 32 (@Iz h c aa oq) (Fek 39 wdv a (↑i) i (Fc 41 (@Z6y h c aa oq) (Fu (@Zc0 h a ((Ct h c).1) ((Zp h c).1) i aa aa aa aa aa k aa) Fz)))))
end
def Ziu(h:Heap) a:CP (Zo f146 0) (AY h a a.length).st (.ext 0) (Tg.st ⟨tm 89 [(2,.pt 8002 0 0)],[(8002,.box 148 [int 0,int 0,u64 0])],60⟩):=by exact sF [] [] (FO 22 23 wdv a Fz)
def ED(h:Heap)(a:List Int):Ci:=
 match (Lb a.length).find? (λi=>(HB h a i).isSome)with|none=>⟨0,0,0⟩|some i=>⟨6,(Z2 h.C (a.getD i X+1+((HB h a i).getD 0:Nat))).1,a.getD i X+1+((HB h a i).getD 0:Nat)⟩
section
variable (h:Heap) (a:List Int) (c:Zx h.W) (hl:a.length<=1048576) (b:∀x∈a,0<=x/\x<=8192)
include c hl b
theorem Zeo(e:(Lb a.length).find? (λi=>(HB h a i).isSome)=L):CP (Zk f146 0) (AY h a 0).st .nrm (Tg.st ⟨tm 89 [(2,.pt 8002 0 0)],[(8002,.box 148 [int 0,int 0,u64 0])],60⟩):=by refine Bw (S:=λk=>(AY h a k).st) a.length kr (λk d=>Z73 h a k c hl (b _ (Bs.2 ⟨k,d,rfl⟩)) d ?_) (Ziu h a);have:=Ll.1 e k (Ld.2 d);simpa using this
theorem ZiA(i k:Nat)(j:(Lb a.length).find? (λi=>(HB h a i).isSome)=Y i)(e:HB h a i=Y k):CP (Zk f146 0) (Tg.st ⟨tm 89 [(1,.pt 8001 0 0),(2,.pt 8002 0 0),(3,Z3 a),(5,int 0)],[(8002,.box 148 [int 0,int 0,u64 0]),(8001,.box 28 h.cells)],60⟩) .ret (Tg.st ⟨tm 89 [(2,.pt 8002 0 0)],[(8002,.box 148 [int 6,int (Z2 h.C (a.getD i X+1+k)).1,u64 (a.getD i X+1+k)])],60⟩):=by obtain⟨h1,d,g⟩:=Lm.1 j;have d:=Ld.1 d;refine G5 (S:=λk=>(AY h a k).st) i kr (λm f=>Z73 h a m c hl (b _ (Bs.2 ⟨m,by omega,rfl⟩)) oq ?_) (Zdk h a i c hl (b _ (Bs.2 ⟨i,d,rfl⟩)) d k e);have:=g m f;simpa using this
end
def Z2M(h:Heap)(hw:Zx h.W):GP 146 [h.av] Z (ED h (Zg h).1).av []:=by
 have hl:=SF h;have hr:=Oo h;cases hb:(Lb (Zg h).1.length).find? (λi=>(HB h (Zg h).1 i).isSome)with
 |none =>
  have e:ED h (Zg h).1=⟨0,0,0⟩:=by simp only[ED,hb]
  rw[e];exact gF [] func146 [] (Fc 17 (@DN h aa) (Fu (@Zeo h ((Zg h).1) aa oq aa aa) Fz))
 |some i =>
  have a:=(Lm.1 hb).1;obtain⟨k,b⟩:=Option.isSome_iff_exists.1 a;have e:ED h (Zg h).1=⟨6,(Z2 h.C ((Zg h).1.getD i X+1+(k:Nat))).1,(Zg h).1.getD i X+1+(k:Nat)⟩:=by simp only[ED,hb,b,Option.getD_some]
  rw[e];exact gF [] func146 [] (Fc 17 (@DN h aa) (Fu (@ZiA h ((Zg h).1) aa oq aa i k aa aa) Fz))
def Zfl(h:Heap)(hw:Zx h.W)(hp:Z8 h=La):GP 89 [h.av] Z (Ci.mk 1 0 0).av []:=by exact gF [] func89 [] (Fc 9 (@CL h) (Ftb 10 (!Z8 h) Fz))
def DZ(h:Heap)(i:Nat):Tg:=⟨tm 65 [(1,.pt 8001 0 0),(2,.pt 8002 0 0),(3,int i)],[(8002,.box 148 [int 0,int 0,u64 0]),(8001,.box 28 h.cells)],60⟩
section
variable (h:Heap) (i:Nat) (hw:Zx h.W) (a:Z8 h=Z)
include hw a
theorem Z9k(hi:i<h.P.length)(hb:(pageF h i).fault=0):CP (Zo f89 0) (DZ h i).st .nrm (DZ h (i+1)).st:=by have po:=B1 a;exact sF [] [] (FM 15 16 Z0.dv h.P i (Fc 21 (@Z9j h i aa aa aa) (Ffb 24 ((pageF h i).fault != 0) (Fx 18 i Fz))))
theorem ZkF(hi:i<h.P.length)(hb:(pageF h i).fault≠0):CP (Zo f89 0) (DZ h i).st .ret (Tg.st ⟨tm 65 [(2,.pt 8002 0 0)],[(8002,.box 148 [int (pageF h i).fault,int (pageF h i).page,u64 (pageF h i).addr])],60⟩):=by have po:=B1 a;exact sF [] [] (FM 15 16 Z0.dv h.P i (Fc 21 (@Z9j h i aa aa aa) (Ftb 24 ((pageF h i).fault != 0) Fz)))
end
def Zf9(h:Heap)(a:Z8 h=Z):CP (Zo f89 0) (DZ h h.P.length).st (.ext 0) (Tg.st ⟨tm 65 [(1,.pt 8001 0 0),(2,.pt 8002 0 0)],[(8002,.box 148 [int 0,int 0,u64 0]),(8001,.box 28 h.cells)],60⟩):=by have po:=B1 a;exact sF [] [] (FO 15 16 Z0.dv h.P Fz)
def Gu(h:Heap):Option Nat:=(Lb h.P.length).find? (λi=>O ((pageF h i).fault≠0))
section
variable (h:Heap) (b:Zx h.W) (a:Z8 h=Z)
include b a
theorem Z2v(d:Gu h=L):CP (Zk f89 0) (DZ h 0).st .nrm (Tg.st ⟨tm 65 [(1,.pt 8001 0 0),(2,.pt 8002 0 0)],[(8002,.box 148 [int 0,int 0,u64 0]),(8001,.box 28 h.cells)],60⟩):=by refine Bw (S:=λk=>(DZ h k).st) h.P.length kr (λk c=>Z9k h k b a c ?_) (Zf9 h a);have:=Ll.1 d k (Ld.2 c);simpa using this
theorem ZiQ(i:Nat)(g:Gu h=Y i):CP (Zk f89 0) (Tg.st ⟨tm 65 [(1,.pt 8001 0 0),(2,.pt 8002 0 0),(3,int 0)],[(8002,.box 148 [int 0,int 0,u64 0]),(8001,.box 28 h.cells)],60⟩) .ret (Tg.st ⟨tm 65 [(2,.pt 8002 0 0)],[(8002,.box 148 [int (pageF h i).fault,int (pageF h i).page,u64 (pageF h i).addr])],60⟩):=by obtain⟨e,c,f⟩:=Lm.1 g;have c:=Ld.1 c;refine G5 (S:=λk=>(DZ h k).st) i kr (λm d=>Z9k h m b a oq ?_) (ZkF h i b a c (by simpa using e));have:=f m d;simpa using this
end
def ZhK(h:Heap)(hw:Zx h.W)(hp:Z8 h=Z)(i:Nat)(hb:Gu h=Y i):GP 89 [h.av] Z (pageF h i).av []:=by exact gF [] func89 [] (Fc 9 (@CL h) (Ffb 10 (!Z8 h) (Fu (@ZiQ h aa aa i aa) Fz)))
def ZeV(h:Heap)(hw:Zx h.W)(hp:Z8 h=Z)(hb:Gu h=L)(hq:(ED h (Zg h).1).fault≠0):GP 89 [h.av] Z (ED h (Zg h).1).av []:=by exact gF [] func89 [] (Fc 9 (@CL h) (Ffb 10 (!Z8 h) (Fu (@Z2v h aa aa aa) (Fc 27 (@Z2M h aa) (Ftb 30 ((ED h (Zg h).1).fault != 0) Fz)))))
end Go.Proofs.YtgedmeaemofdkaaGreat
namespace Go.Sx
def Z0e(H:Heap)(x:AV):Option AV:=match x with|.d x=>Y (.d x)|.rp e o=>Y (.rp e o)|.ow b=>(match Lj 8000 b with|true=>(match H b with|Y (.arr _ s els)=>Y (.d (.sl s els))|_=>L)|false=>L)|.os b o n=>(match Lj 8000 b with|true=>(match H b with|Y (.arr _ s els)=>Y (.d (.sl s ((els.drop o).take n)))|_=>L)|false=>L)|_=>L
def Zip{P f}{e0 e1:List DV}{t0 t1:Nat}{x:Value}(hx:x.oneCell'=Z)(h:GSpec P f [.rp e0 0,.rp e1 0] Z (.d (.sc x)) []) :LentSpec P f [.pt 0 0 0,.pt 1 0 0] [.box t0 (e0.map .d),.box t1 (e1.map .d)] (.d (.sc x)) [.box t0 (e0.map .d),.box t1 (e1.map .d)]:=by
 intro w Im ρ vs a0 a2 hρ a1 c z u;have box:∀(k:Nat) (e:List DV) (t:Nat) (v:Value) (p:Nat->Prop),(∀g,Im g->p g)->(∀β g,ρ k=Y β->β.g=Y g->p g)->(∃β,ρ k=Y β/\RelB ρ w Im β (.box t (e.map .d)))->Zi ρ w Im (.pt k 0 0) v->Zi (λ_=>L) w p (.rp e 0) v:=by
  intro k e t v p hi m hb hv;obtain⟨β,hβ,r⟩:=hb;obtain⟨g,s,n,k1,rfl⟩:=RJ hv rfl;rw[hβ]at k1;cases k1;obtain⟨r1,r2,g2,cs,r3,r4,r5,r6,r7⟩:=r;cases r3;have:=@Zi.rp (λ_=>L) w p e 0 ⟨g,0,L⟩ rfl (m _ _ hβ rfl) (λj y hy=>by
   have hj:j<e.length:=(List.getElem?_eq_some_iff.1 hy).1;have hc:j<cs.size:=by rw[r5];simpa using hj
   have a:cs[j]?=Y cs[j]:=Array.getElem?_eq_getElem hc;have l:=r7 j (.d y) cs[j] (by simp[hy]) a;refine⟨cs[j], ?_, ?_⟩;simp only[World.cell?,r4];simpa using a;cases l with
   |d l=>exact l.mono (Ext.refl _ _) hi)
  simpa using this
 refine(h w (λg=>Im g\/∃k β,ρ k=Y β/\β.g=Y g) vs ?_ a2 ?_).mono ?_;rintro g (m|⟨k,β,a,l⟩);exact a0 g m;exact(c k β g a l).1;intro i y v hy hv;cases i with
 |zero =>simp at hy;subst hy;exact box 0 e0 t0 v _ (λg m=>.inl m) (λβ g a l=>.inr ⟨0,β,a,l⟩) (z 0 _ rfl) (u 0 _ v rfl hv)
 |succ i=>cases i with
  |zero =>
   simp at hy;subst hy;exact box 1 e1 t1 v _ (λg m=>.inl m) (λβ g a l=>.inr ⟨1,β,a,l⟩) (z 1 _ rfl) (u 1 _ v rfl hv)
  |succ i=>simp at hy
 rintro e w' ⟨v,rfl,o,ρ',a3,_,_,_,_,_,_,hr⟩;have hv:=C0 hr;subst hv;have ext:Ext Im w w':=⟨o.size,λg m=>o.block g (a0 g m) (λq=>q),o.rows⟩;refine⟨_,rfl,⟨o.os,o.tape,o.output,o.size,λk a _=>o.block k a (λq=>q),o.rows⟩,ρ,Im,λ_ _ h=>h,hρ,λg m=>.inl m,λg m=>LA (a0 g m) o.size,
  λk β g a l=>⟨LA (c k β g a l).1 o.size,.inr ⟨k,β,a,l⟩⟩,λk β g _ a l=>(c k β g a l).2,λk k' β β' g _ _=>a1 k k' β β' g, ?_,.d (.sc _ hx)⟩
 intro k B hB;obtain⟨β,b1,b2⟩:=z k B hB;exact⟨β,b1,b2.mono ext (λ_ h=>h) (λ_ _ h=>h) (λb β g a l=>(c b β g a l).1) (λg m=>o.block g (c k β g b1 m).1 (λq=>q))⟩
def Z0R{P}{f s:Nat}{fr res news}(h:∀(p:Option Addr) (c:Nat),GSpec P f [.d (.sc (.slice p 0 c))] fr res news):GSpec P f [.d (.sl s [])] fr res news:=by
 intro w m g r a y;have h0:g.size=1:=a;obtain⟨v,q⟩:∃v,g[0]?=Y v:=⟨g[0]' oq,by simp⟩;have b:∀(p:Option Addr) (c:Nat),v=.slice p 0 c->Calls P f g w λe z=>∃v,e=.returned v/\RB w m fr res news v z:=λp c e=>by
  refine h p c w m g r a λi x u k o=>?_;match i with|0 =>simp only[List.getElem?_cons_zero,Option.some.injEq]at k;rw[q]at o;cases o;subst k;subst e;exact .d (.sc _ rfl)|i+1=>simp at k
 have j:=y 0 _ v rfl q;cases j with
 |d j =>
  generalize t:([]:List (List DV))=l at j;cases j with|slNil s p c=>exact b p c rfl|sl s els p n c fn a=>subst t;simp at a;subst a;exact b _ c rfl
def fzL(f:Nat->Option Nat)(H:Heap)(x:AV):Option AV:=match x with|.d x=>Y (.d x)|.rp e o=>Y (.rp e o)|.pt b i o=>(match f b with|Y k=>Y (.pt k i o)|L=>L)|.os b o n=>(match f b with|Y k=>Y (.os k o n)|L=>Z0e H (.os b o n))|.ow b=>(match f b with|Y k=>Y (.ow k)|L=>Z0e H (.ow b))|_=>L
def fzM(f:Nat->Option Nat)(H:Heap)(x:AV):Option AV:=match x with|.ag l=>(match Ht (fzL f H) l with|Y r=>Y (.ag r)|L=>L)|.ic t x=>(match fzL f H x with|Y r=>Y (.ic t r)|L=>L)|x=>fzL f H x
def fzT(f:Nat->Option Nat)(H:Heap)(x:AV):Option AV:=match x with|.tu l=>(match Ht (fzM f H) l with|Y r=>Y (.tu r)|L=>L)|x=>fzM f H x
def fzB(f:Nat->Option Nat)(H:Heap)(m b:Nat)(E:Z4):Option (Z4×List Prop):=match E with
 |.dead=>match Lj (b+1) m with|Z=>Y (.dead,[])|La=>L
 |.box _ cells1=>match H b with|some (.box ty cells)=>(match Ht (fzM f H) cells with|some a=>Y (.box ty (HN Sr a cells1).1,(HN Sr a cells1).2)|none=>L)|_=>L
 |.arr .. => match H b with|some (.arr ty s els)=>Y (.arr ty s els,[])|_=>L
 |.mp _=>match H b with|some (.mp ks)=>Y (.mp ks,[])|_=>L
def Pt(f:Nat->Option Nat)(H:Heap)(m:Nat):List Nat->List Z4->Option (List Z4×List Prop)|[],[]=>Y ([],[])|b::l,E::r=>(match fzB f H m b E,Pt f H m l r with|some (B,p),some (rs,q)=>Y (B::rs,p++q)|_,_=>L)|_,_=>L
def upto:Nat->Nat->List Nat|_,0=>[]|k,n+1=>k::upto (k+1) n
def Pz:Nat->List Nat->Bool|_,[]=>Z|k,b::l=>(LO b k||(Lj 8000 b&&Lj b 15999))&&Pz (k+1) l
theorem OW:∀(n k i:Nat),i<n->(upto k n)[i]?=Y (k+i)
 |0,_,_,h=>by omega
 |n+1,k,0,_=>rfl
 |n+1,k,i+1,h=>by
  simp only[upto,List.getElem?_cons_succ];rw[OW n (k+1) i oq,show k+1+i=k+(i+1)from by omega]
theorem Z1C:∀(n k:Nat),(upto k n).length=n|0,_=>rfl|n+1,k=>by simp[upto,Z1C n (k+1)]
def Z8p:∀{l:List Nat} {k i b:Nat},Pz k l=Z->l[i]?=Y b->b=k+i\/(8000<=b/\b<16000)
 |[],_,_,_,_,h=>by simp at h
 |c::l,k,i,b,hk,h=>by
  simp only[Pz,Lg,LB]at hk;cases i with
  |zero =>
   simp at h;subst h;rcases hk.1 with h|h
   .simp_all
   .exact .inr ⟨Lk h.1,by have:=Lk h.2;omega⟩
  |succ i =>
   rcases Z8p hk.2 (by simpa using h)with h|h;all_goals omega
def Z83:∀{l:List Nat} {m:List Z4} {b:Nat} {B:Z4},BW (l.zip m) b=Y B->∃i:Nat,l[i]?=Y b/\m[i]?=Y B
 |[],_,_,_,h=>by simp[BW]at h
 |_::_,[],_,_,h=>by simp[BW]at h
 |c::l,C::m,b,B,h=>by
  simp only[List.zip_cons_cons,BW]at h;split at h
  .rename_i e;cases h;exact⟨0,by simp[e],rfl⟩
  .obtain⟨i,a,d⟩:=Z83 h;exact⟨i+1,by simpa using a,by simpa using d⟩
def Nm(P:Program)(hints:List (Nat×List Hint))(d:List (Nat×Tg×Ex×Tg))(ids keep:List Nat)(fn:Func)(args:List AV)(a:List Z4)(res:AV)(post:List Z4):Option ZI:=
 match fn.body with|none=>L|some c=>match Cp P hints d c ⟨args.map (HE (Ij ids))++Lh (fn.ntmps-args.length) .any,BW (ids.zip (a.map (Gw ids))),2⟩with|none=>L|some r=>match r.e with|.ext _=>L|_=>match Rr P r.s.tmps r.s.H fn.results.toList with|none=>L|some l=>match fzT (λb=>CQ b (upto 0 a.length++keep) 0) r.s.H (RX l),Pt (λb=>CQ b (upto 0 a.length++keep) 0) r.s.H a.length (upto 0 a.length++keep) post with|some x,some (bs,q)=>(match nodupB (upto 0 a.length++keep)&&Lj a.length 8000&&(nodupB ids&&Pz 0 ids&&LO ids.length a.length)with|true=>Y ⟨r.e,r.s,r.ph++((HR x res).2++q),r.eq++((HR x res).1,res)::(bs.map G4).zip (post.map G4)⟩|false=>L)|_,_=>L
section
variable {Ow:Own} {Im0:Nat->Prop} {w0:World} {ρ ρ':ZM} {w:World} {Im t:Nat->Prop} {H:Heap} {clk:Nat} {f:Nat->Option Nat}
theorem Z5M{x v}{s:Nat}{els:List (List DV)}(I:Inv Ow Im0 w0 ρ w Im H clk)(r:∀g,Im g->t g)(hx:Zi ρ w Im x v)(h:ES H x=Y (s,els))(d:∀a n c,v=.slice (Y a) n c->n≠0->t a.block):CK w t (.sl s els) v:=by
 obtain⟨p,c,rfl,j,m,z,b⟩:=An I hx h;by_cases l:els=[];subst l;exact .slNil _ _ _;rcases b with b|⟨q,rfl,hq,b⟩;grind;have hn:els.length≠0:=by grind
 refine .sl s els q els.length c (λi o=>(w.cell? ⟨q.block,q.off+(i*s+o),L⟩).getD undef) rfl m j (z l) hq (d q _ c rfl hn) ?_ ?_;grind;intro i e o y k ho;obtain⟨u,k1,k2⟩:=b i e o y k ho;rw[k1];exact k2.mono (Ext.refl _ _) r
theorem Z2E(I:Inv Ow Im0 w0 ρ w Im H clk)(hf:∀b k β,f b=Y k->ρ b=Y β->ρ' k=Y β)(hi:∀g,Im g->t g)(hz:∀b β g,8000<=b->f b=L->live H b->ρ b=Y β->β.g=Y g->t g){x y:AV}{v}(i:Zi ρ w Im x v)(h:fzL f H x=Y y):Zi ρ' w t y v:=by
 unfold fzL at h;split at h;cases h;cases i with|d i=>exact .d (i.mono (Ext.refl _ _) hi)
 cases h;cases i with|rp l p q=>exact .rp l (hi _ p) (λj x i=>let ⟨v,k1,k2⟩:=q j x i;⟨v,k1,k2.mono (Ext.refl _ _) hi⟩)
 split at h;rename_i k o;cases h;obtain⟨g,s,n,l,rfl⟩:=NE i;exact .pt (hf _ _ _ o l);cases h;rename_i b oo m;split at h;rename_i k o;cases h;cases i with|os l p q r h5=>exact .os (hf _ _ _ o l) p q r h5
 .rename_i o;simp only[Z0e]at h;split at h;rotate_left;cases h;rename_i u;split at h;rotate_left;cases h;rename_i ty s els hb;cases h;refine .d (Z5M I hi i (by simp[ES,hb]) λa n c hv hn=>?_);subst hv;generalize z:Value.slice (Y a) n c=vv at i;cases i with|os l p q r h5 =>injection z with e1 e2 e3;rcases h5 with h5|⟨g,hg,e,_⟩;omega;rw[<-e1]at e;cases e;exact hz b _ _ (Lk u) o ⟨_,hb,by simp⟩ l hg
 rename_i b;split at h;rename_i k o;cases h;cases i with|ow l p q r=>exact .ow (hf _ _ _ o l) p q r
 .rename_i o;simp only[Z0e]at h;split at h;rotate_left;cases h;rename_i u;split at h;rotate_left;cases h;rename_i ty s els hb;cases h;refine .d (Z5M I hi i (by simp[ES,hb]) λa n c hv hn=>?_);subst hv;generalize z:Value.slice (Y a) n c=vv at i;cases i with|ow l p q r =>injection z with e1 e2 e3;rcases r with r|⟨g,hg,e,_⟩;omega;rw[<-e1]at e;cases e;exact hz b _ _ (Lk u) o ⟨_,hb,by simp⟩ l hg
 cases h
theorem Z0C(I:Inv Ow Im0 w0 ρ w Im H clk)(j:∀b k β,f b=Y k->ρ b=Y β->ρ' k=Y β)(l:∀g,Im g->t g)(m:∀b β g,8000<=b->f b=L->live H b->ρ b=Y β->β.g=Y g->t g){x y:AV}{v}(c:Zi ρ w Im x v)(h:fzM f H x=Y y):Zi ρ' w t y v:=by
 unfold fzM at h;split at h
 .split at h;rotate_left;cases h;rename_i r d;cases h;obtain⟨h1,h2⟩:=Si d;obtain⟨e,rfl,k1,n,k3⟩:=Hr c;refine .ag _ e oq n λi a u ha hu=>?_;grind[Z2E]
 .split at h;rotate_left;cases h;rename_i r d;cases h;cases c with|ic c=>exact .ic (Z2E I j l m c d)
 grind[Z2E]
theorem Zdh(I:Inv Ow Im0 w0 ρ w Im H clk)(hf:∀b k β,f b=Y k->ρ b=Y β->ρ' k=Y β)(hi:∀g,Im g->t g)(hz:∀b β g,8000<=b->f b=L->live H b->ρ b=Y β->β.g=Y g->t g){x y:AV}{v}(e:Zi ρ w Im x v)(h:fzT f H x=Y y):Zi ρ' w t y v:=by
 unfold fzT at h;split at h
 .split at h;rotate_left;cases h;rename_i r d;cases h;obtain⟨h1,h2⟩:=Si d;cases e with|tu _ c k1 k3 =>refine .tu _ c oq λi a u ha hu=>?_;grind[Z0C]
 grind[Z0C]
theorem ZhF{m b}{E C:Z4}{p:List Prop}(h:fzB f H m b E=Y (C,p))(hE:E≠.dead):live H b:=by
 cases E with|dead=>grind|box d c =>simp only[fzB]at h;split at h;rename_i a;exact⟨_,a,by simp⟩;cases h|arr ty s els =>simp only[fzB]at h;split at h;rename_i a;exact⟨_,a,by simp⟩;cases h|mp ks =>simp only[fzB]at h;split at h;rename_i a;exact⟨_,a,by simp⟩;cases h
theorem Zdv(I:Inv Ow Im0 w0 ρ w Im H clk)(hf:∀b k β,f b=Y k->ρ b=Y β->ρ' k=Y β)(v:∀g,Im g->t g)(hz:∀b β g,8000<=b->f b=L->live H b->ρ b=Y β->β.g=Y g->t g){m b}{E C:Z4}{p:List Prop}(h:fzB f H m b E=Y (C,p))(x:B3 p)(hE:E≠.dead):∃β,ρ b=Y β/\RelB ρ' w t β C:=by
 cases E with|dead=>grind|box n d =>simp only[fzB]at h;split at h;rotate_left;cases h;rename_i ty cells c;split at h;rotate_left;cases h;rename_i cs j;cases h;obtain⟨β,a,h0,e,g,r,k1,z,k3,l,k4⟩:=I.blk b _ c;obtain⟨f1,f2⟩:=Si j;obtain⟨c1,c2⟩:=PD x;refine⟨β,a,by omega,e,g,r,k1,z,by omega,l,λo y u hy hu=>?_⟩;grind[Z0C,Z16]|arr n s1 q =>simp only[fzB]at h;split at h;rotate_left;cases h;rename_i ty s els c;cases h;obtain⟨β,a,i⟩:=I.blk b _ c;exact⟨β,a,RelB.arr_any (by rfl) i v⟩|mp ks =>simp only[fzB]at h;split at h;rotate_left;cases h;rename_i c;cases h;obtain⟨β,a,i⟩:=I.blk b _ c;exact⟨β,a,i⟩
theorem Z7V{m}:∀{l:List Nat} {post a:List Z4} {q:List Prop},Pt f H m l post=Y (a,q)->B3 q->l.length=post.length/\a.length=post.length /\
  ∀(k:Nat) (E:Z4),post[k]?=Y E->∃(b:Nat) (C:Z4) (p:List Prop),l[k]?=Y b/\a[k]?=Y C/\fzB f H m b E=Y (C,p)/\B3 p
 |[],[],a,q,h,_=>by cases h;grind
 |b::l,E::post,a,q,h,hq=>by
  simp only[Pt]at h;split at h;rotate_left
  .cases h
  rename_i B p e q' hB c;cases h;obtain⟨q1,d⟩:=H8.1 hq;obtain⟨h1,h2,h3⟩:=Z7V c d;grind
 |[],E::post,a,q,h,_=>by cases h
 |b::l,[],a,q,h,_=>by cases h
end
def Bp{P:Program}{f:Nat}{fn:Func}{args pre res post}(hints:List (Nat×List Hint)) cuts ids keep(hf:P.funcs[f]?=Y fn) fl{φ:Prop}(hφ:φ)(h1:Rh fl (Nm P hints cuts ids keep fn args pre res post)=φ)(h2:N1 fl (Nm P hints cuts ids keep fn args pre res post)=IY fl (Nm P hints cuts ids keep fn args pre res post)):BorSpec P f args pre res post:=by
 rw[<-h1]at hφ;obtain⟨hφ,h2⟩:=MS hφ h2;clear h1;cases hr:Nm P hints cuts ids keep fn args pre res post with
 |none=>rw[hr]at hφ;exact hφ.elim
 |some r =>
  rw[hr]at hφ h2;have heq:EI r.eq:=Ad h2;have hph:B3 r.ph:=hφ;clear h2 hφ;unfold Nm at hr;split at hr;cases hr;rename_i c hb;split at hr;cases hr;rename_i q hq;split at hr;cases hr;rename_i hne;split at hr;cases hr;rename_i l hl;generalize hfin:upto 0 pre.length++keep=fin at hr;split at hr;rotate_left;cases hr;rename_i x bs qq hx hbs;split at hr;rotate_left;cases hr;rename_i hok;simp only[Lg]at hok;have hnd:=AK hok.1.1;have h8:=Lk hok.1.2;have hidn:=AK hok.2.1.1;have hido:=λi b h=>Z8p (i:=i) (b:=b) hok.2.1.2 h;have hidl:=Nat.eq_of_beq_eq_true hok.2.2;cases hr;obtain⟨hph1,hph'⟩:=H8.1 hph;obtain⟨hph2,hph3⟩:=H8.1 hph';have heq1:=heq.left;have hxe:(HR x res).1=res:=heq.right ((HR x res).1,res) pq;obtain⟨b1,b2,b3⟩:=Z7V hbs hph3;have hbe:bs=post:=by
   apply LG;intro i;by_cases hi:i<bs.length;have hi':i<post.length:=by omega
   have:(G4 bs[i],G4 post[i])∈(bs.map G4).zip (post.map G4):=by(refine List.mem_iff_getElem?.2 ⟨i, ?_⟩;simp[List.getElem?_zip_eq_some,hi,hi'])
   have:=Z0E (heq.right (G4 bs[i],G4 post[i]) (List.mem_cons_of_mem _ this));grind;grind
  subst hbe;have hfl:∀k,k<pre.length->fin[k]?=Y k:=by grind[Z1C,OW]
  have hfm:pre.length<=fin.length:=by grind
  intro w Im ρ vs hIm hsz hρ hinj hbnd hpre hargs;refine calls_of_wp hf hb ?_;let ρ0:ZM:=λb=>match CQ b ids 0 with|Y k=>ρ k|L=>L
  have hρ0:∀b β,ρ0 b=Y β->∃k:Nat,ids[k]?=Y b/\ρ k=Y β:=by(intro b β h;simp only[ρ0]at h;split at h;rename_i k hk;obtain⟨_,q2⟩:=Io hk;grind;cases h)
  have hρi:∀(k b:Nat),ids[k]?=Y b->ρ0 b=ρ k:=by
   intro k b hk;simp only[ρ0];cases hx:CQ b ids 0 with|none=>exact absurd (Lu hk) (DU hx)|some k2 =>obtain⟨_,q⟩:=Io hx;grind[Aa]
  have hren:∀k β,ρ k=Y β->ρ0 (ids.getD k 0)=Y β:=by grind
  have hS:Sys (GU ρ) Im w (args.map (HE (Ij ids))++Lh (fn.ntmps-args.length) .any) (BW (ids.zip (pre.map (Gw ids)))) 2 {tmps:=vs++Array.replicate (fn.ntmps-vs.size) undef,defers:=[]} w:=by
   refine⟨ρ0,Im,⟨Kept.refl _ _,(λb b' β β' g _ _ h1 h2 h3 h4=>?_),(λb β g _ h h'=>?_),(λb β g h h'=>?_),(λb β g h h'=>?_),hIm,(λg h=>.inl h),(λb B h=>?_),(λb hb h=>?_),by omega,λb β hb h=>?_⟩,⟨by simp[hsz],λi y v hy hv=>?_,rfl⟩⟩;obtain⟨k,k1,k2⟩:=hρ0 b β h1;obtain⟨k',k1',k2'⟩:=hρ0 b' β' h2;grind;grind;grind;obtain⟨k,k1,k2⟩:=hρ0 b β h;exact .inr ⟨k,β,k2,h'⟩;obtain⟨i,h1,h2⟩:=Z83 h;simp only[Li,Lo]at h2;obtain⟨C,h2,rfl⟩:=h2;obtain⟨β,m1,m2⟩:=hpre i C h2;exact⟨β,by grind,Z1N (λ_ h=>h) hren m2⟩;cases hc:ρ0 b<;>grind;obtain⟨k,k1,k2⟩:=hρ0 b β h;rcases hido k b k1 with q|q;have:b=k:=by omega
   subst this;exact k2;omega;rw[List.getElem?_append]at hy;simp only[Array.getElem?_append]at hv;rw[hsz]at hv;simp only[Ly]at hy;split at hy;rename_i hi;rw[if_pos hi]at hv;simp only[Li,Lo]at hy;obtain⟨z,hz,rfl⟩:=hy;obtain⟨q1,q2,q3⟩:=PX (w:=w) (Im:=Im) (Im':=Im) hren;exact AJ (λ_ h=>h) q1 q2 q3 (hargs i z v hz hv);have:=Lu hy;rw[(List.mem_replicate.1 this).2];exact .any _
  refine wp_mono (Tp hq hph1 heq1 _ _ _ _ _ hS) ?_;rintro e a' w' ⟨rfl,hS'⟩;have post:a'.defers=[]/\∃v,(results fn a'.tmps).run P w'=.ok v w'/\∃u,Ending.returned v=.returned u/\Kept (OwA (GU ρ)) w w'/\∃(ρ':ZM) (Im':Nat->Prop),(∀k β,ρ k=Y β->ρ' k=Y β)/\(∀k β,ρ' k=Y β->k<bs.length) /\
   (∀g,Im' g->Im g\/w.heap.size<=g\/OwA (GU ρ) g)/\(∀g,Im' g->g<w'.heap.size) /\
   (∀k β g,ρ' k=Y β->β.g=Y g->g<w'.heap.size/\(w.heap.size<=g\/OwA (GU ρ) g)) /\
   (∀k β g,live (hL bs) k->ρ' k=Y β->β.g=Y g->¬ Im' g) /\
   (∀k k' β β' g,live (hL bs) k->live (hL bs) k'->ρ' k=Y β->ρ' k'=Y β'->β.g=Y g->β'.g=Y g->k=k') /\
   (∀(k:Nat) (B:Z4),bs[k]?=Y B->∃β,ρ' k=Y β/\RelB ρ' w' Im' β B)/\Zi ρ' w' Im' res u:=by
   obtain⟨ρf,Imf,I,T⟩:=hS';obtain⟨v,h1,h2⟩:=Z1R I T hl;let ρ':ZM:=λk=>if k<pre.length then ρ k else match fin[k]? with|Y b=>ρf b|L=>L
   have hlow:∀k,k<pre.length->ρ' k=ρ k:=λk hk=>by grind
   have hhigh:∀(k b:Nat),¬ k<pre.length->fin[k]?=Y b->ρ' k=ρf b:=λk b hk hb=>by grind
   have hname:∀(k b:Nat) (β:Bi),fin[k]?=Y b->ρf b=Y β->ρ' k=Y β:=by
    intro k b β hb hβ;by_cases hk:k<pre.length
    .rw[hfl k hk]at hb;cases hb;rw[hlow k hk];exact I.one.2 k β oq hβ
    .grind
   have hnm:∀b k β,CQ b fin 0=Y k->ρf b=Y β->ρ' k=Y β:=by
    intro b k β hk hβ;obtain⟨_,q2⟩:=Io hk;exact hname k b β (by simpa using q2) hβ
   let Im':Nat->Prop:=λg=>Imf g\/∃b β,8000<=b/\CQ b fin 0=L/\live q.s.H b/\ρf b=Y β/\β.g=Y g;have hi:∀g,Imf g->Im' g:=λg h=>.inl h;have hz:∀b β g,8000<=b->CQ b fin 0=L->live q.s.H b->ρf b=Y β->β.g=Y g->Im' g:=λb β g k1 k2 k3 k4 k5=>.inr ⟨b,β,k1,k2,k3,k4,k5⟩;have hlv:∀k,live (hL bs) k->∃b β,fin[k]?=Y b/\live q.s.H b/\ρf b=Y β/\ρ' k=Y β:=by
    rintro k ⟨E,hE,hd⟩;obtain⟨b,C,p,k1,k2,k3,k4⟩:=b3 k E hE;have hlb:=ZhF k3 hd;obtain⟨B,hB,_⟩:=id hlb;obtain⟨β,m1,_⟩:=I.blk b B hB;exact⟨b,β,k1,hlb,m1,hname k b β k1 m1⟩
   refine⟨T.defers,v,h1,v,rfl,I.kept,ρ',Im', ?_, ?_, ?_, ?_, ?_, ?_, ?_, ?_, ?_⟩
   .grind
   .grind
   .rintro g (hg|⟨b,β,_,_,_,hb,hg⟩)
    .exact I.im0 g hg
    .exact(I.own b β g hb hg).elim (λh=>.inr (.inl h.1)) (λh=>.inr (.inr h))
   .rintro g (hg|⟨b,β,_,_,_,hb,hg⟩)
    .exact I.imb g hg
    .exact I.bnd b β g hb hg
   .intro k β g hk hg;by_cases hkp:k<pre.length
    .rw[hlow k hkp]at hk;exact⟨LA (hbnd k β g hk hg).1 I.kept.size,.inr ⟨k,β,hk,hg⟩⟩
    .simp only[ρ',if_neg hkp]at hk;split at hk
     .rename_i b hb;exact⟨I.bnd b β g hk hg,(I.own b β g hk hg).imp (·.1) (λh=>h)⟩
     .cases hk
   .intro k β g hlk hk hg;obtain⟨b,β2,k1,k2,k3,k4⟩:=hlv k hlk;rw[hk]at k4;cases k4;rintro(h|⟨b2,β3,_,m2,m3,m4,m5⟩)
    .exact I.notIm b β g k2 k3 hg h
    .have:=I.inj b b2 β β3 g k2 m3 k3 m4 hg m5;subst this;exact absurd (Lu k1) (DU m2)
   .intro k k' β β' g l1 l2 q1 q2 q3 q4;obtain⟨b,β2,k1,k2,k3,k4⟩:=hlv k l1;obtain⟨b',β2',k1',k2',k3',k4'⟩:=hlv k' l2;rw[q1]at k4;cases k4;rw[q2]at k4';cases k4';have:=I.inj b b' β β' g k2 k2' k3 k3' q3 q4;grind[Aa]
   .intro k B hB;by_cases hd:B=.dead
    .subst hd;obtain⟨b,C,p,k1,k2,k3,k4⟩:=b3 k .dead hB;simp only[fzB]at k3;split at k3;rotate_left
     .cases k3
     rename_i hbm;have hbm:=Lk hbm;have e:=Aa hnd k1 (hfl b oq);subst e;obtain⟨β,m1,_⟩:=hpre k _ (List.getElem?_eq_getElem oq);exact⟨β,by grind,trivial⟩
    .obtain⟨b,C,p,k1,k2,k3,k4⟩:=b3 k B hB;rw[hB]at k2;cases k2;obtain⟨β,m1,m2⟩:=Zdv I hnm hi hz k3 k4 hd;grind
   .grind[Z3D,Zdh]
  cases hqe:q.e with|nrm=>exact post|ret=>exact post|ext n=>grind
section
variable {hs:List (Nat×List Hint)} {cs:List (Nat×Tg×Ex×Tg)} {φ0:Prop}
theorem borF{P:Program}{f:Nat}{fn:Func}{args a res post} ids keep(d:P.funcs[f]?=Y fn) fl(h:Fq hs cs φ0)(b:TB fl (Nm P hs cs ids keep fn args a res post)=φ0:=by kernel_rfl)(c:N1 fl (Nm P hs cs ids keep fn args a res post)=IY fl (Nm P hs cs ids keep fn args a res post):=by kernel_rfl):BorSpec P f args a res post:=
 Bp hs cs ids keep d fl (Z0x (Eq.mpr b h.p)) rfl c
theorem lF{P:Program}{f:Nat}{fn:Func}{args a res post}(d:P.funcs[f]?=Y fn) fl(h:Fq hs cs φ0)(b:TB fl (Nm P hs cs [0] [] fn args a res post)=φ0:=by kernel_rfl)(c:N1 fl (Nm P hs cs [0] [] fn args a res post)=IY fl (Nm P hs cs [0] [] fn args a res post):=by kernel_rfl):BorSpec P f args a res post:=
 Bp hs cs [0] [] d fl (Z0x (Eq.mpr b h.p)) rfl c
end
end Go.Sx
namespace Go.Proofs.YtgedmeaemofdkaaGreat
open Go.Sx
structure Tape where
 l:List Int
 at':Int
 deriving Inhabited
def Tape.b(t:Tape):Z4:=.box 48 [.d (.sl 1 (t.l.map idv)),int t.at']
def Et(t:Tape):Prop:=t.l.length<=140737488355328/\0<=t.at'/\t.at'<=1048576
def Tape.next(t:Tape)(n:Int):Int:=if n<1 then 0 else(if t.at'<t.l.length then t.l.getD t.at'.toNat X else t.at'*7+3)%n
def Tape.step(t:Tape)(n:Int):Tape:=if n<1 then t else⟨t.l,t.at'+1⟩
def Z8K(v:Int){n:Int}(h:1<=n):-n<v.tmod n/\v.tmod n<n:=by
 by_cases a:0<=v;rw[Lf a];have:=Lq v (b:=n) oq;have:=Lp v (b:=n) oq;omega;have e:v.tmod n=-((-v).tmod n):=by rw[Int.neg_tmod];omega
 rw[e,Lf oq];have:=Lq (-v) (b:=n) oq;have:=Lp (-v) (b:=n) oq;omega
def Zc9(v:Int){n:Int}(h:1<=n):(v.tmod n+n).tmod n=v%n:=by
 have hr:=Z8K v h;rw[Lf oq,LC];by_cases a:0<=v;rw[Lf a,LD];have e:v=n*v.tdiv n+v.tmod n:=(Int.mul_tdiv_add_tmod v n).symm;conv=>rhs;rw[e]
 rw[Int.mul_add_emod_self_left]
def E0 t(n:Int)(e:Et t)(hn:n<=1099511627776)(d:-1099511627776<=n):LP 22 [.pt 0 0 0,int n] [t.b] (int (t.next n)) [(t.step n).b]:=by
 unfold Et at e;have h1:=λh=>Z8K (t.l.getD t.at'.toNat X) (n:=n) h;have h2:=λh=>Zc9 (t.l.getD t.at'.toNat X) (n:=n) h;have h3:1<=n->0<=(t.at'*7+3)%n/\(t.at'*7+3)%n<n:=λh=>⟨Lq _ oq,Lp _ oq⟩;have h4:((t.at'*7+3)%n+n)%n=(t.at'*7+3)%n:=by rw[LC,LD]
 rcases bb (O (n<1))with hc0|hc0<;>have a:=hc0<;>simp only[bs]at a;rw[show t.step n=t from by simp[Tape.next,Tape.step, *]];exact lF func22 [Z] (Ft 7 hc0 (Fa (by simp[Tape.next,Tape.step, *]:0=t.next n) Fz));have c {h_ c_ p_} (f:Fq h_ c_ p_):=Ff 7 hc0 (Fi 12 (t.at'*7) (Fi 13 (t.at'*(7:Int)+3) (Fl 22 idv t.l f)));rcases bb (O (t.at'<(t.l.length:Int)))with hc1|hc1<;>have b:=hc1<;>simp only[bs]at b;rw[show t.step n=Tape.mk t.l (t.at'+(1:Int))from by simp[Tape.next,Tape.step, *]];exact lF func22 [Z] (c (Ft 23 hc1 (Fe 32 idv t.l t.at' (Fi 38 (t.at'+1) (Fo (n≠0) (Fi 45 ((t.l.getD t.at'.toNat X).tmod n+n) (Fg 47 (by exact Lf oq:((t.l.getD t.at'.toNat X).tmod n+n).tmod n=((t.l.getD t.at'.toNat X).tmod n+n)%n) (Fo (n≠0) (Fa (by grind[Tape.next,Tape.step]:((t.l.getD t.at'.toNat X).tmod n+n)%n=t.next n) Fz)))))))));rw[show t.step n=Tape.mk t.l (t.at'+(1:Int))from by simp[Tape.next,Tape.step, *]];exact lF func22 [Z] (c (Ff 23 hc1 (Fi 38 (t.at'+1) (Fg 43 (by exact Lf oq:(t.at'*(7:Int)+3).tmod n=(t.at'*(7:Int)+3)%n) (Fo (n≠0) (Fi 45 ((t.at'*(7:Int)+3)%n+n) (Fg 47 (by exact Lf oq:((t.at'*(7:Int)+3)%n+n).tmod n=((t.at'*(7:Int)+3)%n+n)%n) (Fo (n≠0) (Fa (by simp[Tape.next,Tape.step, *]:((t.at'*(7:Int)+3)%n+n)%n=t.next n) Fz)))))))))
def PE t(ht:Et t):LP 53 [.pt 0 0 0] [t.b] (bool (O ((t.l.length:Int)<=t.at'))) [t.b]:=by exact lF func53 [] (Fl 11 idv t.l Fz)
def Tape.C(t:Tape):ZY:=⟨[16,16,20,32].getD (t.next 4).toNat X,[8,12,16,20,24].getD ((t.step 4).next 5).toNat X⟩
def Gx(t:Tape){n:Int}(h:1<=n):0<=t.next n/\t.next n<n:=by
 unfold Tape.next
 rw[if_neg oq];exact⟨Lq _ oq,Lp _ oq⟩
def step_ok{t}(a:Et t) n(h:t.at'<1048576):Et (t.step n):=by unfold Et at a⊢;unfold Tape.step;split;exact a;simp only;omega
def Zdx t(a:Et t)(ha:t.at'<=1000000):LP 101 [.pt 0 0 0] [t.b] (t.C.av) [((t.step 4).step 5).b]:=by have h1:=Gx t (n:=4) dd;have h2:=Gx (t.step 4) (n:=5) dd;have h3:=step_ok a 4 oq;exact lF func101 [] (Fh 7 [.el (idv ([16,16,20,32].getD (t.next 4).toNat X))] (Fh 12 [.el (idv ([8,12,16,20,24].getD ((t.step 4).next 5).toNat X))] (Fs 3 (M idv [16,16,20,32]) (Fp 5 (@E0 t (4) aa oq oq) (Fa (by simp[Tape.C, *]:0<=t.next 4/\(t.next 4).toNat<(M idv [16,16,20,32]).length) (Fa (by grind[Tape.C]:(M idv [16,16,20,32])[(t.next 4).toNat]?=Y (idv ([16,16,20,32].getD (t.next 4).toNat X))) (Fs 8 (M idv [8,12,16,20,24]) (Fp 10 (@E0 (t.step 4) (5) aa oq oq) (Fa (by simp[Tape.C, *]:0<=(t.step 4).next 5/\((t.step 4).next 5).toNat<(M idv [8,12,16,20,24]).length) (Fa (by grind[Tape.C]:(M idv [8,12,16,20,24])[((t.step 4).next 5).toNat]?=Y (idv ([8,12,16,20,24].getD ((t.step 4).next 5).toNat X))) Fz))))))))))
structure Zj where
 heap:Heap
 G:List Int
 E:List Int
 deriving Inhabited
def Zj.cells(w:Zj):List AV:=w.heap.cells++[Z3 w.G,Z3 w.E]
def Zj.av(w:Zj):AV:=.ag w.cells
def O9(t:Tape):Zs t.C=Z:=by
 have c:=Gx t (n:=4) dd;have d:=Gx (t.step 4) (n:=5) dd;unfold Tape.C;generalize t.next 4=a at c
 generalize (t.step 4).next 5=b at d
 have e:a=0\/a=1\/a=2\/a=3:=by omega
 have f:b=0\/b=1\/b=2\/b=3\/b=4:=by omega
 rcases e with rfl|rfl|rfl|rfl<;>rcases f with rfl|rfl|rfl|rfl|rfl<;>decide
def Nt{t:Tape} n:t.at'<=(t.step n).at'/\(t.step n).at'<=t.at'+1/\(t.step n).l=t.l:=by unfold Tape.step;split;exact⟨by omega,by omega,rfl⟩;exact⟨by simp only;omega,by simp only;omega,rfl⟩
def Nj{t u:Tape}(a:Et t)(hl:u.l=t.l)(h1:t.at'<=u.at')(h2:u.at'<=1048576):Et u:=by unfold Et at a⊢;rw[hl];omega
def Tape.empty(t:Tape):Zj:=⟨Il t.C,[],[]⟩
def Z43 t(ht:Et t)(ha:t.at'<=1000000):LP 52 [.pt 0 0 0] [t.b] (t.empty.av) [((t.step 4).step 5).b]:=by have hv:=O9 t;exact lF func52 [] (Fp 7 (@Zdx t aa aa) (Fc 8 (@ZcQ t.C aa) (Fnl (Fnl Fz))))
def GW(t:Tape)(c:ZY):Int:=if(t.step (Zb c)).next 12=0 then Zb c+((t.step (Zb c)).step 12).next c.pw else t.next (Zb c)
def Gf(t:Tape)(c:ZY):Tape:=if(t.step (Zb c)).next 12=0 then((t.step (Zb c)).step 12).step c.pw else(t.step (Zb c)).step 12
def Tape.header(t:Tape)(c:ZY):Zy:=if(Gf t c).next 4=0 then⟨2,GW t c,0⟩else if(Gf t c).next 4=1 then⟨3,GW t c,0⟩else⟨1,min (GW t c) 32,((Gf t c).step 4).next (2^(min (min (GW t c) 32) 12).toNat)⟩
def Tape.headerT(t:Tape)(c:ZY):Tape:=if(Gf t c).next 4=0 then(Gf t c).step 4 else if(Gf t c).next 4=1 then(Gf t c).step 4 else((Gf t c).step 4).step (2^(min (min (GW t c) 32) 12).toNat)
def Z2j{n:Int}(h:n<=12):(1:Int)<=2^n.toNat/\(2:Int)^n.toNat<=4096:=by
 have:n.toNat<=12:=by omega
 generalize n.toNat=k at this;have hk:k∈Lb 13:=Ld.2 oq;revert k;decide+kernel
def Z5h{n:Int}(h:0<=n):1*2^min (min (min n 32) 12).toNat 64=(2:Int)^(min (min n 32) 12).toNat:=by rw[Nat.min_eq_left oq,Int.one_mul]
def OV t(c:ZY)(ht:Et t)(ha:t.at'<=1000000)(hv:Zs c=Z):LP 102 [.pt 0 0 0,c.av] [t.b] ((t.header c).av) [(t.headerT c).b]:=by
 have hb:=BD.1 hv;have hs:=Ro hv;have s1:=Nt (t:=t) (Zb c);have s2:=Nt (t:=t.step (Zb c)) 12;have s3:=Nt (t:=(t.step (Zb c)).step 12) c.pw;have k1:=Nj ht s1.2.2 oq oq;have k2:=Nj k1 s2.2.2 oq oq;have k3:=Nj k2 s3.2.2 oq oq;have n1:=Gx t (n:=Zb c) oq;have n2:=Gx ((t.step (Zb c)).step 12) (n:=c.pw) oq;have h1:0<=GW t c/\GW t c<=80:=by unfold GW;split<;>omega
 have s4:=Nt (t:=((t.step (Zb c)).step 12).step c.pw) 4;have s5:=Nt (t:=(t.step (Zb c)).step 12) 4;have k4:=Nj k3 s4.2.2 oq oq;have k5:=Nj k2 s5.2.2 oq oq;have ei1:=Z5h (n:=Zb c+((t.step (Zb c)).step 12).next c.pw) oq;have ei2:=Z5h (n:=t.next (Zb c)) oq;have p1:=Z2j (n:=min (min (Zb c+((t.step (Zb c)).step 12).next c.pw) 32) 12) oq;have p2:=Z2j (n:=min (min (t.next (Zb c)) 32) 12) oq;have r1:=Gx ((((t.step (Zb c)).step 12).step c.pw).step 4) (n:=2^(min (min (Zb c+((t.step (Zb c)).step 12).next c.pw) 32) 12).toNat) oq;have r2:=Gx (((t.step (Zb c)).step 12).step 4) (n:=2^(min (min (t.next (Zb c)) 32) 12).toNat) oq;have Q0 {h_ c_ p_} (r_:Fq h_ c_ p_):=Fc 8 (@Na c) (Fp 11 (@E0 t (Zb c) aa oq oq) (Fp 13 (@E0 (t.step (Zb c)) (12) aa oq oq) r_));rcases bb ((t.step (Zb c)).next (12:Int)==0)with hc0|hc0<;>have hc0p:=hc0<;>simp only[bs]at hc0p;let y0:=(t.step (Zb c)).step 12;have Q1 {h_ c_ p_} (r_:Fq h_ c_ p_):=Q0 (Ft 14 hc0 (Fp 19 (@E0 y0 c.pw aa oq oq) (Fi 20 (Zb c+y0.next c.pw) (Fp 22 (@E0 (y0.step c.pw) (4) aa oq oq) r_))));rcases bb ((((t.step (Zb c)).step 12).step c.pw).next (4:Int)==0)with hc1|hc1<;>have hc1p:=hc1<;>simp only[bs]at hc1p;rw[show t.header c=Zy.mk (2:Int) (Zb c+((t.step (Zb c)).step (12:Int)).next c.pw) (0:Int)from by(simp only[Tape.header,Tape.headerT,GW,Gf] ;exact sj)];rw[show t.headerT c=(((t.step (Zb c)).step (12:Int)).step c.pw).step (4:Int)from by(simp only[Tape.header,Tape.headerT,GW,Gf] ;exact sj)];exact lF func102 [] (Fh 23 [.br Z] (Q1 (Fa hc1 Fz)));rcases bb ((((t.step (Zb c)).step 12).step c.pw).next (4:Int)==1)with hc2|hc2<;>have hc2p:=hc2<;>simp only[bs]at hc2p;rw[show t.header c=Zy.mk (3:Int) (Zb c+((t.step (Zb c)).step (12:Int)).next c.pw) (0:Int)from by(simp only[Tape.header,Tape.headerT,GW,Gf] ;exact sj)];rw[show t.headerT c=(((t.step (Zb c)).step (12:Int)).step c.pw).step (4:Int)from by(simp only[Tape.header,Tape.headerT,GW,Gf] ;exact sj)];exact lF func102 [] (Fh 23 [.br La] (Fh 27 [.br Z] (Q1 (Fa hc1 (Fa hc2 Fz)))))
 .rw[show t.header c=Zy.mk (1:Int) (min (Zb c+((t.step (Zb c)).step (12:Int)).next c.pw) (32:Int)) (((((t.step (Zb c)).step (12:Int)).step c.pw).step (4:Int)).next ((2:Int)^(min (min (Zb c+((t.step (Zb c)).step (12:Int)).next c.pw) (32:Int)) (12:Int)).toNat))from by(simp only[Tape.header,Tape.headerT,GW,Gf] ;exact sj)];rw[show t.headerT c=((((t.step (Zb c)).step (12:Int)).step c.pw).step (4:Int)).step ((2:Int)^(min (min (Zb c+((t.step (Zb c)).step (12:Int)).next c.pw) (32:Int)) (12:Int)).toNat)from by(simp only[Tape.header,Tape.headerT,GW,Gf] ;exact sj)];let y3:=(t.step (Zb c)).step 12;let y1:=Zb c+y3.next c.pw
  let y2:=min (min y1 32) 12;let y4:=(y3.step c.pw).step 4;exact lF func102 [] (Fh 23 [.br La] (Fh 27 [.br La] (Q1 (Fa hc1 (Fa hc2 (Fgo 32 (if 32<Zb c+y3.next c.pw then 32 else Zb c+y3.next c.pw) (min y1 32) (Fgo 36 (if 12<min y1 32 then 12 else min y1 32) y2 (Fv 37 y2 (Fg 38 (by rw[CY oq oq];omega:IntKind.i64.wrap ((1:Int)*2^min y2.toNat 64)=2^y2.toNat) (Fo (0<=min (min y1 32) 12) (Fp 39 (@E0 y4 (2^y2.toNat) aa oq oq) (Fg 40 (by exact OE oq oq:IntKind.u32.wrap (y4.next (2^y2.toNat))=y4.next (2^y2.toNat)) Fz))))))))))))
 have Q2 {h_ c_ p_} (r_:Fq h_ c_ p_):=Q0 (Ff 14 hc0 (Fp 22 (@E0 ((t.step (Zb c)).step 12) (4) aa oq oq) r_));rcases bb (((t.step (Zb c)).step 12).next (4:Int)==0)with hc3|hc3<;>have hc3p:=hc3<;>simp only[bs]at hc3p;rw[show t.header c=Zy.mk (2:Int) (t.next (Zb c)) (0:Int)from by(simp only[Tape.header,Tape.headerT,GW,Gf] ;exact sj)];rw[show t.headerT c=((t.step (Zb c)).step (12:Int)).step (4:Int)from by(simp only[Tape.header,Tape.headerT,GW,Gf] ;exact sj)];exact lF func102 [] (Fh 23 [.br Z] (Q2 (Fa hc3 Fz)));rcases bb (((t.step (Zb c)).step 12).next (4:Int)==1)with hc4|hc4<;>have hc4p:=hc4<;>simp only[bs]at hc4p;rw[show t.header c=Zy.mk (3:Int) (t.next (Zb c)) (0:Int)from by(simp only[Tape.header,Tape.headerT,GW,Gf] ;exact sj)];rw[show t.headerT c=((t.step (Zb c)).step (12:Int)).step (4:Int)from by(simp only[Tape.header,Tape.headerT,GW,Gf] ;exact sj)];exact lF func102 [] (Fh 23 [.br La] (Fh 27 [.br Z] (Q2 (Fa hc3 (Fa hc4 Fz)))));rw[show t.header c=Zy.mk (1:Int) (min (t.next (Zb c)) (32:Int)) ((((t.step (Zb c)).step (12:Int)).step (4:Int)).next ((2:Int)^(min (min (t.next (Zb c)) (32:Int)) (12:Int)).toNat))from by(simp only[Tape.header,Tape.headerT,GW,Gf] ;exact sj)];rw[show t.headerT c=(((t.step (Zb c)).step (12:Int)).step (4:Int)).step ((2:Int)^(min (min (t.next (Zb c)) (32:Int)) (12:Int)).toNat)from by(simp only[Tape.header,Tape.headerT,GW,Gf] ;exact sj)];let y5:=min (min (t.next (Zb c)) 32) 12;let y6:=((t.step (Zb c)).step 12).step 4;exact lF func102 [] (Fh 23 [.br La] (Fh 27 [.br La] (Q2 (Fa hc3 (Fa hc4 (Fgo 32 (if 32<t.next (Zb c)then 32 else t.next (Zb c)) (min (t.next (Zb c)) 32) (Fgo 36 (if 12<min (t.next (Zb c)) 32 then 12 else min (t.next (Zb c)) 32) y5 (Fv 37 y5 (Fg 38 (by rw[CY oq oq];omega:IntKind.i64.wrap ((1:Int)*2^min y5.toNat 64)=2^y5.toNat) (Fo (0<=min (min (t.next (Zb c)) 32) 12) (Fp 39 (@E0 y6 (2^y5.toNat) aa oq oq) (Fg 40 (by exact OE oq oq:IntKind.u32.wrap (y6.next (2^y5.toNat))=y6.next (2^y5.toNat)) Fz))))))))))))
abbrev sA(w:Zj)(t:Tape):Tape:=(t.step (w.heap.W.length:Int)).step (w.heap.P.length:Int)
abbrev sB(w:Zj)(t:Tape):Tape:=(sA w t).step 12
abbrev sC(w:Zj)(t:Tape):Int:=(t.step (w.heap.W.length:Int)).next (w.heap.P.length:Int)
def Gk(l:List Int):Prop:=∀x∈l,0<=x/\x<=18446744073709551615
structure SA (w:Zj):Prop where
 W:Zx w.heap.W
 G:Gk w.G
 E:Gk w.E
 sl:w.G.length<=1048576
 wl:w.E.length<=1048576
def Zj.refs(w:Zj):List Int:=0::(w.G++w.E)
def Zj.pick(w:Zj)(t:Tape):Int:=w.refs.getD (t.next (w.refs.length:Int)).toNat X
def Zj.pickT(w:Zj)(t:Tape):Tape:=t.step (w.refs.length:Int)
def N0 w t(a:SA w)(ht:Et t)(ha:t.at'<=1040000):LP 106 [w.av,.pt 0 0 0] [t.b] (u64 (w.pick t)) [(w.pickT t).b]:=by
 have h1:=a.sl;have h2:=a.wl;have hl:w.refs.length=w.G.length+w.E.length+1:=by simp[Zj.refs]
 have hn:=Gx t (n:=(w.refs.length:Int)) oq;rw[show w.pickT t=t.step (↑((0:Nat)+(1:Nat)+w.G.length+w.E.length):Int)from by grind[Zj.pick,Zj.refs,Zj.pickT]];exact lF func106 [Z] (Fh 12 [.els (M wdv ([0]++w.G++w.E))] (Fh 19 [.el (wdv (([0]++w.G++w.E).getD (t.next (↑(0+1+w.G.length+w.E.length):Int)).toNat X))] (Fs 6 (M wdv [0]) (Fa (by(simp[Zj.pick,Zj.refs,Zj.pickT, *];omega):(M wdv [0]).length+(M wdv w.G).length<=2^30) (Fs 9 (M wdv ([0]++w.G)) (Fa (by(simp[Zj.pick,Zj.refs,Zj.pickT, *];omega):(M wdv ([0]++w.G)).length+(M wdv w.E).length<=2^30) (Fa (by simp[Zj.pick,Zj.refs,Zj.pickT,Lt,Ls,Ln,Lr,wdv,idv]:M wdv ([0]++w.G)++M wdv w.E=M wdv ([0]++w.G++w.E)) (Fg 16 (by simp only[Ly,List.length_append,List.length_take,List.length_drop,List.length_set,List.length_replicate,List.length_nil,List.length_cons]:(↑(M wdv ([0]++w.G++w.E)).length:Int)=(↑(0+1+w.G.length+w.E.length):Int)) (Fp 17 (@E0 t ((↑(0+1+w.G.length+w.E.length):Int)) aa oq oq) (Fa (by grind[Zj.pick,Zj.refs,Zj.pickT]:0<=t.next (↑(0+1+w.G.length+w.E.length):Int)/\(t.next (↑(0+1+w.G.length+w.E.length):Int)).toNat<(M wdv ([0]++w.G++w.E)).length) (Fa (by grind[Zj.pick,Zj.refs,Zj.pickT]:(M wdv ([0]++w.G++w.E))[(t.next (↑(0+1+w.G.length+w.E.length):Int)).toNat]?=Y (wdv (([0]++w.G++w.E).getD (t.next (↑(0+1+w.G.length+w.E.length):Int)).toNat X))) (Fa (by grind[Zj.pick,Zj.refs,Zj.pickT]:([0]++w.G++w.E).getD (t.next (↑(0+1+w.G.length+w.E.length):Int)).toNat X=w.pick t) Fz))))))))))))
def Zj.put(w:Zj)(a:Zy):Zj:=if(ZT w.heap a).2.2=0 then⟨(ZT w.heap a).1,w.G++[(ZT w.heap a).2.1],w.E⟩else w
def TQ w(a:Zy)(d:SA w)(hm:0<=a.map/\a.map<=4294967295):GP 58 [w.av,a.av] La (w.put a).av []:=by have h0:=d.W;have h1:=d.sl;have c {h_ c_ p_} (e:Fq h_ c_ p_):=Fc 12 (@Z8x w.heap a aa aa) e;rcases bb ((ZT w.heap a).2.2==0)with hc0|hc0<;>have b:=hc0<;>simp only[bs]at b;rw[show w.put a=Zj.mk (ZT w.heap a).1 (w.G++[(ZT w.heap a).2.1]) w.E from by simp[Zj.put, *]];exact gF [] func58 [] (Fh 25 [.els (M wdv (w.G++[(ZT w.heap a).2.1]))] (c (Ft 17 hc0 (FAx 19 22 wdv w.G (by(simp[Zj.put, *];omega)) (Fs 24 (M wdv [(ZT w.heap a).2.1]) (Fa (by(simp[Zj.put, *];omega):(M wdv w.G).length+(M wdv [(ZT w.heap a).2.1]).length<=2^30) (Fa (by simp[Zj.put,Lt,Ls,Ln,Lr,wdv,idv]:M wdv w.G++M wdv [(ZT w.heap a).2.1]=M wdv (w.G++[(ZT w.heap a).2.1])) Fz)))))));rw[show w.put a=w from by simp[Zj.put, *]];exact gF [] func58 [] (c (Ff 17 hc0 Fz))
abbrev pA(w:Zj)(t:Tape):Z0:=w.heap.P.getD (Z2 w.heap.C (w.pick t)).1.toNat X
def De{l}(h:Gk l)(i:Nat):0<=l.getD i X/\l.getD i X<=18446744073709551615:=by
 rw[List.getD_eq_getElem?_getD];cases e:l[i]? with|none=>simp|some x=>exact h x (Lu e)
def Zjt{w}(b:SA w):Gk w.refs:=by intro x a;simp only[Zj.refs,LM,LL]at a;rcases a with rfl|a|a;omega;exact b.G x a;exact b.E x a
def Ax{w}(a:SA w)(t:Tape):0<=w.pick t/\w.pick t<=18446744073709551615:=De (Zjt a) _
def Z27(w:Zj)(t:Tape):t.at'<=(w.pickT t).at'/\(w.pickT t).at'<=t.at'+1/\(w.pickT t).l=t.l:=Nt _
def Hi(w:Zj)(t:Tape):Int:=((w.pickT (w.pickT t)).next 8).tmod (Zp w.heap (w.pick t)).1.length
def Hu(w:Zj)(t:Tape):Int:=if Bo (Zp w.heap (w.pick t)).1 (Hi w t)=Z then w.pick (w.pickT t)else((w.pickT (w.pickT t)).step 8).next 1048576
def Zj.link(w:Zj)(t:Tape):Zj:=if(Zp w.heap (w.pick t)).2=0/\(Zp w.heap (w.pick t)).1.length≠0 then⟨(CZ w.heap (w.pick t) (Hi w t) (Hu w t)).1,w.G,w.E⟩else w
def Zj.linkT(w:Zj)(t:Tape):Tape:=if(Zp w.heap (w.pick t)).2=0/\(Zp w.heap (w.pick t)).1.length≠0/\Bo (Zp w.heap (w.pick t)).1 (Hi w t)=La then((w.pickT (w.pickT t)).step 8).step 1048576 else(w.pickT (w.pickT t)).step 8
def Z1y w t(p:SA w)(z:Et t)(ha:t.at'<=1000000):LP 103 [w.av,.pt 0 0 0] [t.b] (w.link t).av [(w.linkT t).b]:=by have h0:=p.W;have s1:=Z27 w t;have s2:=Z27 w (w.pickT t);have s3:=Nt (t:=w.pickT (w.pickT t)) 8;have k1:=Nj z s1.2.2 oq oq;have k2:=Nj k1 s2.2.2 oq oq;have k3:=Nj k2 s3.2.2 oq oq;have p1:=Ax p t;have p2:=Ax p (w.pickT t);have n1:=Gx (w.pickT (w.pickT t)) (n:=8) dd;have n2:=Gx ((w.pickT (w.pickT t)).step 8) (n:=1048576) dd;have m1:=Z0B p.W (w.pick t);have v {h_ c_ p_} (u:Fq h_ c_ p_):=Fp 12 (@N0 w t aa aa oq) (Fp 15 (@N0 w (w.pickT t) aa aa oq) (Fp 17 (@E0 (w.pickT (w.pickT t)) (8) aa oq oq) (Fc 22 (@Iz w.heap (w.pick t) aa aa) u)));rcases bb ((Zp w.heap (w.pick t)).2 != 0||(Zp w.heap (w.pick t)).1.length==0)with hc0|hc0<;>have e:=hc0<;>simp only[bs]at e;rw[show w.link t=w from by(simp[Zj.link,Zj.linkT,Hi,Hu, *];omega)];rw[show w.linkT t=(w.pickT (w.pickT t)).step (8:Int)from by grind[Zj.link,Zj.linkT,Hi,Hu]];exact lF func103 [] (v (Ft 31 hc0 Fz));obtain⟨g,q⟩:=e;have r:=NG g;obtain⟨y,⟨s,⟨o,⟨m,⟨j,⟨h,⟨f,⟨d,⟨c,⟨a,b⟩⟩⟩⟩⟩⟩⟩⟩⟩⟩:=r;let k:=Zp w.heap (w.pick t);let i:=w.pickT (w.pickT t);have x {h_ c_ p_} (u:Fq h_ c_ p_):=v (Ff 31 hc0 (Fg 36 (by exact Lf oq:(i.next 8).tmod k.1.length=i.next 8%k.1.length) (Fo (k.1.length≠0) (Fc 39 (@Sf (k.1) (i.next 8%k.1.length) aa) u))));rcases bb (!Bo (Zp w.heap (w.pick t)).1 ((w.pickT (w.pickT t)).next 8%(Zp w.heap (w.pick t)).1.length))with hc6|hc6<;>have l:=hc6<;>simp only[bs]at l;rw[show w.link t=Zj.mk (CZ w.heap (w.pick t) ((w.pickT (w.pickT t)).next (8:Int)%(Zp w.heap (w.pick t)).1.length) (((w.pickT (w.pickT t)).step (8:Int)).next (1048576:Int))).1 w.G w.E from by grind[Zj.link,Zj.linkT,Hi,Hu]];rw[show w.linkT t=((w.pickT (w.pickT t)).step (8:Int)).step (1048576:Int)from by grind[Zj.link,Zj.linkT,Hi,Hu]];exact lF func103 [] (x (Ft 40 hc6 (Fp 42 (@E0 (i.step 8) (1048576) aa oq oq) (Fv 43 ((i.step 8).next 1048576) (Fc 50 (@Z59 w.heap (w.pick t) (i.next 8%k.1.length) ((i.step 8).next 1048576) aa aa) Fz)))));rw[show w.link t=Zj.mk (CZ w.heap (w.pick t) ((w.pickT (w.pickT t)).next (8:Int)%(Zp w.heap (w.pick t)).1.length) (w.pick (w.pickT t))).1 w.G w.E from by grind[Zj.link,Zj.linkT,Hi,Hu]];rw[show w.linkT t=(w.pickT (w.pickT t)).step (8:Int)from by grind[Zj.link,Zj.linkT,Hi,Hu]];exact lF func103 [] (x (Ff 40 hc6 (Fc 50 (@Z59 w.heap (w.pick t) ((w.pickT (w.pickT t)).next 8%(Zp w.heap (w.pick t)).1.length) (w.pick (w.pickT t)) aa aa) Fz)))
end Go.Proofs.YtgedmeaemofdkaaGreat
