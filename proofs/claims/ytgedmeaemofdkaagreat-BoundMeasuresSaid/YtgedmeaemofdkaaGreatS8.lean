/-
 The statement BoundMeasures: part 8.
 Conditions: none.
-/
import Derived.Test.YtgedmeaemofdkaaGreatS7
set_option maxRecDepth 100000
set_option maxHeartbeats 2000000
set_option linter.all false
open Inhabited renaming default->X
open Option renaming some->Y,none->L,map_eq_some_iff->Lo,map_some->LZ
open Bool renaming true->Z,false->La,and_eq_true->Lg,eq_iff_iff->Lw,or_eq_true->LD
open List renaming map->M,range->Lb,filter->Lc,mem_range->Ld,take->Le,replicate->Lh,getElem?_map->Li,find?_eq_none->Ll,find?_range_eq_some->Lm,map_set->Ln,getElem?_eq_getElem->Lr,map_append->Ls,map_drop->Lt,map_take->Lu,mem_of_getElem?->Lv,append_nil->Lx,getD->Ly,getElem?_eq_none->Lz,length_map->LA,map_congr_left->LB,append_assoc->LH,ext_getElem?->LI,filter_append->LJ,filter_cons->LK,filter_nil->LL,getD_eq_getElem?_getD->LM,getElem?_append->LN,getElem?_eq_some_iff->LO,length_append->LQ,length_filter_le->LR,mem_append->LS,mem_cons->LU,take_length->LV
open Decidable renaming decide->O
open Int renaming tmod_eq_emod_of_nonneg->Lf,emod_lt_of_pos->Lp,emod_nonneg->Lq,add_emod_right->LF,emod_emod->LG
open Nat renaming ble->Lj,le_of_ble_eq_true->Lk,lt_of_lt_of_le->LC,beq->LW,eq_of_beq_eq_true->LX,le_trans->LY
open Go.Proofs.Tryz
namespace Go.Proofs.YtgedmeaemofdkaaGreat
open Go.Sx
def Z0z(h:Heap)(n k:Int):Heap×Int×Bool :=
 if 0<=first h.P k/\Z25 h.P+k<=Z0X h.C then(⟨h.C,h.W,(Z38 h.C h.P (first h.P k) h.S n).1,h.S,h.B⟩,4096+first h.P k*h.C.pw,Z)else(noHeap,0,La)
def ZcL(h:Heap)(n k:Int)(hp:Z02 h=Z)(hk:k=need h.C n)(hk1:1<=k):GP 167 [h.av,int n,int k] La (.tu [(Z0z h n k).1.av,u64 (Z0z h n k).2.1,bool (Z0z h n k).2.2]) []:=by
 have po:=Z0a hp;obtain⟨o1,o2,o3,o4,o5,o6,o7,o8,o9⟩:=po;have hr:=Z5J h.P k;have hff:0<=first h.P k->first h.P k+k<=h.P.length:=λhf=>(Z21 hf).2.1
 have hiu:=Z7g h.P;have hli:=Zbn o1;have hnr:=Z1J h.C n;have hm2:0<=first h.P k->0<=first h.P k*h.C.pw/\first h.P k*h.C.pw+h.C.pw<=4096:=λh0=>Z2z o1 h0 (by have:=hff h0;omega)
 by_cases hg:0<=first h.P k/\Z25 h.P+k<=Z0X h.C
 .have e7:Z0z h n k=(⟨h.C,h.W,(Z38 h.C h.P (first h.P k) h.S n).1,h.S,h.B⟩,4096+first h.P k*h.C.pw,Z):=by rw[Z0z,if_pos hg]
  rw[show Z0z h n k=(Heap.mk h.C h.W (Z38 h.C h.P (first h.P k) h.S n).1 h.S h.B,(4096:Int)+first h.P k*h.C.pw,Z)from by rw[e7]];let y0:=!decide (first h.P k<0);exact gF [] func167 [] (Fc 13 (@Z5o h.P k oq) (FcG 19 y0 (λhg=>by(try simp only[bs]at hg);exact @Z60 h.P oq) (FiG 21 y0 ((↑(Z25 h.P):Int)+k) (FcG 24 y0 (λhg=>by(try simp only[bs]at hg);exact @Z6A h.C) (Ffb 26 (O (first h.P k<0)||O (Z0X h.C<(↑(Z25 h.P):Int)+k)) (Fc 37 (@ZiY h.C h.P (first h.P k) h.S n oq) (Fi 46 (first h.P k*h.C.pw) (Fi 47 (4096+first h.P k*h.C.pw) (Fv 48 (4096+first h.P k*h.C.pw) Fz)))))))))
 .have e7:Z0z h n k=(noHeap,0,La):=by rw[Z0z,if_neg hg]
  rw[e7];let y1:=!decide (first h.P k<0);exact gF [] func167 [] (Fc 13 (@Z5o h.P k oq) (FcG 19 y1 (λhg=>by(try simp only[bs]at hg);exact @Z60 h.P oq) (FiG 21 y1 ((↑(Z25 h.P):Int)+k) (FcG 24 y1 (λhg=>by(try simp only[bs]at hg);exact @Z6A h.C) (Ftb 26 (O (first h.P k<0)||O (Z0X h.C<(↑(Z25 h.P):Int)+k)) (Fnl (Fnl Fz)))))))
def Zd0{h:Heap}{n:Int}(hp:Z02 h=Z)(hn:1<=n/\n<=256):0<=(Z0o h n).2.1/\(Z0o h n).2.1<=8192/\((Z0o h n).2.2=Z->(Z0o h n).1.W=h.W/\4096<=(Z0o h n).2.1)/\((Z0o h n).2.2=La->(Z0o h n).1=noHeap):=by
 obtain⟨o1,o2,o3,o4,o5,o6,o7,o8,o9⟩:=Z0a hp;have hb:=(properB_iff.1 hp).2.2.2.2.1;have hpg:=λhj=>Z0L hp (j:=h.B.toNat) hj;have hfo:=λhf=>Z3y (h:=h) o9 hf;have hm1:0<=h.B->0<=h.B*h.C.pw/\h.B*h.C.pw+h.C.pw<=4096:=λh0=>Z2z o1 h0 oq;have hm2:0<=first h.P 1->0<=first h.P 1*h.C.pw/\first h.P 1*h.C.pw+h.C.pw<=4096:=λh0=>Z2z o1 h0 (by have:=hfo h0;omega)
 unfold Z0o;split
 .rename_i hf;unfold Z9v at hf;have h1:=hm1 hf.1;have h2:=hpg oq;refine⟨by simp only;omega,by simp only;omega,λ_=>⟨rfl,by simp only;omega⟩,λe=>by cases e⟩
 .split
  .rename_i hg;have h1:=hm2 hg.1;have h2:=congrArg Page.U (hfo hg.1).2.2.2;simp only at h2;refine⟨by simp only;omega,by simp only;omega,λ_=>⟨rfl,by simp only;omega⟩,λe=>by cases e⟩
  .exact⟨by simp,by simp,(λe=>nomatch e),λ_=>rfl⟩
def Zcq{h:Heap}{n k:Int}(hp:Z02 h=Z):0<=(Z0z h n k).2.1/\(Z0z h n k).2.1<=8192/\((Z0z h n k).2.2=Z->(Z0z h n k).1.W=h.W/\4096<=(Z0z h n k).2.1)/\((Z0z h n k).2.2=La->(Z0z h n k).1=noHeap):=by
 obtain⟨o1,o2,o3,o4,o5,o6,o7,o8,o9⟩:=Z0a hp;unfold Z0z;split
 .rename_i hg;have h3:=(Z21 hg.1)
  have h1:=Z2z (c:=h.C) (i:=first h.P k) o1 hg.1 oq;exact⟨by simp only;omega,by simp only;omega,λ_=>⟨rfl,by simp only;omega⟩,λe=>by cases e⟩
 .exact⟨by simp,by simp,(λe=>nomatch e),λ_=>rfl⟩
def put7(h:Heap)(hd:Header):Heap×Int×Bool:=if 0<need h.C (sizeH hd)then Z0z h (sizeH hd) (need h.C (sizeH hd))else Z0o h (sizeH hd)
def new7(h:Heap)(hd:Header):Heap×Int×Int :=
 if Z02 h=Z/\Z1j h.C hd=Z then(if(put7 h hd).2.2=Z then((Z1l (put7 h hd).1 (put7 h hd).2.1 hd).1,(put7 h hd).2.1,0)else(noHeap,0,3))else(noHeap,0,1)
def Z6K:WOk []:=λw h=>by simp at h
def Z7Q{c:Conf}{hd:Header}(h:Z1j c hd=Z):Z0i hd=Z/\1<=sizeH hd/\sizeH hd<=256/\0<=need c (sizeH hd)/\hd.K≠0:=by
 simp only[Z1j,Lg,decide_eq_true_eq]at h;have hv:=validH_iff.1 h.1.1;have hn:=Z1J c (sizeH hd);have hs:sizeH hd=hd.length+1:=by rw[sizeH,if_pos h.1.1]
 exact⟨h.1.1,by omega,by omega,by omega,h.1.2⟩
def Zju(h:Heap)(hd:Header)(hw:WOk h.W)(hm:0<=hd.map/\hd.map<=4294967295):GP 114 [h.av,hd.av] La (.tu [(new7 h hd).1.av,u64 (new7 h hd).2.1,int (new7 h hd).2.2]) []:=by
 by_cases hp:Z02 h=Z
 .cases ha:Z1j h.C hd with
  | false =>
   have e7:new7 h hd=(noHeap,0,1):=by rw[new7,if_neg (by rw[ha];simp)]
   rw[e7];exact gF [] func114 [] (Fc 13 (@Z0h h) (FcG 19 (!!Z02 h) (λhg=>by(try simp only[bs]at hg);exact @Z5u h.C hd aa) (Fts 21 (!Z02 h||!Z1j h.C hd) (Fnl (Fnl Fz)))))
  | true =>
   obtain⟨a1,a2,a3,a4,a5⟩:=Z7Q ha;have f1:=Zd0 hp ⟨a2,a3⟩;have f2:=Zcq (n:=sizeH hd) (k:=need h.C (sizeH hd)) hp;have w1:WOk (Z0o h (sizeH hd)).1.W:=by
    cases e:(Z0o h (sizeH hd)).2.2 with
    | true=>rw[(f1.2.2.1 e).1];exact hw
    | false=>rw[f1.2.2.2 e];exact Z6K
   have w2:WOk (Z0z h (sizeH hd) (need h.C (sizeH hd))).1.W:=by
    cases e:(Z0z h (sizeH hd) (need h.C (sizeH hd))).2.2 with
    | true=>rw[(f2.2.2.1 e).1];exact hw
    | false=>rw[f2.2.2.2 e];exact Z6K
   by_cases hn:0<need h.C (sizeH hd)
   .have e7:put7 h hd=Z0z h (sizeH hd) (need h.C (sizeH hd)):=by rw[put7,if_pos hn]
    have Q0 {h_ c_ p_} (r_:Fq h_ c_ p_):=Fc 13 (@Z0h h) (FcG 19 (!!Z02 h) (λhg=>by(try simp only[bs]at hg);exact @Z5u h.C hd aa) (Ffs 21 (!Z02 h||!Z1j h.C hd) (Fc 24 (@Z1E hd aa) (Fc 28 (@Z3V h.C (sizeH hd)) (Fc 32 (@Z6d h (sizeH hd) aa oq) (Ftb 37 (O (0<need h.C (sizeH hd))) (Fc 42 (@ZcL h (sizeH hd) (need h.C (sizeH hd)) aa (by rfl) aa) r_)))))));rcases bb (!(Z0z h (sizeH hd) (need h.C (sizeH hd))).2.2)with hc0 | hc0<;>have hc0p:=hc0<;>simp only[bs]at hc0p
    .exact gF [] func114 (fO 5) (Q0 (Ft 47 hc0 (Fnl (Fnl (Fa (by simp[new7,e7,noHeap, *]:0=(new7 h hd).1.C.pw) (Fa (by simp[new7,e7,noHeap, *]:0=(new7 h hd).1.C.pg) (Fa (by simp[new7,e7,noHeap, *]:[]=M wdv (new7 h hd).1.W) (Fa (by simp[new7,e7,noHeap, *]:[]=M Page.dv (new7 h hd).1.P) (Fa (by simp[new7,e7,noHeap, *]:0=(new7 h hd).1.S) (Fa (by simp[new7,e7,noHeap, *]:0=(new7 h hd).1.B) (Fa (by simp[new7,e7,noHeap, *]:0=(new7 h hd).2.1) (Fa (by simp[new7,e7,noHeap, *]:3=(new7 h hd).2.2) Fz))))))))))))
    .rw[show new7 h hd=((Z1l (Z0z h (sizeH hd) (need h.C (sizeH hd))).1 (Z0z h (sizeH hd) (need h.C (sizeH hd))).2.1 hd).1,(Z0z h (sizeH hd) (need h.C (sizeH hd))).2.1,(0:Int))from by simp[new7,e7,noHeap, *]];exact gF [] func114 [] (Q0 (Ff 47 hc0 (Fc 53 (@ZfD ((Z0z h (sizeH hd) (need h.C (sizeH hd))).1) ((Z0z h (sizeH hd) (need h.C (sizeH hd))).2.1) hd aa oq aa) Fz)))
   .have e7:put7 h hd=Z0o h (sizeH hd):=by rw[put7,if_neg hn]
    have Q1 {h_ c_ p_} (r_:Fq h_ c_ p_):=Fc 13 (@Z0h h) (FcG 19 (!!Z02 h) (λhg=>by(try simp only[bs]at hg);exact @Z5u h.C hd aa) (Ffs 21 (!Z02 h||!Z1j h.C hd) (Fc 24 (@Z1E hd aa) (Fc 28 (@Z3V h.C (sizeH hd)) (Fc 32 (@Z6d h (sizeH hd) aa oq) (Ffb 37 (O (0<need h.C (sizeH hd))) r_))))));rcases bb (!(Z0o h (sizeH hd)).2.2)with hc0 | hc0<;>have hc0p:=hc0<;>simp only[bs]at hc0p
    .exact gF [] func114 (fO 5) (Q1 (Ft 47 hc0 (Fnl (Fnl (Fa (by simp[new7,e7,noHeap, *]:0=(new7 h hd).1.C.pw) (Fa (by simp[new7,e7,noHeap, *]:0=(new7 h hd).1.C.pg) (Fa (by simp[new7,e7,noHeap, *]:[]=M wdv (new7 h hd).1.W) (Fa (by simp[new7,e7,noHeap, *]:[]=M Page.dv (new7 h hd).1.P) (Fa (by simp[new7,e7,noHeap, *]:0=(new7 h hd).1.S) (Fa (by simp[new7,e7,noHeap, *]:0=(new7 h hd).1.B) (Fa (by simp[new7,e7,noHeap, *]:0=(new7 h hd).2.1) (Fa (by simp[new7,e7,noHeap, *]:3=(new7 h hd).2.2) Fz))))))))))))
    .rw[show new7 h hd=((Z1l (Z0o h (sizeH hd)).1 (Z0o h (sizeH hd)).2.1 hd).1,(Z0o h (sizeH hd)).2.1,(0:Int))from by simp[new7,e7,noHeap, *]];exact gF [] func114 [] (Q1 (Ff 47 hc0 (Fc 53 (@ZfD ((Z0o h (sizeH hd)).1) ((Z0o h (sizeH hd)).2.1) hd aa oq aa) Fz)))
 .have hf:Z02 h=La:=by simpa using hp
  have e7:new7 h hd=(noHeap,0,1):=by rw[new7,if_neg (by rw[hf];simp)]
  rw[e7];exact gF [] func114 [] (Fc 13 (@Z0h h) (FcG 19 (!!Z02 h) (λhg=>by(try simp only[bs]at hg);exact @Z5u h.C hd aa) (Fts 21 (!Z02 h||!Z1j h.C hd) (Fnl (Fnl Fz)))))
def pg(h:Heap)(i:Int):Page:=h.P.getD i.toNat X
def adr(h:Heap)(i o:Int):Int:=(address h.C i o).1
def Z4d{h:Heap}(hv:Z06 h.C=Z)(i o:Int):0<=adr h i o/\adr h i o<=8192:=by
 have ha:=area hv;unfold adr address;rw[if_pos hv];split
 .rename_i hb;have hb:=inB_iff.1 hb;have:=ZfU hv hb.1 hb.2.1 hb.2.2.1 hb.2.2.2;simp only;omega
 .simp
def Z2s(h:Heap)(i:Int):Nat->Int->Option (List Int)
 | 0,_=>Y []
 | f+1,o=>if o<(pg h i).U then(if(atH h (adr h i o)).2=0 then(if(pg h i).K=2 then Y [adr h i o]else(Z2s h i f (o+sizeH (atH h (adr h i o)).1)).map (adr h i o :: ·))else L)else Y []
def Z9i(h:Heap)(i o:Int)(acc:List Int):Tg:=⟨tm 70 [(1,int i),(2,.pt 8002 0 0),(4,.d (.sl 0 [])),(5,int 0),(6,.pt 32006 0 0),(7,.ow 48007),(8,int o)],
 [(48007,.arr 35 1 (acc.map wdv)),(32006,.box 86 [int (pg h i).K,int (pg h i).S,int (pg h i).U,int (pg h i).N]),(8002,.box 28 h.cells)],60⟩
def Zam(acc:List Int):Tg:=⟨tm 70 [(7,.ow 48007)],[(48007,.arr 35 1 (acc.map wdv))],60⟩
section
variable (h:Heap) (i o:Int) (acc:List Int) (hw:WOk h.W) (hp:Z02 h=Z) (hl:acc.length<=1048576) (ho:0<=o/\o<=1000)
include hw hp hl ho
theorem Zjm(h1:o<(pg h i).U)(h2:(atH h (adr h i o)).2=0)(h3:(pg h i).K≠2):CP (rndF f147 0) (Z9i h i o acc).st .nrm (Z9i h i (o+sizeH (atH h (adr h i o)).1) (acc++[adr h i o])).st:=by
 have po:=Z0a hp;have ar:=Z4d po.1 i o;have sz:=Z0T (atH h (adr h i o)).1;have hm:=Z27 hw (adr h i o);unfold adr at ar sz hm h2;let y0:=address h.C i o;exact sF [(512061,48007)] [] (Fh 61 [.els (M wdv (acc++[y0.1]))] (Ftb 41 (O (o<(pg h i).U)) (Fc 47 (@Z5h h.C i o) (Fc 53 (@Z4Q h (y0.1) aa oq) (Ffb 57 ((atH h y0.1).2 != 0) (Fs 60 (M wdv [y0.1]) (Fa (by(simp[adr, *];omega):(M wdv acc).length+(M wdv [y0.1]).length<=2^30) (Fa (by simp[adr,Lu,Lt,Ln,Ls,wdv,idv]:M wdv acc++M wdv [y0.1]=M wdv (acc++[y0.1])) (Ffb 64 ((pg h i).K==2) (Fc 67 (@Z1E ((atH h y0.1).1) aa) (Fi 68 (o+sizeH (atH h y0.1).1) Fz)))))))))))
theorem ZgI(h1:o<(pg h i).U)(h2:(atH h (adr h i o)).2=0)(h3:(pg h i).K=2):CP (rndF f147 0) (Z9i h i o acc).st (.ext 0) (Zam (acc++[adr h i o])).st:=by
 have po:=Z0a hp;have ar:=Z4d po.1 i o;have hm:=Z27 hw (adr h i o);unfold adr at ar hm h2;let y0:=address h.C i o;exact sF [(512061,48007)] [] (Fh 61 [.els (M wdv (acc++[y0.1]))] (Ftb 41 (O (o<(pg h i).U)) (Fc 47 (@Z5h h.C i o) (Fc 53 (@Z4Q h (y0.1) aa oq) (Ffb 57 ((atH h y0.1).2 != 0) (Fs 60 (M wdv [y0.1]) (Fa (by(simp[adr, *];omega):(M wdv acc).length+(M wdv [y0.1]).length<=2^30) (Fa (by simp[adr,Lu,Lt,Ln,Ls,wdv,idv]:M wdv acc++M wdv [y0.1]=M wdv (acc++[y0.1])) (Ftb 64 ((pg h i).K==2) Fz)))))))))
theorem ZlG(h1:o<(pg h i).U)(h2:¬ (atH h (adr h i o)).2=0):CP (rndF f147 0) (Z9i h i o acc).st .ret (Tg.st ⟨tm 70 [(4,.d (.sl 0 [])),(5,int 19)],[],60⟩):=by
 have po:=Z0a hp;have ar:=Z4d po.1 i o;unfold adr at ar h2;exact sF [] [] (Ftb 41 (O (o<(pg h i).U)) (Fc 47 (@Z5h h.C i o) (Fc 53 (@Z4Q h ((address h.C i o).1) aa oq) (Ftb 57 ((atH h (address h.C i o).1).2 != 0) Fz))))
omit hw hp hl ho in
theorem ZfA(h1:(pg h i).U<=o):CP (rndF f147 0) (Z9i h i o acc).st (.ext 0) (Zam acc).st:=by
 exact sF [] [] (Ffb 41 (O (o<(pg h i).U)) Fz)
end
def Z88{h:Heap}{a:Int}(e:(atH h a).2=0):1<=sizeH (atH h a).1:=by
 have:=Zg4 e;rw[sizeH,if_pos this.2.2.2.2.1];omega
def Zi0(h:Heap)(i:Int)(hw:WOk h.W)(hp:Z02 h=Z)(hu:(pg h i).U<=256):∀ (f:Nat) (o:Int) (acc:List Int),(pg h i).U-o<=f->0<=o->o<=1000->(acc.length:Int)+f<=1000 ->
  (∀ l,Z2s h i f o=Y l->LSpec prog f147 0 (Z9i h i o acc).st (.ext 0) (Zam (acc++l)).st) /\
  (Z2s h i f o=L->LSpec prog f147 0 (Z9i h i o acc).st .ret (Tg.st ⟨tm 70 [(4,.d (.sl 0 [])),(5,int 19)],[],60⟩)):=by
 intro f;induction f with
 | zero =>
  intro o acc h1 h2 h3 h4;refine⟨λl hl=>?_,λhl=>by cases hl⟩;simp only[Z2s,Option.some.injEq]at hl;subst hl;rw[Lx];exact .endx (ZfA h i o acc oq)
 | succ f ih =>
  intro o acc h1 h2 h3 h4;unfold Z2s;by_cases ho:o<(pg h i).U
  .rw[if_pos ho];by_cases ha:(atH h (adr h i o)).2=0
   .rw[if_pos ha];by_cases hk:(pg h i).K=2
    .rw[if_pos hk];refine⟨λl hl=>?_,λhl=>by cases hl⟩;cases hl;exact .endx (ZgI h i o acc hw hp oq ⟨h2,by omega⟩ ho ha hk)
    .rw[if_neg hk];have hs:=Z88 ha;have hb:=Z0T (atH h (adr h i o)).1;have hr:=Zjm h i o acc hw hp oq ⟨h2,by omega⟩ ho ha hk;obtain⟨i1,i2⟩:=ih (o+sizeH (atH h (adr h i o)).1) (acc++[adr h i o]) oq oq oq qo;refine⟨λl hl=>?_,λhl=>?_⟩
     .rw[Lo]at hl;obtain⟨m,hm,rfl⟩:=hl;have:=i1 m hm;rw[LH]at this;exact .next hr this
     .rw[Option.map_eq_none_iff]at hl;exact .next hr (i2 hl)
   .rw[if_neg ha];exact⟨λl hl=>(by cases hl),λ_=>.endr (ZlG h i o acc hw hp oq ⟨h2,by omega⟩ ho ha)⟩
  .rw[if_neg ho];refine⟨λl hl=>?_,λhl=>by cases hl⟩;cases hl;rw[Lx];exact .endx (ZfA h i o acc oq)
def Zk4(h:Heap)(i:Int)(l:List Int)(hw:WOk h.W)(hp:Z02 h=Z)(hu:(pg h i).U<=256)(hl:Z2s h i 256 0=Y l):CP (blkF f147 0) (Tg.st ⟨tm 70 [(1,int i),(2,.pt 8002 0 0),(4,.d (.sl 0 [])),(5,int 0),(6,.pt 32006 0 0),(7,.ow 48007),(8,int 0)],
 [(48007,.arr 35 1 []),(32006,.box 86 [int (h.P.getD i.toNat X).K,int (h.P.getD i.toNat X).S,int (h.P.getD i.toNat X).U,int (h.P.getD i.toNat X).N]),(8002,.box 28 h.cells)],60⟩) .nrm (Zam l).st :=
 ((Zi0 h i hw hp hu 256 0 [] oq oq oq pq).1 l hl).ext kr
def ZcR(h:Heap)(i:Int)(hw:WOk h.W)(hp:Z02 h=Z)(hu:(pg h i).U<=256)(hl:Z2s h i 256 0=L):CP (blkF f147 0) (Tg.st ⟨tm 70 [(1,int i),(2,.pt 8002 0 0),(4,.d (.sl 0 [])),(5,int 0),(6,.pt 32006 0 0),(7,.ow 48007),(8,int 0)],
 [(48007,.arr 35 1 []),(32006,.box 86 [int (h.P.getD i.toNat X).K,int (h.P.getD i.toNat X).S,int (h.P.getD i.toNat X).U,int (h.P.getD i.toNat X).N]),(8002,.box 28 h.cells)],60⟩) .ret (Tg.st ⟨tm 70 [(4,.d (.sl 0 [])),(5,int 19)],[],60⟩) :=
 ((Zi0 h i hw hp hu 256 0 [] oq oq oq pq).2 hl).ret kr
def Z07(h:Heap)(i:Int):List Int×Int :=
 if Z02 h=Z then(if 0<=i/\i<h.P.length then(if(pg h i).K=0\/(pg h i).K=3 then([],0)else(match Z2s h i 256 0 with | Y l=>(l,0) | L=>([],19)))else([],2))else([],1)
def Z3J(h:Heap)(i:Int)(hw:WOk h.W):GP 147 [h.av,int i] La (.tu [Z01 (Z07 h i).1,int (Z07 h i).2]) []:=by
 cases hp:Z02 h with
 | false =>
  have e7:Z07 h i=([],1):=by rw[Z07,if_neg (by rw[hp];simp)]
  rw[e7];exact gF [] func147 [] (Fc 14 (@Z0h h) (Ftb 15 (!Z02 h) (Fnl Fz)))
 | true =>
  have po:=Z0a hp;by_cases hi:0<=i/\i<h.P.length
  .have pp:=Z0L hp (j:=i.toNat) oq;have hu:(pg h i).U<=256:=pp.2.2.2.2.2.2.2.1;cases hwk:Z2s h i 256 0 with
   | none =>
    have e7:Z07 h i=if(h.P.getD i.toNat X).K=0\/(h.P.getD i.toNat X).K=3 then([],0)else([],19):=by rw[Z07,if_pos hp,if_pos hi,hwk];rfl
    have Q0 {h_ c_ p_} (r_:Fq h_ c_ p_):=Fc 14 (@Z0h h) (Ffb 15 (!Z02 h) (FlG 22 (!decide (i<0)) Page.dv h.P (Ffb 24 (O (i<0)||O ((h.P.length:Int)<=i)) (Fe 28 Page.dv h.P i r_))));rcases bb ((h.P.getD i.toNat X).K==0||(h.P.getD i.toNat X).K==3)with hc0 | hc0<;>have hc0p:=hc0<;>simp only[bs]at hc0p
    .exact gF [] func147 (fO 8) (Q0 (Ft 37 hc0 (Fnl (Fa (by rw[e7,if_pos oq];rfl:[]=M wdv (Z07 h i).1) (Fa (by rw[e7,if_pos oq]:0=(Z07 h i).2) Fz)))))
    .obtain⟨hc0pa,hc0pb⟩:=hc0p;exact gF [] func147 (fO 18) (Fh 7 [.own] (Q0 (Ff 37 hc0 (Fu (@ZcR h i aa aa aa aa) (Fnl (Fa (by rw[e7,if_neg oq];rfl:[]=M wdv (Z07 h i).1) (Fa (by rw[e7,if_neg oq]:19=(Z07 h i).2) Fz)))))))
   | some l =>
    have e7:Z07 h i=if(h.P.getD i.toNat X).K=0\/(h.P.getD i.toNat X).K=3 then([],0)else(l,0):=by rw[Z07,if_pos hp,if_pos hi,hwk];rfl
    have Q1 {h_ c_ p_} (r_:Fq h_ c_ p_):=Fc 14 (@Z0h h) (Ffb 15 (!Z02 h) (FlG 22 (!decide (i<0)) Page.dv h.P (Ffb 24 (O (i<0)||O ((h.P.length:Int)<=i)) (Fe 28 Page.dv h.P i r_))));rcases bb ((h.P.getD i.toNat X).K==0||(h.P.getD i.toNat X).K==3)with hc0 | hc0<;>have hc0p:=hc0<;>simp only[bs]at hc0p
    .exact gF [] func147 (fO 8) (Q1 (Ft 37 hc0 (Fnl (Fa (by rw[e7,if_pos oq];rfl:[]=M wdv (Z07 h i).1) (Fa (by rw[e7,if_pos oq]:0=(Z07 h i).2) Fz)))))
    .obtain⟨hc0pa,hc0pb⟩:=hc0p;exact gF [] func147 (fO 18) (Fh 7 [.own] (Q1 (Ff 37 hc0 (Fu (@Zk4 h i l aa aa aa aa) (Fa (by refine congrArg _ ?_;rw[e7,if_neg oq]:M wdv l=M wdv (Z07 h i).1) (Fa (by rw[e7,if_neg oq]:0=(Z07 h i).2) Fz))))))
  .have e7:Z07 h i=([],2):=by rw[Z07,if_pos hp,if_neg hi]
   rw[e7];exact gF [] func147 [] (Fc 14 (@Z0h h) (Ffb 15 (!Z02 h) (FlG 22 (!decide (i<0)) Page.dv h.P (Ftb 24 (O (i<0)||O ((h.P.length:Int)<=i)) (Fnl Fz)))))
def hasL(l:List Int)(v:Int)(i:Nat):Tg:=⟨tm 18 [(0,Z01 l),(1,u64 v),(4,bool La),(5,int i)],[],60⟩
def Zfg(l:List Int)(v:Int)(i:Nat)(hl:l.length<=1048576)(hi:i<l.length)(hv:¬ l.getD i X=v):CP (rndF f17 0) (hasL l v i).st .nrm (hasL l v (i+1)).st:=by
 exact sF [] [] (FN 8 9 14 wdv l i (Ffb 17 (l.getD i X==v) (Fx 11 i Fz)))
def ZkT(l:List Int)(v:Int)(i:Nat)(hl:l.length<=1048576)(hi:i<l.length)(hv:l.getD i X=v):CP (rndF f17 0) (hasL l v i).st .ret (Tg.st ⟨tm 18 [(4,bool Z)],[],60⟩):=by
 exact sF [] [] (FN 8 9 14 wdv l i (Ftb 17 (l.getD i X==v) Fz))
def hasEnd(l:List Int)(v:Int):CP (rndF f17 0) (hasL l v l.length).st (.ext 0) (Tg.st ⟨tm 18 [],[],60⟩):=by
 exact sF [] [] (FO 8 9 wdv l Fz)
def getD_mem_iff{l:List Int}{v:Int}:v∈l↔∃ i,i<l.length/\l.getD i X=v:=by
 rw[List.mem_iff_getElem];constructor
 .rintro⟨i,h,e⟩;exact⟨i,h,by simp[Ly,h,e]⟩
 .rintro⟨i,h,e⟩;exact⟨i,h,by simpa[Ly,h]using e⟩
def Zns(l:List Int)(v:Int)(hl:l.length<=1048576)(h:v∉l)  := Z08 (S:=λi=>(hasL l v i).st) l.length (by kernel_rfl) (λi hi=>Zfg l v i hl hi λe=>h (getD_mem_iff.2 ⟨i,hi,e⟩)) (hasEnd l v)
def Zl7(l:List Int)(v:Int)(hl:l.length<=1048576)(h:v∈l):CP (blkF f17 0) (Tg.st ⟨tm 18 [(0,Z01 l),(1,u64 v),(4,bool La),(5,int 0)],[],60⟩) .ret (Tg.st ⟨tm 18 [(4,bool Z)],[],60⟩):=by
 obtain⟨i,h1,h2⟩:=ZiR (getD_mem_iff.1 h);exact Z0v (S:=λi=>(hasL l v i).st) i kr (λj hj=>Zfg l v j hl oq λe=>by have:=h2 j ⟨by omega,e⟩;omega) (ZkT l v i hl h1.1 h1.2)
def Z0N(l:List Int)(v:Int)(hl:l.length<=1048576):GP 17 [Z01 l,u64 v] Z (bool (O (v∈l))) []:=by
 by_cases h:v∈l
 .rw[decide_eq_true h];exact gF [] func17 [] (Fu (@Zl7 l v aa aa) Fz)
 .rw[decide_eq_false h];exact gF [] func17 [] (Fu (@Zns l v aa aa) Fz)
def ZdC{h:Heap}{i:Int}:∀ {f:Nat} {o:Int} {l:List Int},Z2s h i f o=Y l->l.length<=f
 | 0,o,l,e=>by simp[Z2s]at e;subst e;simp
 | f+1,o,l,e=>by
  unfold Z2s at e;split at e
  .split at e
   .split at e
    .cases e;simp
    .rw[Lo]at e;obtain⟨m,hm,rfl⟩:=e;have:=ZdC hm;simp;omega
   .cases e
  .cases e;simp
def Z2K(h:Heap)(i:Int):(Z07 h i).1.length<=256:=by
 unfold Z07;repeat' split
 all_goals first | (simp;done) | (rename_i e;exact ZdC e)
def Z0E(h:Heap):Nat->Nat->List Int×Int
 | 0,_=>([],0)
 | f+1,i=>if(Z07 h i).2=0 then(if(Z0E h f (i+1)).2=0 then((Z07 h i).1++(Z0E h f (i+1)).1,0)else([],(Z0E h f (i+1)).2))else([],(Z07 h i).2)
def Z0R(h:Heap):List Int×Int:=if Z02 h=Z then Z0E h h.P.length 0 else([],1)
def Z6W(h:Heap)(i:Nat)(acc:List Int):Tg:=⟨tm 31 [(1,.pt 8001 0 0),(2,.d (.sl 0 [])),(3,int 0),(4,.ow 24004),(5,int i)],[(24004,.arr 35 1 (acc.map wdv)),(8001,.box 28 h.cells)],60⟩
section
variable (h:Heap) (i:Nat) (acc:List Int) (hw:WOk h.W) (hl:h.P.length<=1048576) (ha:acc.length<=1048576)
include hw hl ha
theorem ZeA(hi:i<h.P.length)(e:(Z07 h i).2=0):CP (rndF f90 0) (Z6W h i acc).st .nrm (Z6W h (i+1) (acc++(Z07 h i).1)).st:=by
 have hn:=Z2K h i;exact sF [(504029,24004)] [] (Fh 29 [.els (M wdv (acc++(Z07 h (i:Int)).1))] (FM 14 15 Page.dv h.P i (Fc 21 (@Z3J h ((i:Int)) aa) (Ffb 25 ((Z07 h (i:Int)).2 != 0) (Fa (by(simp[*];omega):(M wdv acc).length+(M wdv (Z07 h (i:Int)).1).length<=2^30) (Fa (ms:M wdv acc++M wdv (Z07 h (i:Int)).1=M wdv (acc++(Z07 h (i:Int)).1)) (Fx 17 i Fz)))))))
theorem ZjY(hi:i<h.P.length)(e:¬ (Z07 h i).2=0):CP (rndF f90 0) (Z6W h i acc).st .ret (Tg.st ⟨tm 31 [(2,.d (.sl 0 [])),(3,int (Z07 h i).2)],[],60⟩):=by
 exact sF [] [] (FM 14 15 Page.dv h.P i (Fc 21 (@Z3J h ((i:Int)) aa) (Ftb 25 ((Z07 h (i:Int)).2 != 0) Fz)))
omit hw hl ha in
theorem ZhM:CP (rndF f90 0) (Z6W h h.P.length acc).st (.ext 0) (Tg.st ⟨tm 31 [(4,.ow 24004)],[(24004,.arr 35 1 (acc.map wdv))],60⟩):=by
 exact sF [] [] (FO 14 15 Page.dv h.P Fz)
end
def Zf1(h:Heap)(hw:WOk h.W)(hl:h.P.length<=1048576):∀ (f i:Nat) (acc:List Int),i+f=h.P.length->acc.length+256*f<=1048576 ->
  ((Z0E h f i).2=0->LSpec prog f90 0 (Z6W h i acc).st (.ext 0) (Tg.st ⟨tm 31 [(4,.ow 24004)],[(24004,.arr 35 1 ((acc++(Z0E h f i).1).map wdv))],60⟩)) /\
  (¬ (Z0E h f i).2=0->LSpec prog f90 0 (Z6W h i acc).st .ret (Tg.st ⟨tm 31 [(2,.d (.sl 0 [])),(3,int (Z0E h f i).2)],[],60⟩)):=by
 intro f;induction f with
 | zero =>
  intro i acc hi _;have:i=h.P.length:=by omega
  subst this;refine⟨λ_=>?_,λe=>absurd rfl e⟩;rw[Z0E,Lx];exact .endx (ZhM h acc)
 | succ f ih =>
  intro i acc hi hb;have hn:=Z2K h i;unfold Z0E;by_cases e:(Z07 h i).2=0
  .rw[if_pos e];have hr:=ZeA h i acc hw hl oq oq e;obtain⟨i1,i2⟩:=ih (i+1) (acc++(Z07 h i).1) oq qo;by_cases e2:(Z0E h f (i+1)).2=0
   .rw[if_pos e2];refine⟨λ_=>?_,λe=>absurd rfl e⟩;have:=i1 e2;rw[LH]at this;exact .next hr this
   .rw[if_neg e2];exact⟨λe=>absurd e e2,λ_=>.next hr (i2 e2)⟩
  .rw[if_neg e];exact⟨λe'=>absurd e' e,λ_=>.endr (ZjY h i acc hw hl oq oq e)⟩
def Zgl(h:Heap)(hw:WOk h.W)(hl:h.P.length<=64)(e:(Z0E h h.P.length 0).2=0):CP (blkF f90 0) (Tg.st ⟨tm 31 [(1,.pt 8001 0 0),(2,.d (.sl 0 [])),(3,int 0),(4,.ow 24004),(5,int 0)],[(24004,.arr 35 1 []),(8001,.box 28 h.cells)],60⟩) .nrm
  (Tg.st ⟨tm 31 [(4,.ow 24004)],[(24004,.arr 35 1 ((Z0E h h.P.length 0).1.map wdv))],60⟩) :=
 ((Zf1 h hw oq h.P.length 0 [] oq qo).1 e).ext kr
def ZaY(h:Heap)(hw:WOk h.W)(hl:h.P.length<=64)(e:¬ (Z0E h h.P.length 0).2=0):CP (blkF f90 0) (Tg.st ⟨tm 31 [(1,.pt 8001 0 0),(2,.d (.sl 0 [])),(3,int 0),(4,.ow 24004),(5,int 0)],[(24004,.arr 35 1 []),(8001,.box 28 h.cells)],60⟩) .ret
  (Tg.st ⟨tm 31 [(2,.d (.sl 0 [])),(3,int (Z0E h h.P.length 0).2)],[],60⟩) :=
 ((Zf1 h hw oq h.P.length 0 [] oq qo).2 e).ret kr
def ZeK(h:Heap):∀ (f i:Nat),¬ (Z0E h f i).2=0->(Z0E h f i).1=[]
 | 0,i,e=>absurd rfl e
 | f+1,i,e=>by
  unfold Z0E at e ⊢;split at e
  .rename_i h1;rw[if_pos h1];split at e
   .exact absurd rfl e
   .rename_i h2;rw[if_neg h2]
  .rename_i h1;rw[if_neg h1]
def Zhs(h:Heap)(hw:WOk h.W):GP 90 [h.av] La (.tu [Z01 (Z0R h).1,int (Z0R h).2]) []:=by
 cases hp:Z02 h with
 | false =>
  have e7:Z0R h=([],1):=by rw[Z0R,if_neg (by rw[hp];simp)]
  rw[e7];exact gF [] func90 [] (Fc 9 (@Z0h h) (Ftb 10 (!Z02 h) (Fnl Fz)))
 | true =>
  have po:=Z0a hp;have e7:Z0R h=Z0E h h.P.length 0:=by rw[Z0R,if_pos hp]
  by_cases e:(Z0E h h.P.length 0).2=0
  .rw[show Z0R h=((Z0E h h.P.length (0:Nat)).1,(0:Int))from by grind[]];exact gF [] func90 [] (Fh 4 [.own] (Fc 9 (@Z0h h) (Ffb 10 (!Z02 h) (Fu (@Zgl h aa oq aa) Fz))))
  .have e8:=ZeK h _ _ e;exact gF [] func90 (fO 7) (Fh 4 [.own] (Fc 9 (@Z0h h) (Ffb 10 (!Z02 h) (Fu (@ZaY h aa oq aa) (Fnl (Fa (by rw[e7,e8];rfl:[]=M wdv (Z0R h).1) (Fa (by rw[e7]:(Z0E h h.P.length 0).2=(Z0R h).2) Fz)))))))
def Z8R{h:Heap}(hv:Z06 h.C=Z){i:Int}:∀ {f:Nat} {o:Int} {l:List Int},Z2s h i f o=Y l->∀ x∈l,0<=x/\x<=8192
 | 0,o,l,e=>by simp[Z2s]at e;subst e;simp
 | f+1,o,l,e=>by
  have ar:=Z4d hv i o;unfold Z2s at e;split at e
  .split at e
   .split at e
    .cases e;intro x hx;simp at hx;subst hx;exact ar
    .rw[Lo]at e;obtain⟨m,hm,rfl⟩:=e;intro x hx;rcases LU.1 hx with rfl | hx
     .exact ar
     .exact Z8R hv hm x hx
   .cases e
  .cases e;simp
def Z2B{h:Heap}(hp:Z02 h=Z)(i:Int):∀ x∈(Z07 h i).1,0<=x/\x<=8192:=by
 have hv:=(Z0a hp).1;unfold Z07;repeat' split
 all_goals first | (simp;done) | (rename_i e;exact Z8R hv e)
def Z6y{h:Heap}(hp:Z02 h=Z):∀ (f i:Nat),∀ x∈(Z0E h f i).1,0<=x/\x<=8192
 | 0,i=>by simp[Z0E]
 | f+1,i=>by
  unfold Z0E;split
  .split
   .intro x hx;rcases LS.1 hx with hx | hx
    .exact Z2B hp i x hx
    .exact Z6y hp f (i+1) x hx
   .simp
  .simp
def Z8A(h:Heap):∀ (f i:Nat),(Z0E h f i).1.length<=256*f
 | 0,i=>by simp[Z0E]
 | f+1,i=>by
  have h1:=Z2K h i;have h2:=Z8A h f (i+1);unfold Z0E;split
  .split
   .simp;omega
   .simp
  .simp
def Z64(h:Heap):∀ x∈(Z0R h).1,0<=x/\x<=8192:=by
 unfold Z0R;split
 .exact Z6y aa _ _
 .simp
def Z9j(h:Heap):(Z0R h).1.length<=16384:=by
 unfold Z0R;split
 .rename_i hp;have:=Z8A h h.P.length 0;have:=Z0a hp;omega
 .simp
def Z3f(h:Heap)(a:Int):Bool:=O ((atH h a).1.K≠0)
def Z03(h:Heap):List Int×Int:=((Z0R h).1.filter (Z3f h),(Z0R h).2)
def Z18(h:Heap):∀ x∈(Z03 h).1,0<=x/\x<=8192:=λx hx=>Z64 h x (List.mem_filter.1 hx).1
def Z0F(h:Heap):(Z03 h).1.length<=16384:=LY (LR _ _) (Z9j h)
def Z9p{l:List Int}{i:Nat}(hi:i<l.length):l.take (i+1)=l.take i++[l.getD i X]:=by
 rw[List.take_succ];simp[Ly,hi]
def Zm4(h:Heap)(l:List Int)(ee:Int)(i:Nat):Tg:=⟨tm 42 [(1,.pt 8001 0 0),(4,Z01 l),(5,int ee),(6,.ow 24006),(7,int i)],[(24006,.arr 35 1 (((l.take i).filter (Z3f h)).map wdv)),(8001,.box 28 h.cells)],60⟩
def ZjQ(h:Heap)(l:List Int)(ee:Int)(i:Nat)(hw:WOk h.W)(hl:l.length<=1048576)(hr:∀ x∈l,0<=x/\x<=8192)(hi:i<l.length):CP (rndF f43 0) (Zm4 h l ee i).st .nrm (Zm4 h l ee (i+1)).st:=by
 have hx:=hr (l.getD i X) (getD_mem_iff.2 ⟨i,hi,rfl⟩);have hle:((l.take i).filter (Z3f h)).length<=l.length:=LY (LR _ _) qo;have ht:=Z9p hi;by_cases hk:(atH h (l.getD i X)).1.K=0
 .have e:(l.take (i+1)).filter (Z3f h)=(l.take i).filter (Z3f h):=by
   have hb:Z3f h (l.getD i X)=La:=decide_eq_false (by simpa using hk);rw[ht,LJ,LK,hb,LL];simp
  exact sF [] (fO 5) (FN 17 18 25 wdv l i (Fc 27 (@Z4Q h (l.getD i X) aa oq) (Ffb 32 ((atH h (l.getD i X)).1.K != 0) (Fx 20 i (Fr (35:Int) (Fa (by refine congrArg _ ?_;rw[e]:M wdv (Lc (Z3f h) (Le i l))=M wdv (Lc (Z3f h) (Le (i+1) l))) Fz))))))
 .have e:(l.take (i+1)).filter (Z3f h)=(l.take i).filter (Z3f h)++[l.getD i X]:=by
   have hb:Z3f h (l.getD i X)=Z:=decide_eq_true hk;rw[ht,LJ,LK,hb,LL];simp
  exact sF [(504039,24006)] (fO 5) (Fh 39 [.els (M wdv (Lc (Z3f h) (Le i l)++[l.getD i X]))] (FN 17 18 25 wdv l i (Fc 27 (@Z4Q h (l.getD i X) aa oq) (Ftb 32 ((atH h (l.getD i X)).1.K != 0) (Fek 36 wdv l (↑i) i (Fs 38 (M wdv [l.getD i X]) (Fa (by(simp[*];omega):(M wdv (Lc (Z3f h) (Le i l))).length+(M wdv [l.getD i X]).length<=2^30) (Fa (ms:M wdv (Lc (Z3f h) (Le i l))++M wdv [l.getD i X]=M wdv (Lc (Z3f h) (Le i l)++[l.getD i X])) (Fx 20 i (Fr (35:Int) (Fa (by refine congrArg _ ?_;rw[e]:M wdv (Lc (Z3f h) (Le i l)++[l.getD i X])=M wdv (Lc (Z3f h) (Le (i+1) l))) Fz)))))))))))
def Zny(h:Heap)(l:List Int)(ee:Int):CP (rndF f43 0) (Zm4 h l ee l.length).st (.ext 0) (Tg.st ⟨tm 42 [(5,int ee),(6,.ow 24006)],[(24006,.arr 35 1 ((l.filter (Z3f h)).map wdv))],60⟩):=by
 have e:l.take l.length=l:=LV;exact sF [] (fO 2) (FO 17 18 wdv l (Fr (35:Int) (Fa (by refine congrArg _ ?_;rw[e]:M wdv (Lc (Z3f h) (Le l.length l))=M wdv (Lc (Z3f h) l)) Fz)))
def ZlB(h:Heap)(l:List Int)(ee:Int)(hw:WOk h.W)(hl:l.length<=1048576)(hr:∀ x∈l,0<=x/\x<=8192):CP (blkF f43 0) (Tg.st ⟨tm 42 [(1,.pt 8001 0 0),(4,Z01 l),(5,int ee),(6,.ow 24006),(7,int 0)],[(24006,.arr 35 1 []),(8001,.box 28 h.cells)],60⟩) .nrm
  (Tg.st ⟨tm 42 [(5,int ee),(6,.ow 24006)],[(24006,.arr 35 1 ((l.filter (Z3f h)).map wdv))],60⟩) :=
 Z08 (S:=λi=>(Zm4 h l ee i).st) l.length kr (λi hi=>ZjQ h l ee i hw hl hr hi) (Zny h l ee)
def Z1T(h:Heap)(hw:WOk h.W):GP 43 [h.av] La (.tu [Z01 (Z03 h).1,int (Z03 h).2]) []:=by
 have hl:=Z9j h;have hr:=Z64 h;exact gF [] func43 [] (Fh 6 [.own] (Fc 12 (@Zhs h aa) (Fu (@ZlB h ((Z0R h).1) ((Z0R h).2) aa oq aa) Fz)))
def Z3x(h:Heap)(p o:Int):Int:=(loadA h.W (address h.C p o).1).1
def ZbA{c:Conf}(hv:Z06 c=Z)(p o:Int):0<=(address c p o).1/\(address c p o).1<=8192:=by
 have ha:=area hv;unfold address;rw[if_pos hv];split
 .rename_i hb;have hb:=inB_iff.1 hb;have:=ZfU hv hb.1 hb.2.1 hb.2.2.1 hb.2.2.2;simp only;omega
 .simp
def Zkp(h:Heap)(p o:Int)(hp:Z02 h=Z):GP 235 [h.av,int p,int o] Z (u64 (Z3x h p o)) []:=by
 have po:=Z0a hp;have ar:=ZbA po.1 p o;exact gF [] func235 [] (Fc 16 (@Z5h h.C p o) (Fc 23 (@Z1H h.W ((address h.C p o).1) oq oq) Fz))
def ZaR(h:Heap)(p o:Int)(hp:Z02 h=Z):GP 220 [h.av,int p,int o] Z (u64 (Z3x h p o)) []:=by
 exact gF [] func220 [] (Fc 10 (@Zkp h p o aa) Fz)
def Ze7(h:Heap)(p o:Int)(hp:Z02 h=Z)(h0:0<=p/\p<h.C.pg)(h1:0<=o/\o<=64):GP 221 [h.av,int p,int o] Z (u64 (4096+p*h.C.pw+o)) []:=by
 have po:=Z0a hp;have ap:=Z2z po.1 h0.1 h0.2;exact gF [] func221 [] (Fi 11 (p*h.C.pw) (Fi 12 (4096+p*h.C.pw) (Fi 14 (4096+p*h.C.pw+o) (Fv 15 (4096+p*h.C.pw+o) Fz))))
def Z0s(l:List Page):Nat->Nat
 | 0=>0
 | i+1=>if(l.getD (i+1) X).K=3 then Z0s l i else i+1
def ZpN{h:Heap}(hp:Z02 h=Z):(h.P.getD 0 X).K≠3:=by
 have hi:=properB_iff.1 hp;have po:=Z0a hp;have hr:=hi.2.2.2.2.2;rw[ZbJ oq oq,Lg]at hr;have hc:=of_decide_eq_true hr.1;unfold rchk at hc;omega
def ZeN(h:Heap)(i:Nat):Tg:=⟨tm 15 [(1,int i),(2,.pt 8002 0 0)],[(8002,.box 28 h.cells)],60⟩
def Zk1(h:Heap)(i:Nat)(hi:i+1<h.P.length)(hl:h.P.length<=1048576)(hk:(h.P.getD (i+1) X).K=3):CP (rndF f218 0) (ZeN h (i+1)).st .nrm (ZeN h i).st:=by
 have ei:((i+1:Nat):Int)-1=(i:Int):=by omega
 exact sF [] [] (Fek 8 Page.dv h.P (↑(i+1):Int) (i+1) (Ftb 11 ((h.P.getD (i+1) X).K==3) (Fg 13 (by rw[wrapI' oq oq];omega:IntKind.i64.wrap ((↑(i+1):Int)-1)=(i:Int)) Fz)))
def Zi1(h:Heap)(i:Nat)(hi:i<h.P.length)(hl:h.P.length<=1048576)(hk:¬ (h.P.getD i X).K=3):CP (rndF f218 0) (ZeN h i).st (.ext 0) (Tg.st ⟨tm 15 [(1,int i)],[],60⟩):=by
 exact sF [] [] (Fek 8 Page.dv h.P (↑i) i (Ffb 11 ((h.P.getD i X).K==3) Fz))
def ZmJ(h:Heap)(hp:Z02 h=Z)(hl:h.P.length<=1048576):∀ i,i<h.P.length->LSpec prog f218 0 (ZeN h i).st (.ext 0) (Tg.st ⟨tm 15 [(1,int (Z0s h.P i))],[],60⟩)
 | 0,hi=>.endx (Zi1 h 0 hi hl (ZpN hp))
 | i+1,hi=>by
  unfold Z0s;by_cases hk:(h.P.getD (i+1) X).K=3
  .rw[if_pos hk];exact .next (Zk1 h i hi hl hk) (ZmJ h hp hl i oq)
  .rw[if_neg hk];exact .endx (Zi1 h (i+1) hi hl hk)
def ZkJ(h:Heap)(i:Nat)(hp:Z02 h=Z)(hi:i<h.P.length)(hl:h.P.length<=1048576):CP (blkF f218 0) (ZeN h i).st .nrm (Tg.st ⟨tm 15 [(1,int (Z0s h.P i))],[],60⟩) :=
 (ZmJ h hp hl i hi).ext kr
def Zfn(h:Heap)(i:Nat)(hp:Z02 h=Z)(hi:i<h.P.length):GP 218 [h.av,int i] Z (int (Z0s h.P i)) []:=by
 have po:=Z0a hp;exact gF [] func218 [] (Fu (@ZkJ h i aa aa oq) Fz)
def Z17(h:Heap)(i:Int)(a:Int):Bool:=(O ((h.P.getD i.toNat X).K=1)&&O (Z00 h.C<sizeH (atH h a).1))||(O ((h.P.getD i.toNat X).K=2)&&O ((atH h a).1.K=0))
def Z10(h:Heap)(i:Int)(l:List Int):Int:=(l.find? (Z17 h i)).getD 0
def Z9U(h:Heap)(i:Int)(l:List Int)(n:Nat):Tg:=⟨tm 61 [(1,int i),(2,Z01 l),(3,.pt 8003 0 0),(6,u64 0),(7,int n)],[(8003,.box 28 h.cells)],60⟩
section
variable (h:Heap) (i:Int) (l:List Int) (n:Nat) (hw:WOk h.W) (hl:l.length<=1048576) (hi:0<=i/\i<h.P.length) (hp:h.P.length<=1048576) (hr:∀ x∈l,0<=x/\x<=8192)
include hw hl hi hp hr
theorem Za7(hn:n<l.length)(hb:Z17 h i (l.getD n X)=La):CP (rndF f192 0) (Z9U h i l n).st .nrm (Z9U h i l (n+1)).st:=by
 have hx:=hr (l.getD n X) (getD_mem_iff.2 ⟨n,hn,rfl⟩);have hm:=Z27 hw (l.getD n X);simp only[Z17,bs]at hb;let y0:=atH h (l.getD n X);let y1:=h.P.getD i.toNat X;exact sF [] [] (FN 13 14 21 wdv l n (Fc 23 (@Z4Q h (l.getD n X) aa oq) (Fc 27 (@Z1E (y0.1) aa) (Fc 30 (@Z19 h.C) (Fe 35 Page.dv h.P i (FeGq 47 (!(y1.K==1&&!decide (sizeH y0.1<=Z00 h.C))) Page.dv h.P i (Ffb 56 (y1.K==1&&!decide (sizeH y0.1<=Z00 h.C)||y1.K==2&&y0.1.K==0) (Fx 16 n Fz))))))))
theorem ZgG(hn:n<l.length)(hb:Z17 h i (l.getD n X)=Z):CP (rndF f192 0) (Z9U h i l n).st .ret (Tg.st ⟨tm 61 [(6,u64 (l.getD n X))],[],60⟩):=by
 have hx:=hr (l.getD n X) (getD_mem_iff.2 ⟨n,hn,rfl⟩);have hm:=Z27 hw (l.getD n X);simp only[Z17,bs]at hb;refine stretchE [((13:Nat),[Hint.int (l.length:Int)]),((14:Nat),[Hint.br Z]),((21:Nat),[Hint.el (wdv (l.getD n X))]),((23:Nat),[Hint.call Z (AV.tu [(atH h (l.getD n X)).1.av,int (atH h (l.getD n X)).2]) []]),((27:Nat),[Hint.call Z (int (sizeH (atH h (l.getD n X)).1)) []]),((30:Nat),[Hint.call Z (int (Z00 h.C)) []]),((35:Nat),[Hint.el (h.P.getD i.toNat X).dv]),((47:Nat),[Hint.el (h.P.getD i.toNat X).dv]),((56:Nat),[Hint.br Z]),((59:Nat),[Hint.el (wdv (l.getD n X))])] [] [] [] (φ:=(↑(M wdv l).length:Int)=(l.length:Int)/\O ((n:Int)<(l.length:Int))=Z/\Z=Z/\((0:Int)<=(n:Int)/\(M wdv l)[(n:Int).toNat]? = Y (wdv (l.getD n X)))/\GP 91 [h.av,u64 (l.getD n X)] Z (AV.tu [(atH h (l.getD n X)).1.av,int (atH h (l.getD n X)).2]) []/\GP 70 [(atH h (l.getD n X)).1.av] Z (int (sizeH (atH h (l.getD n X)).1)) []/\GP 93 [h.C.av] Z (int (Z00 h.C)) []/\((0:Int)<=i/\(M Page.dv h.P)[i.toNat]? = Y (h.P.getD i.toNat X).dv)/\((!((h.P.getD i.toNat X).K==(1:Int)&&!decide (sizeH (atH h (l.getD n X)).1<=Z00 h.C)))=Z->(0:Int)<=i/\(M Page.dv h.P)[i.toNat]? = Y (h.P.getD i.toNat X).dv)/\((h.P.getD i.toNat X).K==(1:Int)&&!decide (sizeH (atH h (l.getD n X)).1<=Z00 h.C)||(h.P.getD i.toNat X).K==(2:Int)&&(atH h (l.getD n X)).1.K==(0:Int))=Z/\Z=Z/\(0:Int)<=(n:Int)/\(M wdv l)[(n:Int).toNat]? = Y (wdv (l.getD n X))) ?_ kr kr kr;exact⟨(by simp only[LA]),(by(simp only[bs];omega)),rfl,(by exact elI oq oq oq),(@Z4Q (h) (l.getD n X) aa oq),(@Z1E ((atH h (l.getD n X)).1) aa),(@Z19 (h.C)),(by exact elI oq oq oq),(by intro hg;(try simp only[bs]at hg);exact elI oq oq oq),(by(simp only[bs];omega)),rfl,(by exact elI oq oq oq)⟩
omit hw hl hi hp hr in
theorem ZlO:CP (rndF f192 0) (Z9U h i l l.length).st (.ext 0) (Tg.st ⟨tm 61 [(6,u64 0)],[],60⟩):=by
 exact sF [] [] (FO 13 14 wdv l Fz)
end
def Z6D{l:List Int}{f:Int->Bool}(h:l.find? f=L):∀ n,n<l.length->f (l.getD n X)=La:=by
 intro n hn;have:=Ll.1 h (l.getD n X) (getD_mem_iff.2 ⟨n,hn,rfl⟩);simpa using this
def Z3C{f:Int->Bool}:∀ {l:List Int} {x:Int},l.find? f=Y x->∃ n,n<l.length/\l.getD n X=x/\f x=Z/\∀ m,m<n->f (l.getD m X)=La
 | [],x,h=>by simp at h
 | a::l,x,h=>by
  rw[List.find?_cons]at h;split at h
  .rename_i ha;cases h;exact⟨0,by simp,rfl,ha,λm hm=>by omega⟩
  .rename_i ha;obtain⟨n,h1,h2,h3,h4⟩:=Z3C h;refine⟨n+1,by simp;omega,by simpa using h2,h3,λm hm=>?_⟩;cases m with
   | zero=>simpa using ha
   | succ m=>simpa using h4 m oq
def ZhK(h:Heap)(i:Int)(l:List Int)(hw:WOk h.W)(hl:l.length<=1048576)(hi:0<=i/\i<h.P.length)(hp:h.P.length<=1048576)(hr:∀ x∈l,0<=x/\x<=8192)(hf:l.find? (Z17 h i)=L) :
  CP (blkF f192 0) (Tg.st ⟨tm 61 [(1,int i),(2,Z01 l),(3,.pt 8003 0 0),(6,u64 0),(7,int 0)],[(8003,.box 28 h.cells)],60⟩) .nrm (Tg.st ⟨tm 61 [(6,u64 0)],[],60⟩) :=
 Z08 (S:=λn=>(Z9U h i l n).st) l.length kr (λn hn=>Za7 h i l n hw hl hi hp hr hn (Z6D hf n hn)) (ZlO h i l)
def Zhi(h:Heap)(i:Int)(l:List Int)(x:Int)(hw:WOk h.W)(hl:l.length<=1048576)(hi:0<=i/\i<h.P.length)(hp:h.P.length<=1048576)(hr:∀ x∈l,0<=x/\x<=8192)(hf:l.find? (Z17 h i)=Y x) :
  CP (blkF f192 0) (Tg.st ⟨tm 61 [(1,int i),(2,Z01 l),(3,.pt 8003 0 0),(6,u64 0),(7,int 0)],[(8003,.box 28 h.cells)],60⟩) .ret (Tg.st ⟨tm 61 [(6,u64 x)],[],60⟩):=by
 obtain⟨n,h1,h2,h3,h4⟩:=Z3C hf;subst h2;exact Z0v (S:=λn=>(Z9U h i l n).st) n kr (λm hm=>Za7 h i l m hw hl hi hp hr oq (h4 m hm)) (ZgG h i l n hw hl hi hp hr h1 h3)
def Z8b(h:Heap)(i:Int)(l:List Int)(hw:WOk h.W)(hl:l.length<=1048576)(hp:h.P.length<=1048576)(hi:0<=i/\i<h.P.length)(hr:∀ x∈l,0<=x/\x<=8192):GP 192 [h.av,int i,Z01 l] Z (u64 (Z10 h i l)) []:=by
 cases hf:l.find? (Z17 h i)with
 | none =>
  have e7:Z10 h i l=0:=by rw[Z10,hf];rfl
  exact gF [] func192 (fO 6) (Fu (@ZhK h i l aa aa aa aa aa aa) (Fa (by rw[e7]:0=Z10 h i l) Fz))
 | some x =>
  have e7:Z10 h i l=x:=by rw[Z10,hf];rfl
  exact gF [] func192 (fO 6) (Fu (@Zhi h i l x aa aa aa aa aa aa) (Fa (by rw[e7]:x=Z10 h i l) Fz))
def bdv(x:Bool):List DV:=[.sc (.bool x)]
def Z3D(h:Heap)(a:Int):Int:=if(atH h a).1.K=0 then 1 else sizeH (atH h a).1
def Z76(h:Heap)(i:Int)(a:Int)(o:Nat):Bool:=O (a-4096-i*h.C.pw<=o)&&O ((o:Int)<a-4096-i*h.C.pw+Z3D h a)
def Z1z(h:Heap)(i:Int)(l:List Int):List Bool:=(Lb h.C.pw.toNat).map λo=>l.any λa=>Z76 h i a o
def Z1t(h:Heap)(i:Int)(l:List Int)(a:Int)(w:Nat):List Bool:=(Lb h.C.pw.toNat).map λ(o:Nat)=>(l.any λa=>Z76 h i a o)||(O (a-4096-i*h.C.pw<=o)&&O ((o:Int)<a-4096-i*h.C.pw+w))
def Z9S(h:Heap)(i:Int)(l:List Int)(a:Int)(w:Nat):(Z1t h i l a w).length=h.C.pw.toNat:=by simp[Z1t]
def ZeH(h:Heap)(i:Int)(l:List Int)(a:Int):Z1t h i l a 0=Z1z h i l:=by
 unfold Z1t Z1z;refine LB λo _=>?_;have:(O (a-4096-i*h.C.pw<=(o:Int))&&O ((o:Int)<a-4096-i*h.C.pw+(0:Nat)))=La:=by
  rw[Bool.and_eq_false_iff];simp;omega
 rw[this,Bool.or_false]
def Zeq{h:Heap}{i:Int}{l:List Int}{a:Int}{w:Nat}(hh:¬ (0<=a-4096+w-i*h.C.pw/\a-4096+w-i*h.C.pw<h.C.pw)):Z1t h i l a (w+1)=Z1t h i l a w:=by
 unfold Z1t;refine LB λo ho=>?_;have ho:=Ld.1 ho;congr 1;rw[Lw];simp;omega
def Zhh{h:Heap}{i:Int}{l:List Int}{a:Int}{w:Nat}(hh:0<=a-4096+w-i*h.C.pw/\a-4096+w-i*h.C.pw<h.C.pw):(Z1t h i l a w).set (a-4096+w-i*h.C.pw).toNat Z=Z1t h i l a (w+1):=by
 apply LI;intro j;rw[List.getElem?_set,Z9S];unfold Z1t;by_cases hjl:j<h.C.pw.toNat
 .rw[Li,Li,List.getElem?_range hjl,LZ,LZ];by_cases hj:(a-4096+w-i*h.C.pw).toNat=j
  .rw[if_pos hj,if_pos oq];congr 1;symm;rw[LD];right;rw[Lg,decide_eq_true_eq,decide_eq_true_eq];omega
  .rw[if_neg hj];congr 2;rw[Lw,Lg,Lg,decide_eq_true_eq,decide_eq_true_eq,decide_eq_true_eq];omega
 .rw[if_neg oq,Li,Li,Lz qo];rfl
def Zhv{h:Heap}{i:Int}{l:List Int}{a:Int}(hn:0<=Z3D h a):Z1t h i l a (Z3D h a).toNat=Z1z h i (l++[a]):=by
 unfold Z1t Z1z;refine LB λo _=>?_;rw[List.any_append];congr 1;simp[Z76];rw[Lw];simp;omega
def ZhO(h:Heap)(i:Int):Z1z h i []=Lh h.C.pw.toNat La:=by
 unfold Z1z;simp[List.map_const']
def Zj4(h:Heap)(i:Int)(l:List Int)(k:Nat):Tg:=⟨tm 69 [(1,int i),(2,Z01 l),(3,.pt 8003 0 0),(7,.ow 16017),(8,int k)],[(16017,.arr 4 1 ((Z1z h i (l.take k)).map bdv)),(8003,.box 28 h.cells)],60⟩
def ZcF(h:Heap)(i:Int)(l m:List Int)(k:Nat)(n:Int)(w:Nat):Tg:=⟨tm 69 [(1,int i),(2,Z01 m),(3,.pt 8003 0 0),(7,.ow 16017),(8,int k),(11,int n),(12,int w)],[(16017,.arr 4 1 ((Z1t h i l (m.getD k X) w).map bdv)),(8003,.box 28 h.cells)],60⟩
def Zhn(h:Heap)(i:Int)(l m:List Int)(k:Nat)(n:Int)(w:Nat)(hp:Z02 h=Z)(hm:m.length<=1048576)(hi:0<=i/\i<h.P.length)(hr:0<=m.getD k X/\m.getD k X<=8192)(hk:k<m.length)(hn:n<=256)(hw:w<n):CP (rndF f219 2) (ZcF h i l m k n w).st .nrm (ZcF h i l m k n (w+1)).st:=by
 have po:=Z0a hp;have ap:=Z2z po.1 hi.1 oq;have hlen:=Z9S h i l (m.getD k X) w;by_cases hh:0<=m.getD k X-4096+w-i*h.C.pw/\m.getD k X-4096+w-i*h.C.pw<h.C.pw
 .have e:=Zhh (l:=l) hh;let y0:=m.getD k X-4096+(w:Int)-i*h.C.pw;let y1:=Z1t h i l (m.getD k X) w;let y2:=0<=m.getD k X-4096+(w:Int)-i*h.C.pw;let y3:=y1.set y0.toNat Z;exact sF [] (fO 11) (Fh 10067 [.els (M bdv y3)] (Ftb 40 (O ((w:Int)<n)) (Fek 45 wdv m (↑k) k (Fi 47 (m.getD k X) (Fi 48 (m.getD k X-4096) (Fi 50 (m.getD k X-4096+(w:Int)) (Fi 55 (i*h.C.pw) (Fi 56 y0 (FlG 62 (decide y2) bdv y1 (Ftb 64 (decide y2&&O (m.getD k X-4096+(w:Int)-i*h.C.pw<(y1.length:Int))) (Fa (by grind[]:0<=m.getD k X-4096+(w:Int)-i*h.C.pw/\y0.toNat<(M bdv y1).length) (Fa (by grind[]:y0.toNat<(M bdv y1).length) (Fa (by rw[Ln];rfl:(M bdv y1).set y0.toNat [DV.sc (Value.bool Z)]=M bdv y3) (Fx 42 w (Fr (4:Int) (Fa (by refine congrArg _ ?_;exact e:M bdv y3=M bdv (Z1t h i l (m.getD k X) (w+1))) Fz))))))))))))))))
 .have e:=Zeq (l:=l) hh;let y4:=m.getD k X;let y5:=0<=m.getD k X-4096+(w:Int)-i*h.C.pw;exact sF [] (fO 11) (Ftb 40 (O ((w:Int)<n)) (Fek 45 wdv m (↑k) k (Fi 47 y4 (Fi 48 (m.getD k X-4096) (Fi 50 (m.getD k X-4096+(w:Int)) (Fi 55 (i*h.C.pw) (Fi 56 (m.getD k X-4096+(w:Int)-i*h.C.pw) (FlG 62 (decide y5) bdv (Z1t h i l y4 w) (Ffb 64 (decide y5&&O (m.getD k X-4096+(w:Int)-i*h.C.pw<(↑(Z1t h i l y4 w).length:Int))) (Fx 42 w (Fr (4:Int) (Fa (by refine congrArg _ ?_;rw[e]:M bdv (Z1t h i l y4 w)=M bdv (Z1t h i l y4 (w+1))) Fz))))))))))))
def Zmh(h:Heap)(i:Int)(l m:List Int)(k:Nat)(n:Int)(w:Nat)(hn:n<=w):CP (rndF f219 2) (ZcF h i l m k n w).st (.ext 2) (Tg.st ⟨tm 69 [(1,int i),(2,Z01 m),(3,.pt 8003 0 0),(7,.ow 16017),(8,int k)],[(16017,.arr 4 1 ((Z1t h i l (m.getD k X) w).map bdv)),(8003,.box 28 h.cells)],60⟩):=by
 exact sF [] [] (Ffb 40 (O ((w:Int)<n)) Fz)
def Zdt(h:Heap)(i:Int)(m:List Int)(k:Nat)(n:Int)(hp:Z02 h=Z)(hm:m.length<=1048576)(hi:0<=i/\i<h.P.length)(hr:0<=m.getD k X/\m.getD k X<=8192)(hk:k<m.length)(hn:0<=n/\n<=256)(he:n=Z3D h (m.getD k X)):CP (blkF f219 2) (Tg.st ⟨tm 69 [(1,int i),(2,Z01 m),(3,.pt 8003 0 0),(7,.ow 16017),(8,int k),(11,int n),(12,int 0)],[(16017,.arr 4 1 ((Z1z h i (m.take k)).map bdv)),(8003,.box 28 h.cells)],60⟩) .nrm
  (Tg.st ⟨tm 69 [(1,int i),(2,Z01 m),(3,.pt 8003 0 0),(7,.ow 16017),(8,int k)],[(16017,.arr 4 1 ((Z1z h i (m.take (k+1))).map bdv)),(8003,.box 28 h.cells)],60⟩):=by
 have:=Z08 (S:=λw=>(ZcF h i (m.take k) m k n w).st) n.toNat kr (λw hw=>Zhn h i (m.take k) m k n w hp hm hi hr hk hn.2 oq) (Zmh h i (m.take k) m k n n.toNat oq)
 have e1:Z1t h i (m.take k) (m.getD k X) n.toNat=Z1z h i (m.take (k+1)):=by
  rw[Z9p hk,he];exact Zhv oq
 rw[e1]at this;simp only[ZcF,ZeH]at this;exact this
def ZiG(h:Heap)(i:Int)(l:List Int)(k:Nat)(hw:WOk h.W)(hp:Z02 h=Z)(hl:l.length<=1048576)(hi:0<=i/\i<h.P.length)(hr:∀ x∈l,0<=x/\x<=8192)(hk:k<l.length):CP (rndF f219 0) (Zj4 h i l k).st .nrm (Zj4 h i l (k+1)).st:=by
 have po:=Z0a hp;have hx:=hr (l.getD k X) (getD_mem_iff.2 ⟨k,hk,rfl⟩);have hm:=Z27 hw (l.getD k X);have hs:=Z0T (atH h (l.getD k X)).1;by_cases hf:(atH h (l.getD k X)).1.K=0
 .have e:Z3D h (l.getD k X)=1:=by rw[Z3D,if_pos hf]
  exact sF [] [] (FN 20 21 28 wdv l k (Fc 30 (@Z4Q h (l.getD k X) aa oq) (Fc 34 (@Z1E ((atH h (l.getD k X)).1) aa) (Ftb 37 ((atH h (l.getD k X)).1.K==0) (Fu (@Zdt h i l k (1) aa aa aa aa aa oq oq) (Fx 23 k Fz))))))
 .have e:Z3D h (l.getD k X)=sizeH (atH h (l.getD k X)).1:=by rw[Z3D,if_neg hf]
  let y0:=atH h (l.getD k X);exact sF [] [] (FN 20 21 28 wdv l k (Fc 30 (@Z4Q h (l.getD k X) aa oq) (Fc 34 (@Z1E (y0.1) aa) (Ffb 37 (y0.1.K==0) (Fu (@Zdt h i l k (sizeH y0.1) aa aa aa aa aa aa oq) (Fx 23 k Fz))))))
def Zne(h:Heap)(i:Int)(l:List Int):CP (rndF f219 0) (Zj4 h i l l.length).st (.ext 0) (Tg.st ⟨tm 69 [(7,.ow 16017)],[(16017,.arr 4 1 ((Z1z h i l).map bdv))],60⟩):=by
 have e:l.take l.length=l:=LV;exact sF [] [La,Z] (FO 20 21 wdv l (Fr (4:Int) (Fa (by refine congrArg _ ?_;rw[e]:M bdv (Z1z h i (Le l.length l))=M bdv (Z1z h i l)) Fz)))
def Zkm(h:Heap)(i:Int)(l:List Int)(hw:WOk h.W)(hp:Z02 h=Z)(hl:l.length<=1048576)(hi:0<=i/\i<h.P.length)(hr:∀ x∈l,0<=x/\x<=8192):CP (blkF f219 0) (Tg.st ⟨tm 69 [(1,int i),(2,Z01 l),(3,.pt 8003 0 0),(7,.ow 16017),(8,int 0)],[(16017,.arr 4 1 ((Lh h.C.pw.toNat La).map bdv)),(8003,.box 28 h.cells)],60⟩) .nrm
  (Tg.st ⟨tm 69 [(7,.ow 16017)],[(16017,.arr 4 1 ((Z1z h i l).map bdv))],60⟩):=by
 have:=Z08 (S:=λk=>(Zj4 h i l k).st) l.length kr (λk hk=>ZiG h i l k hw hp hl hi hr hk) (Zne h i l);simp only[Zj4,List.take_zero,ZhO]at this;exact this
def Zg6(h:Heap)(i:Int)(l:List Int)(hw:WOk h.W)(hp:Z02 h=Z)(hl:l.length<=1048576)(hi:0<=i/\i<h.P.length)(hr:∀ x∈l,0<=x/\x<=8192):GP 219 [h.av,int i,Z01 l] La (.d (.sl 1 ((Z1z h i l).map bdv))) []:=by
 have po:=Z0a hp;exact gF [] func219 [] (Fh 17 [.els (M bdv (Lh h.C.pw.toNat La))] (Fb (0<=h.C.pw/\h.C.pw<=h.C.pw/\h.C.pw*((↑(nat_lit 0):Int)+1)<=2^48) (Fa (by rw[List.map_replicate];rfl:Lh h.C.pw.toNat [DV.sc (Value.bool La)]=M bdv (Lh h.C.pw.toNat La)) (Fu (@Zkm h i l aa aa aa aa aa) Fz))))
def Z1M(h:Heap)(i:Nat):List Bool:=Z1z h i (Z07 h (Z0s h.P i:Nat)).1
def Z5d(h:Heap)(i:Nat):(Z1M h i).length=h.C.pw.toNat:=by simp[Z1M,Z1z]
def ZbC(l:List Page):∀ i,Z0s l i<=i
 | 0=>Nat.le_refl _
 | i+1=>by
  have:=ZbC l i;unfold Z0s;split<;>omega
def ZgV(h:Heap)(i:Nat)(u:List Bool)(k:Nat):Tg:=⟨tm 43 [(1,int i),(2,.pt 8002 0 0),(4,u64 0),(7,.d (.sl 1 (u.map bdv))),(8,int k)],[(8002,.box 28 h.cells)],60⟩
section
variable (h:Heap) (i:Nat) (u:List Bool) (k:Nat) (hp:Z02 h=Z) (hi:i<h.P.length) (hu:u.length<=64)
include hp hi hu
theorem Zd9(hk:k<u.length)(hd:u.getD k X=Z\/Z3x h i k=0):CP (rndF f193 0) (ZgV h i u k).st .nrm (ZgV h i u (k+1)).st:=by
 have po:=Z0a hp;rcases hd with hd | hd
 .exact sF [] [] (FN 23 24 29 bdv u k (FcG 36 (!u.getD k X) (λhg=>by(try simp only[bs]at hg);exact @ZaR h ((i:Int)) ((k:Int)) aa) (Ffs 38 (!u.getD k X&&Z3x h (i:Int) (k:Int) != 0) (Fx 26 k Fz))))
 .exact sF [] [] (FN 23 24 29 bdv u k (FcG 36 (!u.getD k X) (λhg=>by(try simp only[bs]at hg);exact @ZaR h ((i:Int)) ((k:Int)) aa) (Ffb 38 (!u.getD k X&&Z3x h (i:Int) (k:Int) != 0) (Fx 26 k Fz))))
theorem ZjR(hk:k<u.length)(hd:u.getD k X=La/\¬ Z3x h i k=0):CP (rndF f193 0) (ZgV h i u k).st .ret (Tg.st ⟨tm 43 [(4,u64 (4096+i*h.C.pw+k))],[],60⟩):=by
 have po:=Z0a hp;obtain⟨hd1,hd2⟩:=hd;exact sF [] [] (FN 23 24 29 bdv u k (FcG 36 (!u.getD k X) (λhg=>by(try simp only[bs]at hg);exact @ZaR h ((i:Int)) ((k:Int)) aa) (Fts 38 (!u.getD k X&&Z3x h (i:Int) (k:Int) != 0) (Fc 42 (@Ze7 h ((i:Int)) ((k:Int)) aa oq oq) Fz))))
omit hp hi hu in
theorem Zn3:CP (rndF f193 0) (ZgV h i u u.length).st (.ext 0) (Tg.st ⟨tm 43 [(4,u64 0)],[],60⟩):=by
 exact sF [] [] (FO 23 24 bdv u Fz)
end
def badD(h:Heap)(i:Nat)(u:List Bool)(k:Nat):Bool:=!u.getD k X&&O (Z3x h i k≠0)
def Z2m(h:Heap)(i:Nat)(u:List Bool):Int:=match (Lb u.length).find? (badD h i u)with | Y k=>4096+i*h.C.pw+k | L=>0
def Zle(h:Heap)(i:Nat)(u:List Bool)(hp:Z02 h=Z)(hi:i<h.P.length)(hu:u.length<=64)(hf:(Lb u.length).find? (badD h i u)=L) :
  CP (blkF f193 0) (Tg.st ⟨tm 43 [(1,int i),(2,.pt 8002 0 0),(4,u64 0),(7,.d (.sl 1 (u.map bdv))),(8,int 0)],[(8002,.box 28 h.cells)],60⟩) .nrm (Tg.st ⟨tm 43 [(4,u64 0)],[],60⟩):=by
 refine Z08 (S:=λk=>(ZgV h i u k).st) u.length kr (λk hk=>Zd9 h i u k hp hi hu hk ?_) (Zn3 h i u);have:=Ll.1 hf k (Ld.2 hk);simp only[badD,bs]at this;cases hb:u.getD k X with
 | true=>exact .inl rfl
 | false =>
  rw[hb]at this;exact .inr (by simpa using this)
def Zi3(h:Heap)(i:Nat)(u:List Bool)(k:Nat)(hp:Z02 h=Z)(hi:i<h.P.length)(hu:u.length<=64)(hf:(Lb u.length).find? (badD h i u)=Y k) :
  CP (blkF f193 0) (Tg.st ⟨tm 43 [(1,int i),(2,.pt 8002 0 0),(4,u64 0),(7,.d (.sl 1 (u.map bdv))),(8,int 0)],[(8002,.box 28 h.cells)],60⟩) .ret (Tg.st ⟨tm 43 [(4,u64 (4096+i*h.C.pw+k))],[],60⟩):=by
 obtain⟨h1,h2,h3⟩:=Lm.1 hf;have h2:=Ld.1 h2;refine Z0v (S:=λk=>(ZgV h i u k).st) k kr (λm hm=>Zd9 h i u m hp hi hu oq ?_) (ZjR h i u k hp hi hu h2 ?_)
 .have:=h3 m hm;simp only[badD,bs]at this;cases hb:u.getD m X with
  | true=>exact .inl rfl
  | false =>
   rw[hb]at this;exact .inr (by simpa using this)
 .simp only[badD,bs]at h1;exact⟨h1.1,h1.2⟩
def Zfm(h:Heap)(i:Nat)(hw:WOk h.W)(hp:Z02 h=Z)(hi:i<h.P.length):GP 193 [h.av,int i] Z (u64 (Z2m h i (Z1M h i))) []:=by
 have po:=Z0a hp;have hh:=ZbC h.P i;have hn:=Z2K h (Z0s h.P i:Nat);have hr:=Z2B hp (Z0s h.P i:Nat);have hl:=Z5d h i;unfold Z1M at hl ⊢;cases hf:(Lb (Z1z h i (Z07 h (Z0s h.P i:Nat)).1).length).find? (badD h i (Z1z h i (Z07 h (Z0s h.P i:Nat)).1))with
 | none =>
  have e7:Z2m h i (Z1z h i (Z07 h (Z0s h.P i:Nat)).1)=0:=by rw[Z2m,hf]
  let y0:=Z07 h (↑(Z0s h.P i):Int);exact gF [] func193 (fO 6) (Fc 13 (@Zfn h i aa aa) (Fc 14 (@Z3J h ((↑(Z0s h.P i):Int)) aa) (Fc 20 (@Zg6 h ((i:Int)) (y0.1) aa aa oq oq aa) (Fu (@Zle h i (Z1z h (i:Int) y0.1) aa aa oq aa) (Fa (by rw[e7]:0=Z2m h i (Z1z h (i:Int) y0.1)) Fz)))))
 | some k =>
  have e7:Z2m h i (Z1z h i (Z07 h (Z0s h.P i:Nat)).1)=4096+i*h.C.pw+k:=by rw[Z2m,hf]
  let y1:=Z07 h (↑(Z0s h.P i):Int);exact gF [] func193 (fO 6) (Fc 13 (@Zfn h i aa aa) (Fc 14 (@Z3J h ((↑(Z0s h.P i):Int)) aa) (Fc 20 (@Zg6 h ((i:Int)) (y1.1) aa aa oq oq aa) (Fu (@Zi3 h i (Z1z h (i:Int) y1.1) k aa aa oq aa) (Fa (by rw[e7]:4096+(i:Int)*h.C.pw+(k:Int)=Z2m h i (Z1z h (i:Int) y1.1)) Fz)))))
structure Finding where
 fault:Int
 page:Int
 addr:Int
 deriving DecidableEq,Inhabited
def Finding.av(f:Finding):AV:=.ag [int f.fault,int f.page,u64 f.addr]
def pageF(h:Heap)(i:Nat):Finding :=
 if(h.P.getD i X).K≠0/\(h.P.getD i X).S≠h.S then⟨2,i,0⟩
 else if(Z07 h (i:Int)).2≠0 then⟨3,i,0⟩
 else if Z10 h (i:Int) (Z07 h (i:Int)).1≠0 then⟨5,i,Z10 h (i:Int) (Z07 h (i:Int)).1⟩
 else if Z2m h i (Z1M h i)≠0 then⟨4,i,Z2m h i (Z1M h i)⟩else⟨0,0,0⟩
def Zfe(h:Heap)(i:Nat)(hw:WOk h.W)(hp:Z02 h=Z)(hi:i<h.P.length):GP 145 [h.av,int i] Z (pageF h i).av []:=by
 have po:=Z0a hp;have hn:=Z2K h (i:Int);have hr:=Z2B hp (i:Int);have Q0 {h_ c_ p_} (r_:Fq h_ c_ p_):=Fek 12 Page.dv h.P (↑i) i (FeG 20 ((h.P.getD i X).K != 0) Page.dv h.P (↑i) i r_);rcases bb ((h.P.getD i X).K != 0&&(h.P.getD i X).S != h.S)with hc0 | hc0<;>have hc0p:=hc0<;>simp only[bs]at hc0p
 .obtain⟨hc0pa,hc0pb⟩:=hc0p;rw[show pageF h i=Finding.mk (2:Int) (i:Int) (0:Int)from by(simp only[pageF] ;exact sj)];exact gF [] func145 [] (Q0 (Ft 26 hc0 Fz))
 .have Q1 {h_ c_ p_} (r_:Fq h_ c_ p_):=Q0 (Ff 26 hc0 (Fc 32 (@Z3J h ((i:Int)) aa) r_));rcases bb ((Z07 h (i:Int)).2 != 0)with hc1 | hc1<;>have hc1p:=hc1<;>simp only[bs]at hc1p
  .rw[show pageF h i=Finding.mk (3:Int) (i:Int) (0:Int)from by(simp only[pageF] ;exact sj)];exact gF [] func145 [] (Q1 (Ft 36 hc1 Fz))
  .have Q2 {h_ c_ p_} (r_:Fq h_ c_ p_):=Q1 (Ff 36 hc1 (Fc 42 (@Z8b h ((i:Int)) ((Z07 h (i:Int)).1) aa oq oq oq aa) r_));rcases bb (Z10 h (i:Int) (Z07 h (i:Int)).1 != 0)with hc2 | hc2<;>have hc2p:=hc2<;>simp only[bs]at hc2p
   .rw[show pageF h i=Finding.mk (5:Int) (i:Int) (Z10 h (i:Int) (Z07 h (i:Int)).1)from by(simp only[pageF] ;exact sj)];exact gF [] func145 [] (Q2 (Ft 44 hc2 Fz))
   .have Q3 {h_ c_ p_} (r_:Fq h_ c_ p_):=Q2 (Ff 44 hc2 (Fc 50 (@Zfm h i aa aa aa) r_));rcases bb (Z2m h i (Z1M h i) != 0)with hc3 | hc3<;>have hc3p:=hc3<;>simp only[bs]at hc3p
    .rw[show pageF h i=Finding.mk (4:Int) (i:Int) (Z2m h i (Z1M h i))from by(simp only[pageF] ;exact sj)];exact gF [] func145 [] (Q3 (Ft 52 hc3 Fz))
    .rw[show pageF h i=Finding.mk (0:Int) (0:Int) (0:Int)from by(simp only[pageF] ;exact sj)];exact gF [] func145 [] (Q3 (Ff 52 hc3 Fz))
def Zha(h:Heap)(all:List Int)(i:Nat):Tg:=⟨tm 89 [(1,.pt 8001 0 0),(2,.pt 8002 0 0),(3,Z01 all),(5,int i)],[(8002,.box 148 [int 0,int 0,u64 0]),(8001,.box 28 h.cells)],60⟩
def Z8o(hd:Header)(fs all:List Int)(k:Nat):Bool:=Z0e hd k&&O (fs.getD k X≠0)&&!decide (fs.getD k X∈all)
def ZgT(h:Heap)(all fs:List Int)(hd:Header)(i k:Nat):Tg:=⟨tm 89 [(1,.pt 8001 0 0),(2,.pt 8002 0 0),(3,Z01 all),(5,int i),(6,.pt 488006 0 0),(8,Z01 fs),(10,int k)],[(488006,.box 52 [int hd.K,int hd.length,u32 hd.map]),(8002,.box 148 [int 0,int 0,u64 0]),(8001,.box 28 h.cells)],64⟩
section
variable (h:Heap) (all fs:List Int) (hd:Header) (i k:Nat) (hm:0<=hd.map/\hd.map<=4294967295) (hl:all.length<=1048576) (hf:fs.length<=4096) (hr:0<=all.getD i X/\all.getD i X<=8192) (hi:i<all.length)
include hm hl hf hr hi
theorem Zcf(hk:k<fs.length)(hb:Z8o hd fs all k=La):CP (rndF f146 2) (ZgT h all fs hd i k).st .nrm (ZgT h all fs hd i (k+1)).st:=by
 simp only[Z8o,bs]at hb;rcases hb with(hb | hb) | hb
 .let y0:=Z0e hd (k:Int)&&fs.getD k X != 0;exact sF [] [] (FM 46 47 wdv fs k (Fc 52 (@Z1F hd ((k:Int)) aa) (FeG 56 (Z0e hd (k:Int)) wdv fs (↑k) k (FeG 64 y0 wdv fs (↑k) k (FcG 66 y0 (λhg=>by(try simp only[bs]at hg);exact @Z0N all (fs.getD k X) aa) (Ffs 68 (Z0e hd (k:Int)&&fs.getD k X != 0&&!decide (fs.getD k X∈all)) (Fx 49 k Fz)))))))
 .let y1:=Z0e hd (k:Int)&&fs.getD k X != 0;exact sF [] [] (FM 46 47 wdv fs k (Fc 52 (@Z1F hd ((k:Int)) aa) (FeG 56 (Z0e hd (k:Int)) wdv fs (↑k) k (FeG 64 y1 wdv fs (↑k) k (FcG 66 y1 (λhg=>by(try simp only[bs]at hg);exact @Z0N all (fs.getD k X) aa) (Ffb 68 (Z0e hd (k:Int)&&fs.getD k X != 0&&!decide (fs.getD k X∈all)) (Fx 49 k Fz)))))))
 .let y2:=Z0e hd (k:Int)&&fs.getD k X != 0;exact sF [] [] (FM 46 47 wdv fs k (Fc 52 (@Z1F hd ((k:Int)) aa) (FeG 56 (Z0e hd (k:Int)) wdv fs (↑k) k (FeG 64 y2 wdv fs (↑k) k (FcG 66 y2 (λhg=>by(try simp only[bs]at hg);exact @Z0N all (fs.getD k X) aa) (Ffs 68 (Z0e hd (k:Int)&&fs.getD k X != 0&&!decide (fs.getD k X∈all)) (Fx 49 k Fz)))))))
theorem Zjy(hk:k<fs.length)(hb:Z8o hd fs all k=Z):CP (rndF f146 2) (ZgT h all fs hd i k).st .ret (Tg.st ⟨tm 89 [(2,.pt 8002 0 0)],[(8002,.box 148 [int 6,int (ofA h.C (all.getD i X+1+k)).1,u64 (all.getD i X+1+k)])],64⟩):=by
 simp only[Z8o,bs]at hb;obtain⟨⟨hb1,hb2⟩,hb3⟩:=hb;let y0:=Z0e hd (k:Int)&&fs.getD k X != 0;exact sF [] [] (FM 46 47 wdv fs k (Fc 52 (@Z1F hd ((k:Int)) aa) (FeG 56 (Z0e hd (k:Int)) wdv fs (↑k) k (FeG 64 y0 wdv fs (↑k) k (FcG 66 y0 (λhg=>by(try simp only[bs]at hg);exact @Z0N all (fs.getD k X) aa) (Fts 68 (Z0e hd (k:Int)&&fs.getD k X != 0&&!decide (fs.getD k X∈all)) (Fek 71 wdv all (↑i) i (Fv 73 (all.getD i X+1) (Fv 75 (↑k) (Fv 76 (all.getD i X+1+(k:Int)) (Fc 81 (@Z4j h.C (all.getD i X+1+(k:Int)) oq oq) Fz)))))))))))
omit hm hl hf hr hi in
theorem Zow:CP (rndF f146 2) (ZgT h all fs hd i fs.length).st (.ext 2) (Tg.st ⟨tm 89 [(1,.pt 8001 0 0),(2,.pt 8002 0 0),(3,Z01 all),(5,int i)],[(8002,.box 148 [int 0,int 0,u64 0]),(8001,.box 28 h.cells)],64⟩):=by
 exact sF [] [] (FO 46 47 wdv fs Fz)
end
section
variable (h:Heap) (all fs:List Int) (hd:Header) (i:Nat) (hm:0<=hd.map/\hd.map<=4294967295) (hl:all.length<=1048576) (hf:fs.length<=4096) (hr:0<=all.getD i X/\all.getD i X<=8192) (hi:i<all.length)
include hm hl hf hr hi
theorem Zkz(hb:(Lb fs.length).find? (Z8o hd fs all)=L):CP (blkF f146 2) (ZgT h all fs hd i 0).st .nrm (Tg.st ⟨tm 89 [(1,.pt 8001 0 0),(2,.pt 8002 0 0),(3,Z01 all),(5,int i)],[(8002,.box 148 [int 0,int 0,u64 0]),(8001,.box 28 h.cells)],64⟩):=by
 refine Z08 (S:=λk=>(ZgT h all fs hd i k).st) fs.length kr (λk hk=>Zcf h all fs hd i k hm hl hf hr hi hk ?_) (Zow h all fs hd i);have:=Ll.1 hb k (Ld.2 hk);simpa using this
theorem ZjE(k:Nat)(hb:(Lb fs.length).find? (Z8o hd fs all)=Y k):CP (blkF f146 2) (Tg.st ⟨tm 89 [(1,.pt 8001 0 0),(2,.pt 8002 0 0),(3,Z01 all),(5,int i),(6,.pt 488006 0 0),(8,Z01 fs),(10,int 0)],[(488006,.box 52 [int hd.K,int hd.length,u32 hd.map]),(8002,.box 148 [int 0,int 0,u64 0]),(8001,.box 28 h.cells)],64⟩) .ret (Tg.st ⟨tm 89 [(2,.pt 8002 0 0)],[(8002,.box 148 [int 6,int (ofA h.C (all.getD i X+1+k)).1,u64 (all.getD i X+1+k)])],64⟩):=by
 obtain⟨h1,h2,h3⟩:=Lm.1 hb;have h2:=Ld.1 h2;refine Z0v (S:=λk=>(ZgT h all fs hd i k).st) k kr (λm hm'=>Zcf h all fs hd i m hm hl hf hr hi oq ?_) (Zjy h all fs hd i k hm hl hf hr hi h2 h1);have:=h3 m hm';simpa using this
end
def Z5S(h:Heap)(a:Int):(Z0t h a).1.length<=4096:=by
 unfold Z0t;split
 .rename_i e;have po:=Z0a (Z3A e).2.2.1;have:=Zc7 h.W (a+1) (getH h a).1.length;omega
 .simp
def Z24(h:Heap)(all:List Int)(i:Nat):Option Nat:=(Lb (Z0t h (all.getD i X)).1.length).find? (Z8o (getH h (all.getD i X)).1 (Z0t h (all.getD i X)).1 all)
section
variable (h:Heap) (all:List Int) (i:Nat) (hw:WOk h.W) (hl:all.length<=1048576) (hr:0<=all.getD i X/\all.getD i X<=8192) (hi:i<all.length)
include hw hl hr hi
theorem Zcl(hb:Z24 h all i=L):CP (rndF f146 0) (Zha h all i).st .nrm (Zha h all (i+1)).st:=by
 have hm:=Z7M hw (all.getD i X);have hf:(Z0t h (all.getD i X)).1.length<=4096:=Z5S h _;unfold Z24 at hb;let y0:=all.getD i X;exact sF [] [] (FN 22 23 30 wdv all i (Fc 32 (@Z3e h y0 aa oq) (Fek 39 wdv all (↑i) i (Fc 41 (@Z72 h y0 aa oq) (Fu (@Zkz h all ((Z0t h y0).1) ((getH h y0).1) i aa aa aa aa aa aa) (Fx 25 i Fz))))))
theorem Zk7(k:Nat)(hb:Z24 h all i=Y k):CP (rndF f146 0) (Zha h all i).st .ret (Tg.st ⟨tm 89 [(2,.pt 8002 0 0)],[(8002,.box 148 [int 6,int (ofA h.C (all.getD i X+1+k)).1,u64 (all.getD i X+1+k)])],60⟩):=by
 have hm:=Z7M hw (all.getD i X);have hf:(Z0t h (all.getD i X)).1.length<=4096:=Z5S h _;unfold Z24 at hb;let y0:=all.getD i X;exact sF [] [] (FN 22 23 30 wdv all i (Fc 32 (@Z3e h y0 aa oq) (Fek 39 wdv all (↑i) i (Fc 41 (@Z72 h y0 aa oq) (Fu (@ZjE h all ((Z0t h y0).1) ((getH h y0).1) i aa aa aa aa aa k aa) Fz)))))
end
def Znq(h:Heap)(all:List Int):CP (rndF f146 0) (Zha h all all.length).st (.ext 0) (Tg.st ⟨tm 89 [(2,.pt 8002 0 0)],[(8002,.box 148 [int 0,int 0,u64 0])],60⟩):=by
 exact sF [] [] (FO 22 23 wdv all Fz)
def Z0J(h:Heap)(all:List Int):Finding :=
 match (Lb all.length).find? (λi=>(Z24 h all i).isSome)with
 | none=>⟨0,0,0⟩
 | some i=>⟨6,(ofA h.C (all.getD i X+1+((Z24 h all i).getD 0:Nat))).1,all.getD i X+1+((Z24 h all i).getD 0:Nat)⟩
section
variable (h:Heap) (all:List Int) (hw:WOk h.W) (hl:all.length<=1048576) (hr:∀ x∈all,0<=x/\x<=8192)
include hw hl hr
theorem Zkx(hb:(Lb all.length).find? (λi=>(Z24 h all i).isSome)=L):CP (blkF f146 0) (Zha h all 0).st .nrm (Tg.st ⟨tm 89 [(2,.pt 8002 0 0)],[(8002,.box 148 [int 0,int 0,u64 0])],60⟩):=by
 refine Z08 (S:=λk=>(Zha h all k).st) all.length kr (λk hk=>Zcl h all k hw hl (hr _ (getD_mem_iff.2 ⟨k,hk,rfl⟩)) hk ?_) (Znq h all);have:=Ll.1 hb k (Ld.2 hk);simpa using this
theorem Zjd(i k:Nat)(hb:(Lb all.length).find? (λi=>(Z24 h all i).isSome)=Y i)(hk':Z24 h all i=Y k):CP (blkF f146 0) (Tg.st ⟨tm 89 [(1,.pt 8001 0 0),(2,.pt 8002 0 0),(3,Z01 all),(5,int 0)],[(8002,.box 148 [int 0,int 0,u64 0]),(8001,.box 28 h.cells)],60⟩) .ret (Tg.st ⟨tm 89 [(2,.pt 8002 0 0)],[(8002,.box 148 [int 6,int (ofA h.C (all.getD i X+1+k)).1,u64 (all.getD i X+1+k)])],60⟩):=by
 obtain⟨h1,h2,h3⟩:=Lm.1 hb;have h2:=Ld.1 h2;refine Z0v (S:=λk=>(Zha h all k).st) i kr (λm hm'=>Zcl h all m hw hl (hr _ (getD_mem_iff.2 ⟨m,by omega,rfl⟩)) oq ?_) (Zk7 h all i hw hl (hr _ (getD_mem_iff.2 ⟨i,h2,rfl⟩)) h2 k hk');have:=h3 m hm';simpa using this
end
def Z4Z(h:Heap)(hw:WOk h.W):GP 146 [h.av] Z (Z0J h (Z03 h).1).av []:=by
 have hl:=Z0F h;have hr:=Z18 h;cases hb:(Lb (Z03 h).1.length).find? (λi=>(Z24 h (Z03 h).1 i).isSome)with
 | none =>
  have e:Z0J h (Z03 h).1=⟨0,0,0⟩:=by simp only[Z0J,hb]
  rw[e];exact gF [] func146 [] (Fc 17 (@Z1T h aa) (Fu (@Zkx h ((Z03 h).1) aa oq aa aa) Fz))
 | some i =>
  have h1:=(Lm.1 hb).1;obtain⟨k,hk⟩:=Option.isSome_iff_exists.1 h1;have e:Z0J h (Z03 h).1=⟨6,(ofA h.C ((Z03 h).1.getD i X+1+(k:Nat))).1,(Z03 h).1.getD i X+1+(k:Nat)⟩:=by simp only[Z0J,hb,hk,Option.getD_some]
  rw[e];exact gF [] func146 [] (Fc 17 (@Z1T h aa) (Fu (@Zjd h ((Z03 h).1) aa oq aa i k aa aa) Fz))
def ZkM(h:Heap)(hw:WOk h.W)(hp:Z02 h=La):GP 89 [h.av] Z (Finding.mk 1 0 0).av []:=by
 exact gF [] func89 [] (Fc 9 (@Z0h h) (Ftb 10 (!Z02 h) Fz))
def chkL(h:Heap)(i:Nat):Tg:=⟨tm 65 [(1,.pt 8001 0 0),(2,.pt 8002 0 0),(3,int i)],[(8002,.box 148 [int 0,int 0,u64 0]),(8001,.box 28 h.cells)],60⟩
section
variable (h:Heap) (i:Nat) (hw:WOk h.W) (hp:Z02 h=Z)
include hw hp
theorem ZeW(hi:i<h.P.length)(hb:(pageF h i).fault=0):CP (rndF f89 0) (chkL h i).st .nrm (chkL h (i+1)).st:=by
 have po:=Z0a hp;exact sF [] [] (FM 15 16 Page.dv h.P i (Fc 21 (@Zfe h i aa aa aa) (Ffb 24 ((pageF h i).fault != 0) (Fx 18 i Fz))))
theorem Zmm(hi:i<h.P.length)(hb:(pageF h i).fault≠0):CP (rndF f89 0) (chkL h i).st .ret (Tg.st ⟨tm 65 [(2,.pt 8002 0 0)],[(8002,.box 148 [int (pageF h i).fault,int (pageF h i).page,u64 (pageF h i).addr])],60⟩):=by
 have po:=Z0a hp;exact sF [] [] (FM 15 16 Page.dv h.P i (Fc 21 (@Zfe h i aa aa aa) (Ftb 24 ((pageF h i).fault != 0) Fz)))
end
def Zp1(h:Heap)(hp:Z02 h=Z):CP (rndF f89 0) (chkL h h.P.length).st (.ext 0) (Tg.st ⟨tm 65 [(1,.pt 8001 0 0),(2,.pt 8002 0 0)],[(8002,.box 148 [int 0,int 0,u64 0]),(8001,.box 28 h.cells)],60⟩):=by
 have po:=Z0a hp;exact sF [] [] (FO 15 16 Page.dv h.P Fz)
def Z2C(h:Heap):Option Nat:=(Lb h.P.length).find? (λi=>O ((pageF h i).fault≠0))
section
variable (h:Heap) (hw:WOk h.W) (hp:Z02 h=Z)
include hw hp
theorem ZdT(hb:Z2C h=L):CP (blkF f89 0) (chkL h 0).st .nrm (Tg.st ⟨tm 65 [(1,.pt 8001 0 0),(2,.pt 8002 0 0)],[(8002,.box 148 [int 0,int 0,u64 0]),(8001,.box 28 h.cells)],60⟩):=by
 refine Z08 (S:=λk=>(chkL h k).st) h.P.length kr (λk hk=>ZeW h k hw hp hk ?_) (Zp1 h hp);have:=Ll.1 hb k (Ld.2 hk);simpa using this
theorem ZkA(i:Nat)(hb:Z2C h=Y i):CP (blkF f89 0) (Tg.st ⟨tm 65 [(1,.pt 8001 0 0),(2,.pt 8002 0 0),(3,int 0)],[(8002,.box 148 [int 0,int 0,u64 0]),(8001,.box 28 h.cells)],60⟩) .ret (Tg.st ⟨tm 65 [(2,.pt 8002 0 0)],[(8002,.box 148 [int (pageF h i).fault,int (pageF h i).page,u64 (pageF h i).addr])],60⟩):=by
 obtain⟨h1,h2,h3⟩:=Lm.1 hb;have h2:=Ld.1 h2;refine Z0v (S:=λk=>(chkL h k).st) i kr (λm hm'=>ZeW h m hw hp oq ?_) (Zmm h i hw hp h2 (by simpa using h1));have:=h3 m hm';simpa using this
end
def Zk2(h:Heap)(hw:WOk h.W)(hp:Z02 h=Z)(i:Nat)(hb:Z2C h=Y i):GP 89 [h.av] Z (pageF h i).av []:=by
 exact gF [] func89 [] (Fc 9 (@Z0h h) (Ffb 10 (!Z02 h) (Fu (@ZkA h aa aa i aa) Fz)))
def Zkw(h:Heap)(hw:WOk h.W)(hp:Z02 h=Z)(hb:Z2C h=L)(hq:(Z0J h (Z03 h).1).fault≠0):GP 89 [h.av] Z (Z0J h (Z03 h).1).av []:=by
 exact gF [] func89 [] (Fc 9 (@Z0h h) (Ffb 10 (!Z02 h) (Fu (@ZdT h aa aa aa) (Fc 27 (@Z4Z h aa) (Ftb 30 ((Z0J h (Z03 h).1).fault != 0) Fz)))))
end Go.Proofs.YtgedmeaemofdkaaGreat
namespace Go.Sx
def ZkC(H:Heap)(x:AV):Option AV:=match x with
 | .d x=>Y (.d x)
 | .rp e o=>Y (.rp e o)
 | .ow b=>match Lj 8000 b with
  | true=>match H b with | Y (.arr _ s els)=>Y (.d (.sl s els)) | _=>L
  | false=>L
 | .os b o n=>match Lj 8000 b with
  | true=>match H b with | Y (.arr _ s els)=>Y (.d (.sl s ((els.drop o).take n))) | _=>L
  | false=>L
 | _=>L
def Zmg{P:Program}{f:Nat}{e0 e1:List DV}{t0 t1:Nat}{x:Value}(hx:x.oneCell'=Z)(h:GSpec P f [.rp e0 0,.rp e1 0] Z (.d (.sc x)) []) :
  LentSpec P f [.pt 0 0 0,.pt 1 0 0] [.box t0 (e0.map .d),.box t1 (e1.map .d)] (.d (.sc x)) [.box t0 (e0.map .d),.box t1 (e1.map .d)]:=by
 intro w Im ρ vs hIm hsz hρ hinj hbnd hpre hargs;have box:∀ (k:Nat) (e:List DV) (t:Nat) (v:Value) (Im2:Nat->Prop),(∀ g,Im g->Im2 g)->(∀ β g,ρ k=Y β->β.g=Y g->Im2 g)->(∃ β,ρ k=Y β/\RelB ρ w Im β (.box t (e.map .d)))->Rel ρ w Im (.pt k 0 0) v->Rel (λ_=>L) w Im2 (.rp e 0) v:=by
  intro k e t v Im2 hi hg hb hv;obtain⟨β,hβ,r⟩:=hb;obtain⟨g,s,n,k1,rfl⟩:=Z3H hv rfl;rw[hβ]at k1;cases k1;obtain⟨r1,r2,g2,cs,r3,r4,r5,r6,r7⟩:=r;cases r3;have:=@Rel.rp (λ_=>L) w Im2 e 0 ⟨g,0,L⟩ rfl (hg _ _ hβ rfl) (λj y hy=>by
   have hj:j<e.length:=(LO.1 hy).1;have hc:j<cs.size:=by rw[r5];simpa using hj
   have h1:cs[j]? = Y cs[j]:=Array.getElem?_eq_getElem hc;have h2:=r7 j (.d y) cs[j] (by simp[hy]) h1;refine⟨cs[j], ?_, ?_⟩
   .simp only[World.cell?,r4];simpa using h1
   .cases h2 with
    | d h2=>exact h2.mono (Ext.refl _ _) hi)
  simpa using this
 refine(h w (λg=>Im g\/∃ k β,ρ k=Y β/\β.g=Y g) vs ?_ hsz ?_).mono ?_
 .rintro g (hg | ⟨k,β,h1,h2⟩)
  .exact hIm g hg
  .exact(hbnd k β g h1 h2).1
 .intro i y v hy hv;cases i with
  | zero =>
   simp at hy;subst hy;exact box 0 e0 t0 v _ (λg hg=>.inl hg) (λβ g h1 h2=>.inr ⟨0,β,h1,h2⟩) (hpre 0 _ rfl) (hargs 0 _ v rfl hv)
  | succ i=>cases i with
   | zero =>
    simp at hy;subst hy;exact box 1 e1 t1 v _ (λg hg=>.inl hg) (λβ g h1 h2=>.inr ⟨1,β,h1,h2⟩) (hpre 1 _ rfl) (hargs 1 _ v rfl hv)
   | succ i=>simp at hy
 .rintro e w' ⟨v,rfl,hk,ρ',Im',_,_,_,_,_,_,hr⟩;have hv:=Z0G hr;subst hv;have ext:Ext Im w w':=⟨hk.size,λg hg=>hk.block g (hIm g hg) (λq=>q),hk.rows⟩
  refine⟨_,rfl,⟨hk.os,hk.tape,hk.output,hk.size,λk h1 _=>hk.block k h1 (λq=>q),hk.rows⟩,ρ,Im,λ_ _ h=>h,hρ,λg hg=>.inl hg,λg hg=>LC (hIm g hg) hk.size,
   λk β g h1 h2=>⟨LC (hbnd k β g h1 h2).1 hk.size,.inr ⟨k,β,h1,h2⟩⟩,λk β g _ h1 h2=>(hbnd k β g h1 h2).2,λk k' β β' g _ _=>hinj k k' β β' g, ?_,.d (.sc _ hx)⟩
  intro k B hB;obtain⟨β,b1,b2⟩:=hpre k B hB;exact⟨β,b1,b2.mono ext (λ_ h=>h) (λ_ _ h=>h) (λb β g h1 h2=>(hbnd b β g h1 h2).1) (λg hg=>hk.block g (hbnd k β g b1 hg).1 (λq=>q))⟩
def fzL(f:Nat->Option Nat)(H:Heap)(x:AV):Option AV:=match x with
 | .d x=>Y (.d x)
 | .rp e o=>Y (.rp e o)
 | .pt b i o=>match f b with | Y k=>Y (.pt k i o) | L=>L
 | .os b o n=>match f b with | Y k=>Y (.os k o n) | L=>ZkC H (.os b o n)
 | .ow b=>match f b with | Y k=>Y (.ow k) | L=>ZkC H (.ow b)
 | _=>L
def fzM(f:Nat->Option Nat)(H:Heap)(x:AV):Option AV:=match x with
 | .ag l=>match allO (fzL f H) l with | Y r=>Y (.ag r) | L=>L
 | .ic t x=>match fzL f H x with | Y r=>Y (.ic t r) | L=>L
 | x=>fzL f H x
def fzT(f:Nat->Option Nat)(H:Heap)(x:AV):Option AV:=match x with
 | .tu l=>match allO (fzM f H) l with | Y r=>Y (.tu r) | L=>L
 | x=>fzM f H x
def fzB(f:Nat->Option Nat)(H:Heap)(m b:Nat)(E:Blk):Option (Blk×List Prop):=match E with
 | .dead=>match Lj (b+1) m with | Z=>Y (.dead,[]) | La=>L
 | .box _ cells1=>match H b with
  | some (.box ty cells)=>match allO (fzM f H) cells with
   | some cs=>Y (.box ty (coeL coe1 cs cells1).1,(coeL coe1 cs cells1).2)
   | none=>L
  | _=>L
 | .arr .. => match H b with
  | some (.arr ty s els)=>Y (.arr ty s els,[])
  | _=>L
 | .mp _=>match H b with
  | some (.mp ks)=>Y (.mp ks,[])
  | _=>L
def fzBs(f:Nat->Option Nat)(H:Heap)(m:Nat):List Nat->List Blk->Option (List Blk×List Prop)
 | [],[]=>Y ([],[])
 | b::l,E::r=>match fzB f H m b E,fzBs f H m l r with
  | some (B,p),some (rs,q)=>Y (B::rs,p++q)
  | _,_=>L
 | _,_=>L
def upto:Nat->Nat->List Nat
 | _,0=>[]
 | k,n+1=>k::upto (k+1) n
def Zmj:Nat->List Nat->Bool
 | _,[]=>Z
 | k,b::l=>(LW b k||(Lj 8000 b&&Lj b 15999))&&Zmj (k+1) l
def Z7G:∀ (n k i:Nat),i<n->(upto k n)[i]? = Y (k+i)
 | 0,_,_,h=>by omega
 | n+1,k,0,_=>rfl
 | n+1,k,i+1,h=>by
  simp only[upto,List.getElem?_cons_succ];rw[Z7G n (k+1) i oq,show k+1+i=k+(i+1)from by omega]
def Z7N:∀ (n k:Nat),(upto k n).length=n
 | 0,_=>rfl
 | n+1,k=>by simp[upto,Z7N n (k+1)]
def Za3:∀ {l:List Nat} {k i b:Nat},Zmj k l=Z->l[i]? = Y b->b=k+i\/(8000<=b/\b<16000)
 | [],_,_,_,_,h=>by simp at h
 | c::l,k,i,b,hk,h=>by
  simp only[Zmj,Lg,LD]at hk;cases i with
  | zero =>
   simp at h;subst h;rcases hk.1 with h | h
   .exact .inl (by have:=LX h;omega)
   .exact .inr ⟨Lk h.1,by have:=Lk h.2;omega⟩
  | succ i =>
   rcases Za3 hk.2 (by simpa using h)with h | h
   .exact .inl oq
   .exact .inr h
def Zj8:∀ {l:List Nat} {m:List Blk} {b:Nat} {B:Blk},hOf (l.zip m) b=Y B->∃ i:Nat,l[i]? = Y b/\m[i]? = Y B
 | [],_,_,_,h=>by simp[hOf]at h
 | _::_,[],_,_,h=>by simp[hOf]at h
 | c::l,C::m,b,B,h=>by
  simp only[List.zip_cons_cons,hOf]at h;split at h
  .rename_i e;cases h;exact⟨0,by simp[e],rfl⟩
  .obtain⟨i,h1,h2⟩:=Zj8 h;exact⟨i+1,by simpa using h1,by simpa using h2⟩
def runB(P:Program)(hints:List (Nat×List Hint))(cuts:List (Nat×Tg×Ex×Tg))(ids keep:List Nat)(fn:Func)(args:List AV)(pre:List Blk)(res:AV)(post:List Blk):Option Run :=
 match fn.body with
 | none=>L
 | some c=>match runC P hints cuts c ⟨args.map (mapA (renI ids))++Lh (fn.ntmps-args.length) .any,hOf (ids.zip (pre.map (Z3F ids))),2⟩with
  | none=>L
  | some r=>match r.e with
   | .ext _=>L
   | _=>match Z8J P r.s.tmps r.s.H fn.results.toList with
    | none=>L
    | some l=>match fzT (λb=>idxN b (upto 0 pre.length++keep) 0) r.s.H (resV l),fzBs (λb=>idxN b (upto 0 pre.length++keep) 0) r.s.H pre.length (upto 0 pre.length++keep) post with
     | some x,some (bs,q)=>match nodupB (upto 0 pre.length++keep)&&Lj pre.length 8000&&(nodupB ids&&Zmj 0 ids&&LW ids.length pre.length)with
      | true=>Y ⟨r.e,r.s,r.ph++((coeT x res).2++q),r.eq++((coeT x res).1,res)::(bs.map encB).zip (post.map encB)⟩
      | false=>L
     | _,_=>L
section
variable {Ow:Own} {Im0:Nat->Prop} {w0:World} {ρ ρ':Rho} {w:World} {Im ImB:Nat->Prop} {H:Heap} {clk:Nat} {f:Nat->Option Nat}
theorem Z9X{x:AV}{v:Value}{s:Nat}{els:List (List DV)}(I:Inv Ow Im0 w0 ρ w Im H clk)(hi:∀ g,Im g->ImB g)(hx:Rel ρ w Im x v)(h:Z1f H x=Y (s,els))
  (hblk:∀ a n c,v = .slice (Y a) n c->n≠0->ImB a.block):RelD w ImB (.sl s els) v:=by
 obtain⟨p,c,rfl,hbg,hc,hl,hcell⟩:=Z1Q I hx h;by_cases he:els=[]
 .subst he;exact .slNil _ _ _
 rcases hcell with hcell | ⟨q,rfl,hq,hcell⟩
 .exact absurd hcell he
 have hn:els.length≠0:=by simpa using he
 refine .sl s els q els.length c (λi o=>(w.cell? ⟨q.block,q.off+(i*s+o),L⟩).getD undef) rfl hc hbg (hl he) hq (hblk q _ c rfl hn) ?_ ?_
 .intro i e o y hi ho;obtain⟨u,k1,_⟩:=hcell i e o y hi ho;rw[k1];rfl
 .intro i e o y hi' ho;obtain⟨u,k1,k2⟩:=hcell i e o y hi' ho;rw[k1];exact k2.mono (Ext.refl _ _) hi
theorem Zef(I:Inv Ow Im0 w0 ρ w Im H clk)(hf:∀ b k β,f b=Y k->ρ b=Y β->ρ' k=Y β)(hi:∀ g,Im g->ImB g)
  (hz:∀ b β g,8000<=b->f b=L->live H b->ρ b=Y β->β.g=Y g->ImB g) {x y:AV} {v:Value} (hx:Rel ρ w Im x v) (h:fzL f H x=Y y):Rel ρ' w ImB y v:=by
 unfold fzL at h;split at h
 .cases h;cases hx with
  | d hx=>exact .d (hx.mono (Ext.refl _ _) hi)
 .cases h;cases hx with
  | rp h1 h2 h3=>exact .rp h1 (hi _ h2) (λj x hx=>let ⟨v,k1,k2⟩:=h3 j x hx;⟨v,k1,k2.mono (Ext.refl _ _) hi⟩)
 .split at h
  .rename_i k hk;cases h;obtain⟨g,s,n,h1,rfl⟩:=Z4p hx;exact .pt (hf _ _ _ hk h1)
  .cases h
 .rename_i b oo m;split at h
  .rename_i k hk;cases h;cases hx with
   | os h1 h2 h3 h4 h5=>exact .os (hf _ _ _ hk h1) h2 h3 h4 h5
  .rename_i hk;simp only[ZkC]at h;split at h;rotate_left
   .cases h
   rename_i hb8;split at h;rotate_left
   .cases h
   rename_i ty s els hb;cases h;refine .d (Z9X I hi hx (by simp[Z1f,hb]) λa n c hv hn=>?_);subst hv;generalize hvv:Value.slice (Y a) n c=vv at hx;cases hx with
   | os h1 h2 h3 h4 h5 =>
    injection hvv with e1 e2 e3;rcases h5 with h5 | ⟨g,hg,e,_⟩
    .omega
    .rw[<- e1]at e;cases e;exact hz b _ _ (Lk hb8) hk ⟨_,hb,by simp⟩ h1 hg
 .rename_i b;split at h
  .rename_i k hk;cases h;cases hx with
   | ow h1 h2 h3 h4=>exact .ow (hf _ _ _ hk h1) h2 h3 h4
  .rename_i hk;simp only[ZkC]at h;split at h;rotate_left
   .cases h
   rename_i hb8;split at h;rotate_left
   .cases h
   rename_i ty s els hb;cases h;refine .d (Z9X I hi hx (by simp[Z1f,hb]) λa n c hv hn=>?_);subst hv;generalize hvv:Value.slice (Y a) n c=vv at hx;cases hx with
   | ow h1 h2 h3 h4 =>
    injection hvv with e1 e2 e3;rcases h4 with h4 | ⟨g,hg,e,_⟩
    .omega
    .rw[<- e1]at e;cases e;exact hz b _ _ (Lk hb8) hk ⟨_,hb,by simp⟩ h1 hg
 .cases h
theorem ZdV(I:Inv Ow Im0 w0 ρ w Im H clk)(hf:∀ b k β,f b=Y k->ρ b=Y β->ρ' k=Y β)(hi:∀ g,Im g->ImB g)
  (hz:∀ b β g,8000<=b->f b=L->live H b->ρ b=Y β->β.g=Y g->ImB g) {x y:AV} {v:Value} (hx:Rel ρ w Im x v) (h:fzM f H x=Y y):Rel ρ' w ImB y v:=by
 unfold fzM at h;split at h
 .split at h;rotate_left
  .cases h
  rename_i r hr;cases h;obtain⟨h1,h2⟩:=Z37 hr;obtain⟨cs,rfl,k1,k2,k3⟩:=Z3a hx;refine .ag _ cs oq k2 λi a u ha hu=>?_;obtain⟨z,m1,m2⟩:=h2 i a ha;exact Zef I hf hi hz (k3 i z u m1 hu) m2
 .split at h;rotate_left
  .cases h
  rename_i r hr;cases h;cases hx with
  | ic hx=>exact .ic (Zef I hf hi hz hx hr)
 .exact Zef I hf hi hz hx h
theorem ZmV(I:Inv Ow Im0 w0 ρ w Im H clk)(hf:∀ b k β,f b=Y k->ρ b=Y β->ρ' k=Y β)(hi:∀ g,Im g->ImB g)
  (hz:∀ b β g,8000<=b->f b=L->live H b->ρ b=Y β->β.g=Y g->ImB g) {x y:AV} {v:Value} (hx:Rel ρ w Im x v) (h:fzT f H x=Y y):Rel ρ' w ImB y v:=by
 unfold fzT at h;split at h
 .split at h;rotate_left
  .cases h
  rename_i r hr;cases h;obtain⟨h1,h2⟩:=Z37 hr;cases hx with
  | tu _ cs k1 k3 =>
   refine .tu _ cs oq λi a u ha hu=>?_;obtain⟨z,m1,m2⟩:=h2 i a ha;exact ZdV I hf hi hz (k3 i z u m1 hu) m2
 .exact ZdV I hf hi hz hx h
theorem Zkd{m b:Nat}{E C:Blk}{p:List Prop}(h:fzB f H m b E=Y (C,p))(hE:E≠.dead):live H b:=by
 cases E with
 | dead=>exact absurd rfl hE
 | box ty1 cells1 =>
  simp only[fzB]at h;split at h
  .rename_i hb;exact⟨_,hb,by simp⟩
  .cases h
 | arr ty s els =>
  simp only[fzB]at h;split at h
  .rename_i hb;exact⟨_,hb,by simp⟩
  .cases h
 | mp ks =>
  simp only[fzB]at h;split at h
  .rename_i hb;exact⟨_,hb,by simp⟩
  .cases h
theorem Zo8(I:Inv Ow Im0 w0 ρ w Im H clk)(hf:∀ b k β,f b=Y k->ρ b=Y β->ρ' k=Y β)(hi:∀ g,Im g->ImB g)
  (hz:∀ b β g,8000<=b->f b=L->live H b->ρ b=Y β->β.g=Y g->ImB g) {m b:Nat} {E C:Blk} {p:List Prop} (h:fzB f H m b E=Y (C,p)) (hp:allP p) (hE:E≠.dead):∃ β,ρ b=Y β/\RelB ρ' w ImB β C:=by
 cases E with
 | dead=>exact absurd rfl hE
 | box ty1 cells1 =>
  simp only[fzB]at h;split at h;rotate_left
  .cases h
  rename_i ty cells hb;split at h;rotate_left
  .cases h
  rename_i cs hcs;cases h;obtain⟨β,h1,h0,h00,g,ca,k1,k2,k3,k3',k4⟩:=I.blk b _ hb;obtain⟨f1,f2⟩:=Z37 hcs;obtain⟨c1,c2⟩:=Z68 hp;refine⟨β,h1,by rw[c1,f1];exact h0,h00,g,ca,k1,k2,by rw[c1,f1];exact k3,k3',λo y u hy hu=>?_⟩;obtain⟨z,z1,z2⟩:=c2 o y hy;obtain⟨z',e1,e2⟩:=f2 o z z1;have hz':=ZdV I hf hi hz (k4 o z' u e1 hu) e2;rcases z2 with rfl | ⟨r,rfl,hr⟩
  .exact hz'
  .exact Zbx hz' hr
 | arr ty1 s1 els1 =>
  simp only[fzB]at h;split at h;rotate_left
  .cases h
  rename_i ty s els hb;cases h;obtain⟨β,h1,h2⟩:=I.blk b _ hb;exact⟨β,h1,RelB.arr_any (by rfl) h2 hi⟩
 | mp ks =>
  simp only[fzB]at h;split at h;rotate_left
  .cases h
  rename_i hb;cases h;obtain⟨β,h1,h2⟩:=I.blk b _ hb;exact⟨β,h1,h2⟩
theorem Zcy{m:Nat}:∀ {l:List Nat} {post rs:List Blk} {q:List Prop},fzBs f H m l post=Y (rs,q)->allP q->l.length=post.length/\rs.length=post.length /\
  ∀ (k:Nat) (E:Blk),post[k]? = Y E->∃ (b:Nat) (C:Blk) (p:List Prop),l[k]? = Y b/\rs[k]? = Y C/\fzB f H m b E=Y (C,p)/\allP p
 | [],[],rs,q,h,_=>by cases h;exact⟨rfl,rfl,λk E hE=>by simp at hE⟩
 | b::l,E::post,rs,q,h,hq=>by
  simp only[fzBs]at h;split at h;rotate_left
  .cases h
  rename_i B p rs' q' hB hrs;cases h;obtain⟨q1,q2⟩:=allP_append.1 hq;obtain⟨h1,h2,h3⟩:=Zcy hrs q2;refine⟨by simp[h1],by simp[h2],λk E' hE'=>?_⟩;cases k with
  | zero=>simp at hE';subst hE';exact⟨b,B,p,rfl,rfl,hB,q1⟩
  | succ k=>simpa using h3 k E' (by simpa using hE')
 | [],E::post,rs,q,h,_=>by cases h
 | b::l,[],rs,q,h,_=>by cases h
end
def bor_of{P:Program}{f:Nat}{fn:Func}{args:List AV}{pre:List Blk}{res:AV}{post:List Blk}(hints:List (Nat×List Hint))(cuts:List (Nat×Tg×Ex×Tg))(ids keep:List Nat)
  (hf:P.funcs[f]? = Y fn) (fl:List Bool) {φ:Prop} (hφ:φ) (h1:oblE fl (runB P hints cuts ids keep fn args pre res post)=φ) (h2:lefE fl (runB P hints cuts ids keep fn args pre res post)=rigE fl (runB P hints cuts ids keep fn args pre res post)):BorSpec P f args pre res post:=by
 rw[<- h1]at hφ;obtain⟨hφ,h2⟩:=Z4F hφ h2;clear h1;cases hr:runB P hints cuts ids keep fn args pre res post with
 | none=>rw[hr]at hφ;exact hφ.elim
 | some r =>
  rw[hr]at hφ h2;have heq:EqP r.eq:=Z8y h2;have hph:allP r.ph:=hφ;clear h2 hφ;unfold runB at hr;split at hr
  .cases hr
  rename_i c hb;split at hr
  .cases hr
  rename_i q hq;split at hr
  .cases hr
  rename_i hne;split at hr
  .cases hr
  rename_i l hl;generalize hfin:upto 0 pre.length++keep=fin at hr;split at hr;rotate_left
  .cases hr
  rename_i x bs qq hx hbs;split at hr;rotate_left
  .cases hr
  rename_i hok;simp only[Lg]at hok;have hnd:=Z30 hok.1.1;have h8:=Lk hok.1.2;have hidn:=Z30 hok.2.1.1;have hido:=λi b h=>Za3 (i:=i) (b:=b) hok.2.1.2 h;have hidl:=LX hok.2.2;cases hr;obtain⟨hph1,hph'⟩:=allP_append.1 hph;obtain⟨hph2,hph3⟩:=allP_append.1 hph';have heq1:=heq.left;have hxe:(coeT x res).1=res:=heq.right ((coeT x res).1,res) pq;obtain⟨b1,b2,b3⟩:=Zcy hbs hph3;have hbe:bs=post:=by
   apply LI;intro i;by_cases hi:i<bs.length
   .have hi':i<post.length:=by omega
    have:(encB bs[i],encB post[i])∈(bs.map encB).zip (post.map encB):=by
     refine List.mem_iff_getElem?.2 ⟨i, ?_⟩;simp[List.getElem?_zip_eq_some,hi,hi']
    have:=ZbP (heq.right (encB bs[i],encB post[i]) (List.mem_cons_of_mem _ this));rw[Lr hi,Lr hi',this]
   .rw[Lz oq,Lz oq]
  subst hbe;have hfl:∀ k,k<pre.length->fin[k]? = Y k:=by
   intro k hk;rw[<- hfin,LN,if_pos (by rw[Z7N];exact hk),Z7G _ _ _ hk,Nat.zero_add]
  have hfm:pre.length<=fin.length:=by rw[<- hfin,LQ,Z7N];omega
  intro w Im ρ vs hIm hsz hρ hinj hbnd hpre hargs;refine calls_of_wp hf hb ?_;let ρ0:Rho:=λb=>match idxN b ids 0 with | Y k=>ρ k | L=>L
  have hρ0:∀ b β,ρ0 b=Y β->∃ k:Nat,ids[k]? = Y b/\ρ k=Y β:=by
   intro b β h;simp only[ρ0]at h;split at h
   .rename_i k hk;obtain⟨_,q2⟩:=Z1K hk;exact⟨k,by simpa using q2,h⟩
   .cases h
  have hρi:∀ (k b:Nat),ids[k]? = Y b->ρ0 b=ρ k:=by
   intro k b hk;simp only[ρ0];cases hx:idxN b ids 0 with
   | none=>exact absurd (Lv hk) (Z41 hx)
   | some k2 =>
    obtain⟨_,q⟩:=Z1K hx;rw[Z4n hidn hk (by simpa using q)]
  have hren:∀ k β,ρ k=Y β->ρ0 (ids.getD k 0)=Y β:=by
   intro k β hk;have hkl:k<ids.length:=by have:=hρ k β hk;omega
   have e:=Lr hkl;rw[LM,e];show ρ0 ids[k]=Y β;rw[hρi k _ e];exact hk
  have hS:Sys (ownR ρ) Im w (args.map (mapA (renI ids))++Lh (fn.ntmps-args.length) .any) (hOf (ids.zip (pre.map (Z3F ids)))) 2 { tmps:=vs++Array.replicate (fn.ntmps-vs.size) undef,defers:=[] } w:=by
   refine⟨ρ0,Im,⟨Kept.refl _ _,(λb b' β β' g _ _ h1 h2 h3 h4=>?_),(λb β g _ h h'=>?_),(λb β g h h'=>?_),(λb β g h h'=>?_),hIm,(λg h=>.inl h),(λb B h=>?_),(λb hb h=>?_),by omega,λb β hb h=>?_⟩,⟨by simp[hsz],λi y v hy hv=>?_,rfl⟩⟩
   .obtain⟨k,k1,k2⟩:=hρ0 b β h1;obtain⟨k',k1',k2'⟩:=hρ0 b' β' h2;have:=hinj k k' β β' g k2 k2' h3 h4;subst this;rw[k1]at k1';cases k1';rfl
   .obtain⟨k,k1,k2⟩:=hρ0 b β h;exact(hbnd k β g k2 h').2
   .obtain⟨k,k1,k2⟩:=hρ0 b β h;exact(hbnd k β g k2 h').1
   .obtain⟨k,k1,k2⟩:=hρ0 b β h;exact .inr ⟨k,β,k2,h'⟩
   .obtain⟨i,h1,h2⟩:=Zj8 h;simp only[Li,Lo]at h2;obtain⟨C,h2,rfl⟩:=h2;obtain⟨β,m1,m2⟩:=hpre i C h2;exact⟨β,by rw[hρi i b h1];exact m1,Z8Z (λ_ h=>h) hren m2⟩
   .cases hc:ρ0 b with
    | none=>rfl
    | some β =>
     obtain⟨k,k1,k2⟩:=hρ0 b β hc;rcases hido k b k1 with q | q
     .have:=hρ k β k2;omega
     .omega
   .obtain⟨k,k1,k2⟩:=hρ0 b β h;rcases hido k b k1 with q | q
    .have:b=k:=by omega
     subst this;exact k2
    .omega
   .rw[LN]at hy;simp only[Array.getElem?_append]at hv;rw[hsz]at hv;simp only[LA]at hy;split at hy
    .rename_i hi;rw[if_pos hi]at hv;simp only[Li,Lo]at hy;obtain⟨z,hz,rfl⟩:=hy;obtain⟨q1,q2,q3⟩:=Z7E (w:=w) (Im:=Im) (Im':=Im) hren;exact Z6u (λ_ h=>h) q1 q2 q3 (hargs i z v hz hv)
    .have:=Lv hy;rw[(List.mem_replicate.1 this).2];exact .any _
  refine wp_mono (Z9s hq hph1 heq1 _ _ _ _ _ hS) ?_;rintro e a' w' ⟨rfl,hS'⟩;have post:a'.defers=[]/\∃ v,(results fn a'.tmps).run P w' = .ok v w'/\∃ u,Ending.returned v = .returned u/\Kept (OwA (ownR ρ)) w w'/\∃ (ρ':Rho) (Im':Nat->Prop),(∀ k β,ρ k=Y β->ρ' k=Y β)/\(∀ k β,ρ' k=Y β->k<bs.length) /\
   (∀ g,Im' g->Im g\/w.heap.size<=g\/OwA (ownR ρ) g)/\(∀ g,Im' g->g<w'.heap.size) /\
   (∀ k β g,ρ' k=Y β->β.g=Y g->g<w'.heap.size/\(w.heap.size<=g\/OwA (ownR ρ) g)) /\
   (∀ k β g,live (hL bs) k->ρ' k=Y β->β.g=Y g->¬ Im' g) /\
   (∀ k k' β β' g,live (hL bs) k->live (hL bs) k'->ρ' k=Y β->ρ' k'=Y β'->β.g=Y g->β'.g=Y g->k=k') /\
   (∀ (k:Nat) (B:Blk),bs[k]? = Y B->∃ β,ρ' k=Y β/\RelB ρ' w' Im' β B)/\Rel ρ' w' Im' res u:=by
   obtain⟨ρf,Imf,I,T⟩:=hS';obtain⟨v,h1,h2⟩:=Z78 I T hl;let ρ':Rho:=λk=>if k<pre.length then ρ k else match fin[k]? with | Y b=>ρf b | L=>L
   have hlow:∀ k,k<pre.length->ρ' k=ρ k:=λk hk=>by simp only[ρ',if_pos hk]
   have hhigh:∀ (k b:Nat),¬ k<pre.length->fin[k]? = Y b->ρ' k=ρf b:=λk b hk hb=>by simp only[ρ',if_neg hk,hb]
   have hname:∀ (k b:Nat) (β:Bi),fin[k]? = Y b->ρf b=Y β->ρ' k=Y β:=by
    intro k b β hb hβ;by_cases hk:k<pre.length
    .rw[hfl k hk]at hb;cases hb;rw[hlow k hk];exact I.one.2 k β oq hβ
    .rw[hhigh k b hk hb];exact hβ
   have hnm:∀ b k β,idxN b fin 0=Y k->ρf b=Y β->ρ' k=Y β:=by
    intro b k β hk hβ;obtain⟨_,q2⟩:=Z1K hk;exact hname k b β (by simpa using q2) hβ
   let Im':Nat->Prop:=λg=>Imf g\/∃ b β,8000<=b/\idxN b fin 0=L/\live q.s.H b/\ρf b=Y β/\β.g=Y g;have hi:∀ g,Imf g->Im' g:=λg h=>.inl h;have hz:∀ b β g,8000<=b->idxN b fin 0=L->live q.s.H b->ρf b=Y β->β.g=Y g->Im' g:=λb β g k1 k2 k3 k4 k5=>.inr ⟨b,β,k1,k2,k3,k4,k5⟩;have hlv:∀ k,live (hL bs) k->∃ b β,fin[k]? = Y b/\live q.s.H b/\ρf b=Y β/\ρ' k=Y β:=by
    rintro k ⟨E,hE,hd⟩;obtain⟨b,C,p,k1,k2,k3,k4⟩:=b3 k E hE;have hlb:=Zkd k3 hd;obtain⟨B,hB,_⟩:=id hlb;obtain⟨β,m1,_⟩:=I.blk b B hB;exact⟨b,β,k1,hlb,m1,hname k b β k1 m1⟩
   refine⟨T.defers,v,h1,v,rfl,I.kept,ρ',Im', ?_, ?_, ?_, ?_, ?_, ?_, ?_, ?_, ?_⟩
   .intro k β hk;rw[hlow k (hρ k β hk)];exact hk
   .intro k β hk;by_cases hkp:k<pre.length
    .omega
    .simp only[ρ',if_neg hkp]at hk;split at hk
     .rename_i b hb;have:=(LO.1 hb).1;omega
     .cases hk
   .rintro g (hg | ⟨b,β,_,_,_,hb,hg⟩)
    .exact I.im0 g hg
    .exact(I.own b β g hb hg).elim (λh=>.inr (.inl h.1)) (λh=>.inr (.inr h))
   .rintro g (hg | ⟨b,β,_,_,_,hb,hg⟩)
    .exact I.imb g hg
    .exact I.bnd b β g hb hg
   .intro k β g hk hg;by_cases hkp:k<pre.length
    .rw[hlow k hkp]at hk;exact⟨LC (hbnd k β g hk hg).1 I.kept.size,.inr ⟨k,β,hk,hg⟩⟩
    .simp only[ρ',if_neg hkp]at hk;split at hk
     .rename_i b hb;exact⟨I.bnd b β g hk hg,(I.own b β g hk hg).imp (·.1) (λh=>h)⟩
     .cases hk
   .intro k β g hlk hk hg;obtain⟨b,β2,k1,k2,k3,k4⟩:=hlv k hlk;rw[hk]at k4;cases k4;rintro(h | ⟨b2,β3,_,m2,m3,m4,m5⟩)
    .exact I.notIm b β g k2 k3 hg h
    .have:=I.inj b b2 β β3 g k2 m3 k3 m4 hg m5;subst this;exact absurd (Lv k1) (Z41 m2)
   .intro k k' β β' g l1 l2 q1 q2 q3 q4;obtain⟨b,β2,k1,k2,k3,k4⟩:=hlv k l1;obtain⟨b',β2',k1',k2',k3',k4'⟩:=hlv k' l2;rw[q1]at k4;cases k4;rw[q2]at k4';cases k4';have:=I.inj b b' β β' g k2 k2' k3 k3' q3 q4;subst this;exact Z4n hnd k1 k1'
   .intro k B hB;by_cases hd:B = .dead
    .subst hd;obtain⟨b,C,p,k1,k2,k3,k4⟩:=b3 k .dead hB;simp only[fzB]at k3;split at k3;rotate_left
     .cases k3
     rename_i hbm;have hbm:=Lk hbm;have e:=Z4n hnd k1 (hfl b oq);subst e;obtain⟨β,m1,_⟩:=hpre k _ (Lr oq);exact⟨β,by rw[hlow k oq];exact m1,trivial⟩
    .obtain⟨b,C,p,k1,k2,k3,k4⟩:=b3 k B hB;rw[hB]at k2;cases k2;obtain⟨β,m1,m2⟩:=Zo8 I hnm hi hz k3 k4 hd;exact⟨β,hname k b β k1 m1,m2⟩
   .have:=Zg9 (r:=res) (ZmV I hnm hi hz h2 hx) hph2;rwa [hxe]at this
  cases hqe:q.e with
  | nrm=>exact post
  | ret=>exact post
  | ext n=>exact absurd hqe (hne n)
section
variable {hs:List (Nat×List Hint)} {cs:List (Nat×Tg×Ex×Tg)} {φ0:Prop}
theorem borF{P:Program}{f:Nat}{fn:Func}{args:List AV}{pre:List Blk}{res:AV}{post:List Blk}(ids keep:List Nat)(hf:P.funcs[f]? = Y fn)(fl:List Bool)(h:Fq hs cs φ0)
  (h1:oblF fl (runB P hs cs ids keep fn args pre res post)=φ0:=by kernel_rfl) (h2:lefE fl (runB P hs cs ids keep fn args pre res post)=rigE fl (runB P hs cs ids keep fn args pre res post):=by kernel_rfl):BorSpec P f args pre res post :=
 bor_of hs cs ids keep hf fl (oblF_E (Eq.mpr h1 h.p)) rfl h2
theorem lF{P:Program}{f:Nat}{fn:Func}{args:List AV}{pre:List Blk}{res:AV}{post:List Blk}(hf:P.funcs[f]? = Y fn)(fl:List Bool)(h:Fq hs cs φ0)
  (h1:oblF fl (runB P hs cs [0] [] fn args pre res post)=φ0:=by kernel_rfl) (h2:lefE fl (runB P hs cs [0] [] fn args pre res post)=rigE fl (runB P hs cs [0] [] fn args pre res post):=by kernel_rfl):BorSpec P f args pre res post :=
 bor_of hs cs [0] [] hf fl (oblF_E (Eq.mpr h1 h.p)) rfl h2
end
end Go.Sx
namespace Go.Proofs.YtgedmeaemofdkaaGreat
open Go.Sx
structure Tape where
 l:List Int
 at':Int
 deriving Inhabited
def Tape.b(t:Tape):Blk:=.box 48 [.d (.sl 1 (t.l.map idv)),int t.at']
def TOk(t:Tape):Prop:=t.l.length<=140737488355328/\0<=t.at'/\t.at'<=1048576
def Tape.next(t:Tape)(n:Int):Int:=if n<1 then 0 else(if t.at'<t.l.length then t.l.getD t.at'.toNat X else t.at'*7+3)%n
def Tape.step(t:Tape)(n:Int):Tape:=if n<1 then t else⟨t.l,t.at'+1⟩
def ZaJ(v:Int){n:Int}(h:1<=n):-n<v.tmod n/\v.tmod n<n:=by
 by_cases hv:0<=v
 .rw[Lf hv];have:=Lq v (b:=n) oq;have:=Lp v (b:=n) oq;omega
 .have e:v.tmod n=-((-v).tmod n):=by rw[Int.neg_tmod];omega
  rw[e,Lf oq];have:=Lq (-v) (b:=n) oq;have:=Lp (-v) (b:=n) oq;omega
def ZhF(v:Int){n:Int}(h:1<=n):(v.tmod n+n).tmod n=v%n:=by
 have hr:=ZaJ v h;rw[Lf oq,LF];by_cases hv:0<=v
 .rw[Lf hv,LG]
 .have e:v=n*v.tdiv n+v.tmod n:=(Int.mul_tdiv_add_tmod v n).symm;conv=>rhs;rw[e]
  rw[Int.mul_add_emod_self_left]
def Z0g(t:Tape)(n:Int)(ht:TOk t)(hn:n<=1099511627776)(hn0:-1099511627776<=n):LP 22 [.pt 0 0 0,int n] [t.b] (int (t.next n)) [(t.step n).b]:=by
 unfold TOk at ht;have h1:=λh=>ZaJ (t.l.getD t.at'.toNat X) (n:=n) h;have h2:=λh=>ZhF (t.l.getD t.at'.toNat X) (n:=n) h;have h3:1<=n->0<=(t.at'*7+3)%n/\(t.at'*7+3)%n<n:=λh=>⟨Lq _ oq,Lp _ oq⟩
 have h4:((t.at'*7+3)%n+n)%n=(t.at'*7+3)%n:=by rw[LF,LG]
 rcases bb (O (n<1))with hc0 | hc0<;>have hc0p:=hc0<;>simp only[bs]at hc0p
 .rw[show t.step n=t from by simp[Tape.next,Tape.step, *]];exact lF func22 [Z] (Ft 7 hc0 (Fa (by simp[Tape.next,Tape.step, *]:0=t.next n) Fz))
 .have Q0 {h_ c_ p_} (r_:Fq h_ c_ p_):=Ff 7 hc0 (Fi 12 (t.at'*7) (Fi 13 (t.at'*(7:Int)+3) (Fl 22 idv t.l r_)));rcases bb (O (t.at'<(t.l.length:Int)))with hc1 | hc1<;>have hc1p:=hc1<;>simp only[bs]at hc1p
  .rw[show t.step n=Tape.mk t.l (t.at'+(1:Int))from by simp[Tape.next,Tape.step, *]];exact lF func22 [Z] (Q0 (Ft 23 hc1 (Fe 32 idv t.l t.at' (Fi 38 (t.at'+1) (Fo (n≠0) (Fi 45 ((t.l.getD t.at'.toNat X).tmod n+n) (Fg 47 (by exact Lf oq:((t.l.getD t.at'.toNat X).tmod n+n).tmod n=((t.l.getD t.at'.toNat X).tmod n+n)%n) (Fo (n≠0) (Fa (by grind[Tape.next,Tape.step]:((t.l.getD t.at'.toNat X).tmod n+n)%n=t.next n) Fz)))))))))
  .rw[show t.step n=Tape.mk t.l (t.at'+(1:Int))from by simp[Tape.next,Tape.step, *]];exact lF func22 [Z] (Q0 (Ff 23 hc1 (Fi 38 (t.at'+1) (Fg 43 (by exact Lf oq:(t.at'*(7:Int)+3).tmod n=(t.at'*(7:Int)+3)%n) (Fo (n≠0) (Fi 45 ((t.at'*(7:Int)+3)%n+n) (Fg 47 (by exact Lf oq:((t.at'*(7:Int)+3)%n+n).tmod n=((t.at'*(7:Int)+3)%n+n)%n) (Fo (n≠0) (Fa (by simp[Tape.next,Tape.step, *]:((t.at'*(7:Int)+3)%n+n)%n=t.next n) Fz)))))))))
def Z80(t:Tape)(ht:TOk t):LP 53 [.pt 0 0 0] [t.b] (bool (O ((t.l.length:Int)<=t.at'))) [t.b]:=by
 exact lF func53 [] (Fl 11 idv t.l Fz)
def Tape.C(t:Tape):Conf:=⟨[16,16,20,32].getD (t.next 4).toNat X,[8,12,16,20,24].getD ((t.step 4).next 5).toNat X⟩
def Z11(t:Tape){n:Int}(h:1<=n):0<=t.next n/\t.next n<n:=by
 unfold Tape.next
 rw[if_neg oq];exact⟨Lq _ oq,Lp _ oq⟩
def step_ok{t:Tape}(ht:TOk t)(n:Int)(h:t.at'<1048576):TOk (t.step n):=by
 unfold TOk at ht ⊢;unfold Tape.step;split
 .exact ht
 .simp only;omega
def Zkk(t:Tape)(ht:TOk t)(ha:t.at'<=1000000):LP 101 [.pt 0 0 0] [t.b] (t.C.av) [((t.step 4).step 5).b]:=by
 have h1:=Z11 t (n:=4) dd;have h2:=Z11 (t.step 4) (n:=5) dd;have h3:=step_ok ht 4 oq;exact lF func101 [] (Fh 7 [.el (idv ([16,16,20,32].getD (t.next 4).toNat X))] (Fh 12 [.el (idv ([8,12,16,20,24].getD ((t.step 4).next 5).toNat X))] (Fs 3 (M idv [16,16,20,32]) (Fp 5 (@Z0g t (4) aa oq oq) (Fa (by simp[Tape.C, *]:0<=t.next 4/\(t.next 4).toNat<(M idv [16,16,20,32]).length) (Fa (by grind[Tape.C]:(M idv [16,16,20,32])[(t.next 4).toNat]? = Y (idv ([16,16,20,32].getD (t.next 4).toNat X))) (Fs 8 (M idv [8,12,16,20,24]) (Fp 10 (@Z0g (t.step 4) (5) aa oq oq) (Fa (by simp[Tape.C, *]:0<=(t.step 4).next 5/\((t.step 4).next 5).toNat<(M idv [8,12,16,20,24]).length) (Fa (by grind[Tape.C]:(M idv [8,12,16,20,24])[((t.step 4).next 5).toNat]? = Y (idv ([8,12,16,20,24].getD ((t.step 4).next 5).toNat X))) Fz))))))))))
structure WorldM where
 heap:Heap
 G:List Int
 E:List Int
 deriving Inhabited
def WorldM.cells(w:WorldM):List AV:=w.heap.cells++[Z01 w.G,Z01 w.E]
def WorldM.av(w:WorldM):AV:=.ag w.cells
def Z57(t:Tape):Z06 t.C=Z:=by
 have h1:=Z11 t (n:=4) dd;have h2:=Z11 (t.step 4) (n:=5) dd;unfold Tape.C;generalize t.next 4=a at h1
 generalize (t.step 4).next 5=b at h2
 have ha:a=0\/a=1\/a=2\/a=3:=by omega
 have hb:b=0\/b=1\/b=2\/b=3\/b=4:=by omega
 rcases ha with rfl | rfl | rfl | rfl<;>rcases hb with rfl | rfl | rfl | rfl | rfl<;>decide
def Z2V{t:Tape}(n:Int):t.at'<=(t.step n).at'/\(t.step n).at'<=t.at'+1/\(t.step n).l=t.l:=by
 unfold Tape.step;split
 .exact⟨by omega,by omega,rfl⟩
 .exact⟨by simp only;omega,by simp only;omega,rfl⟩
def Z3O{t u:Tape}(ht:TOk t)(hl:u.l=t.l)(h1:t.at'<=u.at')(h2:u.at'<=1048576):TOk u:=by
 unfold TOk at ht ⊢;rw[hl];omega
def Tape.empty(t:Tape):WorldM:=⟨Z4m t.C,[],[]⟩
def ZcO(t:Tape)(ht:TOk t)(ha:t.at'<=1000000):LP 52 [.pt 0 0 0] [t.b] (t.empty.av) [((t.step 4).step 5).b]:=by
 have hv:=Z57 t;exact lF func52 [] (Fp 7 (@Zkk t aa aa) (Fc 8 (@ZhZ t.C aa) (Fnl (Fnl Fz))))
def hdr1(t:Tape)(c:Conf):Int:=if(t.step (Z00 c)).next 12=0 then Z00 c+((t.step (Z00 c)).step 12).next c.pw else t.next (Z00 c)
def Z3g(t:Tape)(c:Conf):Tape:=if(t.step (Z00 c)).next 12=0 then((t.step (Z00 c)).step 12).step c.pw else(t.step (Z00 c)).step 12
def Tape.header(t:Tape)(c:Conf):Header:=if(Z3g t c).next 4=0 then⟨2,hdr1 t c,0⟩else if(Z3g t c).next 4=1 then⟨3,hdr1 t c,0⟩else⟨1,min (hdr1 t c) 32,((Z3g t c).step 4).next (2^(min (min (hdr1 t c) 32) 12).toNat)⟩
def Tape.headerT(t:Tape)(c:Conf):Tape:=if(Z3g t c).next 4=0 then(Z3g t c).step 4 else if(Z3g t c).next 4=1 then(Z3g t c).step 4 else((Z3g t c).step 4).step (2^(min (min (hdr1 t c) 32) 12).toNat)
def ZnG{n:Int}(h:n<=12):(1:Int)<=2^n.toNat/\(2:Int)^n.toNat<=4096:=by
 have:n.toNat<=12:=by omega
 generalize n.toNat=k at this;have hk:k∈Lb 13:=Ld.2 oq;revert k;decide+kernel
def Zmt{n:Int}(h:0<=n):1*2^min (min (min n 32) 12).toNat 64=(2:Int)^(min (min n 32) 12).toNat:=by
 rw[Nat.min_eq_left oq,Int.one_mul]
def Z5n(t:Tape)(c:Conf)(ht:TOk t)(ha:t.at'<=1000000)(hv:Z06 c=Z):LP 102 [.pt 0 0 0,c.av] [t.b] ((t.header c).av) [(t.headerT c).b]:=by
 have hb:=validB_iff.1 hv;have hs:=Z2e hv;have s1:=Z2V (t:=t) (Z00 c);have s2:=Z2V (t:=t.step (Z00 c)) 12;have s3:=Z2V (t:=(t.step (Z00 c)).step 12) c.pw;have k1:=Z3O ht s1.2.2 oq oq;have k2:=Z3O k1 s2.2.2 oq oq;have k3:=Z3O k2 s3.2.2 oq oq;have n1:=Z11 t (n:=Z00 c) oq;have n2:=Z11 ((t.step (Z00 c)).step 12) (n:=c.pw) oq;have h1:0<=hdr1 t c/\hdr1 t c<=80:=by unfold hdr1;split<;>omega
 have s4:=Z2V (t:=((t.step (Z00 c)).step 12).step c.pw) 4;have s5:=Z2V (t:=(t.step (Z00 c)).step 12) 4;have k4:=Z3O k3 s4.2.2 oq oq;have k5:=Z3O k2 s5.2.2 oq oq;have ei1:=Zmt (n:=Z00 c+((t.step (Z00 c)).step 12).next c.pw) oq;have ei2:=Zmt (n:=t.next (Z00 c)) oq;have p1:=ZnG (n:=min (min (Z00 c+((t.step (Z00 c)).step 12).next c.pw) 32) 12) oq;have p2:=ZnG (n:=min (min (t.next (Z00 c)) 32) 12) oq;have r1:=Z11 ((((t.step (Z00 c)).step 12).step c.pw).step 4) (n:=2^(min (min (Z00 c+((t.step (Z00 c)).step 12).next c.pw) 32) 12).toNat) oq;have r2:=Z11 (((t.step (Z00 c)).step 12).step 4) (n:=2^(min (min (t.next (Z00 c)) 32) 12).toNat) oq;have Q0 {h_ c_ p_} (r_:Fq h_ c_ p_):=Fc 8 (@Z19 c) (Fp 11 (@Z0g t (Z00 c) aa oq oq) (Fp 13 (@Z0g (t.step (Z00 c)) (12) aa oq oq) r_));rcases bb ((t.step (Z00 c)).next (12:Int)==0)with hc0 | hc0<;>have hc0p:=hc0<;>simp only[bs]at hc0p
 .let y0:=(t.step (Z00 c)).step 12;have Q1 {h_ c_ p_} (r_:Fq h_ c_ p_):=Q0 (Ft 14 hc0 (Fp 19 (@Z0g y0 c.pw aa oq oq) (Fi 20 (Z00 c+y0.next c.pw) (Fp 22 (@Z0g (y0.step c.pw) (4) aa oq oq) r_))));rcases bb ((((t.step (Z00 c)).step 12).step c.pw).next (4:Int)==0)with hc1 | hc1<;>have hc1p:=hc1<;>simp only[bs]at hc1p
  .rw[show t.header c=Header.mk (2:Int) (Z00 c+((t.step (Z00 c)).step (12:Int)).next c.pw) (0:Int)from by(simp only[Tape.header,Tape.headerT,hdr1,Z3g] ;exact sj)];rw[show t.headerT c=(((t.step (Z00 c)).step (12:Int)).step c.pw).step (4:Int)from by(simp only[Tape.header,Tape.headerT,hdr1,Z3g] ;exact sj)];exact lF func102 [] (Fh 23 [.br Z] (Q1 (Fa hc1 Fz)))
  .rcases bb ((((t.step (Z00 c)).step 12).step c.pw).next (4:Int)==1)with hc2 | hc2<;>have hc2p:=hc2<;>simp only[bs]at hc2p
   .rw[show t.header c=Header.mk (3:Int) (Z00 c+((t.step (Z00 c)).step (12:Int)).next c.pw) (0:Int)from by(simp only[Tape.header,Tape.headerT,hdr1,Z3g] ;exact sj)];rw[show t.headerT c=(((t.step (Z00 c)).step (12:Int)).step c.pw).step (4:Int)from by(simp only[Tape.header,Tape.headerT,hdr1,Z3g] ;exact sj)];exact lF func102 [] (Fh 23 [.br La] (Fh 27 [.br Z] (Q1 (Fa hc1 (Fa hc2 Fz)))))
   .rw[show t.header c=Header.mk (1:Int) (min (Z00 c+((t.step (Z00 c)).step (12:Int)).next c.pw) (32:Int)) (((((t.step (Z00 c)).step (12:Int)).step c.pw).step (4:Int)).next ((2:Int)^(min (min (Z00 c+((t.step (Z00 c)).step (12:Int)).next c.pw) (32:Int)) (12:Int)).toNat))from by(simp only[Tape.header,Tape.headerT,hdr1,Z3g] ;exact sj)];rw[show t.headerT c=((((t.step (Z00 c)).step (12:Int)).step c.pw).step (4:Int)).step ((2:Int)^(min (min (Z00 c+((t.step (Z00 c)).step (12:Int)).next c.pw) (32:Int)) (12:Int)).toNat)from by(simp only[Tape.header,Tape.headerT,hdr1,Z3g] ;exact sj)];let y3:=(t.step (Z00 c)).step 12;let y1:=Z00 c+y3.next c.pw
    let y2:=min (min y1 32) 12;let y4:=(y3.step c.pw).step 4;exact lF func102 [] (Fh 23 [.br La] (Fh 27 [.br La] (Q1 (Fa hc1 (Fa hc2 (Fgo 32 (if 32<Z00 c+y3.next c.pw then 32 else Z00 c+y3.next c.pw) (min y1 32) (Fgo 36 (if 12<min y1 32 then 12 else min y1 32) y2 (Fv 37 y2 (Fg 38 (by rw[wrapI' oq oq];omega:IntKind.i64.wrap ((1:Int)*2^min y2.toNat 64)=2^y2.toNat) (Fo (0<=min (min y1 32) 12) (Fp 39 (@Z0g y4 (2^y2.toNat) aa oq oq) (Fg 40 (by exact ZbU oq oq:IntKind.u32.wrap (y4.next (2^y2.toNat))=y4.next (2^y2.toNat)) Fz))))))))))))
 .have Q2 {h_ c_ p_} (r_:Fq h_ c_ p_):=Q0 (Ff 14 hc0 (Fp 22 (@Z0g ((t.step (Z00 c)).step 12) (4) aa oq oq) r_));rcases bb (((t.step (Z00 c)).step 12).next (4:Int)==0)with hc3 | hc3<;>have hc3p:=hc3<;>simp only[bs]at hc3p
  .rw[show t.header c=Header.mk (2:Int) (t.next (Z00 c)) (0:Int)from by(simp only[Tape.header,Tape.headerT,hdr1,Z3g] ;exact sj)];rw[show t.headerT c=((t.step (Z00 c)).step (12:Int)).step (4:Int)from by(simp only[Tape.header,Tape.headerT,hdr1,Z3g] ;exact sj)];exact lF func102 [] (Fh 23 [.br Z] (Q2 (Fa hc3 Fz)))
  .rcases bb (((t.step (Z00 c)).step 12).next (4:Int)==1)with hc4 | hc4<;>have hc4p:=hc4<;>simp only[bs]at hc4p
   .rw[show t.header c=Header.mk (3:Int) (t.next (Z00 c)) (0:Int)from by(simp only[Tape.header,Tape.headerT,hdr1,Z3g] ;exact sj)];rw[show t.headerT c=((t.step (Z00 c)).step (12:Int)).step (4:Int)from by(simp only[Tape.header,Tape.headerT,hdr1,Z3g] ;exact sj)];exact lF func102 [] (Fh 23 [.br La] (Fh 27 [.br Z] (Q2 (Fa hc3 (Fa hc4 Fz)))))
   .rw[show t.header c=Header.mk (1:Int) (min (t.next (Z00 c)) (32:Int)) ((((t.step (Z00 c)).step (12:Int)).step (4:Int)).next ((2:Int)^(min (min (t.next (Z00 c)) (32:Int)) (12:Int)).toNat))from by(simp only[Tape.header,Tape.headerT,hdr1,Z3g] ;exact sj)];rw[show t.headerT c=(((t.step (Z00 c)).step (12:Int)).step (4:Int)).step ((2:Int)^(min (min (t.next (Z00 c)) (32:Int)) (12:Int)).toNat)from by(simp only[Tape.header,Tape.headerT,hdr1,Z3g] ;exact sj)];let y6:=((t.step (Z00 c)).step 12).step 4;let y7:=t.next (Z00 c)
    let y5:=min (min y7 32) 12;exact lF func102 [] (Fh 23 [.br La] (Fh 27 [.br La] (Q2 (Fa hc3 (Fa hc4 (Fgo 32 (if 32<t.next (Z00 c)then 32 else t.next (Z00 c)) (min y7 32) (Fgo 36 (if 12<min y7 32 then 12 else min y7 32) y5 (Fv 37 y5 (Fg 38 (by rw[wrapI' oq oq];omega:IntKind.i64.wrap ((1:Int)*2^min y5.toNat 64)=2^y5.toNat) (Fo (0<=min (min y7 32) 12) (Fp 39 (@Z0g y6 (2^y5.toNat) aa oq oq) (Fg 40 (by exact ZbU oq oq:IntKind.u32.wrap (y6.next (2^y5.toNat))=y6.next (2^y5.toNat)) Fz))))))))))))
abbrev sA(w:WorldM)(t:Tape):Tape:=(t.step (w.heap.W.length:Int)).step (w.heap.P.length:Int)
abbrev sB(w:WorldM)(t:Tape):Tape:=(sA w t).step 12
abbrev sC(w:WorldM)(t:Tape):Int:=(t.step (w.heap.W.length:Int)).next (w.heap.P.length:Int)
def ULe(l:List Int):Prop:=∀ x∈l,0<=x/\x<=18446744073709551615
structure WMok (w:WorldM):Prop where
 W:WOk w.heap.W
 G:ULe w.G
 E:ULe w.E
 sl:w.G.length<=1048576
 wl:w.E.length<=1048576
def WorldM.refs(w:WorldM):List Int:=0::(w.G++w.E)
def WorldM.pick(w:WorldM)(t:Tape):Int:=w.refs.getD (t.next (w.refs.length:Int)).toNat X
def WorldM.pickT(w:WorldM)(t:Tape):Tape:=t.step (w.refs.length:Int)
def Z1Z(w:WorldM)(t:Tape)(hw:WMok w)(ht:TOk t)(ha:t.at'<=1040000):LP 106 [w.av,.pt 0 0 0] [t.b] (u64 (w.pick t)) [(w.pickT t).b]:=by
 have h1:=hw.sl;have h2:=hw.wl;have hl:w.refs.length=w.G.length+w.E.length+1:=by simp[WorldM.refs]
 have hn:=Z11 t (n:=(w.refs.length:Int)) oq;rw[show w.pickT t=t.step (↑((0:Nat)+(1:Nat)+w.G.length+w.E.length):Int)from by grind[WorldM.pick,WorldM.refs,WorldM.pickT]];exact lF func106 [Z] (Fh 12 [.els (M wdv ([0]++w.G++w.E))] (Fh 19 [.el (wdv (([0]++w.G++w.E).getD (t.next (↑(0+1+w.G.length+w.E.length):Int)).toNat X))] (Fs 6 (M wdv [0]) (Fa (by(simp[WorldM.pick,WorldM.refs,WorldM.pickT, *];omega):(M wdv [0]).length+(M wdv w.G).length<=2^30) (Fs 9 (M wdv ([0]++w.G)) (Fa (by(simp[WorldM.pick,WorldM.refs,WorldM.pickT, *];omega):(M wdv ([0]++w.G)).length+(M wdv w.E).length<=2^30) (Fa (by simp[WorldM.pick,WorldM.refs,WorldM.pickT,Lu,Lt,Ln,Ls,wdv,idv]:M wdv ([0]++w.G)++M wdv w.E=M wdv ([0]++w.G++w.E)) (Fg 16 (by simp only[LA,LQ,List.length_take,List.length_drop,List.length_set,List.length_replicate,List.length_nil,List.length_cons]:(↑(M wdv ([0]++w.G++w.E)).length:Int)=(↑(0+1+w.G.length+w.E.length):Int)) (Fp 17 (@Z0g t ((↑(0+1+w.G.length+w.E.length):Int)) aa oq oq) (Fa (by grind[WorldM.pick,WorldM.refs,WorldM.pickT]:0<=t.next (↑(0+1+w.G.length+w.E.length):Int)/\(t.next (↑(0+1+w.G.length+w.E.length):Int)).toNat<(M wdv ([0]++w.G++w.E)).length) (Fa (by grind[WorldM.pick,WorldM.refs,WorldM.pickT]:(M wdv ([0]++w.G++w.E))[(t.next (↑(0+1+w.G.length+w.E.length):Int)).toNat]? = Y (wdv (([0]++w.G++w.E).getD (t.next (↑(0+1+w.G.length+w.E.length):Int)).toNat X))) (Fa (by grind[WorldM.pick,WorldM.refs,WorldM.pickT]:([0]++w.G++w.E).getD (t.next (↑(0+1+w.G.length+w.E.length):Int)).toNat X=w.pick t) Fz))))))))))))
def WorldM.put(w:WorldM)(hd:Header):WorldM:=if(new7 w.heap hd).2.2=0 then⟨(new7 w.heap hd).1,w.G++[(new7 w.heap hd).2.1],w.E⟩else w
def Z7B(w:WorldM)(hd:Header)(hw:WMok w)(hm:0<=hd.map/\hd.map<=4294967295):GP 58 [w.av,hd.av] La (w.put hd).av []:=by
 have h0:=hw.W;have h1:=hw.sl;have Q0 {h_ c_ p_} (r_:Fq h_ c_ p_):=Fc 12 (@Zju w.heap hd aa aa) r_;rcases bb ((new7 w.heap hd).2.2==0)with hc0 | hc0<;>have hc0p:=hc0<;>simp only[bs]at hc0p
 .rw[show w.put hd=WorldM.mk (new7 w.heap hd).1 (w.G++[(new7 w.heap hd).2.1]) w.E from by simp[WorldM.put, *]];exact gF [] func58 [] (Fh 25 [.els (M wdv (w.G++[(new7 w.heap hd).2.1]))] (Q0 (Ft 17 hc0 (FAx 19 22 wdv w.G (by(simp[WorldM.put, *];omega)) (Fs 24 (M wdv [(new7 w.heap hd).2.1]) (Fa (by(simp[WorldM.put, *];omega):(M wdv w.G).length+(M wdv [(new7 w.heap hd).2.1]).length<=2^30) (Fa (by simp[WorldM.put,Lu,Lt,Ln,Ls,wdv,idv]:M wdv w.G++M wdv [(new7 w.heap hd).2.1]=M wdv (w.G++[(new7 w.heap hd).2.1])) Fz)))))))
 .rw[show w.put hd=w from by simp[WorldM.put, *]];exact gF [] func58 [] (Q0 (Ff 17 hc0 Fz))
abbrev pA(w:WorldM)(t:Tape):Page:=w.heap.P.getD (ofA w.heap.C (w.pick t)).1.toNat X
def Z4f{l:List Int}(h:ULe l)(i:Nat):0<=l.getD i X/\l.getD i X<=18446744073709551615:=by
 rw[LM];cases e:l[i]? with
 | none=>simp
 | some x=>exact h x (Lv e)
def ZnA{w:WorldM}(hw:WMok w):ULe w.refs:=by
 intro x hx;simp only[WorldM.refs,LU,LS]at hx;rcases hx with rfl | hx | hx
 .omega
 .exact hw.G x hx
 .exact hw.E x hx
def Z4c{w:WorldM}(hw:WMok w)(t:Tape):0<=w.pick t/\w.pick t<=18446744073709551615:=Z4f (ZnA hw) _
def Zbf(w:WorldM)(t:Tape):t.at'<=(w.pickT t).at'/\(w.pickT t).at'<=t.at'+1/\(w.pickT t).l=t.l:=Z2V _
def Z7z(w:WorldM)(t:Tape):Int:=((w.pickT (w.pickT t)).next 8).tmod (getH w.heap (w.pick t)).1.length
def Z9M(w:WorldM)(t:Tape):Int:=if Z0e (getH w.heap (w.pick t)).1 (Z7z w t)=Z then w.pick (w.pickT t)else((w.pickT (w.pickT t)).step 8).next 1048576
def WorldM.link(w:WorldM)(t:Tape):WorldM:=if(getH w.heap (w.pick t)).2=0/\(getH w.heap (w.pick t)).1.length≠0 then⟨(Z0w w.heap (w.pick t) (Z7z w t) (Z9M w t)).1,w.G,w.E⟩else w
def WorldM.linkT(w:WorldM)(t:Tape):Tape:=if(getH w.heap (w.pick t)).2=0/\(getH w.heap (w.pick t)).1.length≠0/\Z0e (getH w.heap (w.pick t)).1 (Z7z w t)=La then((w.pickT (w.pickT t)).step 8).step 1048576 else(w.pickT (w.pickT t)).step 8
def Z8k(w:WorldM)(t:Tape)(hw:WMok w)(ht:TOk t)(ha:t.at'<=1000000):LP 103 [w.av,.pt 0 0 0] [t.b] (w.link t).av [(w.linkT t).b]:=by
 have h0:=hw.W;have s1:=Zbf w t;have s2:=Zbf w (w.pickT t);have s3:=Z2V (t:=w.pickT (w.pickT t)) 8;have k1:=Z3O ht s1.2.2 oq oq;have k2:=Z3O k1 s2.2.2 oq oq;have k3:=Z3O k2 s3.2.2 oq oq;have p1:=Z4c hw t;have p2:=Z4c hw (w.pickT t);have n1:=Z11 (w.pickT (w.pickT t)) (n:=8) dd;have n2:=Z11 ((w.pickT (w.pickT t)).step 8) (n:=1048576) dd;have m1:=Z7M hw.W (w.pick t);have Q0 {h_ c_ p_} (r_:Fq h_ c_ p_):=Fp 12 (@Z1Z w t aa aa oq) (Fp 15 (@Z1Z w (w.pickT t) aa aa oq) (Fp 17 (@Z0g (w.pickT (w.pickT t)) (8) aa oq oq) (Fc 22 (@Z3e w.heap (w.pick t) aa aa) r_)));rcases bb ((getH w.heap (w.pick t)).2 != 0||(getH w.heap (w.pick t)).1.length==0)with hc0 | hc0<;>have hc0p:=hc0<;>simp only[bs]at hc0p
 .rw[show w.link t=w from by(simp[WorldM.link,WorldM.linkT,Z7z,Z9M, *];omega)];rw[show w.linkT t=(w.pickT (w.pickT t)).step (8:Int)from by grind[WorldM.link,WorldM.linkT,Z7z,Z9M]];exact lF func103 [] (Q0 (Ft 31 hc0 Fz))
 .obtain⟨hc0pa,hc0pb⟩:=hc0p;have hf3:=Z3A hc0pa;obtain⟨hf3a,⟨hf3ba,⟨hf3bba,⟨hf3bbba,⟨hf3bbbba,⟨hf3bbbbba,⟨hf3bbbbbba,⟨hf3bbbbbbba,⟨hf3bbbbbbbba,⟨hf3bbbbbbbbba,hf3bbbbbbbbbb⟩⟩⟩⟩⟩⟩⟩⟩⟩⟩:=hf3;let y0:=getH w.heap (w.pick t);let y1:=w.pickT (w.pickT t);have Q1 {h_ c_ p_} (r_:Fq h_ c_ p_):=Q0 (Ff 31 hc0 (Fg 36 (by exact Lf oq:(y1.next 8).tmod y0.1.length=y1.next 8%y0.1.length) (Fo (y0.1.length≠0) (Fc 39 (@Z1F (y0.1) (y1.next 8%y0.1.length) aa) r_))));rcases bb (!Z0e (getH w.heap (w.pick t)).1 ((w.pickT (w.pickT t)).next 8%(getH w.heap (w.pick t)).1.length))with hc6 | hc6<;>have hc6p:=hc6<;>simp only[bs]at hc6p
  .rw[show w.link t=WorldM.mk (Z0w w.heap (w.pick t) ((w.pickT (w.pickT t)).next (8:Int)%(getH w.heap (w.pick t)).1.length) (((w.pickT (w.pickT t)).step (8:Int)).next (1048576:Int))).1 w.G w.E from by grind[WorldM.link,WorldM.linkT,Z7z,Z9M]];rw[show w.linkT t=((w.pickT (w.pickT t)).step (8:Int)).step (1048576:Int)from by grind[WorldM.link,WorldM.linkT,Z7z,Z9M]];exact lF func103 [] (Q1 (Ft 40 hc6 (Fp 42 (@Z0g (y1.step 8) (1048576) aa oq oq) (Fv 43 ((y1.step 8).next 1048576) (Fc 50 (@Z7k w.heap (w.pick t) (y1.next 8%y0.1.length) ((y1.step 8).next 1048576) aa aa) Fz)))))
  .rw[show w.link t=WorldM.mk (Z0w w.heap (w.pick t) ((w.pickT (w.pickT t)).next (8:Int)%(getH w.heap (w.pick t)).1.length) (w.pick (w.pickT t))).1 w.G w.E from by grind[WorldM.link,WorldM.linkT,Z7z,Z9M]];rw[show w.linkT t=(w.pickT (w.pickT t)).step (8:Int)from by grind[WorldM.link,WorldM.linkT,Z7z,Z9M]];exact lF func103 [] (Q1 (Ff 40 hc6 (Fc 50 (@Z7k w.heap (w.pick t) ((w.pickT (w.pickT t)).next 8%(getH w.heap (w.pick t)).1.length) (w.pick (w.pickT t)) aa aa) Fz)))
end Go.Proofs.YtgedmeaemofdkaaGreat
