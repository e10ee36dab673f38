/-
 The statement GraphSame: part 14.
 Conditions: none.
-/
import Derived.Test.YtgedmeaemofdkaaGreatQ13
set_option maxRecDepth 100000
set_option maxHeartbeats 2000000
set_option linter.all false
open Inhabited renaming default->M
open Decidable renaming decide->La
open Bool renaming true->Lb,false->Le
open List renaming replicate->Lc,map->Ld,mem_append_left->Lg,getD_eq_getElem?_getD->Li,length_map->Lk,mem_map->Lo,getElem?_eq_getElem->Lq,mem_singleton->Lr,range->Ls,find?_range_eq_some->Lz,getElem?_replicate->LA,getElem_mem->LB,mem_append->LC,mem_append_right->LD,mem_or_eq_of_mem_set->LF,mem_range->LG
open Or renaming inl->Lf,inr->Lh
open Int renaming toNat->Lj,le_refl->Ll,mul_comm->Lm,toNat_natCast->Ln,ediv_lt_of_lt_mul->Lt,ediv_nonneg->Lu,emod_lt_of_pos->Lv,emod_nonneg->Lw,mul_ediv_add_emod->Lx,toNat_of_nonneg->Ly
open Nat renaming le_refl->Lp,zero_le->LH
open Go.Proofs.Tryz
namespace Go.Proofs.YtgedmeaemofdkaaGreat
open Go.Sx
def Z5z(w:Work)(x:Int):Prop:=Z1b w (ofA w.heap.C x).1=Lb/\x∉w.Q
def Z9d(n:Int)(a x:Int):Int:=if a=x then 1+16*n else 0
def Zhq{n:Int}(h:0<=n/\n<=255):decodeH (1+16*n)=(⟨0,n,0⟩,Lb):=by
 have hv:Z0d ⟨0,n,0⟩=Lb:=validH_iff.2 ⟨by simp,by simp,h.1,h.2,by simp⟩;have:=decode_encode hv pq;rw[Z58 h]at this;exact this
def Zhb{n:Int}(h:0<=n/\n<=255){ws:List Int}{a x:Int}(hx:4096<=x/\x+n<4096+ws.length)(ha:x<=a/\a<=x+n):(loadA (Z0r ws x (objW ⟨0,n,0⟩)).1 a).1=Z9d n a x:=by
 have hl:(objW ⟨0,n,0⟩).length=n.toNat+1:=by simp[objW]
 rw[Z1Q oq oq];unfold Z9d;by_cases c:a=x
 .subst c;simp[objW,Z58 h]
 .rw[if_neg c,objW,show(a-x).toNat=(a-x-1).toNat+1 by omega];simp[Li,LA];split<;>rfl
structure FL (v:Work) (ws:List Int) (k:Nat):Prop where
 l:ws.length=v.heap.W.length
 h:∀ x∈v.old,hlA ws x=hlA v.heap.W x
 s:∀ a,loadA ws a=loadA v.heap.W a\/∃ x∈v.old,Z5z v x/\x<=a/\a<=x+hlA v.heap.W x/\(loadA ws a).1=Z9d (hlA v.heap.W x) a x
 f:∀ j,j<k->Z5z v (v.old.getD j M)->∀ a,v.old.getD j M<=a->a<=v.old.getD j M+hlA v.heap.W (v.old.getD j M)->(loadA ws a).1=Z9d (hlA v.heap.W (v.old.getD j M)) a (v.old.getD j M)
def Zfm{v:Work}(hw:FOk v)(hi:CIv v):∀ k,k<=v.old.length->FL v (fillN v k).heap.W k
 | 0,_=>⟨rfl,λ_ _=>rfl,λ_=>Lf rfl,λj hj=>by omega⟩
 | k+1,hk=>by
  have ih:=Zfm hw hi k oq;obtain⟨i0,i1,i2,i3,i4,i5,i6,i7,i8,i9,i10,i11⟩:=Z5c v hw k;have hm:v.old.getD k M∈v.old:=getD_mem_iff.2 ⟨k,by omega,rfl⟩;have hr:=hi.r _ (Lg _ hm);have hn:=Z0f v.heap.W (v.old.getD k M);have hprom:Z1b (fillN v k) (ofA (fillN v k).heap.C (v.old.getD k M)).1=Z1b v (ofA v.heap.C (v.old.getD k M)).1:=by
   unfold Z1b;rw[i1,i2,i3,i6]
  by_cases c:Z5z v (v.old.getD k M)
  .have e:(fillN v (k+1)).heap.W=(Z0r (fillN v k).heap.W (v.old.getD k M) (objW ⟨0,hlA v.heap.W (v.old.getD k M),0⟩)).1:=by
    show(Z5o (fillN v k) (v.old.getD k M)).heap.W=_;rw[Z5o,hprom,i7,if_pos (show Z1b v (ofA v.heap.C (v.old.getD k M)).1=Lb/\v.old.getD k M∉v.Q from c)];simp only;rw[<- ih.h _ hm];rfl
   rw[e];have hl:=ih.l;generalize hx:v.old.getD k M=x at *;have hin:4096<=x/\x+hlA v.heap.W x<4096+(fillN v k).heap.W.length:=by omega
   have ho:(objW ⟨0,hlA v.heap.W x,0⟩).length=(hlA v.heap.W x).toNat+1:=by simp[objW]
   have win:=λa ha=>Zhb hn (ws:=(fillN v k).heap.W) (a:=a) hin ha;have wout:∀ a,a<x\/x+hlA v.heap.W x<a->loadA (Z0r (fillN v k).heap.W x (objW ⟨0,hlA v.heap.W x,0⟩)).1 a=loadA (fillN v k).heap.W a:=λa ha=>Z20 oq oq;have sep:=λy hy=>hi.s x (Lg _ hm) y (Lg _ hy);have sep2:=λy hy=>hi.s y (Lg _ hy) x (Lg _ hm);refine⟨?_, ?_, ?_, ?_⟩
   .unfold Z0r;rw[if_pos oq];exact(Z3I oq).trans hl
   .intro y hy;by_cases q:y=x
    .subst q;have:=win y oq;rw[hlA,this,Z9d,if_pos rfl,Zhq hn]
    .have s1:=sep y hy;have s2:=sep2 y hy;have:=Z0f v.heap.W y;rw[hlA,wout y oq];exact ih.h y hy
   .intro a;by_cases q:x<=a/\a<=x+hlA v.heap.W x
    .exact Lh ⟨x,hm,c,q.1,q.2,win a q⟩
    .rw[wout a oq];exact ih.s a
   .intro j hj hf a h1 h2;by_cases q:v.old.getD j M=x
    .rw[q]at h1 h2 ⊢;exact win a ⟨h1,h2⟩
    .have hjk:j<k:=by
      by_cases q2:j=k
      .subst q2;exact absurd hx q
      .omega
     have hmj:v.old.getD j M∈v.old:=getD_mem_iff.2 ⟨j,by omega,rfl⟩;have s1:=sep _ hmj;have s2:=sep2 _ hmj;have:=Z0f v.heap.W (v.old.getD j M);rw[wout a oq];exact ih.f j hjk hf a h1 h2
  .have e:fillN v (k+1)=fillN v k:=by
    show Z5o (fillN v k) (v.old.getD k M)=_;rw[Z5o,hprom,i7,if_neg (show ¬ (Z1b v (ofA v.heap.C (v.old.getD k M)).1=Lb/\v.old.getD k M∉v.Q)from c)]
   rw[e];refine⟨ih.l,ih.h,ih.s,λj hj hf=>?_⟩;by_cases q:j=k
   .subst q;exact absurd hf c
   .exact ih.f j oq hf
def ZbS{c:Conf}{s:Int}{l:List Page}{ws:List Int}(hp:0<=c.pw)(hl:(ws.length:Int)=c.pw*l.length):∀ k,k<=l.length->(Z23 c.pw s l ws k).length=ws.length/\∀ (i:Nat) (o:Int),i<l.length->0<=o->o<c.pw->loadA (Z23 c.pw s l ws k) (4096+i*c.pw+o)=if i<k/\Z3c s (l.getD i M)then(0,0)else loadA ws (4096+i*c.pw+o)
 | 0,_=>⟨rfl,λi o _ _ _=>by rw[if_neg oq];rfl⟩
 | k+1,hk=>by
  obtain⟨h1,h2⟩:=ZbS (s:=s) hp hl k oq;unfold Z23;by_cases c':Z3c s (l.getD k M)
  .rw[if_pos c'];have hk2:=Z11 (i:=k) (j:=l.length) (pw:=c.pw) oq hp;have hk0:0<=(k:Int)*c.pw:=Int.mul_nonneg oq hp;rw[Lm (l.length:Int)]at hk2;have hlen:(Lc c.pw.toNat (0:Int)).length=c.pw.toNat:=List.length_replicate;have en:((k*c.pw.toNat:Nat):Int)=k*c.pw:=by rw[Int.natCast_mul,Ly hp]
   have e:spl (Z23 c.pw s l ws k) (k*c.pw.toNat) (Lc c.pw.toNat 0)=(Z0r (Z23 c.pw s l ws k) (4096+k*c.pw) (Lc c.pw.toNat 0)).1:=by
    unfold Z0r;rw[if_pos oq];simp only;congr 1;omega
   refine⟨?_, ?_⟩
   .rw[Z3I oq];exact h1
   .intro i o hi h0 ho;rw[e];by_cases q:i=k
    .subst q;rw[Z1Q oq oq,if_pos ⟨by omega,c'⟩];simp[Li,LA];split<;>rfl
    .have hne:4096+(i:Int)*c.pw+o<4096+k*c.pw\/4096+k*c.pw+c.pw<=4096+(i:Int)*c.pw+o:=by
      rcases Nat.lt_or_gt_of_ne q with q | q
      .have:=Z11 (i:=i) (j:=k) (pw:=c.pw) oq hp;omega
      .have:=Z11 (i:=k) (j:=i) (pw:=c.pw) oq hp;omega
     rw[Z20 oq oq,h2 i o hi h0 ho];by_cases q2:i<k/\Z3c s (l.getD i M)
     .rw[if_pos q2,if_pos ⟨by omega,q2.2⟩]
     .rw[if_neg q2,if_neg (λq3=>q2 ⟨by omega,q3.2⟩)]
  .rw[if_neg c'];refine⟨h1,λi o hi h0 ho=>?_⟩;rw[h2 i o hi h0 ho];by_cases q2:i<k/\Z3c s (l.getD i M)
   .rw[if_pos q2,if_pos ⟨by omega,q2.2⟩]
   .rw[if_neg q2,if_neg];rintro⟨q3,q4⟩;by_cases q5:i=k
    .subst q5;exact c' q4
    .exact q2 ⟨by omega,q4⟩
def Z9S(hd:Header){k:Int}(h0:0<=k)(hp:Z0c hd k=Lb):∀ n:Nat,k<n->k∈Z0Q hd n
 | 0,h=>by omega
 | n+1,h=>by
  unfold Z0Q;by_cases q:k=n
  .subst q;rw[if_pos hp];simp
  .have ih:=Z9S hd h0 hp n oq;split
   .exact Lg _ ih
   .exact ih
def ZaT{hd:Header}{k:Int}(h0:0<=k)(h1:k<hd.length)(hp:Z0c hd k=Lb):k∈Z02 hd:=by
 have hv:Z0d hd=Lb:=by
  unfold Z0c at hp;simp only[Bool.and_eq_true]at hp;exact hp.1.1.1
 unfold Z02;rw[if_pos hv];exact Z9S hd h0 hp _ oq
structure CE (h:Heap) (T tq:Nat->List Int) (w:Work) (l4 l5:List Int):Prop where
 g:Gd h T
 k:KI h T tq w
 i:CIv w
 s:w.heap.S=0\/w.heap.S=1
 pt:PT w.heap.C w.heap.P
 ts:∀ x∈w.T,(w.heap.P.getD x.toNat M).S=1-w.heap.S
 sd:SD w
 sc:w.D=w.Q.length
 f3:∀ a,loadA l4 a=loadA w.heap.W a\/∃ x∈w.old,Z5z w x/\x<=a/\a<=x+hlA w.heap.W x/\(loadA l4 a).1=Z9d (hlA w.heap.W x) a x
 f4:∀ x∈w.old,Z5z w x->∀ a,x<=a->a<=x+hlA w.heap.W x->(loadA l4 a).1=Z9d (hlA w.heap.W x) a x
 n4:l4.length=w.heap.W.length
 n5:l5.length=w.heap.W.length
 fr:∀ (i:Nat) (o:Int),i<h.P.length->0<=o->o<h.C.pw->loadA l5 (bsP h i+o)=if Z3c w.heap.S (w.heap.P.getD i M)then(0,0)else loadA l4 (bsP h i+o)
def tE(T tq:Nat->List Int)(w:Work)(i:Nat):List Int:=if(i:Int)∈w.T then tq i else if(w.heap.P.getD i M).S≠w.heap.S then T i else []
section
variable {h:Heap} {T tq:Nat->List Int} {w:Work} {l4 l5:List Int} (c:CE h T tq w l4 l5)
include c
theorem CE.mem{i:Nat}{x:Int}(hx:x∈tE T tq w i):(i:Int)∈w.T/\x∈tq i\/(i:Int)∉w.T/\(w.heap.P.getD i M).S≠w.heap.S/\x∈T i:=by
 unfold tE at hx;split at hx
 .rename_i q;exact Lf ⟨q,hx⟩
 .rename_i q;split at hx
  .rename_i q2;exact Lh ⟨q,q2,hx⟩
  .simp at hx
theorem CE.gone0{i:Nat}(hi:(i:Int)∈w.T):¬ Z3c w.heap.S (w.heap.P.getD i M):=by
 have:=c.ts _ hi;rw[Ln]at this;have:=c.s;unfold Z3c;omega
theorem CE.pgof{i:Nat}{x a:Int}(hx:x∈T i)(h1:x<=a)(h2:a<=x+hlA h.W x):∃ (j:Nat) (o:Int),j<h.P.length/\0<=o/\o<h.C.pw/\a=bsP h j+o/\(w.heap.P.getD j M).K≠0/\(w.heap.P.getD j M).S=(w.heap.P.getD i M).S:=by
 have g:=c.g;have o:=g.on hx;have po:=Z08 g.p;have pg:=c.k.pg i (c.k.nt g hx);have hcc:=c.k.c;have hpl:=c.k.pl;rcases o.2.1 with k | k
 .have pp:=Z0J g.p o.1;exact⟨i,a-bsP h i,o.1,by omega,by omega,by omega,by omega,rfl⟩
 .have hx2:=o.2.2.2.2.2.2 k;have lg:=c.pt.lg i oq oq;rw[pg.2.1,hcc]at lg;have nu:=Z4V lg.1;have h0:0<=(a-bsP h i)/h.C.pw:=Lu oq oq;have h3:=Lx (a-bsP h i) h.C.pw;have h4:=Lw (a-bsP h i) (b:=h.C.pw) oq;have h5:=Lv (a-bsP h i) (b:=h.C.pw) oq;have h6:(a-bsP h i)/h.C.pw<need h.C (h.P.getD i M).U:=Lt oq oq;rw[Lm]at h3;generalize hm:(a-bsP h i)/h.C.pw=m at *;have hmn:((m.toNat:Nat):Int)=m:=by omega
  refine⟨i+m.toNat,(a-bsP h i)%h.C.pw, ?_,h4,h5, ?_, ?_⟩
  .by_cases q:m.toNat=0
   .omega
   .have:=(lg.2 m.toNat oq oq).1;omega
  .unfold bsP at h3 ⊢;rw[Int.natCast_add,hmn,Int.add_mul];omega
  .by_cases q:m.toNat=0
   .rw[q,Nat.add_zero];exact⟨by omega,rfl⟩
   .have:=(lg.2 m.toNat oq oq).2;exact⟨by omega,this.2⟩
theorem CE.keptw{i:Nat}{x a:Int}(hx:x∈T i)(hs:(w.heap.P.getD i M).S≠w.heap.S)(h1:x<=a)(h2:a<=x+hlA h.W x):loadA l5 a=loadA l4 a:=by
 obtain⟨j,o,j1,o1,o2,e,k0,k1⟩:=c.pgof hx h1 h2;rw[e,c.fr j o j1 o1 o2,if_neg];unfold Z3c;rw[k1];exact λq=>hs q.2
theorem CE.gonew{i:Nat}{x a:Int}(hx:x∈T i)(hs:(w.heap.P.getD i M).S=w.heap.S)(h1:x<=a)(h2:a<=x+hlA h.W x):(loadA l5 a).1=0:=by
 obtain⟨j,o,j1,o1,o2,e,k0,k1⟩:=c.pgof hx h1 h2;rw[e,c.fr j o j1 o1 o2,if_pos ⟨k0,k1.trans hs⟩]
theorem CE.seen4{x a:Int}(hx:x∈w.Q)(h1:x<=a)(h2:a<=x+hlA w.heap.W x):loadA l4 a=loadA w.heap.W a:=by
 rcases c.f3 a with q | ⟨y,hy,q1,q2,q3,q4⟩
 .exact q
 .exfalso;have hne:x≠y:=λe=>q1.2 (e▸hx);have s1:=c.i.s x (LD _ hx) y (Lg _ hy);have s2:=c.i.s y (Lg _ hy) x (LD _ hx);have r1:=Z0f w.heap.W x;have r2:=Z0f w.heap.W y;rcases Int.lt_or_gt_of_ne hne with q | q
  .have:=s1 q;omega
  .have:=s2 q;omega
theorem CE.takenw{i:Nat}{a:Int}(hi:(i:Int)∈w.T)(h1:bsP h i<=a)(h2:a<bsP h i+h.C.pw):loadA l5 a=loadA l4 a:=by
 have t:=c.k.tk i hi;have:=c.fr i (a-bsP h i) t.1 oq oq;rw[show bsP h i+(a-bsP h i)=a by omega,if_neg (c.gone0 hi)]at this;exact this
theorem CE.seen{x a:Int}(hx:x∈w.Q)(h1:x<=a)(h2:a<=x+hlA w.heap.W x):loadA l5 a=loadA w.heap.W a:=by
 rw[<- c.seen4 hx h1 h2];rcases c.k.q x hx with⟨i,i1,i2,i3,i4⟩ | ⟨i,i1,i2⟩
 .have he:(loadA w.heap.W x).1=(loadA h.W x).1:=by
   rcases c.k.hd i x i2 with q | q
   .exact q
   .exact absurd q.2.2 i4
  rw[(Z26 he).2.1]at h2;exact c.keptw i2 i4 h1 h2
 .have t:=c.k.tk i i1;have m:=Z1A t.2.2.2.2.2.1 i2;exact c.takenw i1 oq oq
theorem CE.where'{x:Int}(hx:x∈w.Q):∃ i,x∈tE T tq w i:=by
 rcases c.k.q x hx with⟨i,i1,i2,i3,i4⟩ | ⟨i,i1,i2⟩
 .exact⟨i,by rw[tE,if_neg i1,if_pos i4];exact i2⟩
 .exact⟨i,by rw[tE,if_pos i1];exact i2⟩
theorem CE.seenK{x:Int}(hx:x∈w.Q):kdA w.heap.W x≠0/\okA w.heap.W x:=by
 rcases c.k.q x hx with⟨i,i1,i2,i3,i4⟩ | ⟨i,i1,i2⟩
 .have he:(loadA w.heap.W x).1=(loadA h.W x).1:=by
   rcases c.k.hd i x i2 with q | q
   .exact q
   .exact absurd q.2.2 i4
  have o:=Z26 he;exact⟨by rw[o.2.2.1];exact i3,o.1 (c.g.on i2).2.2.2.2.2.1⟩
 .have t:=c.k.tk i i1;exact⟨(t.2.2.2.2.2.2 x i2).2.1,(Z1A t.2.2.2.2.2.1 i2).1⟩
theorem CE.kept{i:Nat}{x:Int}(hx:x∈T i)(hn:(i:Int)∉w.T)(hs:(w.heap.P.getD i M).S≠w.heap.S):(loadA w.heap.W x).1=(loadA h.W x).1/\okA l5 x/\hlA l5 x=hlA h.W x/\(x∉w.Q->kdA l5 x=0/\(h.P.getD i M).K=1/\(kdA h.W x≠0->x∈w.old/\Z5z w x)):=by
 have he:(loadA w.heap.W x).1=(loadA h.W x).1:=by
  rcases c.k.hd i x hx with q | q
  .exact q
  .exact absurd q.2.2 hs
 have on:=c.g.on hx;have oh:=Z26 he;have rx:=Z0f h.W x;refine⟨he, ?_⟩;by_cases hq:x∈w.Q
 .have e:=Z26 (congrArg Prod.fst (c.seen hq (Ll _) (by have:=Z0f w.heap.W x;omega)));exact⟨e.1 (oh.1 on.2.2.2.2.2.1),by rw[e.2.1,oh.2.1],λq=>absurd hq q⟩
 .have k1:(h.P.getD i M).K=1:=by
   rcases on.2.1 with q | q
   .exact q
   .have:=c.k.lg i q hs;rw[<- (on.2.2.2.2.2.2 q).1]at this;exact absurd this hq
  have e5:loadA l5 x=loadA l4 x:=c.keptw hx hs (Ll _) oq;by_cases hk:kdA h.W x=0
  .have e4:loadA l4 x=loadA w.heap.W x:=by
    rcases c.f3 x with q | ⟨y,hy,q1,q2,q3,q4⟩
    .exact q
    .exfalso;obtain⟨j,hj,hjk⟩:=(c.k.old y).1 hy;by_cases e:y=x
     .subst e;exact hjk hk
     .have sj:(loadA w.heap.W y).1=(loadA h.W y).1:=by
       rcases c.k.hd j y hj with q | q
       .exact q
       .exfalso;have o2:=q1.1;unfold Z1b at o2;rw[c.k.c,c.g.ofx hj]at o2;simp only[decide_eq_true_eq,Ln]at o2;exact o2.2.2.2.1 q.2.2
      rw[(Z26 sj).2.1]at q3;have:=c.g.sep hj hx oq;omega
   have e:=Z26 (ws:=h.W) (ws':=l5) (a:=x) (by rw[e5,e4,he]);exact⟨e.1 on.2.2.2.2.2.1,e.2.1,λ_=>⟨by rw[e.2.2.1];exact hk,k1,λq=>absurd hk q⟩⟩
  .have ho:x∈w.old:=(c.k.old x).2 ⟨i,hx,hk⟩;have hf:Z5z w x:=by
    refine⟨?_,hq⟩;have pg:=c.k.pg i hn;have pl:=c.k.pl;unfold Z1b;rw[c.k.c,c.g.ofx hx];simp only[decide_eq_true_eq,Ln];exact⟨by omega,by omega,by omega,hs,hn⟩
   have v:=c.f4 x ho hf x (Ll _) (by have:=Z0f w.heap.W x;omega);rw[Z9d,if_pos rfl,oh.2.1]at v;rw[<- e5]at v;have d:=Zhq rx;exact⟨by rw[okA,v,d],by rw[hlA,v,d],λ_=>⟨by rw[kdA,hdA,v,d],k1,λ_=>⟨ho,hf⟩⟩⟩
theorem CE.start{i:Nat}{x:Int}(hx:x∈tE T tq w i):okA l5 x/\(kdA l5 x≠0↔x∈w.Q):=by
 have sq:x∈w.Q->okA l5 x/\kdA l5 x≠0:=λhq=>by
  have e:=Z26 (congrArg Prod.fst (c.seen hq (Ll _) (by have:=Z0f w.heap.W x;omega)));have s:=c.seenK hq;exact⟨e.1 s.2,by rw[e.2.2.1];exact s.1⟩
 rcases c.mem hx with⟨q1,q2⟩ | ⟨q1,q2,q3⟩
 .have hq:=((c.k.tk i q1).2.2.2.2.2.2 x q2).1;exact⟨(sq hq).1,λ_=>hq,λ_=>(sq hq).2⟩
 .have kk:=c.kept q3 q1 q2;refine⟨kk.2.1,λhk=>?_,λhq=>(sq hq).2⟩;by_cases hq:x∈w.Q
  .exact hq
  .exact absurd (kk.2.2.2 hq).1 hk
theorem CE.good{b:Int}(hp:Z03 ⟨w.heap.C,l5,w.heap.P.map (Z1n w.heap.S),1-w.heap.S,b⟩=Lb):Gd ⟨w.heap.C,l5,w.heap.P.map (Z1n w.heap.S),1-w.heap.S,b⟩ (tE T tq w):=by
 have g:=c.g;have hcc:=c.k.c;have hpl:=c.k.pl;have hs:=c.s;have po:=Z08 g.p;have hgt:∀ i,i<h.P.length->(w.heap.P.map (Z1n w.heap.S)).getD i M=Z1n w.heap.S (w.heap.P.getD i M):=λi hi=>by
  have:i<w.heap.P.length:=by omega
  simp[Li,this]
 have hng:∀ i,i<h.P.length->((w.heap.P.map (Z1n w.heap.S)).getD i M).K≠0->¬ Z3c w.heap.S (w.heap.P.getD i M)/\(w.heap.P.map (Z1n w.heap.S)).getD i M=w.heap.P.getD i M:=by
  intro i hi hk;rw[hgt i hi]at hk ⊢;unfold Z1n at hk ⊢;split at hk
  .simp at hk
  .rename_i q;rw[if_neg q];exact⟨q,rfl⟩
 have hb:∀ i,bsP ⟨w.heap.C,l5,w.heap.P.map (Z1n w.heap.S),1-w.heap.S,b⟩ i=bsP h i:=λi=>by simp only[bsP,hcc]
 have hk5:∀ x,x∈w.Q->okA w.heap.W x->okA l5 x/\hlA l5 x=hlA w.heap.W x/\kdA l5 x=kdA w.heap.W x/\hdA l5 x=hdA w.heap.W x:=λx hq ho=>by
  have e:=Z26 (congrArg Prod.fst (c.seen hq (Ll _) (by have:=Z0f w.heap.W x;omega)));exact⟨e.1 ho,e.2.1,e.2.2.1,e.2.2.2.1⟩
 have hkept:∀ i,i<h.P.length->(i:Int)∉w.T->((w.heap.P.map (Z1n w.heap.S)).getD i M).K≠0->(w.heap.P.getD i M).S≠w.heap.S/\(h.P.getD i M).K=((w.heap.P.map (Z1n w.heap.S)).getD i M).K/\(h.P.getD i M).U=((w.heap.P.map (Z1n w.heap.S)).getD i M).U/\(h.P.getD i M).N=((w.heap.P.map (Z1n w.heap.S)).getD i M).N:=by
  intro i hi hn hk;have n:=hng i hi hk;have pg:=c.k.pg i hn;rw[n.2]at hk ⊢;refine⟨λq=>n.1 ⟨hk,q⟩,pg.1.symm,pg.2.1.symm,pg.2.2.symm⟩
 refine⟨hp, ?_, ?_, ?_, ?_, ?_, ?_, ?_⟩
 .intro i hi hk;simp only[Lk]at hi hk ⊢;have n:=hng i oq hk;rw[n.2]at hk ⊢;have:=(c.pt.b i hi).s;have n1:=n.1;unfold Z3c at n1;omega
 .intro i hi hk;simp only[Lk]at hi hk ⊢;rw[hb];have n:=hng i oq oq;by_cases q:(i:Int)∈w.T
  .have t:=c.k.tk i q;rw[tE,if_pos q,n.2,hcc];refine⟨Z2i t.2.2.2.2.2.1 λx hx=>?_,λx hx=>?_⟩
   .have e:=hk5 x (t.2.2.2.2.2.2 x hx).1 (Z1A t.2.2.2.2.2.1 hx).1;exact⟨e.1,e.2.1⟩
   .have e:=hk5 x (t.2.2.2.2.2.2 x hx).1 (Z1A t.2.2.2.2.2.1 hx).1;rw[e.2.1];exact(t.2.2.2.2.2.2 x hx).2.2
  .have kp:=hkept i oq q oq;rw[tE,if_neg q,if_pos kp.1,<- kp.2.2.1,hcc];have t:=g.t1 i oq oq;refine⟨Z2i t.1 λx hx=>?_,λx hx=>?_⟩
   .have e:=c.kept hx q kp.1;exact⟨e.2.1,e.2.2.1⟩
   .rw[(c.kept hx q kp.1).2.2.1];exact t.2 x hx
 .intro i hi hk;simp only[Lk]at hi hk ⊢;rw[hb];have n:=hng i oq oq;by_cases q:(i:Int)∈w.T
  .have t:=c.k.tk i q;rw[n.2]at hk;omega
  .have kp:=hkept i oq q oq;have t:=g.t2 i oq oq;have hx:bsP h i∈T i:=by rw[t.1];simp
   have e:=c.kept hx q kp.1;have hq:=c.k.lg i oq kp.1;have st:=c.start (i:=i) (x:=bsP h i) (by rw[tE,if_neg q,if_pos kp.1];exact hx);rw[tE,if_neg q,if_pos kp.1,<- kp.2.2.1];exact⟨t.1,e.2.1,by rw[e.2.2.1];exact t.2.2.1,st.2.2 hq⟩
 .intro i x hx;simp only[Lk];rcases c.mem hx with⟨q1,q2⟩ | ⟨q1,q2,q3⟩
  .have t:=c.k.tk i q1;have:Z1n w.heap.S (w.heap.P.getD i M)=w.heap.P.getD i M:=by rw[Z1n,if_neg (c.gone0 q1)]
   rw[hgt i t.1,this];exact⟨by omega,Lf t.2.2.1⟩
  .have t:=g.t0 i x q3;have pg:=c.k.pg i q1;have:Z1n w.heap.S (w.heap.P.getD i M)=w.heap.P.getD i M:=by rw[Z1n,if_neg (λq=>q2 q.2)]
   rw[hgt i t.1,this];exact⟨by omega,by rw[pg.1];exact t.2⟩
 .intro a ha;simp only at ha ⊢;have h4:(loadA l4 a).1≠0:=by
   have hr:4096<=a/\a<4096+l5.length:=by
    unfold loadA at ha;by_cases q:4096<=a/\a<4096+l5.length
    .exact q
    .rw[if_neg q]at ha;simp at ha
   have hl5:=c.n5;have hL:=c.i.L;rw[hcc]at hL;have h0:0<=(a-4096)/h.C.pw:=Lu oq oq;have h3:=Lx (a-4096) h.C.pw;have h5:=Lw (a-4096) (b:=h.C.pw) oq;have h6:=Lv (a-4096) (b:=h.C.pw) oq;have h7:(a-4096)/h.C.pw<h.C.pg:=Lt oq (by rw[Lm];omega);rw[Lm]at h3;have f:=c.fr ((a-4096)/h.C.pw).toNat ((a-4096)%h.C.pw) oq h5 h6;have ea:bsP h ((a-4096)/h.C.pw).toNat+(a-4096)%h.C.pw=a:=by
    unfold bsP;rw[Ly h0];omega
   rw[ea]at f;rw[f]at ha;split at ha
   .simp at ha
   .exact ha
  have hks:∀ i x,x∈T i->x<=a->a<=x+hlA h.W x->(i:Int)∉w.T/\(w.heap.P.getD i M).S≠w.heap.S:=λi x hx h1 h2 =>
   ⟨c.k.nt g hx,λq=>ha (c.gonew hx q h1 h2)⟩
  have cov:∀ i x,x∈T i->x<=a->a<=x+hlA h.W x->(x∉w.Q->a=x)->∃ i x,x∈tE T tq w i/\x<=a/\a<x+kpA l5 x:=by
   intro i x hx h1 h2 h3;obtain⟨n1,n2⟩:=hks i x hx h1 h2;have hm:x∈tE T tq w i:=by rw[tE,if_neg n1,if_pos n2];exact hx
   have kk:=c.kept hx n1 n2;have r:=Z0f l5 x;refine⟨i,x,hm,h1, ?_⟩;by_cases q:x∈w.Q
   .rw[kpA,if_neg ((c.start hm).2.2 q),kk.2.2.1];omega
   .have:=h3 q;unfold kpA;split<;>omega
  rcases c.f3 a with q | ⟨x,hx,q1,q2,q3,q4⟩
  .rw[q]at h4;rcases c.k.dt a h4 with⟨i,x,hx,h1,h2⟩ | ⟨i,i1,i2,i3⟩
   .have hkp:kpA h.W x<=hlA h.W x+1:=by
     have:=Z0f h.W x;unfold kpA;split<;>omega
    have hh:=hks i x hx h1 oq;refine cov i x hx h1 oq λhq=>?_;have kk:=(c.kept hx hh.1 hh.2).2.2.2 hq;by_cases hk:kdA h.W x=0
    .rw[kpA,if_pos hk]at h2;omega
    .have fl:=kk.2.2 hk;have oh:=Z26 (c.kept hx hh.1 hh.2).1;have v:=c.f4 x fl.1 fl.2 a h1 (by rw[oh.2.1];omega);rw[<- q]at h4;rw[v,Z9d]at h4;split at h4
     .rename_i e;exact e
     .exact absurd rfl h4
   .have t:=c.k.tk i i1;obtain⟨x,hx,x1,x2⟩:=Z9R t.2.2.2.2.2.1 i2 i3;have hm:x∈tE T tq w i:=by rw[tE,if_pos i1];exact hx
    have hq:=(t.2.2.2.2.2.2 x hx).1;have e:=hk5 x hq (Z1A t.2.2.2.2.2.1 hx).1;refine⟨i,x,hm,x1, ?_⟩;rw[kpA,if_neg ((c.start hm).2.2 hq),e.2.1];omega
  .obtain⟨i,hi,hk⟩:=(c.k.old x).1 hx;have sj:(loadA w.heap.W x).1=(loadA h.W x).1:=by
    rcases c.k.hd i x hi with q | q
    .exact q
    .exfalso;have o2:=q1.1;unfold Z1b at o2;rw[hcc,g.ofx hi]at o2;simp only[decide_eq_true_eq,Ln]at o2;exact o2.2.2.2.1 q.2.2
   rw[(Z26 sj).2.1]at q3;refine cov i x hi q2 q3 λ_=>?_;rw[q4,Z9d]at h4;split at h4
   .rename_i e;exact e
   .exact absurd rfl h4
 .intro i x m hx hk h0 h1 hpt;simp only at hk h1 hpt ⊢;have hq:=(c.start hx).2.1 hk;have sk:=c.seenK hq;have e:=hk5 x hq sk.2;rw[e.2.1]at h1;rw[e.2.2.2]at hpt;rw[c.seen hq (a:=x+1+m) oq oq];obtain⟨n,n1,n2⟩:=getD_mem_iff.1 hq;have sd:=(c.sd (x+1+m) ⟨n,m,by rw[c.sc];simpa using n1,by rw[n2];exact ZaT h0 h1 hpt,by rw[n2]⟩).2;rcases sd with q | q
  .exact Lf q
  .obtain⟨j,hj⟩:=c.where' q;exact Lh ⟨j,hj,(c.start hj).2.2 q⟩
 .have:crowd (w.heap.P.map (Z1n w.heap.S))<=crowd h.P:=by
   refine Z6D qo λi hi k1 k2=>?_;by_cases q:(i:Int)∈w.T
   .have t:=c.k.tk i q;have n:=hng i hi oq;rw[n.2]at k2;omega
   .have kp:=hkept i hi q oq;omega
  have g2:=g.cr;simp only[hcc];omega
end
def Zgg{B:Int}(hB:0<=B){h:Heap}{T:Nat->List Int}(g:Gd h T){s k:List Int}(hw:WOk h.W)(hb:∀ p∈h.P,p.N<=B)(hs:RtOb h T s)(hk:RtOb h T k)(e:(Z0e h s k).2.2.2.2=0) :
  ∃ T',Gd (Z0e h s k).1 T'/\RtOb (Z0e h s k).1 T' (Z0e h s k).2.1/\RtOb (Z0e h s k).1 T' (Z0e h s k).2.2.1:=by
 have hp:=g.p;have hr:=g.refers hs;have hr':=g.refers hk;have pr1:=(Z9O hB hw hb e).p1;by_cases e1:(rootsF (beginW h) s).2.2=0
 .by_cases e2:(allF (rootsF (beginW h) s).1).2=0
  .have e7:Z0e h s k=(endH (cW5 h s k),(rootsF (beginW h) s).2.1,Z4d (cW2 h s) k k.length,(cW5 h s k).rep,0):=by rw[Z0e,if_pos hp,if_pos ⟨hr,hr'⟩,if_pos e1,if_pos e2]
   rw[e7]at pr1 ⊢;have ck:=cOk h s k hw hp e1 e2;have c5:=cOk5 h s k hw hp e1 e2;have pr:=Zof hB hw hp hb e1 e2;have sd:=ZnK hB hw hp hb e1 e2;obtain⟨tq,ki⟩:=ZnU g hw e1 e2;obtain⟨g1,g2,g3,g4,g5⟩:=ck.h4;have po:=Z08 hp;obtain⟨a1,a2,a3,a4,a5,a6,a7,a8⟩:=Z5n (cW2 h s) k k.length;have a1:(cW3 h s k).heap=(cW2 h s).heap:=a1;have a2:(cW3 h s k).old=(cW2 h s).old:=a2;have a3:(cW3 h s k).T=(cW2 h s).T:=a3;have a4:(cW3 h s k).Q=(cW2 h s).Q:=a4;have fl:FL (cW3 h s k) (cW4 h s k).heap.W (cW3 h s k).old.length:=Zfm ck.f3 ck.i3 (cW3 h s k).old.length (Lp _);have tf:∀ x,Z5z (cW3 h s k) x↔Z5z (cW2 h s) x:=λx=>by
    unfold Z5z Z1b;rw[a1,a3,a4]
   have hcc:=ki.c;have hpl:=ki.pl;have hwl:=ki.wl;have w4:(cW4 h s k).heap.W.length=h.W.length:=by
    have:=fl.l;rw[a1]at this;exact this.trans hwl
   have fw:=ZbS (c:=h.C) (s:=(cW2 h s).heap.S) (l:=(cW2 h s).heap.P) (ws:=(cW4 h s k).heap.W) oq (by rw[w4,hpl,po.2.2.2.2.2.2.2.1];exact po.2.2.2.2.2.1) (cW2 h s).heap.P.length (Lp _);have e5:(Z1d (cW4 h s k)).heap.W=Z23 h.C.pw (cW2 h s).heap.S (cW2 h s).heap.P (cW4 h s k).heap.W (cW2 h s).heap.P.length:=by
    simp only[Z1d,g1,g2,g3]
   have ce:CE h T tq (cW2 h s) (cW4 h s k).heap.W (Z1d (cW4 h s k)).heap.W:=by
    refine⟨g,ki,ck.i2,ck.w2.sp,pr.tab.pt,pr.tab.tk,sd.1,sd.2, ?_, ?_, ?_, ?_, ?_⟩
    .intro a;rcases fl.s a with q | ⟨x,hx,q1,q2,q3,q4⟩
     .refine Lf ?_;rw[a1]at q;exact q
     .refine Lh ⟨x,a2▸hx,(tf x).1 q1,q2, ?_, ?_⟩
      .rw[a1]at q3;exact q3
      .rw[a1]at q4;exact q4
    .intro x hx hf a h1 h2;obtain⟨j,j1,j2⟩:=getD_mem_iff.1 hx;have:=fl.f j (by rw[a2];exact j1);rw[a2,a1,j2]at this;exact this ((tf x).2 hf) a h1 h2
    .rw[w4,hwl]
    .rw[e5,fw.1,w4,hwl]
    .intro i o hi h0 ho;have:=fw.2 i o oq h0 ho;rw[e5];show loadA _ (4096+(i:Int)*h.C.pw+o)=_;rw[this];by_cases q:Z3c (cW2 h s).heap.S ((cW2 h s).heap.P.getD i M)
     .rw[if_pos ⟨by omega,q⟩,if_pos q]
     .rw[if_neg (λc=>q c.2),if_neg q];rfl
   have eh:endH (cW5 h s k)=⟨(cW2 h s).heap.C,(Z1d (cW4 h s k)).heap.W,(cW2 h s).heap.P.map (Z1n (cW2 h s).heap.S),1-(cW2 h s).heap.S,(endH (cW5 h s k)).B⟩:=by
    unfold endH cW5;simp only[Z1d,g1,g2,g3,hcc]
   rw[eh]at pr1 ⊢;have gd:=ce.good pr1;have seen:∀ x,ToOk (cW2 h s) x->x=0\/Ob ⟨(cW2 h s).heap.C,(Z1d (cW4 h s k)).heap.W,(cW2 h s).heap.P.map (Z1n (cW2 h s).heap.S),1-(cW2 h s).heap.S,(endH (cW5 h s k)).B⟩ (tE T tq (cW2 h s)) x:=by
    intro x hx;rcases hx with q | q
    .exact Lf q
    .obtain⟨i,hi⟩:=ce.where' q;exact Lh ⟨i,hi,(ce.start hi).2.2 q⟩
   refine⟨tE T tq (cW2 h s),gd,λx hx=>seen x ?_,λx hx=>seen x ?_⟩
   .have hbg:=Z3u hw hp;have hib:=Z3j hp;have pr0:PR B (beginW h):=⟨Z66 hp hb,Zat hp⟩
    have hall:=Z3n (roots:=s) hbg hib e1;have ax:=ZeL hall.1 hall.2.1 e2;have:ToOk (rootsF (beginW h) s).1 x:=by
     unfold rootsF at e1 hx ⊢;cases hbb:(Ls s.length).find? (λk=>La (Z2q (beginW h) s k≠0))with
     | none =>
      rw[hbb]at hx;have h0:∀ j,j<s.length->Z2q (beginW h) s j=0:=λj hj=>by
       have:=List.find?_eq_none.1 hbb j (LG.2 hj);simpa using this
      exact ZbO hB hbg hib pr0 s.length h0 x hx
     | some k =>
      rw[hbb]at e1;simp only at e1;have:=(Lz.1 hbb).1;simp[e1]at this
    rcases this with q | q
    .exact Lf q
    .exact Lh (ax.2.q x q)
   .have:∀ i,i<=k.length->∀ x∈Z4d (cW2 h s) k i,ToOk (cW2 h s) x:=by
     intro i;induction i with
     | zero=>intro _ x hx;simp[Z4d]at hx
     | succ i ih =>
      intro hi' x hx;simp only[Z4d,LC,Lr]at hx;rcases hx with hx | rfl
      .exact ih oq x hx
      .have hsi:=Z5n (cW2 h s) k i;unfold Z71;split
       .exact Lf rfl
       .rename_i hne;unfold Z1x;rw[hsi.2.2.2.1,hsi.1];split
        .rename_i hq;exact Lh hq
        .cases ht:(Z0n (loadA (cW2 h s).heap.W (k.getD i M)).1).2 with
         | true =>
          refine Lh (pr.rt.t _ ?_ ht);rw[ki.old];rcases hk _ (getD_mem_iff.2 ⟨i,by omega,rfl⟩)with q | q
          .exact absurd q hne
          .exact q
         | false =>
          refine Lf ?_;unfold Z0n at ht ⊢;split at ht
          .simp at ht
          .rename_i hcc2;rw[if_neg hcc2]
    exact this k.length (Lp _) x hx
  .rw[Z0e,if_pos hp,if_pos ⟨hr,hr'⟩,if_pos e1,if_neg e2]at e;exact absurd e e2
 .rw[Z0e,if_pos hp,if_pos ⟨hr,hr'⟩,if_neg e1]at e;exact absurd e e1
def WG.collect{w:WorldM}{n:Nat}(h:WG w)(hm:MOk w n):WG w.collect:=by
 unfold WorldM.collect;split
 .rename_i e;obtain⟨T,g,g1,g2⟩:=h;exact Zgg (B:=n) oq g hm.W (λp hp=>(hm.pin_mem p hp).2) g1 g2 e
 .exact h
def WG.step{w:WorldM}{n:Nat}(h:WG w)(hm:MOk w n)(hn:n<=1000000)(t:Tape):WG (w.step t):=by
 unfold WorldM.step;repeat' split
 .exact h.put hm.W (Z6H _ _)
 .exact h.link hm hn _
 .exact h.pin hm hn _
 .exact h.drop _
 .exact h.collect hm
 .exact h.dup _
def Zlv{w:WorldM}{n:Nat}(h:WG w)(hm:MOk w n)(t:Tape):∀ k,n+k<=1000000->WG (mkS w t k).1
 | 0,_=>h
 | k+1,hk=>(Zlv h hm t k oq).step (Zd9 hm t k oq) oq _
def Zkt(l:List Int):WG (Z05 l):=by
 have e:=Z6W l;have hl:(((Z3r l).step 4).step 5).l.length<=300:=by rw[e.1];simp;omega
 have hk:=ZeI (Z3r l).empty (((Z3r l).step 4).step 5) oq;exact Zlv (Zkl (Z3r l)) (Zbl (Z3r l)) _ _ oq
def Z6K(h:Header):∀ n:Nat,∀ x∈Z0Q h n,Z0c h x=Lb
 | 0,x,hx=>by cases hx
 | n+1,x,hx=>by
  unfold Z0Q at hx;split at hx
  .rename_i c;rcases LC.1 hx with q | q
   .exact Z6K h n x q
   .rw[Lr.1 q];exact c
  .exact Z6K h n x hx
section
variable {h:Heap} {T:Nat->List Int} (g:Gd h T)
include g
theorem Gd.refsOb{a:Int}(ha:a∈(Z04 h).1):∀ v∈Z0u h a,v=0\/v∈(Z04 h).1:=by
 intro v hv;obtain⟨i,hx,hk⟩:=(g.objs.2 a).1 ha;unfold Z0u at hv;rw[g.at' hx]at hv;obtain⟨p,hp,rfl⟩:=Lo.1 hv;simp only at hp;have pq:0<=p/\p<hlA h.W a/\Z0c (hdA h.W a) p=Lb:=by
  unfold Z02 at hp;split at hp
  .have r:=Z2d _ _ _ hp;have l:(hdA h.W a).length=hlA h.W a:=rfl;exact⟨r.1,by omega,Z6K _ _ _ hp⟩
  .simp at hp
 rcases g.q i a p hx hk pq.1 pq.2.1 pq.2.2 with h0 | ⟨j,h1,h2⟩
 .exact .inl h0
 .exact .inr ((g.objs.2 _).2 ⟨j,h1,h2⟩)
theorem Gd.order{s:List Int}(hs:∀ r∈s,r=0\/Ob h T r):(Z0y h s).2=0:=by
 have no:∀ {l:List Int},(∀ r∈l,r=0\/r∈(Z04 h).1)->((Ls l.length).find? (rfsB l (Z04 h).1)).isSome=Le:=by
  intro l hl;cases e:(Ls l.length).find? (rfsB l (Z04 h).1)with
  | none=>rfl
  | some j =>
   obtain⟨h1,h2,_⟩:=Lz.1 e;have q:=of_decide_eq_true h1;rcases hl _ (getD_mem_iff.2 ⟨j,LG.1 h2,rfl⟩)with c | c
   .exact absurd c q.1
   .exact absurd c q.2
 have hb:Z3X h s=Le:=no λr hr=>(hs r hr).imp id (g.objs.2 r).2;obtain⟨I,e⟩:=Zfr hb;unfold Z0y;rw[if_pos g.p,if_pos g.objs.1,if_neg];rintro(q | ⟨q1,q2⟩)
 .rw[hb]at q;cases q
 .have:=no (g.refsOb ((I.el _ (Lp _)).2 _ (getD_mem_iff.2 ⟨ordZ h s,q1,rfl⟩)));unfold badG at q2;rw[this]at q2;cases q2
end
def SpOk(l:List Page):Prop:=∀ p∈l,p.S=0\/p.S=1
def SpOk.at{l:List Page}(h:SpOk l){i:Nat}(hi:i<l.length):(l.getD i M).S=0\/(l.getD i M).S=1:=by
 rw[Li,Lq hi];exact h _ (LB hi)
def SpOk.set{l:List Page}(h:SpOk l)(i:Nat){p:Page}(hp:p.S=0\/p.S=1):SpOk (l.set i p):=λq hq=>by
 rcases LF hq with q1 | q1
 .exact h q q1
 .rw[q1];exact hp
def SpOk.begin{h:Heap}(hp:Z03 h=Lb):SpOk (beginW h).heap.P:=λp hq=>by
 have po:=Z08 hp;simp only[beginW,Lo]at hq;obtain⟨q,hq,rfl⟩:=hq;obtain⟨i,hi,rfl⟩:=List.getElem_of_mem hq;have pp:=Z0J hp hi;rw[Li,Lq hi,Option.getD_some]at pp;unfold begQ;split
 .simp only;omega
 .omega
def Work.took(w:Work):Work:=⟨⟨w.heap.C,w.heap.W,Z2w w,w.heap.S,w.heap.B⟩,w.old,w.T++[Z0q w],w.Q,w.D,w.rep⟩
def ZaZ{ρ:Rho}{w:World}{Im:Nat->Prop}{v:Value}(s:Nat)(h:Rel ρ w Im (.d (.sl 0 [])) v):Rel ρ w Im (.d (.sl s [])) v:=by
 cases h with
 | d h =>
  cases h with
  | slNil=>exact .d (.slNil _ _ _)
  | sl _ _ p n c f hn=>cases hn;exact .d (.slNil _ _ _)
def hA8:Heap:=⟨⟨32,8⟩,Lc 256 0,Lc 8 ⟨0,0,0,0⟩,0,-1⟩
def hB8:Heap:=(⟨⟨32,8⟩,(Lc 256 0).set 0 25,[⟨1,0,2,0⟩,⟨0,0,0,0⟩,⟨0,0,0,0⟩,⟨0,0,0,0⟩,⟨0,0,0,0⟩,⟨0,0,0,0⟩,⟨0,0,0,0⟩,⟨0,0,0,0⟩],0,0⟩:Heap)
def hC8:Heap:=(⟨⟨32,8⟩,((Lc 256 0).set 0 25).set 1 4096,[⟨1,0,2,0⟩,⟨0,0,0,0⟩,⟨0,0,0,0⟩,⟨0,0,0,0⟩,⟨0,0,0,0⟩,⟨0,0,0,0⟩,⟨0,0,0,0⟩,⟨0,0,0,0⟩],0,0⟩:Heap)
def Zcr:Z05 []=⟨hA8,[],[]⟩:=by kernel_rfl
def Zl0:(⟨hA8,[],[]⟩:WorldM).put ⟨2,1,0⟩=⟨hB8,[4096],[]⟩:=by kernel_rfl
def ZnB:Z0p hB8 4096 0 4096=(hC8,0):=by kernel_rfl
def ZfA:Z0y hC8 [4096]=([4096],0):=by kernel_rfl
def ZlQ:[4096].map (Z2D hC8 [4096])=[⟨⟨2,1,0⟩,[1]⟩]:=by kernel_rfl
def ZlU:[4096].map (Z1G [4096])=[0]:=by kernel_rfl
def Zjq:WOk hB8.W:=by unfold WOk;decide+kernel
def ZjG:WOk hC8.W:=by unfold WOk;decide+kernel
def ZjN:GP 15 [.d (.sl 0 [])] Le (⟨(⟨⟨32,8⟩,Lc 256 0,Lc 8 ⟨0,0,0,0⟩,0,-1⟩:Heap),[],[]⟩:WorldM).av []:=by
 have k:=Zbz [] pq;rw[Zcr]at k;intro w Im vs hIm hsz h;refine k w Im vs hIm hsz λi x v hx hv=>?_;rcases i with _ | i
 .cases hx;exact ZaZ 1 (h 0 _ v rfl hv)
 .simp at hx
def Zma:GP 58 [.ag [int 32,int 8,.d (.sl 1 ((Lc 256 0).map wdv)),.d (.sl 4 ((Lc 8 (⟨0,0,0,0⟩:Page)).map Page.dv)),int 0,int (-1),.d (.sl 0 []),.d (.sl 0 [])],.ag [int 2,int 1,.d (.sc (.int .u32 0))]] Le (⟨(⟨⟨32,8⟩,(Lc 256 0).set 0 25,[⟨1,0,2,0⟩,⟨0,0,0,0⟩,⟨0,0,0,0⟩,⟨0,0,0,0⟩,⟨0,0,0,0⟩,⟨0,0,0,0⟩,⟨0,0,0,0⟩,⟨0,0,0,0⟩],0,0⟩:Heap),[4096],[]⟩:WorldM).av []:=by
 have hm:=Zf7 [];rw[Zcr]at hm;have k:=Z63 ⟨hA8,[],[]⟩ ⟨2,1,0⟩ (hm.wm dd) dd;rw[Zl0]at k;intro w Im vs hIm hsz h;refine k w Im vs hIm hsz λi x v hx hv=>?_;rcases i with _ | _ | i
 .cases hx;obtain⟨cs,rfl,h2,h3,h4⟩:=Z37 (h 0 _ v rfl hv);refine .ag _ _ h2 h3 (λi a u ha hu=>?_);rcases i with _ | _ | _ | _ | _ | _ | _ | _ | i
  .cases ha;exact h4 0 _ u rfl hu
  .cases ha;exact h4 1 _ u rfl hu
  .cases ha;exact h4 2 _ u rfl hu
  .cases ha;exact h4 3 _ u rfl hu
  .cases ha;exact h4 4 _ u rfl hu
  .cases ha;exact h4 5 _ u rfl hu
  .cases ha;exact ZaZ 1 (h4 6 _ u rfl hu)
  .cases ha;exact ZaZ 1 (h4 7 _ u rfl hu)
  .cases (show(none:Option AV)=some a from ha)
 .cases hx;exact h 1 _ v rfl hv
 .simp at hx
def ZoH:GP 59 [(⟨⟨32,8⟩,(Lc 256 0).set 0 25,[⟨1,0,2,0⟩,⟨0,0,0,0⟩,⟨0,0,0,0⟩,⟨0,0,0,0⟩,⟨0,0,0,0⟩,⟨0,0,0,0⟩,⟨0,0,0,0⟩,⟨0,0,0,0⟩],0,0⟩:Heap).av,u64 4096,int 0,u64 4096] Le (.tu [(⟨⟨32,8⟩,((Lc 256 0).set 0 25).set 1 4096,[⟨1,0,2,0⟩,⟨0,0,0,0⟩,⟨0,0,0,0⟩,⟨0,0,0,0⟩,⟨0,0,0,0⟩,⟨0,0,0,0⟩,⟨0,0,0,0⟩,⟨0,0,0,0⟩],0,0⟩:Heap).av,int 0]) []:=by
 have k:=Z4y hB8 4096 0 4096 Zjq dd;rw[ZnB]at k;exact k
def ofC8:GP 20 [(⟨⟨32,8⟩,((Lc 256 0).set 0 25).set 1 4096,[⟨1,0,2,0⟩,⟨0,0,0,0⟩,⟨0,0,0,0⟩,⟨0,0,0,0⟩,⟨0,0,0,0⟩,⟨0,0,0,0⟩,⟨0,0,0,0⟩,⟨0,0,0,0⟩],0,0⟩:Heap).av,.d (.sl 1 ([4096].map wdv))] Le (.tu [.ag [.d (.sl 1 ([0].map idv)),.d (.sl 4 ([(⟨⟨2,1,0⟩,[1]⟩:NodeG)].map NodeG.dv))],int 0]) []:=by
 have k:=ZcI hC8 [4096] ZjG dd (by intro x hx;rw[Lr.1 hx];decide) (by rw[ZfA]);rw[ZfA]at k;simp only at k;rw[ZlQ,ZlU]at k;exact k
def ZcT:GP 19 [] Lb (bool Lb) []:=by
 exact gF [] func19 [] (Fh 20 [.el (wdv ((WorldM.mk (Heap.mk (Conf.mk 32 8) ((Lc 256 0).set 0 25) [Page.mk 1 0 2 0,Page.mk 0 0 0 0,Page.mk 0 0 0 0,Page.mk 0 0 0 0,Page.mk 0 0 0 0,Page.mk 0 0 0 0,Page.mk 0 0 0 0,Page.mk 0 0 0 0] 0 0) [4096] []).G.getD 0 M))] (Fh 24 [.el (wdv ((WorldM.mk (Heap.mk (Conf.mk 32 8) ((Lc 256 0).set 0 25) [Page.mk 1 0 2 0,Page.mk 0 0 0 0,Page.mk 0 0 0 0,Page.mk 0 0 0 0,Page.mk 0 0 0 0,Page.mk 0 0 0 0,Page.mk 0 0 0 0,Page.mk 0 0 0 0] 0 0) [4096] []).G.getD 0 M))] (Fh 4 [.gh 3 1,.int 0,.gh 54 4,.int 1] (Fh 47 [.el (NodeG.mk (Header.mk 2 1 0) [1]).dv] (Fh 56 [.el (NodeG.mk (Header.mk 2 1 0) [1]).dv] (Fh 59 [.el (wdv ((NodeG.mk (Header.mk 2 1 0) [1]).fs.getD 0 M))] (Fh 72 [.el (idv 0)] (Fc 6 (@ZjN) (Fc 10 (@Zma) (Fa (by simp[*]:(0:Int)<=0/\(Ld wdv (WorldM.mk (Heap.mk (Conf.mk 32 8) ((Lc 256 0).set 0 25) [Page.mk 1 0 2 0,Page.mk 0 0 0 0,Page.mk 0 0 0 0,Page.mk 0 0 0 0,Page.mk 0 0 0 0,Page.mk 0 0 0 0,Page.mk 0 0 0 0,Page.mk 0 0 0 0] 0 0) [4096] []).G)[Lj 0]? = some (wdv ((WorldM.mk (Heap.mk (Conf.mk 32 8) ((Lc 256 0).set 0 25) [Page.mk 1 0 2 0,Page.mk 0 0 0 0,Page.mk 0 0 0 0,Page.mk 0 0 0 0,Page.mk 0 0 0 0,Page.mk 0 0 0 0,Page.mk 0 0 0 0,Page.mk 0 0 0 0] 0 0) [4096] []).G.getD 0 M))) (Fa (by simp[*]:(0:Int)<=0/\(Ld wdv (WorldM.mk (Heap.mk (Conf.mk 32 8) ((Lc 256 0).set 0 25) [Page.mk 1 0 2 0,Page.mk 0 0 0 0,Page.mk 0 0 0 0,Page.mk 0 0 0 0,Page.mk 0 0 0 0,Page.mk 0 0 0 0,Page.mk 0 0 0 0,Page.mk 0 0 0 0] 0 0) [4096] []).G)[Lj 0]? = some (wdv ((WorldM.mk (Heap.mk (Conf.mk 32 8) ((Lc 256 0).set 0 25) [Page.mk 1 0 2 0,Page.mk 0 0 0 0,Page.mk 0 0 0 0,Page.mk 0 0 0 0,Page.mk 0 0 0 0,Page.mk 0 0 0 0,Page.mk 0 0 0 0,Page.mk 0 0 0 0] 0 0) [4096] []).G.getD 0 M))) (Fc 26 (@ZoH) (Fc 33 (@ofC8) (Fa (by intro hg;(try simp only[bs]at hg);simp[*]:((0:Int)==0&&(↑(Ld NodeG.dv [NodeG.mk (Header.mk 2 1 0) [1]]).length:Int)==1)=Lb->(0:Int)<=0/\(Ld NodeG.dv [NodeG.mk (Header.mk 2 1 0) [1]])[Lj 0]? = some (NodeG.mk (Header.mk 2 1 0) [1]).dv) (Fa (by intro hg;(try simp only[bs]at hg);simp[*]:((0:Int)==0&&(↑(Ld NodeG.dv [NodeG.mk (Header.mk 2 1 0) [1]]).length:Int)==1&&(↑(Ld wdv (NodeG.mk (Header.mk 2 1 0) [1]).fs).length:Int)==1)=Lb->(0:Int)<=0/\(Ld NodeG.dv [NodeG.mk (Header.mk 2 1 0) [1]])[Lj 0]? = some (NodeG.mk (Header.mk 2 1 0) [1]).dv) (Fa (by intro hg;(try simp only[bs]at hg);simp[*]:((0:Int)==0&&(↑(Ld NodeG.dv [NodeG.mk (Header.mk 2 1 0) [1]]).length:Int)==1&&(↑(Ld wdv (NodeG.mk (Header.mk 2 1 0) [1]).fs).length:Int)==1)=Lb->(0:Int)<=0/\(Ld wdv (NodeG.mk (Header.mk 2 1 0) [1]).fs)[Lj 0]? = some (wdv ((NodeG.mk (Header.mk 2 1 0) [1]).fs.getD 0 M))) (Fa (by intro hg;(try simp only[bs]at hg);simp[*]:((0:Int)==0&&(↑(Ld NodeG.dv [NodeG.mk (Header.mk 2 1 0) [1]]).length:Int)==1&&(↑(Ld wdv (NodeG.mk (Header.mk 2 1 0) [1]).fs).length:Int)==1&&(NodeG.mk (Header.mk 2 1 0) [1]).fs.getD 0 M==1&&(↑(Ld idv [0]).length:Int)==1)=Lb->(0:Int)<=0/\(Ld idv [0])[Lj 0]? = some (idv 0)) Fz)))))))))))))))))
def ZlE(ns:List NodeG):Prop:=ns.length<=16384/\∀ n∈ns,(0<=n.hd.map/\n.hd.map<=4294967295)/\n.fs.length<=1048576
structure WZ where
 w:WorldM
 z:Nat
instance:Inhabited WZ:=⟨⟨default,1⟩⟩
def WZ.dv(x:WZ):List DV:=[dint x.w.heap.C.pw,dint x.w.heap.C.pg,.sl 1 (x.w.heap.W.map wdv),.sl 4 (x.w.heap.P.map Page.dv),dint x.w.heap.S,dint x.w.heap.B,.sl 1 (x.w.G.map wdv),.sl x.z (x.w.E.map wdv)]
def Zl3{h:Heap}{roots l:List Int}(O:OrdL h roots l)(hw:WOk h.W):ZlE (l.map (Z2D h l)):=by
 refine⟨by rw[Lk];exact O.len,λn hn=>?_⟩;obtain⟨a,ha,rfl⟩:=Lo.1 hn;have f:=Z4E O.p (O.el a ha);refine⟨Z3l hw a, ?_⟩;show(numL l (fldG h a) (Z02 (atH h a).1) (Z02 (atH h a).1).length).length<=1048576;rw[ZaM];omega
section
variable (h:Heap) (roots:List Int) (hw:WOk h.W) (hl:roots.length<=1000) (hr:ULe roots)
include hw hl hr
theorem Z51:GP 20 [h.av,Z01 roots] Le (.tu [.ag [Z0m (ofF h roots).1.roots,.d (.sl 4 ((ofF h roots).1.nodes.map NodeG.dv))],int (ofF h roots).2]) []:=by
 unfold ofF;by_cases e:(Z0y h roots).2=0
 .rw[if_pos e];exact ZcI h roots hw hl hr e
 .rw[if_neg e];exact ZfP h roots hw hl hr e
theorem Zlr:ZlE (ofF h roots).1.nodes/\(ofF h roots).1.roots.length<=1000:=by
 unfold ofF;by_cases e:(Z0y h roots).2=0
 .rw[if_pos e];exact⟨Zl3 (Z7L _ _ hw hl hr e) hw,by simpa[Zly]using hl⟩
 .rw[if_neg e];exact⟨⟨LH _,by simp⟩,LH _⟩
end
def Z9G(a:GraphG):Z1y a a=Lb:=by simp[Z1y]
def Zg3(a b:GraphG):Z1y a b=Z1y b a:=by
 unfold Z1y;rw[show La (a.roots=b.roots)=La (b.roots=a.roots)from decide_eq_decide.2 eq_comm,show La (a.nodes=b.nodes)=La (b.nodes=a.nodes)from decide_eq_decide.2 eq_comm]
def ZhN{a:GraphG}{k:Nat}{n:NodeG}(hk:k<a.nodes.length)(hn:a.nodes.getD k M≠n):Z1y a ⟨a.roots,a.nodes.set k n⟩=Le:=by
 unfold Z1y;rw[Bool.and_eq_false_iff];refine .inr (decide_eq_false λq=>hn ?_);simp only at q;rw[q,Li,List.getElem?_set_self hk];rfl
def incG{h:Heap}{roots:List Int}(hw:WOk h.W)(hl:roots.length<=1000)(hr:ULe roots){k:Nat}(hk:k<(ofF h roots).1.nodes.length) :
  (0<=((ofF h roots).1.nodes.getD k M).hd.length/\((ofF h roots).1.nodes.getD k M).hd.length<=255)/\GphOk (ofF h roots).1/\GphOk ⟨(ofF h roots).1.roots,(ofF h roots).1.nodes.set k ⟨⟨((ofF h roots).1.nodes.getD k M).hd.K,((ofF h roots).1.nodes.getD k M).hd.length+1,((ofF h roots).1.nodes.getD k M).hd.map⟩,((ofF h roots).1.nodes.getD k M).fs⟩⟩ /\
  Z1y (ofF h roots).1 ⟨(ofF h roots).1.roots,(ofF h roots).1.nodes.set k ⟨⟨((ofF h roots).1.nodes.getD k M).hd.K,((ofF h roots).1.nodes.getD k M).hd.length+1,((ofF h roots).1.nodes.getD k M).hd.map⟩,((ofF h roots).1.nodes.getD k M).fs⟩⟩=Le:=by
 obtain⟨n1,n2⟩:=Zlr _ _ hw hl hr;have n3:=n1.1;have mem:(ofF h roots).1.nodes.getD k M∈(ofF h roots).1.nodes:=by rw[Li,Lq hk];exact LB hk
 have f:∀ n∈(ofF h roots).1.nodes,n.fs.length<=281474976710656:=λn hn=>by have:=(n1.2 n hn).2;omega
 refine⟨?_,⟨by omega,by omega,f⟩,⟨by simp only;omega,by simp only[List.length_set];omega,λn hn=>?_⟩,ZhN hk λq=>?_⟩
 .unfold ofF at mem ⊢;by_cases e:(Z0y h roots).2=0
  .rw[if_pos e]at mem ⊢;obtain⟨a,ha,q⟩:=Lo.1 mem;rw[<- q];have O:=Z7L h roots hw hl hr e;have:=Z4E O.p (O.el a ha);exact⟨this.2.2.1,this.2.2.2.1⟩
  .rw[if_neg e]at mem;simp at mem
 .rcases LF hn with hn | rfl
  .exact f n hn
  .exact f ((ofF h roots).1.nodes.getD k M) mem
 .have:=congrArg (λn:NodeG=>n.hd.length) q;simp only at this;omega
def ZmK(tape odd:List Int)(a b:GraphG)(h1:tape.length<=140737488355328)(h2:odd.length<=140737488355328)(ha:GphOk a)(hb:GphOk b):GP 4 [Z0m tape,Z0m odd,.ag [Z0m a.roots,.d (.sl 4 (a.nodes.map NodeG.dv))],.ag [Z0m b.roots,.d (.sl 4 (b.nodes.map NodeG.dv))]] Lb (bool Lb) []:=by
 by_cases hl:a.nodes.length<=50/\b.nodes.length<=50/\a.roots.length<=50/\b.roots.length<=50;rotate_left
 .have d1:=ha.r;have d2:=ha.n;have d3:=hb.r;have d4:=hb.n;exact gF [] func4 [] (Fl 19 NodeG.dv a.nodes (FlG 24 (!decide (50<(a.nodes.length:Int))) NodeG.dv b.nodes (FlG 30 (!(La (50<(a.nodes.length:Int))||La (50<(b.nodes.length:Int)))) idv a.roots (FlG 36 (!(La (50<(a.nodes.length:Int))||La (50<(b.nodes.length:Int))||La (50<(a.roots.length:Int)))) idv b.roots (Ftb 38 (La (50<(a.nodes.length:Int))||La (50<(b.nodes.length:Int))||La (50<(a.roots.length:Int))||La (50<(b.roots.length:Int))) Fz)))))
 have hm:=Zf7 tape;have hw:=hm.W;have sl:=hm.sl;have su:=hm.G;have ht:TOk ⟨odd,0⟩:=by simp[TOk];omega
 obtain⟨T,g,g1,g2⟩:=Zkt tape;have e:=g.order g1;obtain⟨n1,n2⟩:=Zlr _ _ hw sl su;have ex:(ofF (Z05 tape).heap (Z05 tape).G).2=0:=by rw[ofF,if_pos e]
 have n3:=n1.1;have gx:GphOk (ofF (Z05 tape).heap (Z05 tape).G).1:=⟨by omega,by omega,λn hn=>by have:=(n1.2 n hn).2;omega⟩
 have sc:=Zg3 b a;have sa:=Z9G a;have sx:=Z9G (ofF (Z05 tape).heap (Z05 tape).G).1;by_cases hz:(ofF (Z05 tape).heap (Z05 tape).G).1.nodes.length=0
 .exact gF [] func4 [] (Fh 10 [.gh 3 1,.int 0,.gh 54 4,.int 1] (Fh 12 [.gh 3 1,.int 0,.gh 54 4,.int 1] (Fl 19 NodeG.dv a.nodes (FlG 24 (!decide (50<(a.nodes.length:Int))) NodeG.dv b.nodes (FlG 30 (!(La (50<(a.nodes.length:Int))||La (50<(b.nodes.length:Int)))) idv a.roots (FlG 36 (!(La (50<(a.nodes.length:Int))||La (50<(b.nodes.length:Int))||La (50<(a.roots.length:Int)))) idv b.roots (Ffb 38 (La (50<(a.nodes.length:Int))||La (50<(b.nodes.length:Int))||La (50<(a.roots.length:Int))||La (50<(b.roots.length:Int))) (Fc 40 (@Zbz tape aa) (Fc 46 (@Z51 ((Z05 tape).heap) ((Z05 tape).G) aa aa aa) (Fc 54 (@Z51 ((Z05 tape).heap) ((Z05 tape).G) aa aa aa) (FcG 66 (!((ofF (Z05 tape).heap (Z05 tape).G).2 != 0||(ofF (Z05 tape).heap (Z05 tape).G).2 != 0)) (λhg=>by(try simp only[bs]at hg);exact @graphSame ((ofF (Z05 tape).heap (Z05 tape).G).1) ((ofF (Z05 tape).heap (Z05 tape).G).1) aa aa) (FcG 72 (!((ofF (Z05 tape).heap (Z05 tape).G).2 != 0||(ofF (Z05 tape).heap (Z05 tape).G).2 != 0||!Z1y (ofF (Z05 tape).heap (Z05 tape).G).1 (ofF (Z05 tape).heap (Z05 tape).G).1)) (λhg=>by(try simp only[bs]at hg);exact @graphSame a a aa aa) (FcG 78 (!((ofF (Z05 tape).heap (Z05 tape).G).2 != 0||(ofF (Z05 tape).heap (Z05 tape).G).2 != 0||!Z1y (ofF (Z05 tape).heap (Z05 tape).G).1 (ofF (Z05 tape).heap (Z05 tape).G).1||!Z1y a a)) (λhg=>by(try simp only[bs]at hg);exact @graphSame a b aa aa) (FcG 81 (!((ofF (Z05 tape).heap (Z05 tape).G).2 != 0||(ofF (Z05 tape).heap (Z05 tape).G).2 != 0||!Z1y (ofF (Z05 tape).heap (Z05 tape).G).1 (ofF (Z05 tape).heap (Z05 tape).G).1||!Z1y a a)) (λhg=>by(try simp only[bs]at hg);exact @graphSame b a aa aa) (Ffs 83 ((ofF (Z05 tape).heap (Z05 tape).G).2 != 0||(ofF (Z05 tape).heap (Z05 tape).G).2 != 0||!Z1y (ofF (Z05 tape).heap (Z05 tape).G).1 (ofF (Z05 tape).heap (Z05 tape).G).1||!Z1y a a||!Z1y a b==Z1y b a) (Fl 86 NodeG.dv (ofF (Z05 tape).heap (Z05 tape).G).1.nodes (Ftb 87 ((↑(ofF (Z05 tape).heap (Z05 tape).G).1.nodes.length:Int)==0) (Fc 88 (@ZcT) Fz))))))))))))))))))
 .have nr:=Z0P ⟨odd,0⟩ (n:=((ofF (Z05 tape).heap (Z05 tape).G).1.nodes.length:Int)) oq;obtain⟨i1,_,i3,i4⟩:=incG hw sl su (k:=((⟨odd,0⟩:Tape).next ((ofF (Z05 tape).heap (Z05 tape).G).1.nodes.length:Int)).toNat) oq;exact gF [] func4 (fO 33) (Fh 10 [.gh 3 1,.int 0,.gh 54 4,.int 1] (Fh 12 [.gh 3 1,.int 0,.gh 54 4,.int 1] (Fh 16 [.gh 3 1,.int 0,.gh 54 4,.int 1] (Fl 19 NodeG.dv a.nodes (FlG 24 (!decide (50<(a.nodes.length:Int))) NodeG.dv b.nodes (FlG 30 (!(La (50<(a.nodes.length:Int))||La (50<(b.nodes.length:Int)))) idv a.roots (FlG 36 (!(La (50<(a.nodes.length:Int))||La (50<(b.nodes.length:Int))||La (50<(a.roots.length:Int)))) idv b.roots (Ffb 38 (La (50<(a.nodes.length:Int))||La (50<(b.nodes.length:Int))||La (50<(a.roots.length:Int))||La (50<(b.roots.length:Int))) (Fc 40 (@Zbz tape aa) (Fc 46 (@Z51 ((Z05 tape).heap) ((Z05 tape).G) aa aa aa) (Fc 54 (@Z51 ((Z05 tape).heap) ((Z05 tape).G) aa aa aa) (FcG 66 (!((ofF (Z05 tape).heap (Z05 tape).G).2 != 0||(ofF (Z05 tape).heap (Z05 tape).G).2 != 0)) (λhg=>by(try simp only[bs]at hg);exact @graphSame ((ofF (Z05 tape).heap (Z05 tape).G).1) ((ofF (Z05 tape).heap (Z05 tape).G).1) aa aa) (FcG 72 (!((ofF (Z05 tape).heap (Z05 tape).G).2 != 0||(ofF (Z05 tape).heap (Z05 tape).G).2 != 0||!Z1y (ofF (Z05 tape).heap (Z05 tape).G).1 (ofF (Z05 tape).heap (Z05 tape).G).1)) (λhg=>by(try simp only[bs]at hg);exact @graphSame a a aa aa) (FcG 78 (!((ofF (Z05 tape).heap (Z05 tape).G).2 != 0||(ofF (Z05 tape).heap (Z05 tape).G).2 != 0||!Z1y (ofF (Z05 tape).heap (Z05 tape).G).1 (ofF (Z05 tape).heap (Z05 tape).G).1||!Z1y a a)) (λhg=>by(try simp only[bs]at hg);exact @graphSame a b aa aa) (FcG 81 (!((ofF (Z05 tape).heap (Z05 tape).G).2 != 0||(ofF (Z05 tape).heap (Z05 tape).G).2 != 0||!Z1y (ofF (Z05 tape).heap (Z05 tape).G).1 (ofF (Z05 tape).heap (Z05 tape).G).1||!Z1y a a)) (λhg=>by(try simp only[bs]at hg);exact @graphSame b a aa aa) (Ffs 83 ((ofF (Z05 tape).heap (Z05 tape).G).2 != 0||(ofF (Z05 tape).heap (Z05 tape).G).2 != 0||!Z1y (ofF (Z05 tape).heap (Z05 tape).G).1 (ofF (Z05 tape).heap (Z05 tape).G).1||!Z1y a a||!Z1y a b==Z1y b a) (Fl 86 NodeG.dv (ofF (Z05 tape).heap (Z05 tape).G).1.nodes (Ffb 87 ((↑(ofF (Z05 tape).heap (Z05 tape).G).1.nodes.length:Int)==0) (Fl 95 NodeG.dv (ofF (Z05 tape).heap (Z05 tape).G).1.nodes (Fbr 96 [64091] (@Z0x (Tape.mk odd 0) ((↑(ofF (Z05 tape).heap (Z05 tape).G).1.nodes.length:Int)) aa oq oq) (FA 99 102 NodeG.dv (ofF (Z05 tape).heap (Z05 tape).G).1.nodes (Fmq 110 NodeG.dv ((ofF (Z05 tape).heap (Z05 tape).G).1.nodes) ((Tape.mk odd 0).next (↑(ofF (Z05 tape).heap (Z05 tape).G).1.nodes.length:Int)) (Fi 111 (((ofF (Z05 tape).heap (Z05 tape).G).1.nodes.getD ((Tape.mk odd 0).next (↑(ofF (Z05 tape).heap (Z05 tape).G).1.nodes.length:Int)).toNat M).hd.length+1) (Fm0q NodeG.dv ((ofF (Z05 tape).heap (Z05 tape).G).1.nodes) ((Tape.mk odd 0).next (↑(ofF (Z05 tape).heap (Z05 tape).G).1.nodes.length:Int)) (FS 10114 NodeG.dv ((ofF (Z05 tape).heap (Z05 tape).G).1.nodes) (((Tape.mk odd 0).next (↑(ofF (Z05 tape).heap (Z05 tape).G).1.nodes.length:Int)).toNat) (NodeG.mk (Header.mk ((ofF (Z05 tape).heap (Z05 tape).G).1.nodes.getD ((Tape.mk odd 0).next (↑(ofF (Z05 tape).heap (Z05 tape).G).1.nodes.length:Int)).toNat M).hd.K (((ofF (Z05 tape).heap (Z05 tape).G).1.nodes.getD ((Tape.mk odd 0).next (↑(ofF (Z05 tape).heap (Z05 tape).G).1.nodes.length:Int)).toNat M).hd.length+1) ((ofF (Z05 tape).heap (Z05 tape).G).1.nodes.getD ((Tape.mk odd 0).next (↑(ofF (Z05 tape).heap (Z05 tape).G).1.nodes.length:Int)).toNat M).hd.map) ((ofF (Z05 tape).heap (Z05 tape).G).1.nodes.getD ((Tape.mk odd 0).next (↑(ofF (Z05 tape).heap (Z05 tape).G).1.nodes.length:Int)).toNat M).fs) (((ofF (Z05 tape).heap (Z05 tape).G).1.nodes.getD ((Tape.mk odd 0).next (↑(ofF (Z05 tape).heap (Z05 tape).G).1.nodes.length:Int)).toNat M).dv) (Fc 115 (@ZcT) (FcG 119 Lb (λhg=>by(try simp only[bs]at hg);exact @graphSame ((ofF (Z05 tape).heap (Z05 tape).G).1) (GraphG.mk (ofF (Z05 tape).heap (Z05 tape).G).1.roots ((ofF (Z05 tape).heap (Z05 tape).G).1.nodes.set ((Tape.mk odd 0).next (↑(ofF (Z05 tape).heap (Z05 tape).G).1.nodes.length:Int)).toNat (NodeG.mk (Header.mk ((ofF (Z05 tape).heap (Z05 tape).G).1.nodes.getD ((Tape.mk odd 0).next (↑(ofF (Z05 tape).heap (Z05 tape).G).1.nodes.length:Int)).toNat M).hd.K (((ofF (Z05 tape).heap (Z05 tape).G).1.nodes.getD ((Tape.mk odd 0).next (↑(ofF (Z05 tape).heap (Z05 tape).G).1.nodes.length:Int)).toNat M).hd.length+1) ((ofF (Z05 tape).heap (Z05 tape).G).1.nodes.getD ((Tape.mk odd 0).next (↑(ofF (Z05 tape).heap (Z05 tape).G).1.nodes.length:Int)).toNat M).hd.map) ((ofF (Z05 tape).heap (Z05 tape).G).1.nodes.getD ((Tape.mk odd 0).next (↑(ofF (Z05 tape).heap (Z05 tape).G).1.nodes.length:Int)).toNat M).fs))) aa aa) (Fb ((!Z1y (ofF (Z05 tape).heap (Z05 tape).G).1 (GraphG.mk (ofF (Z05 tape).heap (Z05 tape).G).1.roots ((ofF (Z05 tape).heap (Z05 tape).G).1.nodes.set ((Tape.mk odd 0).next (↑(ofF (Z05 tape).heap (Z05 tape).G).1.nodes.length:Int)).toNat (NodeG.mk (Header.mk ((ofF (Z05 tape).heap (Z05 tape).G).1.nodes.getD ((Tape.mk odd 0).next (↑(ofF (Z05 tape).heap (Z05 tape).G).1.nodes.length:Int)).toNat M).hd.K (((ofF (Z05 tape).heap (Z05 tape).G).1.nodes.getD ((Tape.mk odd 0).next (↑(ofF (Z05 tape).heap (Z05 tape).G).1.nodes.length:Int)).toNat M).hd.length+1) ((ofF (Z05 tape).heap (Z05 tape).G).1.nodes.getD ((Tape.mk odd 0).next (↑(ofF (Z05 tape).heap (Z05 tape).G).1.nodes.length:Int)).toNat M).hd.map) ((ofF (Z05 tape).heap (Z05 tape).G).1.nodes.getD ((Tape.mk odd 0).next (↑(ofF (Z05 tape).heap (Z05 tape).G).1.nodes.length:Int)).toNat M).fs))))=Lb) Fz))))))))))))))))))))))))))))
end Go.Proofs.YtgedmeaemofdkaaGreat
namespace Go.Proofs.YtgedmeaemofdkaaGreat
open Go.Sx Go.RowKit
def Zko{n:Nat}{l:List DV}(h:shp prog (n+3) 54 l):∃ x:NodeG,l=x.dv/\x.fs.length<=281474976710656:=by
 have e:shp prog (n+3) 54 l=(∃ a b,l=a++b/\shp prog (n+2) 52 a/\∃ a1 b1,b=a1++b1/\shp prog (n+2) 25 a1/\b1=[]):=by kernel_rfl
 rw[e]at h;obtain⟨a,b,rfl,k0,a1,b1,rfl,k1,rfl⟩:=h;obtain⟨hd,rfl,_⟩:=ZfO k0;obtain⟨fs,rfl,hf,_⟩:=ZiR k1;exact⟨⟨hd,fs⟩,rfl,by simp only;omega⟩
def Ziv(x:GraphG):List DV:=[.sl 1 (x.roots.map idv),.sl 4 (x.nodes.map NodeG.dv)]
def ZbH{n:Nat}{l:List DV}(h:shp prog (n+5) 42 l):∃ x:GraphG,l=Ziv x/\GphOk x:=by
 have e:shp prog (n+5) 42 l=(∃ a b,l=a++b/\shp prog (n+4) 22 a/\∃ a1 b1,b=a1++b1/\(∃ els:List (List DV),a1=[.sl 4 els]/\els.length<=140737488355328/\∀ x∈els,shp prog (n+3) 54 x)/\b1=[]):=by kernel_rfl
 rw[e]at h;obtain⟨a,b,rfl,k0,a1,b1,rfl,⟨els,rfl,k1,k2⟩,rfl⟩:=h;obtain⟨rs,rfl,hr⟩:=Zb4 (n:=n+2) k0;obtain⟨ns,rfl,hn⟩:=Z5A (f:=NodeG.dv) (p:=λx=>x.fs.length<=281474976710656) λx hx=>Zko (h:=k2 x hx);exact⟨⟨rs,ns⟩,rfl,⟨by simp only;omega,by simp only;rw[Lk]at k1;omega,hn⟩⟩
end Go.Proofs.YtgedmeaemofdkaaGreat
namespace Go.Proofs.YtgedmeaemofdkaaGreat
open Go.Sx Go.RowKit
def Z7e(os:Os)(started:os.Started)(H:Type)(enc:TypeId×Value->H) :
  ReturnsInHanded {} Tryz.checked os 4 .any (Rows.graphSameSpec.pre6 enc prog f4 Rows.graphSameRow.domain Le) (Rows.graphSameSpec.post enc prog f4 Le Lb Le Le):=by
 refine ZbN (C:=Tryz.checked) (tb:=4) 5 own0 started kr func4
  (ChangeSpec.witness6 (enc:=enc) (C:=Tryz.checked) Le ⟨#[],#[.slice none 0 0,.slice none 0 0,.agg #[.slice none 0 0,.slice none 0 0],.agg #[.slice none 0 0,.slice none 0 0]],[]⟩ 8 kr kr kr kr)
  Zl7 kr kr kr kr rfl (λds hd=>?_) (λls hl h=>?_)
 .match ds,hd with
  | [a0,a1,a2,a3],_=>rfl
 .match ls,hl with
  | [l0,l1,l2,l3],_ =>
   obtain⟨tape,rfl,htape⟩:=Zb4 (n:=3) (h 0 22 l0 kr rfl);obtain⟨odd,rfl,hodd⟩:=Zb4 (n:=3) (h 1 22 l1 kr rfl);obtain⟨a,rfl,ha⟩:=ZbH (n:=0) (h 2 42 l2 kr rfl);obtain⟨b,rfl,hb⟩:=ZbH (n:=0) (h 3 42 l3 kr rfl);have e:Zb3 prog Tryz.f4.params.toList [[.sl 1 (tape.map idv)],[.sl 1 (odd.map idv)],Ziv a,Ziv b]=[Z0m tape,Z0m odd,.ag [Z0m a.roots,.d (.sl 4 (a.nodes.map NodeG.dv))],.ag [Z0m b.roots,.d (.sl 4 (b.nodes.map NodeG.dv))]]:=by kernel_rfl
   exact⟨Lb,e▸ZmK tape odd a b htape hodd ha hb⟩
def ZbK:(Rows.graphSameRow.inPlace==Tryz.prog.inPlace 4)=Lb:=by kernel_rfl
def Zcv:(Rows.graphSameRow.unfollowed==Tryz.prog.unfollowed 4)=Lb:=by kernel_rfl
def ZcS:(Rows.graphSameRow.recurses==Tryz.prog.recurses 4)=Lb:=by kernel_rfl
def Zcy:(Rows.graphSameRow.named==Tryz.prog.varsNamed 4)=Lb:=by kernel_rfl
def Z7g:joinedFacts prog 4 f4 Rows.graphSameSpec Rows.graphSameRow=Lb:=by
 unfold joinedFacts;rw[ZbK,Zcv,ZcS,Zcy];kernel_rfl
theorem graphSame_holds:Rows.GraphSameSaid :=
 OpenClaim.holds_of_wide 4 f4 rfl rfl rfl rfl rfl rfl rfl ⟨rfl,rfl,rfl,rfl,rfl⟩ rfl rfl rfl rfl rfl kr func4 Z7g
  (of_decide_eq_true kr) (by unfold Func.isWrapper;first | (rw[if_pos (by decide+kernel)];kernel_rfl) | (rw[if_neg (by decide+kernel)];exact⟨rfl,rfl⟩))
  (λos started H enc _=>Z7e os started H enc)
end Go.Proofs.YtgedmeaemofdkaaGreat
