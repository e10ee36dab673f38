/-
 The statement ScanOrder: part 15.
 Conditions: none.
-/
import Derived.Test.YtdhchmlalchgeaaGreatN14
set_option maxRecDepth 100000
set_option maxHeartbeats 2000000
set_option linter.all false
open Inhabited renaming default->M
open Bool renaming true->O,false->La
open List renaming map->Lb,mem_append_right->Lc,mem_append_left->Le,range->Lf,getD_eq_getElem?_getD->Lg,mem_range->Lh,getElem?_eq_getElem->Ll,length_append->Lm,mem_singleton->Ln,find?_eq_none->Lp,mem_append->Lq,length_map->Lv,find?_range_eq_some->Lz,map_cons->LA,sum_cons->LB,getElem_of_mem->LG,length_singleton->LH,nodup_nil->LI,replicate->LL,getElem?_append_left->LS,getElem?_append_right->LU,map_append->LV,map_nil->LW,nodup_append->LY,range_succ->LZ,set_eq_of_length_le->L0,sum_append->L1,sum_nil->L2
open Nat renaming le_refl->Ld,not_lt_zero->Lr,le_trans->L3,sub_self->L4,zero_le->L5
open Or renaming inr->Li,inl->Lj
open Option renaming none->Lk,getD_some->Ly
open Int renaming le_refl->Lo,add_zero->Lt,toNat_natCast->Lu,add_assoc->Lx,emod_lt_of_pos->LC,emod_nonneg->LD,mul_comm->LF,add_mul->LM,ediv_lt_of_lt_mul->LN,ediv_nonneg->LO,mul_ediv_add_emod->LQ,mul_le_mul_of_nonneg_right->LR
open Decidable renaming decide->Ls,not_not->Lw
open Go.Proofs.Tryz
namespace Go.Proofs.YtdhchmlalchgeaaGreat
open Go.Sx
structure CE (h:Heap) (T tq:Nat->List Int) (w:Work) (l4 l5:List Int):Prop where
 g:Gd h T
 k:KI h T tq w
 i:CIv w
 s:w.heap.S=0\/w.heap.S=1
 pt:PT w.heap.C w.heap.P
 ts:∀ x∈w.T,(w.heap.P.getD x.toNat M).S=1-w.heap.S
 sd:SD w
 sc:w.D=w.Q.length
 f3:∀ a,loadA l4 a=loadA w.heap.W a\/∃ x∈w.old,Z6b w x/\x<=a/\a<=x+hlA w.heap.W x/\(loadA l4 a).1=Zak (hlA w.heap.W x) a x
 f4:∀ x∈w.old,Z6b w x->∀ a,x<=a->a<=x+hlA w.heap.W x->(loadA l4 a).1=Zak (hlA w.heap.W x) a x
 n4:l4.length=w.heap.W.length
 n5:l5.length=w.heap.W.length
 fr:∀ (i:Nat) (o:Int),i<h.P.length->0<=o->o<h.C.pw->loadA l5 (bsP h i+o)=if Z2m w.heap.S (w.heap.P.getD i M)then(0,0)else loadA l4 (bsP h i+o)
def tE(T tq:Nat->List Int)(w:Work)(i:Nat):List Int:=if(i:Int)∈w.T then tq i else if(w.heap.P.getD i M).S≠w.heap.S then T i else []
section
variable {h:Heap} {T tq:Nat->List Int} {w:Work} {l4 l5:List Int} (c:CE h T tq w l4 l5)
include c
theorem CE.mem{i:Nat}{x:Int}(hx:x∈tE T tq w i):(i:Int)∈w.T/\x∈tq i\/(i:Int)∉w.T/\(w.heap.P.getD i M).S≠w.heap.S/\x∈T i:=by
 unfold tE at hx;split at hx
 .rename_i q;exact Lj ⟨q,hx⟩
 .rename_i q;split at hx
  .rename_i q2;exact Li ⟨q,q2,hx⟩
  .simp at hx
theorem CE.gone0{i:Nat}(hi:(i:Int)∈w.T):¬ Z2m w.heap.S (w.heap.P.getD i M):=by
 have:=c.ts _ hi;rw[Lu]at this;have:=c.s;unfold Z2m;omega
theorem CE.pgof{i:Nat}{x a:Int}(hx:x∈T i)(h1:x<=a)(h2:a<=x+hlA h.W x):∃ (j:Nat) (o:Int),j<h.P.length/\0<=o/\o<h.C.pw/\a=bsP h j+o/\(w.heap.P.getD j M).K≠0/\(w.heap.P.getD j M).S=(w.heap.P.getD i M).S:=by
 have g:=c.g;have o:=g.on hx;have po:=Z06 g.p;have pg:=c.k.pg i (c.k.nt g hx);have hcc:=c.k.c;have hpl:=c.k.pl;rcases o.2.1 with k | k
 .have pp:=Z0J g.p o.1;exact⟨i,a-bsP h i,o.1,by omega,by omega,by omega,by omega,rfl⟩
 .have hx2:=o.2.2.2.2.2.2 k;have lg:=c.pt.lg i oq oq;rw[pg.2.1,hcc]at lg;have nu:=Z5l lg.1;have h0:0<=(a-bsP h i)/h.C.pw:=LO oq oq;have h3:=LQ (a-bsP h i) h.C.pw;have h4:=LD (a-bsP h i) (b:=h.C.pw) oq;have h5:=LC (a-bsP h i) (b:=h.C.pw) oq;have h6:(a-bsP h i)/h.C.pw<need h.C (h.P.getD i M).U:=LN oq oq;rw[LF]at h3;generalize hm:(a-bsP h i)/h.C.pw=m at *;have hmn:((m.toNat:Nat):Int)=m:=by omega
  refine⟨i+m.toNat,(a-bsP h i)%h.C.pw, ?_,h4,h5, ?_, ?_⟩
  .by_cases q:m.toNat=0
   .omega
   .have:=(lg.2 m.toNat oq oq).1;omega
  .unfold bsP at h3 ⊢;rw[Int.natCast_add,hmn,LM];omega
  .by_cases q:m.toNat=0
   .rw[q,Nat.add_zero];exact⟨by omega,rfl⟩
   .have:=(lg.2 m.toNat oq oq).2;exact⟨by omega,this.2⟩
theorem CE.keptw{i:Nat}{x a:Int}(hx:x∈T i)(hs:(w.heap.P.getD i M).S≠w.heap.S)(h1:x<=a)(h2:a<=x+hlA h.W x):loadA l5 a=loadA l4 a:=by
 obtain⟨j,o,j1,o1,o2,e,k0,k1⟩:=c.pgof hx h1 h2;rw[e,c.fr j o j1 o1 o2,if_neg];unfold Z2m;rw[k1];exact λq=>hs q.2
theorem CE.gonew{i:Nat}{x a:Int}(hx:x∈T i)(hs:(w.heap.P.getD i M).S=w.heap.S)(h1:x<=a)(h2:a<=x+hlA h.W x):(loadA l5 a).1=0:=by
 obtain⟨j,o,j1,o1,o2,e,k0,k1⟩:=c.pgof hx h1 h2;rw[e,c.fr j o j1 o1 o2,if_pos ⟨k0,k1.trans hs⟩]
theorem CE.seen4{x a:Int}(hx:x∈w.Q)(h1:x<=a)(h2:a<=x+hlA w.heap.W x):loadA l4 a=loadA w.heap.W a:=by
 rcases c.f3 a with q | ⟨y,hy,q1,q2,q3,q4⟩
 .exact q
 .exfalso;have hne:x≠y:=λe=>q1.2 (e▸hx);have s1:=c.i.s x (Lc _ hx) y (Le _ hy);have s2:=c.i.s y (Le _ hy) x (Lc _ hx);have r1:=Z0b w.heap.W x;have r2:=Z0b w.heap.W y;rcases Int.lt_or_gt_of_ne hne with q | q
  .have:=s1 q;omega
  .have:=s2 q;omega
theorem CE.takenw{i:Nat}{a:Int}(hi:(i:Int)∈w.T)(h1:bsP h i<=a)(h2:a<bsP h i+h.C.pw):loadA l5 a=loadA l4 a:=by
 have t:=c.k.tk i hi;have:=c.fr i (a-bsP h i) t.1 oq oq;rw[show bsP h i+(a-bsP h i)=a by omega,if_neg (c.gone0 hi)]at this;exact this
theorem CE.seen{x a:Int}(hx:x∈w.Q)(h1:x<=a)(h2:a<=x+hlA w.heap.W x):loadA l5 a=loadA w.heap.W a:=by
 rw[<- c.seen4 hx h1 h2];rcases c.k.q x hx with⟨i,i1,i2,i3,i4⟩ | ⟨i,i1,i2⟩
 .have he:(loadA w.heap.W x).1=(loadA h.W x).1:=by
   rcases c.k.hd i x i2 with q | q
   .exact q
   .exact absurd q.2.2 i4
  rw[(Z1L he).2.1]at h2;exact c.keptw i2 i4 h1 h2
 .have t:=c.k.tk i i1;have m:=Z1J t.2.2.2.2.2.1 i2;exact c.takenw i1 oq oq
theorem CE.where'{x:Int}(hx:x∈w.Q):∃ i,x∈tE T tq w i:=by
 rcases c.k.q x hx with⟨i,i1,i2,i3,i4⟩ | ⟨i,i1,i2⟩
 .exact⟨i,by rw[tE,if_neg i1,if_pos i4];exact i2⟩
 .exact⟨i,by rw[tE,if_pos i1];exact i2⟩
theorem CE.seenK{x:Int}(hx:x∈w.Q):kdA w.heap.W x≠0/\okA w.heap.W x:=by
 rcases c.k.q x hx with⟨i,i1,i2,i3,i4⟩ | ⟨i,i1,i2⟩
 .have he:(loadA w.heap.W x).1=(loadA h.W x).1:=by
   rcases c.k.hd i x i2 with q | q
   .exact q
   .exact absurd q.2.2 i4
  have o:=Z1L he;exact⟨by rw[o.2.2.1];exact i3,o.1 (c.g.on i2).2.2.2.2.2.1⟩
 .have t:=c.k.tk i i1;exact⟨(t.2.2.2.2.2.2 x i2).2.1,(Z1J t.2.2.2.2.2.1 i2).1⟩
theorem CE.kept{i:Nat}{x:Int}(hx:x∈T i)(hn:(i:Int)∉w.T)(hs:(w.heap.P.getD i M).S≠w.heap.S):(loadA w.heap.W x).1=(loadA h.W x).1/\okA l5 x/\hlA l5 x=hlA h.W x/\(x∉w.Q->kdA l5 x=0/\(h.P.getD i M).K=1/\(kdA h.W x≠0->x∈w.old/\Z6b w x)):=by
 have he:(loadA w.heap.W x).1=(loadA h.W x).1:=by
  rcases c.k.hd i x hx with q | q
  .exact q
  .exact absurd q.2.2 hs
 have on:=c.g.on hx;have oh:=Z1L he;have rx:=Z0b h.W x;refine⟨he, ?_⟩;by_cases hq:x∈w.Q
 .have e:=Z1L (congrArg Prod.fst (c.seen hq (Lo _) (by have:=Z0b w.heap.W x;omega)));exact⟨e.1 (oh.1 on.2.2.2.2.2.1),by rw[e.2.1,oh.2.1],λq=>absurd hq q⟩
 .have k1:(h.P.getD i M).K=1:=by
   rcases on.2.1 with q | q
   .exact q
   .have:=c.k.lg i q hs;rw[<- (on.2.2.2.2.2.2 q).1]at this;exact absurd this hq
  have e5:loadA l5 x=loadA l4 x:=c.keptw hx hs (Lo _) oq;by_cases hk:kdA h.W x=0
  .have e4:loadA l4 x=loadA w.heap.W x:=by
    rcases c.f3 x with q | ⟨y,hy,q1,q2,q3,q4⟩
    .exact q
    .exfalso;obtain⟨j,hj,hjk⟩:=(c.k.old y).1 hy;by_cases e:y=x
     .subst e;exact hjk hk
     .have sj:(loadA w.heap.W y).1=(loadA h.W y).1:=by
       rcases c.k.hd j y hj with q | q
       .exact q
       .exfalso;have o2:=q1.1;unfold Z0M at o2;rw[c.k.c,c.g.ofx hj]at o2;simp only[decide_eq_true_eq,Lu]at o2;exact o2.2.2.2.1 q.2.2
      rw[(Z1L sj).2.1]at q3;have:=c.g.sep hj hx oq;omega
   have e:=Z1L (ws:=h.W) (ws':=l5) (a:=x) (by rw[e5,e4,he]);exact⟨e.1 on.2.2.2.2.2.1,e.2.1,λ_=>⟨by rw[e.2.2.1];exact hk,k1,λq=>absurd hk q⟩⟩
  .have ho:x∈w.old:=(c.k.old x).2 ⟨i,hx,hk⟩;have hf:Z6b w x:=by
    refine⟨?_,hq⟩;have pg:=c.k.pg i hn;have pl:=c.k.pl;unfold Z0M;rw[c.k.c,c.g.ofx hx];simp only[decide_eq_true_eq,Lu];exact⟨by omega,by omega,by omega,hs,hn⟩
   have v:=c.f4 x ho hf x (Lo _) (by have:=Z0b w.heap.W x;omega);rw[Zak,if_pos rfl,oh.2.1]at v;rw[<- e5]at v;have d:=Zj7 rx;exact⟨by rw[okA,v,d],by rw[hlA,v,d],λ_=>⟨by rw[kdA,hdA,v,d],k1,λ_=>⟨ho,hf⟩⟩⟩
theorem CE.start{i:Nat}{x:Int}(hx:x∈tE T tq w i):okA l5 x/\(kdA l5 x≠0↔x∈w.Q):=by
 have sq:x∈w.Q->okA l5 x/\kdA l5 x≠0:=λhq=>by
  have e:=Z1L (congrArg Prod.fst (c.seen hq (Lo _) (by have:=Z0b w.heap.W x;omega)));have s:=c.seenK hq;exact⟨e.1 s.2,by rw[e.2.2.1];exact s.1⟩
 rcases c.mem hx with⟨q1,q2⟩ | ⟨q1,q2,q3⟩
 .have hq:=((c.k.tk i q1).2.2.2.2.2.2 x q2).1;exact⟨(sq hq).1,λ_=>hq,λ_=>(sq hq).2⟩
 .have kk:=c.kept q3 q1 q2;refine⟨kk.2.1,λhk=>?_,λhq=>(sq hq).2⟩;by_cases hq:x∈w.Q
  .exact hq
  .exact absurd (kk.2.2.2 hq).1 hk
theorem CE.good{b:Int}(hp:Z02 ⟨w.heap.C,l5,w.heap.P.map (Z1f w.heap.S),1-w.heap.S,b⟩=O):Gd ⟨w.heap.C,l5,w.heap.P.map (Z1f w.heap.S),1-w.heap.S,b⟩ (tE T tq w):=by
 have g:=c.g;have hcc:=c.k.c;have hpl:=c.k.pl;have hs:=c.s;have po:=Z06 g.p;have hgt:∀ i,i<h.P.length->(w.heap.P.map (Z1f w.heap.S)).getD i M=Z1f w.heap.S (w.heap.P.getD i M):=λi hi=>by
  have:i<w.heap.P.length:=by omega
  simp[Lg,this]
 have hng:∀ i,i<h.P.length->((w.heap.P.map (Z1f w.heap.S)).getD i M).K≠0->¬ Z2m w.heap.S (w.heap.P.getD i M)/\(w.heap.P.map (Z1f w.heap.S)).getD i M=w.heap.P.getD i M:=by
  intro i hi hk;rw[hgt i hi]at hk ⊢;unfold Z1f at hk ⊢;split at hk
  .simp at hk
  .rename_i q;rw[if_neg q];exact⟨q,rfl⟩
 have hb:∀ i,bsP ⟨w.heap.C,l5,w.heap.P.map (Z1f w.heap.S),1-w.heap.S,b⟩ i=bsP h i:=λi=>by simp only[bsP,hcc]
 have hk5:∀ x,x∈w.Q->okA w.heap.W x->okA l5 x/\hlA l5 x=hlA w.heap.W x/\kdA l5 x=kdA w.heap.W x/\hdA l5 x=hdA w.heap.W x:=λx hq ho=>by
  have e:=Z1L (congrArg Prod.fst (c.seen hq (Lo _) (by have:=Z0b w.heap.W x;omega)));exact⟨e.1 ho,e.2.1,e.2.2.1,e.2.2.2.1⟩
 have hkept:∀ i,i<h.P.length->(i:Int)∉w.T->((w.heap.P.map (Z1f w.heap.S)).getD i M).K≠0->(w.heap.P.getD i M).S≠w.heap.S/\(h.P.getD i M).K=((w.heap.P.map (Z1f w.heap.S)).getD i M).K/\(h.P.getD i M).U=((w.heap.P.map (Z1f w.heap.S)).getD i M).U/\(h.P.getD i M).N=((w.heap.P.map (Z1f w.heap.S)).getD i M).N:=by
  intro i hi hn hk;have n:=hng i hi hk;have pg:=c.k.pg i hn;rw[n.2]at hk ⊢;refine⟨λq=>n.1 ⟨hk,q⟩,pg.1.symm,pg.2.1.symm,pg.2.2.symm⟩
 refine⟨hp, ?_, ?_, ?_, ?_, ?_, ?_, ?_⟩
 .intro i hi hk;simp only[Lv]at hi hk ⊢;have n:=hng i oq hk;rw[n.2]at hk ⊢;have:=(c.pt.b i hi).s;have n1:=n.1;unfold Z2m at n1;omega
 .intro i hi hk;simp only[Lv]at hi hk ⊢;rw[hb];have n:=hng i oq oq;by_cases q:(i:Int)∈w.T
  .have t:=c.k.tk i q;rw[tE,if_pos q,n.2,hcc];refine⟨Z2D t.2.2.2.2.2.1 λx hx=>?_,λx hx=>?_⟩
   .have e:=hk5 x (t.2.2.2.2.2.2 x hx).1 (Z1J t.2.2.2.2.2.1 hx).1;exact⟨e.1,e.2.1⟩
   .have e:=hk5 x (t.2.2.2.2.2.2 x hx).1 (Z1J t.2.2.2.2.2.1 hx).1;rw[e.2.1];exact(t.2.2.2.2.2.2 x hx).2.2
  .have kp:=hkept i oq q oq;rw[tE,if_neg q,if_pos kp.1,<- kp.2.2.1,hcc];have t:=g.t1 i oq oq;refine⟨Z2D t.1 λx hx=>?_,λx hx=>?_⟩
   .have e:=c.kept hx q kp.1;exact⟨e.2.1,e.2.2.1⟩
   .rw[(c.kept hx q kp.1).2.2.1];exact t.2 x hx
 .intro i hi hk;simp only[Lv]at hi hk ⊢;rw[hb];have n:=hng i oq oq;by_cases q:(i:Int)∈w.T
  .have t:=c.k.tk i q;rw[n.2]at hk;omega
  .have kp:=hkept i oq q oq;have t:=g.t2 i oq oq;have hx:bsP h i∈T i:=by rw[t.1];simp
   have e:=c.kept hx q kp.1;have hq:=c.k.lg i oq kp.1;have st:=c.start (i:=i) (x:=bsP h i) (by rw[tE,if_neg q,if_pos kp.1];exact hx);rw[tE,if_neg q,if_pos kp.1,<- kp.2.2.1];exact⟨t.1,e.2.1,by rw[e.2.2.1];exact t.2.2.1,st.2.2 hq⟩
 .intro i x hx;simp only[Lv];rcases c.mem hx with⟨q1,q2⟩ | ⟨q1,q2,q3⟩
  .have t:=c.k.tk i q1;have:Z1f w.heap.S (w.heap.P.getD i M)=w.heap.P.getD i M:=by rw[Z1f,if_neg (c.gone0 q1)]
   rw[hgt i t.1,this];exact⟨by omega,Lj t.2.2.1⟩
  .have t:=g.t0 i x q3;have pg:=c.k.pg i q1;have:Z1f w.heap.S (w.heap.P.getD i M)=w.heap.P.getD i M:=by rw[Z1f,if_neg (λq=>q2 q.2)]
   rw[hgt i t.1,this];exact⟨by omega,by rw[pg.1];exact t.2⟩
 .intro a ha;simp only at ha ⊢;have h4:(loadA l4 a).1≠0:=by
   have hr:4096<=a/\a<4096+l5.length:=by
    unfold loadA at ha;by_cases q:4096<=a/\a<4096+l5.length
    .exact q
    .rw[if_neg q]at ha;simp at ha
   have hl5:=c.n5;have hL:=c.i.L;rw[hcc]at hL;have h0:0<=(a-4096)/h.C.pw:=LO oq oq;have h3:=LQ (a-4096) h.C.pw;have h5:=LD (a-4096) (b:=h.C.pw) oq;have h6:=LC (a-4096) (b:=h.C.pw) oq;have h7:(a-4096)/h.C.pw<h.C.pg:=LN oq (by rw[LF];omega);rw[LF]at h3;have f:=c.fr ((a-4096)/h.C.pw).toNat ((a-4096)%h.C.pw) oq h5 h6;have ea:bsP h ((a-4096)/h.C.pw).toNat+(a-4096)%h.C.pw=a:=by
    unfold bsP;rw[Int.toNat_of_nonneg h0];omega
   rw[ea]at f;rw[f]at ha;split at ha
   .simp at ha
   .exact ha
  have hks:∀ i x,x∈T i->x<=a->a<=x+hlA h.W x->(i:Int)∉w.T/\(w.heap.P.getD i M).S≠w.heap.S:=λi x hx h1 h2 =>
   ⟨c.k.nt g hx,λq=>ha (c.gonew hx q h1 h2)⟩
  have cov:∀ i x,x∈T i->x<=a->a<=x+hlA h.W x->(x∉w.Q->a=x)->∃ i x,x∈tE T tq w i/\x<=a/\a<x+kpA l5 x:=by
   intro i x hx h1 h2 h3;obtain⟨n1,n2⟩:=hks i x hx h1 h2;have hm:x∈tE T tq w i:=by rw[tE,if_neg n1,if_pos n2];exact hx
   have kk:=c.kept hx n1 n2;have r:=Z0b l5 x;refine⟨i,x,hm,h1, ?_⟩;by_cases q:x∈w.Q
   .rw[kpA,if_neg ((c.start hm).2.2 q),kk.2.2.1];omega
   .have:=h3 q;unfold kpA;split<;>omega
  rcases c.f3 a with q | ⟨x,hx,q1,q2,q3,q4⟩
  .rw[q]at h4;rcases c.k.dt a h4 with⟨i,x,hx,h1,h2⟩ | ⟨i,i1,i2,i3⟩
   .have hkp:kpA h.W x<=hlA h.W x+1:=by
     have:=Z0b h.W x;unfold kpA;split<;>omega
    have hh:=hks i x hx h1 oq;refine cov i x hx h1 oq λhq=>?_;have kk:=(c.kept hx hh.1 hh.2).2.2.2 hq;by_cases hk:kdA h.W x=0
    .rw[kpA,if_pos hk]at h2;omega
    .have fl:=kk.2.2 hk;have oh:=Z1L (c.kept hx hh.1 hh.2).1;have v:=c.f4 x fl.1 fl.2 a h1 (by rw[oh.2.1];omega);rw[<- q]at h4;rw[v,Zak]at h4;split at h4
     .rename_i e;exact e
     .exact absurd rfl h4
   .have t:=c.k.tk i i1;obtain⟨x,hx,x1,x2⟩:=Zav t.2.2.2.2.2.1 i2 i3;have hm:x∈tE T tq w i:=by rw[tE,if_pos i1];exact hx
    have hq:=(t.2.2.2.2.2.2 x hx).1;have e:=hk5 x hq (Z1J t.2.2.2.2.2.1 hx).1;refine⟨i,x,hm,x1, ?_⟩;rw[kpA,if_neg ((c.start hm).2.2 hq),e.2.1];omega
  .obtain⟨i,hi,hk⟩:=(c.k.old x).1 hx;have sj:(loadA w.heap.W x).1=(loadA h.W x).1:=by
    rcases c.k.hd i x hi with q | q
    .exact q
    .exfalso;have o2:=q1.1;unfold Z0M at o2;rw[hcc,g.ofx hi]at o2;simp only[decide_eq_true_eq,Lu]at o2;exact o2.2.2.2.1 q.2.2
   rw[(Z1L sj).2.1]at q3;refine cov i x hi q2 q3 λ_=>?_;rw[q4,Zak]at h4;split at h4
   .rename_i e;exact e
   .exact absurd rfl h4
 .intro i x m hx hk h0 h1 hpt;simp only at hk h1 hpt ⊢;have hq:=(c.start hx).2.1 hk;have sk:=c.seenK hq;have e:=hk5 x hq sk.2;rw[e.2.1]at h1;rw[e.2.2.2]at hpt;rw[c.seen hq (a:=x+1+m) oq oq];obtain⟨n,n1,n2⟩:=getD_mem_iff.1 hq;have sd:=(c.sd (x+1+m) ⟨n,m,by rw[c.sc];simpa using n1,by rw[n2];exact Zca h0 h1 hpt,by rw[n2]⟩).2;rcases sd with q | q
  .exact Lj q
  .obtain⟨j,hj⟩:=c.where' q;exact Li ⟨j,hj,(c.start hj).2.2 q⟩
 .have:crowd (w.heap.P.map (Z1f w.heap.S))<=crowd h.P:=by
   refine Z7c qo λi hi k1 k2=>?_;by_cases q:(i:Int)∈w.T
   .have t:=c.k.tk i q;have n:=hng i hi oq;rw[n.2]at k2;omega
   .have kp:=hkept i hi q oq;omega
  have g2:=g.cr;simp only[hcc];omega
end
def Zhp{B:Int}(hB:0<=B){h:Heap}{T:Nat->List Int}(g:Gd h T){s k:List Int}(hw:WOk h.W)(hb:∀ p∈h.P,p.N<=B)(hs:RtOb h T s)(hk:RtOb h T k)(e:(collectF h s k).2.2.2.2=0) :
  ∃ T',Gd (collectF h s k).1 T'/\RtOb (collectF h s k).1 T' (collectF h s k).2.1/\RtOb (collectF h s k).1 T' (collectF h s k).2.2.1:=by
 have hp:=g.p;have hr:=g.refers hs;have hr':=g.refers hk;have pr1:=(Z7s hB hw hb e).p1;by_cases e1:(rootsF (beginW h) s).2.2=0
 .by_cases e2:(allF (rootsF (beginW h) s).1).2=0
  .have e7:collectF h s k=(endH (cW5 h s k),(rootsF (beginW h) s).2.1,Z3Q (cW2 h s) k k.length,(cW5 h s k).rep,0):=by rw[collectF,if_pos hp,if_pos ⟨hr,hr'⟩,if_pos e1,if_pos e2]
   rw[e7]at pr1 ⊢;have ck:=cOk h s k hw hp e1 e2;have c5:=cOk5 h s k hw hp e1 e2;have pr:=Zis hB hw hp hb e1 e2;have sd:=ZpC hB hw hp hb e1 e2;obtain⟨tq,ki⟩:=ZqJ g hw e1 e2;obtain⟨g1,g2,g3,g4,g5⟩:=ck.h4;have po:=Z06 hp;obtain⟨a1,a2,a3,a4,a5,a6,a7,a8⟩:=Z4U (cW2 h s) k k.length;have a1:(cW3 h s k).heap=(cW2 h s).heap:=a1;have a2:(cW3 h s k).old=(cW2 h s).old:=a2;have a3:(cW3 h s k).T=(cW2 h s).T:=a3;have a4:(cW3 h s k).Q=(cW2 h s).Q:=a4;have fl:FL (cW3 h s k) (cW4 h s k).heap.W (cW3 h s k).old.length:=Zg3 ck.f3 ck.i3 (cW3 h s k).old.length (Ld _);have tf:∀ x,Z6b (cW3 h s k) x↔Z6b (cW2 h s) x:=λx=>by
    unfold Z6b Z0M;rw[a1,a3,a4]
   have hcc:=ki.c;have hpl:=ki.pl;have hwl:=ki.wl;have w4:(cW4 h s k).heap.W.length=h.W.length:=by
    have:=fl.l;rw[a1]at this;exact this.trans hwl
   have fw:=ZdO (c:=h.C) (s:=(cW2 h s).heap.S) (l:=(cW2 h s).heap.P) (ws:=(cW4 h s k).heap.W) oq (by rw[w4,hpl,po.2.2.2.2.2.2.2.1];exact po.2.2.2.2.2.1) (cW2 h s).heap.P.length (Ld _);have e5:(Z1o (cW4 h s k)).heap.W=Z2o h.C.pw (cW2 h s).heap.S (cW2 h s).heap.P (cW4 h s k).heap.W (cW2 h s).heap.P.length:=by
    simp only[Z1o,g1,g2,g3]
   have ce:CE h T tq (cW2 h s) (cW4 h s k).heap.W (Z1o (cW4 h s k)).heap.W:=by
    refine⟨g,ki,ck.i2,ck.w2.sp,pr.tab.pt,pr.tab.tk,sd.1,sd.2, ?_, ?_, ?_, ?_, ?_⟩
    .intro a;rcases fl.s a with q | ⟨x,hx,q1,q2,q3,q4⟩
     .refine Lj ?_;rw[a1]at q;exact q
     .refine Li ⟨x,a2▸hx,(tf x).1 q1,q2, ?_, ?_⟩
      .rw[a1]at q3;exact q3
      .rw[a1]at q4;exact q4
    .intro x hx hf a h1 h2;obtain⟨j,j1,j2⟩:=getD_mem_iff.1 hx;have:=fl.f j (by rw[a2];exact j1);rw[a2,a1,j2]at this;exact this ((tf x).2 hf) a h1 h2
    .rw[w4,hwl]
    .rw[e5,fw.1,w4,hwl]
    .intro i o hi h0 ho;have:=fw.2 i o oq h0 ho;rw[e5];show loadA _ (4096+(i:Int)*h.C.pw+o)=_;rw[this];by_cases q:Z2m (cW2 h s).heap.S ((cW2 h s).heap.P.getD i M)
     .rw[if_pos ⟨by omega,q⟩,if_pos q]
     .rw[if_neg (λc=>q c.2),if_neg q];rfl
   have eh:endH (cW5 h s k)=⟨(cW2 h s).heap.C,(Z1o (cW4 h s k)).heap.W,(cW2 h s).heap.P.map (Z1f (cW2 h s).heap.S),1-(cW2 h s).heap.S,(endH (cW5 h s k)).B⟩:=by
    unfold endH cW5;simp only[Z1o,g1,g2,g3,hcc]
   rw[eh]at pr1 ⊢;have gd:=ce.good pr1;have seen:∀ x,ToOk (cW2 h s) x->x=0\/Ob ⟨(cW2 h s).heap.C,(Z1o (cW4 h s k)).heap.W,(cW2 h s).heap.P.map (Z1f (cW2 h s).heap.S),1-(cW2 h s).heap.S,(endH (cW5 h s k)).B⟩ (tE T tq (cW2 h s)) x:=by
    intro x hx;rcases hx with q | q
    .exact Lj q
    .obtain⟨i,hi⟩:=ce.where' q;exact Li ⟨i,hi,(ce.start hi).2.2 q⟩
   refine⟨tE T tq (cW2 h s),gd,λx hx=>seen x ?_,λx hx=>seen x ?_⟩
   .have hbg:=Z38 hw hp;have hib:=Z34 hp;have pr0:PR B (beginW h):=⟨Z5h hp hb,Z8n hp⟩
    have hall:=Z3J (roots:=s) hbg hib e1;have ax:=Zbq hall.1 hall.2.1 e2;have:ToOk (rootsF (beginW h) s).1 x:=by
     unfold rootsF at e1 hx ⊢;cases hbb:(Lf s.length).find? (λk=>Ls (Z1k (beginW h) s k≠0))with
     | none =>
      rw[hbb]at hx;have h0:∀ j,j<s.length->Z1k (beginW h) s j=0:=λj hj=>by
       have:=Lp.1 hbb j (Lh.2 hj);simpa using this
      exact Z9H hB hbg hib pr0 s.length h0 x hx
     | some k =>
      rw[hbb]at e1;simp only at e1;have:=(Lz.1 hbb).1;simp[e1]at this
    rcases this with q | q
    .exact Lj q
    .exact Li (ax.2.q x q)
   .have:∀ i,i<=k.length->∀ x∈Z3Q (cW2 h s) k i,ToOk (cW2 h s) x:=by
     intro i;induction i with
     | zero=>intro _ x hx;simp[Z3Q]at hx
     | succ i ih =>
      intro hi' x hx;simp only[Z3Q,Lq,Ln]at hx;rcases hx with hx | rfl
      .exact ih oq x hx
      .have hsi:=Z4U (cW2 h s) k i;unfold Z72;split
       .exact Lj rfl
       .rename_i hne;unfold Z1D;rw[hsi.2.2.2.1,hsi.1];split
        .rename_i hq;exact Li hq
        .cases ht:(Z08 (loadA (cW2 h s).heap.W (k.getD i M)).1).2 with
         | true =>
          refine Li (pr.rt.t _ ?_ ht);rw[ki.old];rcases hk _ (getD_mem_iff.2 ⟨i,by omega,rfl⟩)with q | q
          .exact absurd q hne
          .exact q
         | false =>
          refine Lj ?_;unfold Z08 at ht ⊢;split at ht
          .simp at ht
          .rename_i hcc2;rw[if_neg hcc2]
    exact this k.length (Ld _) x hx
  .rw[collectF,if_pos hp,if_pos ⟨hr,hr'⟩,if_pos e1,if_neg e2]at e;exact absurd e e2
 .rw[collectF,if_pos hp,if_pos ⟨hr,hr'⟩,if_neg e1]at e;exact absurd e e1
def WG.collect{w:WorldM}{n:Nat}(h:WG w)(hm:MOk w n):WG w.collect:=by
 unfold WorldM.collect;split
 .rename_i e;obtain⟨T,g,g1,g2⟩:=h;exact Zhp (B:=n) oq g hm.W (λp hp=>(hm.pin_mem p hp).2) g1 g2 e
 .exact h
def WG.step{w:WorldM}{n:Nat}(h:WG w)(hm:MOk w n)(hn:n<=1000000)(t:Tape):WG (w.step t):=by
 unfold WorldM.step;repeat' split
 .exact h.put hm.W (Z4v _ _)
 .exact h.link hm hn _
 .exact h.pin hm hn _
 .exact h.drop _
 .exact h.collect hm
 .exact h.dup _
def Zkj{w:WorldM}{n:Nat}(h:WG w)(hm:MOk w n)(t:Tape):∀ k,n+k<=1000000->WG (mkS w t k).1
 | 0,_=>h
 | k+1,hk=>(Zkj h hm t k oq).step (ZaN hm t k oq) oq _
def ZgA(l:List Int):WG (Z0e l):=by
 have e:=Z5P l;have hl:(((Z36 l).step 4).step 5).l.length<=300:=by rw[e.1];simp;omega
 have hk:=ZcU (Z36 l).empty (((Z36 l).step 4).step 5) oq;exact Zkj (ZbD (Z36 l)) (Z8p (Z36 l)) _ _ oq
def ZhQ(l:List Int):Z0C (Z0e l).heap=⟨0,0,0⟩/\Z0k (Z0e l).heap (Z0e l).G=O/\Z0k (Z0e l).heap (Z0e l).E=O:=by
 obtain⟨T,g,g1,g2⟩:=ZgA l;exact⟨g.good,g.refers g1,g.refers g2⟩
def Z4a(l:List Page):sumP nzP l=Z1w l:=by
 rw[Z1G];unfold Z1w;have:∀ n,((Lf n).map λi=>nzP (l.getD i M)).sum=Z1I l n:=by
  intro n;induction n with
  | zero=>simp[Z1I]
  | succ n ih =>
   have hpa:Z1l l n=l.getD n M:=by rw[Z3Y];simp
   rw[LZ,LV,L1,ih,Z1I,hpa];simp only[LA,LW,LB,L2,nzP];split<;>simp
 exact this _
def Zps{pw:Int}:∀ {l:List Page},(∀ p∈l,usP p+lgP p*pw<=nzP p*pw)->sumP usP l+sumP lgP l*pw<=sumP nzP l*pw
 | [],_=>by simp[sumP]
 | x::l,h=>by
  have h1:=Zps (l:=l) λp hp=>h p (List.mem_cons_of_mem _ hp);have h2:=h x pq;simp only[sumP,LA,LB,LM]at h1 h2 ⊢;omega
def ZdC{h:Heap}(hp:Z02 h=O):0<=sumP usP h.P:=Z2W λp hq=>by
 obtain⟨j,hj,rfl⟩:=LG hq;have pp:=Z0J hp hj;rw[Lg,Ll hj,Ly]at pp;unfold usP;split<;>omega
def Ziq(l:List Page):0<=sumP lgP l:=Z2W λp _=>by unfold lgP;split<;>omega
def MV.few{h:Heap}(hp:Z02 h=O)(hn:(Z1w h.P:Int)<=h.C.pg/4):MV h:=by
 have po:=Z06 hp;rw[<- Z4a]at hn;have u0:=ZdC hp;have l0:=Ziq h.P;refine⟨?_,0,by omega,by omega⟩;have:=Zps (pw:=h.C.pw) (l:=h.P) λp hq=>by
  obtain⟨j,hj,rfl⟩:=LG hq;have pp:=Z0J hp hj;rw[Lg,Ll hj,Ly]at pp;unfold usP lgP nzP;split
  .rename_i k;rw[if_neg oq,if_neg oq];omega
  .split
   .rw[if_neg oq];omega
   .split<;>omega
 have:=LR hn (show 0<=h.C.pw by omega);omega
def MV.same{h h':Heap}(m:MV h)(hc:h'.C=h.C)(hl:h'.P.length=h.P.length)(hk:∀ i,i<h.P.length->(h'.P.getD i M).K=(h.P.getD i M).K/\(h'.P.getD i M).U=(h.P.getD i M).U):MV h':=by
 have e1:sumP usP h'.P=sumP usP h.P:=Z2X usP hl λi hi=>by unfold usP;rw[(hk i hi).1,(hk i hi).2]
 have e2:sumP nzP h'.P=sumP nzP h.P:=Z2X nzP hl λi hi=>by unfold nzP;rw[(hk i hi).1]
 have e3:sumP lgP h'.P=sumP lgP h.P:=Z2X lgP hl λi hi=>by unfold lgP;rw[(hk i hi).1]
 refine⟨by rw[e1,e3,hc];exact m.v, ?_⟩;rw[e1,e2,e3,hc];exact m.n
def ZpF{l m:List Page}{i:Nat}(h:i+m.length<=l.length):∀ k,k<=m.length->sumP nzP (wr l m i k)<=sumP nzP l+k
 | 0,_=>by rw[Z7u];simp
 | k+1,hk=>by
  have ih:=ZpF h k oq;have e:=Z9C h oq (M:Page) (k:=k);rw[<- e];have s:=Z5M nzP (m.getD k M) (wr l m i k) (i+k) (by rw[Z4A h oq];omega);have r1:∀ p:Page,0<=nzP p/\nzP p<=1:=λp=>by unfold nzP;split<;>omega
  have:=r1 (m.getD k M);have:=r1 ((wr l m i k).getD (i+k) M);omega
def Zpf{l:List Page}{i k:Nat}{p q:Page}(hk:1<=k)(h:i+k<=l.length)(hq:q.K≠0):sumP nzP (tookP l i k p q)<=sumP nzP l+k:=by
 have h':i+(LL k q).length<=l.length:=by simpa using h
 have w:=ZpF h' k pq;have s:=Z5M nzP p (wr l (LL k q) i k) i (by rw[Z4A h' pq];omega);have g:(wr l (LL k q) i k).getD i M=q:=by
  rw[Lg,Z9P h' pq,if_neg oq,if_pos oq,L4,List.getElem?_replicate,if_pos oq];rfl
 rw[g]at s;have:nzP q=1:=by unfold nzP;rw[if_neg hq]
 have:nzP p<=1:=by unfold nzP;split<;>omega
 unfold tookP;omega
def Zll{h:Heap}{hd:Header}(hp:Z02 h=O)(hc:(put7 h hd).2.2=O):(Z1w (put7 h hd).1.P:Int)<=h.C.pg/4:=by
 have po:=Z06 hp;have hv:=validB_iff.1 po.1;have li:Z2r h.C=h.C.pg/4:=by rw[Z2r,if_pos po.1,Z58 oq]
 unfold put7 at hc ⊢;split at hc
 .rename_i c;rw[if_pos c];unfold Z0A at hc ⊢;split at hc
  .rename_i c2;rw[if_pos c2];have ff:=Z1m c2.1;rw[<- Z4a];simp only;have e:(Z2y h.C h.P (first h.P (need h.C (sizeH hd))) h.S (sizeH hd)).1=tookP h.P (first h.P (need h.C (sizeH hd))).toNat (need h.C (sizeH hd)).toNat ⟨2,h.S,sizeH hd,0⟩ ⟨3,h.S,0,0⟩:=by
    unfold Z2y Z33;rw[if_pos oq,if_pos oq,if_pos ff.2.2]
   rw[e];have:=Zpf (l:=h.P) (i:=(first h.P (need h.C (sizeH hd))).toNat) (k:=(need h.C (sizeH hd)).toNat) (p:=⟨2,h.S,sizeH hd,0⟩) (q:=⟨3,h.S,0,0⟩) oq oq pq;rw[Z4a h.P]at this;omega
  .simp at hc
 .rename_i c;rw[if_neg c];unfold Z0j at hc ⊢;split at hc
  .rename_i c2;rw[if_pos c2];rw[<- Z4a];simp only;have e:sumP nzP (Z1C h.P h.B.toNat (sizeH hd))=sumP nzP h.P:=Z2X nzP (by simp[Z1C]) λi hi=>by
    rw[Z3z];by_cases hb:h.B.toNat<h.P.length
    .rw[Z0p hb];split
     .rename_i q;rw[<- q];rfl
     .rfl
    .rw[L0 oq]
   rw[e,Z4a];have:=c2.2.2.2;omega
  .rename_i c2;rw[if_neg c2];split at hc
   .rename_i c3;rw[if_pos c3];obtain⟨g1,g2,g3⟩:=Z30 po.2.2.2.2.2.2.2.2 c3.1 (sizeH hd);rw[<- Z4a];simp only;rw[g1];have s:=Z5M nzP ⟨1,h.S,sizeH hd,0⟩ h.P (first h.P 1).toNat g3;have z1:nzP ⟨1,h.S,sizeH hd,0⟩=1:=rfl;have z0:0<=nzP (h.P.getD (first h.P 1).toNat M):=by unfold nzP;split<;>omega
    rw[Z4a h.P]at s;omega
   .simp at hc
def MV.put{w:WorldM}(m:MV w.heap)(hw:WOk w.heap.W){hd:Header}(hm:0<=hd.map/\hd.map<=4294967295):MV (w.put hd).heap:=by
 unfold WorldM.put;split
 .rename_i e;obtain⟨k1,k2,k3,k4,k5,k6,k7,k8⟩:=ZbZ hw hm e;have f:=Zll k1 k4;refine MV.few k7 ?_;rw[k6];simp only;rw[k3.c];exact f
 .exact m
def MV.setf{h:Heap}{a i v:Int}(m:MV h)(hw:WOk h.W)(hv:0<=v/\v<=18446744073709551615)(e:(getH h a).2=0)(hi:0<=i/\i<(getH h a).1.length):MV (Z0B h a i v).1:=by
 obtain⟨s1,s2,s3⟩:=Z4V hw hv (a:=a) (i:=i) e hi;rw[s1];exact m.same rfl rfl λ_ _=>⟨rfl,rfl⟩
def MV.link{w:WorldM}{n:Nat}(m:MV w.heap)(hm:MOk w n)(hn:n<=1000000)(t:Tape):MV (w.link t).heap:=by
 unfold WorldM.link;split
 .rename_i hc;have hw:=hm.wm hn;have n1:=Z0T (w.pickT (w.pickT t)) (n:=8) dd;have gg:=Z45 hc.1;have hi:0<=Z4m w t/\Z4m w t<(getH w.heap (w.pick t)).1.length:=by
   unfold Z4m;rw[Int.tmod_eq_emod_of_nonneg n1.1];exact⟨LD _ oq,LC _ oq⟩
  have hv:0<=Z4t w t/\Z4t w t<=18446744073709551615:=by
   unfold Z4t;split
   .exact Z31 hw _
   .have:=Z0T ((w.pickT (w.pickT t)).step 8) (n:=1048576) dd;omega
  exact m.setf hm.W hv hc.1 hi
 .exact m
def MV.pinB{w:WorldM}(m:MV w.heap)(i:Nat)(d:Int):MV (Go.Proofs.YtdhchmlalchgeaaGreat.pinB w i d).heap:=by
 refine m.same rfl (by simp[Go.Proofs.YtdhchmlalchgeaaGreat.pinB]) λj hj=>?_;simp only[Go.Proofs.YtdhchmlalchgeaaGreat.pinB];by_cases hi:i<w.heap.P.length
 .rw[Z0p hi];split
  .rename_i q;subst q;exact⟨rfl,rfl⟩
  .exact⟨rfl,rfl⟩
 .rw[L0 oq];exact⟨rfl,rfl⟩
def MV.pin{w:WorldM}(m:MV w.heap)(t:Tape):MV (w.pin t).heap:=by
 unfold WorldM.pin;repeat' split
 .exact m.pinB _ _
 .exact m.pinB _ _
 .exact m
 .exact m
def MV.drop{w:WorldM}(m:MV w.heap)(t:Tape):MV (w.drop t).heap:=by
 unfold WorldM.drop;split
 .exact m
 .exact m
def MI.in1{h:Heap}{T tq:Nat->List Int}(g:Gd h T){w:Work}(m:MI h T w)(k:KI h T tq w)(mv:MV h)(hw:WkOk w)(hi:CIv w){q j:Int}(hq:q∈w.Q)(hj:0<=j/\j<hlA w.heap.W q)(e:(w.fwd (loadA w.heap.W (q+1+j)).1).2.2=0):MI h T (w.in1 (q+1+j)):=by
 obtain⟨tq',k'⟩:=k.fwd g hw hi _ e;have m':=m.fwd g k hw mv hi e;obtain⟨i1,x1⟩:=Z4r hw hi _ e;have hq1:=x1.q q hq;have hl1:=x1.l q hq;have hr:=i1.r q (Lc _ hq1);have hin:4096<=q+1+j/\q+1+j<4096+(w.fwd (loadA w.heap.W (q+1+j)).1).1.heap.W.length:=by omega
 obtain⟨f1,f2,f3⟩:=k'.field g hq1 (j:=j) oq;have er:Z62 h T (w.in1 (q+1+j))<=Z62 h T (w.fwd (loadA w.heap.W (q+1+j)).1).1:=by
  refine Z4x λi _=>?_;unfold Z9U;split
  .refine Z4x λx hx=>?_;unfold wtW;rw[show(w.in1 (q+1+j)).heap.W=(Z0L (w.fwd (loadA w.heap.W (q+1+j)).1).1.heap.W (q+1+j) (w.fwd (loadA w.heap.W (q+1+j)).1).2.1).1 from rfl,Z0v hin (f1 i x hx)];exact Lo _
  .exact Lo _
 have m3:=m'.m3;exact⟨m'.m0,m'.m1,m'.m2,by show sumP usP (w.fwd (loadA w.heap.W (q+1+j)).1).1.heap.P+_<=_;omega,m'.m4,m'.m5⟩
def ZqL{h:Heap}{T:Nat->List Int}(g:Gd h T)(mv:MV h){s:List Int}(hw:WOk h.W)(e:(rootsF (beginW h) s).2.2=0)(e2:(allF (rootsF (beginW h) s).1).2=0):(∃ tq,KI h T tq (cW2 h s))/\MI h T (cW2 h s) :=
 ZmS (λw=>(∃ tq,KI h T tq w)/\MI h T w) (λw r hw hi ⟨⟨_,k⟩,m⟩ e=>⟨k.fwd g hw hi r e,m.fwd g k hw mv hi e⟩) (λw q j hw hi ⟨⟨_,k⟩,m⟩ hq h0 h1 e=>⟨k.in1 g hw hi hq ⟨h0,h1⟩ e,m.in1 g k mv hw hi hq ⟨h0,h1⟩ e⟩)
  (λw n ⟨⟨tq,k⟩,m⟩=>⟨⟨tq,k.c,k.sp,k.old,k.pl,k.wl,k.pg,k.tk,k.tk0,k.q,k.hd,k.dt,k.lg⟩,⟨m.m0,m.m1,m.m2,m.m3,m.m4,m.m5⟩⟩) hw g.p ⟨⟨_,KI.begin g⟩,MI.begin g⟩ e e2
def Z7E{α:Type}{f g:α->Int}:∀ l:List α,(l.map λx=>f x+g x).sum=(l.map f).sum+(l.map g).sum
 | []=>by simp
 | x::l=>by
  simp only[LA,LB,Z7E l];omega
def crP(p:Page):Int:=if p.K=1/\0<p.N then 1 else 0
def Zir(l:List Page):sumP crP l=crowd l:=by
 rw[Z1G];unfold crowd;have:∀ n,((Lf n).map λi=>crP (l.getD i M)).sum=Z0y l n:=by
  intro n;induction n with
  | zero=>simp[Z0y]
  | succ n ih =>
   rw[LZ,LV,L1,ih,Z0y];simp only[LA,LW,LB,L2,crP];split<;>simp
 exact this _
def Z7k{f:Page->Int}{q:Page->Page}(l:List Page):sumP f (l.map q)=((Lf l.length).map λi=>f (q (l.getD i M))).sum:=by
 rw[Z1G,Lv];congr 1;refine List.map_congr_left λi hi=>?_;have hi:=Lh.1 hi;simp[Lg,hi]
def MI.end{h:Heap}{T tq:Nat->List Int}(g:Gd h T){w:Work}(m:MI h T w)(k:KI h T tq w)(mv:MV h)(hw:WkOk w)(ts:∀ x∈w.T,(w.heap.P.getD x.toNat M).S=1-w.heap.S){h':Heap}(hc:h'.C=h.C)(hpg:h'.P=w.heap.P.map (Z1f w.heap.S)):MV h':=by
 have hl:=m.m0.1;have sp:=hw.sp;have po:=Z06 g.p;have page:∀ i,i<h.P.length->((i:Int)∈w.T/\(h.P.getD i M).K=0/\(w.heap.P.getD i M).K=1/\(w.heap.P.getD i M).S=1-w.heap.S)\/((w.heap.P.getD i M).K=(h.P.getD i M).K/\(w.heap.P.getD i M).U=(h.P.getD i M).U/\((h.P.getD i M).K=1->((w.heap.P.getD i M).S=w.heap.S↔¬ 0<(h.P.getD i M).N))):=by
  intro i hi;by_cases c:(i:Int)∈w.T
  .have t:=k.tk i c;have:=ts _ c;rw[Lu]at this;exact Lj ⟨c,t.2.1,t.2.2.1,this⟩
  .have q:=k.pg i c;exact Li ⟨q.1,q.2.1,m.m5 i hi⟩
 have usr:∀ i,i<h.P.length->0<=(w.heap.P.getD i M).U/\0<=(h.P.getD i M).U:=λi hi=>by
  have a:=hw.us i oq;have b:=Z0J g.p hi;omega
 have q0:(⟨0,0,0,0⟩:Page).K=0:=rfl;have e1:sumP usP h'.P+sumP unP h.P<=sumP usP w.heap.P:=by
  rw[hpg,Z7k,Z1G unP,Z1G usP,<- hl,<- Z7E];refine Z4x λi hi=>?_;have hi:=Lh.1 hi;have p:=page i oq;have u:=usr i oq;by_cases gq:Z2m w.heap.S (w.heap.P.getD i M)
  .rw[Z1f,if_pos gq];unfold Z2m at gq;unfold usP unP;repeat' split
   all_goals (try simp only at *)
   all_goals omega
  .rw[Z1f,if_neg gq];unfold Z2m at gq;unfold usP unP;repeat' split
   all_goals omega
 have e2:sumP usP w.heap.P<=sumP usP h'.P+sumP usP h.P:=by
  rw[hpg,Z7k,Z1G usP h.P,Z1G usP,<- hl,<- Z7E];refine Z4x λi hi=>?_;have hi:=Lh.1 hi;have p:=page i oq;have u:=usr i oq;by_cases gq:Z2m w.heap.S (w.heap.P.getD i M)
  .rw[Z1f,if_pos gq];unfold Z2m at gq;unfold usP;repeat' split
   all_goals (try simp only at *)
   all_goals omega
  .rw[Z1f,if_neg gq];unfold Z2m at gq;unfold usP;repeat' split
   all_goals omega
 have e3:sumP lgP h'.P<=sumP lgP h.P:=by
  rw[hpg,Z7k,Z1G lgP h.P,<- hl];refine Z4x λi hi=>?_;have hi:=Lh.1 hi;have p:=page i oq;by_cases gq:Z2m w.heap.S (w.heap.P.getD i M)
  .rw[Z1f,if_pos gq];unfold Z2m at gq;unfold lgP;repeat' split
   all_goals (try simp only at *)
   all_goals omega
  .rw[Z1f,if_neg gq];unfold Z2m at gq;unfold lgP;repeat' split
   all_goals omega
 have e4:sumP nzP h'.P+sumP nzP h.P<=sumP nzP w.heap.P+(sumP lgP h'.P+sumP crP h.P):=by
  rw[hpg,Z7k,Z7k,Z1G nzP h.P,Z1G nzP,Z1G crP,<- hl,<- Z7E,<- Z7E,<- Z7E];refine Z4x λi hi=>?_;have hi:=Lh.1 hi;have p:=page i oq;have kr:0<=(h.P.getD i M).K/\(h.P.getD i M).K<=3:=by
   have:=Z0J g.p (show i<h.P.length by omega);omega
  by_cases gq:Z2m w.heap.S (w.heap.P.getD i M)
  .rw[Z1f,if_pos gq];unfold Z2m at gq;unfold nzP lgP crP;repeat' split
   all_goals (try simp only at *)
   all_goals omega
  .rw[Z1f,if_neg gq];unfold Z2m at gq;unfold nzP lgP crP;repeat' split
   all_goals omega
 have cr:=g.cr;rw[<- Zir]at cr;have m1:=m.m1;have m3:=m.m3;have m4:=m.m4;have r:=ZeO h T w;have v:=mv.v;have u0:=ZdC g.p;have hpw:0<=h.C.pw:=by omega
 refine⟨?_,w.T.length,by rw[hc];omega, ?_⟩
 .rw[hc];have:=LR e3 hpw;omega
 .rw[hc];by_cases z:0<w.T.length
  .have m2:=m.m2 z;have:=hw.us (Z0o w).toNat (by have:=hw.tk _ (Z18 z);omega)
   omega
  .have:w.T.length=0:=by omega
   rw[this];simp only[Int.natCast_zero,Int.zero_sub];have:0<=sumP usP h'.P:=by
    have:sumP unP h.P<=sumP usP h.P:=Z4x λp hp=>by
     obtain⟨j,hj,rfl⟩:=LG hp;have pp:=Z0J g.p hj;rw[Lg,Ll hj,Ly]at pp;unfold unP usP;split
     .rename_i c;rw[if_pos c.1];omega
     .split<;>omega
    omega
   omega
def MV.collectF{B:Int}(hB:0<=B){h:Heap}{T:Nat->List Int}(g:Gd h T)(mv:MV h){s k:List Int}(hw:WOk h.W)(hb:∀ p∈h.P,p.N<=B)(hs:RtOb h T s)(hk:RtOb h T k)(e:(Go.Proofs.YtdhchmlalchgeaaGreat.collectF h s k).2.2.2.2=0):MV (Go.Proofs.YtdhchmlalchgeaaGreat.collectF h s k).1:=by
 have hp:=g.p;have hr:=g.refers hs;have hr':=g.refers hk;by_cases e1:(rootsF (beginW h) s).2.2=0
 .by_cases e2:(allF (rootsF (beginW h) s).1).2=0
  .have e7:Go.Proofs.YtdhchmlalchgeaaGreat.collectF h s k=(endH (cW5 h s k),(rootsF (beginW h) s).2.1,Z3Q (cW2 h s) k k.length,(cW5 h s k).rep,0):=by rw[Go.Proofs.YtdhchmlalchgeaaGreat.collectF,if_pos hp,if_pos ⟨hr,hr'⟩,if_pos e1,if_pos e2]
   rw[e7];have ck:=cOk h s k hw hp e1 e2;obtain⟨g1,g2,g3,g4,g5⟩:=ck.h4;have pr:=Zis hB hw hp hb e1 e2;obtain⟨⟨tq,ki⟩,mi⟩:=ZqL g mv hw e1 e2;refine mi.end g ki mv ck.w2 pr.tab.tk (h':=endH (cW5 h s k)) ?_ ?_
   .unfold endH cW5;simp only[Z1o,g1]
   .unfold endH cW5;simp only[Z1o,g2,g3]
  .rw[Go.Proofs.YtdhchmlalchgeaaGreat.collectF,if_pos hp,if_pos ⟨hr,hr'⟩,if_pos e1,if_neg e2]at e;exact absurd e e2
 .rw[Go.Proofs.YtdhchmlalchgeaaGreat.collectF,if_pos hp,if_pos ⟨hr,hr'⟩,if_neg e1]at e;exact absurd e e1
def MV.collect{w:WorldM}{n:Nat}(m:MV w.heap)(h:WG w)(hm:MOk w n):MV w.collect.heap:=by
 unfold WorldM.collect;split
 .rename_i e;obtain⟨T,g,g1,g2⟩:=h;exact MV.collectF (B:=n) oq g m hm.W (λp hp=>(hm.pin_mem p hp).2) g1 g2 e
 .exact m
def MV.step{w:WorldM}{n:Nat}(m:MV w.heap)(h:WG w)(hm:MOk w n)(hn:n<=1000000)(t:Tape):MV (w.step t).heap:=by
 unfold WorldM.step;repeat' split
 .exact m.put hm.W (Z4v _ _)
 .exact m.link hm hn _
 .exact m.pin _
 .exact m.drop _
 .exact m.collect h hm
 .exact m
def Zn9{w:WorldM}{n:Nat}(m:MV w.heap)(h:WG w)(hm:MOk w n)(t:Tape):∀ k,n+k<=1000000->MV (mkS w t k).1.heap
 | 0,_=>m
 | k+1,hk=>(Zn9 m h hm t k oq).step (Zkj h hm t k oq) (ZaN hm t k oq) oq _
def Zm6(l:List Int):MV (Z0e l).heap:=by
 have e:=Z5P l;have hl:(((Z36 l).step 4).step 5).l.length<=300:=by rw[e.1];simp;omega
 have hk:=ZcU (Z36 l).empty (((Z36 l).step 4).step 5) oq;obtain⟨_,ge,_⟩:=ZbD (Z36 l);have hp:=ge.p;refine Zn9 (MV.few hp ?_) (ZbD (Z36 l)) (Z8p (Z36 l)) _ _ oq;have hv:=validB_iff.1 (Z06 hp).1;have z:sumP nzP (Z36 l).empty.heap.P=0:=by simp[sumP,Tape.empty,Z3f,nzP]
 rw[Z4a]at z;omega
def ZcR{w:Int}(h:(decodeH w).2=O):(Z08 w).2=La:=by
 unfold decodeH at h;split at h
 .rename_i c;unfold Z0d at c;split at c
  .simp only at c;unfold Z08;rw[if_neg oq]
  .simp at c
 .cases h
structure OnW (h:Heap) (T:Nat->List Int) (w:Work):Prop where
 c:Col h T w
 m:MI h T w
 q:∀ y∈w.old,Z2F w y≠0->Z2F w y∈w.Q
 z:∀ y∈w.old,Z2F w y=0->y∉w.Q/\(Z08 (loadA w.heap.W y).1).2=La
 n:w.rep.copied+w.rep.kept=w.Q.length
def Z7O{h:Heap}{T:Nat->List Int}(g:Gd h T){y:Int}(hy:y∈(beginW h).old):Z2F (beginW h) y=0/\(Z08 (loadA h.W y).1).2=La:=by
 obtain⟨i,hi,hk⟩:=((KI.begin g).old y).1 hy;have t:=ZcR (g.on hi).2.2.2.2.2.1;refine⟨?_,t⟩;unfold Z2F;rw[if_neg (by simp[beginW]),if_neg (by show ¬ (Z08 (loadA h.W y).1).2=O;rw[t];simp)]
def OnW.begin{h:Heap}{T:Nat->List Int}(g:Gd h T)(hw:WOk h.W):OnW h T (beginW h) :=
 ⟨Col.begin g hw,MI.begin g,λy hy q=>absurd (Z7O g hy).1 q,λy hy _=>⟨by simp[beginW],(Z7O g hy).2⟩,rfl⟩
section
variable {h:Heap} {T:Nat->List Int} {w:Work} (o:OnW h T w) (g:Gd h T) (mv:MV h) {r:Int} (hr:r∈w.old)
include o g mv hr
theorem OnW.new(hs:Z2F w r=0):∃ i0,r∈T i0/\(w.fwd r).2.2=0/\NewF h T w r i0 (w.fwd r).1 (w.fwd r).2.1:=by
 obtain⟨tq,k⟩:=o.c.k;obtain⟨i0,hx,hk⟩:=(k.old r).1 hr;have z:=o.z r hr hs;exact⟨i0,hx,Zp9 g o.m k o.c.ok mv hx hk z.1 z.2⟩
theorem OnW.ok:(w.fwd r).2.2=0:=by
 obtain⟨tq,k⟩:=o.c.k;exact o.m.fwd_ok g k o.c.ok mv o.c.inv (.inr (.inr hr))
theorem OnW.same(hs:Z2F w r≠0):w.fwd r=(w,Z2F w r,0):=by
 unfold Work.fwd Z2F at *;split at hs
 .rename_i q;rw[if_pos (.inr q),if_pos q]
 .rename_i q;split at hs
  .rename_i q2;obtain⟨tq,k⟩:=o.c.k;obtain⟨i0,hx,hk⟩:=(k.old r).1 hr;have:=g.inw hx;have c:¬ (r=0\/r∈w.Q):=by
    rintro(c | c)
    .omega
    .exact q c
   rw[if_neg c,if_neg (by simpa using hr),if_pos q2,if_neg q,if_pos q2]
  .exact absurd rfl hs
theorem OnW.seen:(w.fwd r).2.1≠0/\Z2F (w.fwd r).1 r=(w.fwd r).2.1/\(∀ y∈w.old,y≠r->Z2F (w.fwd r).1 y=Z2F w y)/\(w.fwd r).1.old=w.old /\
  ((w.fwd r).1.Q.length:Int)=w.Q.length+(if Z2F w r=0 then 1 else 0):=by
 by_cases hs:Z2F w r=0
 .obtain⟨i0,hx,e,N⟩:=o.new g mv hr hs;have z:=o.z r hr hs;have b:=N.b;obtain⟨tq,k⟩:=o.c.k;refine⟨by omega, ?_,λy hy hne=>?_,N.o,by rw[if_pos hs,N.q];simp⟩
  .unfold Z2F;rw[N.q];by_cases q:(w.fwd r).2.1=r
   .rw[if_pos (by rw[q];simp)];exact q.symm
   .rw[if_neg (by simp only[Lq,Ln];rintro(c | c);exact z.1 c;exact q c.symm),N.c q];simp
  .obtain⟨j,hj,_⟩:=(k.old y).1 hy;have t:=N.t j y hj hne;unfold Z2F;rw[N.q,t.2];have:(y∈w.Q++[(w.fwd r).2.1])↔y∈w.Q:=by
    simp only[Lq,Ln];exact⟨λc=>c.elim id λc=>absurd c.symm t.1,.inl⟩
   simp only[this]
 .rw[o.same g mv hr hs];exact⟨hs,rfl,λ_ _ _=>rfl,rfl,by rw[if_neg hs];simp⟩
theorem OnW.fwd:OnW h T (w.fwd r).1:=by
 by_cases hs:Z2F w r=0
 .obtain⟨i0,hx,e,N⟩:=o.new g mv hr hs;obtain⟨s1,s2,s3,s4,s5⟩:=o.seen g mv hr;obtain⟨tq,k⟩:=o.c.k;refine⟨o.c.fwd g e,o.m.fwd g k o.c.ok mv o.c.inv e,λy hy hne=>?_,λy hy h0=>?_,by rw[N.n,o.n,N.q];simp⟩
  .rw[s4]at hy;rw[N.q];by_cases q:y=r
   .subst q;rw[s2];simp
   .rw[s3 y hy q]at hne ⊢;exact Le _ (o.q y hy hne)
  .rw[s4]at hy;by_cases q:y=r
   .subst q;rw[s2]at h0;exact absurd h0 s1
   .rw[s3 y hy q]at h0;have z:=o.z y hy h0;obtain⟨j,hj,_⟩:=(k.old y).1 hy;have t:=N.t j y hj q;rw[N.q,t.2];refine⟨?_,z.2⟩;simp only[Lq,Ln];rintro(c | c)
    .exact z.1 c
    .exact t.1 c.symm
 .rw[o.same g mv hr hs];exact o
end
def ZaL(h:Heap)(hw:WOk h.W)(hp:Z02 h=O)(hg:Z0C h=⟨0,0,0⟩):GP 33 [h.av] La (.tu [(beginW h).av,int 0]) []:=Zgr h hw hp hg
def AF(w:Work):Prop:=∀ x∈w.old++w.Q,(Z08 (loadA w.heap.W x).1).2=La->∀ j,0<=j->j<hlA w.heap.W x->Z0f (hdA w.heap.W x) j=O->(loadA w.heap.W (x+1+j)).1=0\/(loadA w.heap.W (x+1+j)).1∈w.old++w.Q
structure SW (h:Heap) (T:Nat->List Int) (w:Work):Prop where
 o:OnW h T w
 a:AF w
def SW.begin{h:Heap}{T:Nat->List Int}(g:Gd h T)(hw:WOk h.W):SW h T (beginW h):=by
 refine⟨OnW.begin g hw,λx hx ht j h0 h1 hp=>?_⟩;have hx':x∈(beginW h).old:=by simpa[beginW]using hx
 obtain⟨i,hi,hk⟩:=((KI.begin g).old x).1 hx';refine(g.q i x j hi hk h0 h1 hp).imp id λ⟨k,h2,h3⟩=>?_;exact Le _ (((KI.begin g).old _).2 ⟨k,h2,h3⟩)
section
variable {h:Heap} {T:Nat->List Int} {w:Work} (s:SW h T w) (g:Gd h T) (mv:MV h)
include s g mv
theorem SW.fwd{r:Int}(hr:r=0\/r∈w.Q\/r∈w.old):(w.fwd r).2.2=0/\SW h T (w.fwd r).1/\ToOk (w.fwd r).1 (w.fwd r).2.1:=by
 by_cases c1:r=0\/r∈w.Q
 .rw[Work.fwd,if_pos c1];exact⟨rfl,s,c1⟩
 have hr:r∈w.old:=(hr.resolve_left λq=>c1 (.inl q)).resolve_left λq=>c1 (.inr q);by_cases hs:Z2F w r=0
 .obtain⟨i0,hx,e,N⟩:=s.o.new g mv hr hs;refine⟨e,⟨s.o.fwd g mv hr, ?_⟩,Li (by rw[N.q];simp)⟩;obtain⟨tq,k⟩:=s.o.c.k;have z:=s.o.z r hr hs;have same:=(Z49 s.o.c.ok s.o.c.inv r e).2.2;have he:(loadA w.heap.W r).1=(loadA h.W r).1:=by
   rcases k.hd i0 r hx with q | q
   .exact q
   .rw[q.1]at z;cases z.2
  have ehl:hlA w.heap.W r=hlA h.W r:=(Z1L he).2.1;intro x hm ht j h0 h1 hp;rw[N.o,N.q]at hm ⊢;have more:∀ v,v∈w.old++w.Q->v∈w.old++(w.Q++[(w.fwd r).2.1]):=λv hv=>by
   rw[<- List.append_assoc];exact Le _ hv
  by_cases xa:x=(w.fwd r).2.1
  .have e0:=N.x 0 oq (Z0b _ _).1;simp only[Lt]at e0;have eh:hdA (w.fwd r).1.heap.W x=hdA w.heap.W r:=by rw[hdA,xa,e0];rfl
   have el:hlA (w.fwd r).1.heap.W x=hlA w.heap.W r:=congrArg Header.length eh;rw[eh]at hp;rw[el]at h1;have ef:=N.x (1+j) oq oq;rw[<- Lx,<- Lx,<- xa]at ef;rw[ef];exact(s.a r (Le _ hr) z.2 j h0 h1 hp).imp id (more _)
  .have hm':x∈w.old++w.Q:=by
    simp only[Lq,Ln]at hm ⊢;rcases hm with q | q | q
    .exact .inl q
    .exact .inr q
    .exact absurd q xa
   by_cases xr:x=r
   .exfalso;have:=N.c λq=>xa (xr.trans q.symm);rw[xr,this]at ht;cases ht
   .have e0:=same x hm' (.inr xr) 0 oq (Z0b _ _).1;rw[Lt]at e0;have eh:hdA (w.fwd r).1.heap.W x=hdA w.heap.W x:=by rw[hdA,hdA,e0]
    have el:hlA (w.fwd r).1.heap.W x=hlA w.heap.W x:=congrArg Header.length eh;rw[eh]at hp;rw[el]at h1;rw[e0]at ht;have ef:=same x hm' (.inr xr) (1+j) oq oq;rw[<- Lx]at ef;rw[ef];exact(s.a x hm' ht j h0 h1 hp).imp id (more _)
 .rw[s.o.same g mv hr hs];exact⟨rfl,s,Li (s.o.q r hr hs)⟩
omit g mv in
theorem SW.dec(g:Gd h T){q:Int}(hq:q∈w.Q):(Z08 (loadA w.heap.W q).1).2=La:=ZcR (s.o.c.dec g hq)
omit s g mv in
theorem Zpx{w:Work}{r:Int}(e:(w.fwd r).2.2=0):r=0\/r∈w.Q\/r∈w.old:=by
 unfold Work.fwd at e;split at e
 .rename_i c;exact c.imp id .inl
 .split at e
  .simp at e
  .rename_i c;exact .inr (.inr (Lw.1 c))
theorem SW.in1{q j:Int}(hq:q∈w.Q)(h0:0<=j)(h1:j<hlA w.heap.W q)(e:(w.fwd (loadA w.heap.W (q+1+j)).1).2.2=0):SW h T (w.in1 (q+1+j))/\∀ x∈w.Q,x∈(w.in1 (q+1+j)).Q/\hdA (w.in1 (q+1+j)).heap.W x=hdA w.heap.W x:=by
 obtain⟨_,s1,to⟩:=s.fwd g mv (Zpx e);have hw:=s.o.c.ok;have iv:=s.o.c.inv;obtain⟨tq,k⟩:=s.o.c.k;obtain⟨i1,x1⟩:=Z4r hw iv _ e;have m:=ZdT hw iv _ e;have hq1:=x1.q q hq;have hl1:=x1.l q hq;have hr:=i1.r q (Lc _ hq1);have hin:4096<=q+1+j/\q+1+j<4096+(w.fwd (loadA w.heap.W (q+1+j)).1).1.heap.W.length:=by omega
 have far:∀ x∈(w.fwd (loadA w.heap.W (q+1+j)).1).1.old++(w.fwd (loadA w.heap.W (q+1+j)).1).1.Q,∀ i,0<=i->i<=hlA (w.fwd (loadA w.heap.W (q+1+j)).1).1.heap.W x->x+i=q+1+j->x=q:=by
  intro x hx i a b c;have l1:=i1.s q (Lc _ hq1) x hx;have l2:=i1.s x hx q (Lc _ hq1);omega
 have hh:∀ x∈(w.fwd (loadA w.heap.W (q+1+j)).1).1.old++(w.fwd (loadA w.heap.W (q+1+j)).1).1.Q,loadA (w.in1 (q+1+j)).heap.W x=loadA (w.fwd (loadA w.heap.W (q+1+j)).1).1.heap.W x:=by
  intro x hx;simp only[Work.in1];rw[Z0v hin λc=>?_];have:=far x hx 0 oq (Z0b _ _).1 oq;omega
 refine⟨⟨⟨s.o.c.in1 g hq h0 h1 e,s.o.m.in1 g k mv hw iv hq ⟨h0,h1⟩ e,λy hy hne=>?_,λy hy hz=>?_,s1.o.n⟩, ?_⟩,λx hx=>⟨m.mem hx, ?_⟩⟩
 .have e3:Z2F (w.in1 (q+1+j)) y=Z2F (w.fwd (loadA w.heap.W (q+1+j)).1).1 y:=by
   unfold Z2F;rw[hh y (Le _ hy)];rfl
  rw[e3]at hne ⊢;exact s1.o.q y hy hne
 .have e3:Z2F (w.in1 (q+1+j)) y=Z2F (w.fwd (loadA w.heap.W (q+1+j)).1).1 y:=by
   unfold Z2F;rw[hh y (Le _ hy)];rfl
  rw[e3]at hz;rw[hh y (Le _ hy)];exact s1.o.z y hy hz
 .intro x hx ht i a b hp;have hx:x∈(w.fwd (loadA w.heap.W (q+1+j)).1).1.old++(w.fwd (loadA w.heap.W (q+1+j)).1).1.Q:=hx;show _\/_∈(w.fwd (loadA w.heap.W (q+1+j)).1).1.old++(w.fwd (loadA w.heap.W (q+1+j)).1).1.Q;have e0:=hh x hx;have eh:hdA (w.in1 (q+1+j)).heap.W x=hdA (w.fwd (loadA w.heap.W (q+1+j)).1).1.heap.W x:=by rw[hdA,hdA,e0]
  have el:hlA (w.in1 (q+1+j)).heap.W x=hlA (w.fwd (loadA w.heap.W (q+1+j)).1).1.heap.W x:=congrArg Header.length eh;rw[eh]at hp;rw[el]at b;rw[e0]at ht;by_cases c:x+1+i=q+1+j
  .have:(loadA (w.in1 (q+1+j)).heap.W (x+1+i)).1=(w.fwd (loadA w.heap.W (q+1+j)).1).2.1:=by
    rw[c];simp only[Work.in1];rw[Z1P hin]
   rw[this];exact to.imp id (Lc _)
  .have:loadA (w.in1 (q+1+j)).heap.W (x+1+i)=loadA (w.fwd (loadA w.heap.W (q+1+j)).1).1.heap.W (x+1+i):=by
    simp only[Work.in1];rw[Z0v hin c]
   rw[this];exact s1.a x hx ht i a b hp
 .rw[hdA,hh x (Lc _ (m.mem hx))];exact m.h x hx
omit s g mv in
theorem Z9e(h:Header):∀ n:Nat,∀ x∈Z0V h n,Z0f h x=O
 | 0,x,hx=>by cases hx
 | n+1,x,hx=>by
  unfold Z0V at hx;split at hx
  .rename_i c;rcases Lq.1 hx with q | q
   .exact Z9e h n x q
   .rw[Ln.1 q];exact c
  .exact Z9e h n x hx
omit s g mv in
theorem Z7Q(h:Header):∀ x∈Z03 h,Z0f h x=O:=by
 unfold Z03;split
 .exact Z9e h _
 .intro x hx;cases hx
theorem SW.inn{q:Int}(hq:q∈w.Q){l:List Int}(hl:∀ x∈l,(0<=x/\x<hlA w.heap.W q)/\Z0f (hdA w.heap.W q) x=O):∀ k,k<=l.length->(∀ j,j<k->innE w q l j=0)/\SW h T (innN w q l k)/\q∈(innN w q l k).Q/\hdA (innN w q l k).heap.W q=hdA w.heap.W q
 | 0,_=>⟨λj hj=>absurd hj (Lr j),s,hq,rfl⟩
 | k+1,hk=>by
  obtain⟨i1,i2,i3,i4⟩:=SW.inn hq hl k oq;have hx:=hl _ (getD_mem_iff.2 ⟨k,by omega,rfl⟩);have el:hlA (innN w q l k).heap.W q=hlA w.heap.W q:=congrArg Header.length i4;have af:=i2.a q (Lc _ i3) (i2.dec g i3) (l.getD k M) hx.1.1 (by rw[el];exact hx.1.2) (by rw[i4];exact hx.2);have e:innE w q l k=0:=(i2.fwd g mv (af.imp id λc=>(Lq.1 c).symm)).1;have n:=i2.in1 g mv i3 hx.1.1 (by rw[el];exact hx.1.2) e;refine⟨λj hj=>?_,n.1,(n.2 q i3).1,(n.2 q i3).2.trans i4⟩;by_cases c:j=k
  .rw[c];exact e
  .exact i1 j oq
theorem SW.step:(Z0z w).2.2=0/\SW h T (Z0z w).1:=by
 by_cases hs:w.D<w.Q.length
 .have hsc:=s.o.c.ok.sc;have hq:Z0U w∈w.Q:=getD_mem_iff.2 ⟨w.D.toNat,by omega,rfl⟩;obtain⟨i1,i2,_,_⟩:=s.inn g mv hq (l:=Z0n w) (λx hx=>⟨Z1Q (hdW w (Z0U w)) x hx,Z7Q (hdW w (Z0U w)) x hx⟩) (Z0n w).length (Ld _);have hb:(Lf (Z0n w).length).find? (λk=>Ls (innE w (Z0U w) (Z0n w) k≠0))=Lk:=Lp.2 λj hj=>by simp[i1 j (Lh.1 hj)]
  have e7:Z0z w=(Z3H (innN w (Z0U w) (Z0n w) (Z0n w).length) (Z0n w).length,O,0):=by unfold Z0z;rw[if_pos hs,hb]
  have c:=s.o.c.step g (by rw[e7]);rw[e7]at c ⊢;exact⟨rfl,⟨c,⟨i2.o.m.m0,i2.o.m.m1,i2.o.m.m2,i2.o.m.m3,i2.o.m.m4,i2.o.m.m5⟩,i2.o.q,i2.o.z,i2.o.n⟩,i2.a⟩
 .have e7:Z0z w=(w,La,0):=by rw[Z0z,if_neg hs]
  rw[e7];exact⟨rfl,s⟩
theorem SW.it:∀ k,SW h T (itW w k)
 | 0=>s
 | k+1=>(SW.step (SW.it k) g mv).2
theorem SW.all:(allF w).2=0/\SW h T (allF w).1:=by
 obtain⟨k,hb⟩:=Z3E s.o.c.ok;have e:=(s.it g mv k).step g mv;have e7:allF w=((Z0z (itW w k)).1,0):=by rw[allF,hb];simp only[if_pos e.1]
 rw[e7];exact⟨rfl,e.2⟩
end
def Z2E(hd:Header)(fs:List Int):Nat->List Int
 | 0=>[]
 | i+1=>if Z0f hd (i:Int)=O then Z2E hd fs i++[fs.getD i M]else Z2E hd fs i
def Z7F(hd:Header)(fs:List Int):∀ i,(Z2E hd fs i).length<=i
 | 0=>Ld _
 | i+1=>by
  have:=Z7F hd fs i;unfold Z2E;split
  .rw[Lm,LH];omega
  .omega
def Z47(h:Heap)(a:Int):List Int:=Z2E (getH h a).1 (Z0G h a).1 (Z0G h a).1.length
def addO(out:List Int)(r:Int):List Int:=if r=0\/r∈out then out else out++[r]
def addN(out refs:List Int):Nat->List Int
 | 0=>out
 | i+1=>addO (addN out refs i) (refs.getD i M)
def Z9w(out refs:List Int){i:Nat}:∀ k,(addN out refs i).length<=(addN out refs (i+k)).length
 | 0=>Ld _
 | k+1=>by
  refine L3 (Z9w out refs k) ?_;show _<=(addO _ _).length;unfold addO;split
  .exact Ld _
  .rw[Lm];exact Nat.le_add_right _ _
def a8L(all out refs:List Int)(i:Nat):Tg:=⟨tm 42 [(0,Z01 all),(1,.ow 8000),(2,Z01 refs),(6,.d (.sl 0 [])),(7,bool La),(8,int i)],[(8000,.arr 35 1 ((addN out refs i).map wdv))],4⟩
section
variable (all out refs:List Int) (hl:refs.length<=1048576) (ha:all.length<=1048576) (ho:(addN out refs refs.length).length<=1048576) (hr:ULe refs)
include hl ha ho hr
theorem Zpg(i:Nat)(hi:i<refs.length)(hb:rfsB refs all i=La):CP (rndF f71 0) (a8L all out refs i).st .nrm (a8L all out refs (i+1)).st:=by
 have ln:=L3 (Z9w out refs (i:=i) (refs.length-i)) (by rw[show i+(refs.length-i)=refs.length by omega];exact ho);have r:=hr _ (getD_mem_iff.2 ⟨i,hi,rfl⟩);unfold rfsB at hb;have hb:=of_decide_eq_false hb;by_cases h0:refs.getD i M=0
 .have e7:addN out refs (i+1)=addN out refs i:=by rw[addN,addO,if_pos (.inl h0)]
  unfold a8L;rw[e7];exact sF [] [] (FN 11 12 17 wdv refs i (Ftb 19 (refs.getD i M==0) (Fx 14 i Fz)))
 .have hb:refs.getD i M∈all:=Lw.1 λc=>hb ⟨h0,c⟩;by_cases h1:refs.getD i M∈addN out refs i
  .have e7:addN out refs (i+1)=addN out refs i:=by rw[addN,addO,if_pos (.inr h1)]
   unfold a8L;rw[e7];exact sF [] [] (FN 11 12 17 wdv refs i (Ffb 19 (refs.getD i M==0) (Fek 23 wdv refs (↑i) i (Fc 25 (@Z14 all (refs.getD i M) aa) (Ffb 26 (!decide (refs.getD i M∈all)) (Fek 30 wdv refs (↑i) i (Fc 32 (@Z14 (addN out refs i) (refs.getD i M) aa) (Ffb 33 (!decide (refs.getD i M∈addN out refs i)) (Fx 14 i Fz)))))))))
  .have e7:addN out refs (i+1)=addN out refs i++[refs.getD i M]:=by rw[addN,addO,if_neg (λc=>c.elim h0 h1)]
   unfold a8L;rw[e7];exact sF [(64040,8000)] [] (Fh 40 [.els (Lb wdv (addN out refs i++[refs.getD i M]))] (FN 11 12 17 wdv refs i (Ffb 19 (refs.getD i M==0) (Fek 23 wdv refs (↑i) i (Fc 25 (@Z14 all (refs.getD i M) aa) (Ffb 26 (!decide (refs.getD i M∈all)) (Fek 30 wdv refs (↑i) i (Fc 32 (@Z14 (addN out refs i) (refs.getD i M) aa) (Ftb 33 (!decide (refs.getD i M∈addN out refs i)) (Fek 37 wdv refs (↑i) i (Fs 39 (Lb wdv [refs.getD i M]) (Fa (by(simp[*];omega):(Lb wdv (addN out refs i)).length+(Lb wdv [refs.getD i M]).length<=2^30) (Fa (ms:Lb wdv (addN out refs i)++Lb wdv [refs.getD i M]=Lb wdv (addN out refs i++[refs.getD i M])) (Fx 14 i Fz))))))))))))))
omit hl ha ho hr in
theorem ZqQ:CP (rndF f71 0) (a8L all out refs refs.length).st (.ext 0) (Tg.st ⟨tm 42 [(1,.ow 8000),(6,.d (.sl 0 [])),(7,bool La)],[(8000,.arr 35 1 ((addN out refs refs.length).map wdv))],4⟩):=by
 exact sF [] [] (FO 11 12 wdv refs Fz)
def ZpP(hb:(Lf refs.length).find? (rfsB refs all)=Lk)  := Z0a (S:=λk=>(a8L all out refs k).st) refs.length (by kernel_rfl) (λk hk=>Zpg all out refs hl ha ho hr k hk (by
  have:=Lp.1 hb k (Lh.2 hk);simpa using this)) (ZqQ all out refs)
theorem Zjc(hb:(Lf refs.length).find? (rfsB refs all)=Lk):BP 71 [Z01 all,.ow 0,Z01 refs] [.arr 35 1 (out.map wdv)] (.tu [.ow 1,bool O]) [.dead,.arr 35 1 ((addN out refs refs.length).map wdv)]:=by
 have ln:=Z9w out refs (i:=0) refs.length;rw[Nat.zero_add]at ln;exact borF [8000] [8000] func71 [] (Fu (@ZpP all out refs aa aa aa aa aa) Fz)
end
def rfL(hd:Header)(fs:List Int)(i:Nat):Tg:=⟨tm 40 [(4,.d (.sl 0 [])),(5,.pt 16005 0 0),(7,Z01 fs),(9,.ow 32009),(10,int i)],[(32009,.arr 35 1 ((Z2E hd fs i).map wdv)),(16005,.box 52 [int hd.K,int hd.length,u32 hd.map])],6⟩
section
variable (hd:Header) (fs:List Int) (hm:0<=hd.map/\hd.map<=4294967295) (hf:fs.length<=1048576)
include hm hf
theorem Zoi(i:Nat)(hi:i<fs.length):CP (rndF f18 0) (rfL hd fs i).st .nrm (rfL hd fs (i+1)).st:=by
 have ln:=Z7F hd fs i;by_cases c:Z0f hd (i:Int)=O
 .have e7:Z2E hd fs (i+1)=Z2E hd fs i++[fs.getD i M]:=by rw[Z2E,if_pos c]
  unfold rfL;rw[e7];exact sF [(64038,32009)] [] (Fh 31 [.call O (Sx.bool (Z0f hd (i:Int))) [],.br O] (Fh 38 [.els (Lb wdv (Z2E hd fs i++[fs.getD i M]))] (FM 25 26 wdv fs i (Fa (@Z1T hd ((i:Int)) aa) (Fa ‹Z0f hd (i:Int)=O› (Fek 35 wdv fs (↑i) i (Fs 37 (Lb wdv [fs.getD i M]) (Fa (by(simp[*];omega):(Lb wdv (Z2E hd fs i)).length+(Lb wdv [fs.getD i M]).length<=2^30) (Fa (ms:Lb wdv (Z2E hd fs i)++Lb wdv [fs.getD i M]=Lb wdv (Z2E hd fs i++[fs.getD i M])) (Fx 28 i Fz))))))))))
 .have e7:Z2E hd fs (i+1)=Z2E hd fs i:=by rw[Z2E,if_neg c]
  unfold rfL;rw[e7];exact sF [] [] (Fh 31 [.call O (Sx.bool (Z0f hd (i:Int))) [],.br La] (FM 25 26 wdv fs i (Fa (@Z1T hd ((i:Int)) aa) (Fbs (Z0f hd (i:Int)=La) (Fx 28 i Fz)))))
theorem ZqS:CP (rndF f18 0) (rfL hd fs fs.length).st (.ext 0) (Tg.st ⟨tm 40 [(4,.d (.sl 0 [])),(9,.ow 32009)],[(32009,.arr 35 1 ((Z2E hd fs fs.length).map wdv))],6⟩):=by
 exact sF [] [] (FO 25 26 wdv fs Fz)
def ZqK  := Z0a (S:=λk=>(rfL hd fs k).st) fs.length (by kernel_rfl) (λk hk=>Zoi hd fs hm hf k hk) (ZqS hd fs hm hf)
end
def ZlH(h:Heap)(a:Int)(hw:WOk h.W)(h0:0<=a/\a<=18446744073709551615):GP 18 [h.av,u64 a] La (Z01 (Z47 h a)) []:=by
 have hm:=Z8e hw a;have hf:=Z4W h a;exact gF [] func18 [] (Fh 9 [.own] (Fc 14 (@Z42 h a aa aa) (Fc 20 (@Z7x h a aa aa) (Fu (@ZqK ((getH h a).1) ((Z0G h a).1) aa oq) Fz))))
def ZdJ(hd:Header):∀ n:Nat,(Z0V hd n).Nodup
 | 0=>LI
 | n+1=>by
  have ih:=ZdJ hd n;unfold Z0V;split
  .rw[LY];refine⟨ih,by simp,λa ha b hb=>?_⟩;have:=(Z4e hd n a ha).2;rw[Ln]at hb;omega
  .exact ih
def Zdr(hd:Header):(Z03 hd).Nodup:=by
 unfold Z03;split
 .exact ZdJ hd _
 .exact LI
def Zaz(hd:Header)(fs:List Int)(f:Int->Int):∀ n:Nat,(∀ k:Nat,k<n->fs.getD k M=f k)->Z2E hd fs n=(Z0V hd n).map f
 | 0,_=>rfl
 | n+1,h=>by
  unfold Z2E Z0V;rw[Zaz hd fs f n (λk hk=>h k oq),h n oq];split
  .simp
  .rfl
def Gd.refs{h:Heap}{T:Nat->List Int}(g:Gd h T){i:Nat}{x:Int}(hx:x∈T i)(hk:kdA h.W x≠0):Z47 h x=(Z03 (hdA h.W x)).map λj=>(loadA h.W (x+1+j)).1:=by
 obtain⟨e,l,f⟩:=g.fields hx hk;unfold Z47;rw[e,Zaz _ _ (λj=>(loadA h.W (x+1+j)).1) _ (λk hk=>f k oq),show(Z0G h x).1.length=(hlA h.W x).toNat by omega];unfold Z03;rw[if_pos (show Z0h (hdA h.W x)=O from Z28 _)];rfl
def Zj8{w:Work}(hw:WkOk w)(h:CIv w){n:Int}(hn:1<=n)(hp:n<=w.heap.C.pw)(hc:(w.place n).2.2=O):(w.place n).2.1∉w.Q:=by
 obtain⟨i,p,t,h1,h2,h3,h4,h5,h6,h7,h8,e⟩:=Z4s hw ⟨hn,hp⟩ hc;have hf:=h.f i h1 (by rcases h2 with h2 | h2;exact Lj h2;exact Li h2.1);intro c;have q:=hf _ (Lc _ c);have:=Z0b w.heap.W (w.place n).2.1;omega
def Zfj{l:List Int}{a:Int}(h:l.Nodup)(ha:a∉l):(l++[a]).Nodup:=by
 rw[LY];refine⟨h,by simp,λb hb c hc=>?_⟩;rw[Ln]at hc;rintro rfl;exact ha (hc▸hb)
def ZpB{w:Work}(hw:WkOk w)(h:CIv w){r:Int}(e:(w.fwd r).2.2=0)(nd:w.Q.Nodup):(w.fwd r).1.Q.Nodup:=by
 unfold Work.fwd at e ⊢;split at e
 .rename_i c1;rw[if_pos c1];exact nd
 rename_i c1;rw[if_neg c1];have c1':r∉w.Q:=λq=>c1 (.inr q);split at e
 .simp at e
 rename_i c2;rw[if_neg c2];have c2':r∈w.old:=Lw.1 c2;split at e
 .rename_i c3;rw[if_pos c3];exact nd
 rename_i c3;rw[if_neg c3];split at e
 .simp at e
 rename_i c4;rw[if_neg c4];split at e
 .rename_i c5;rw[if_pos c5];exact Zfj nd c1'
 rename_i c5;rw[if_neg c5];split at e
 .rename_i c6;rw[if_pos c6];exact Zfj nd c1'
 rename_i c6;rw[if_neg c6];split at e
 .simp at e
 rename_i c7;rw[if_neg c7];have c7':(w.place (sizeH (hdW w r))).2.2=O:=by simpa using c7
 have hz:=h.z r c2';have hlr:=Z0b w.heap.W r;have hd:=Z1N w r;have hp:sizeH (hdW w r)<=w.heap.C.pw:=by
  rcases hz with hz | hz
  .exact absurd hz c6
  .omega
 obtain⟨i,p,t,p1,p2,p3,p4,p5,p6,p7,e8⟩:=Z4G hw ⟨by omega,hp⟩ c7';have hq:(w.place (sizeH (hdW w r))).1.Q=w.Q:=by rw[e8]
 show((w.place (sizeH (hdW w r))).1.Q++[_]).Nodup;rw[hq];exact Zfj nd (Zj8 hw h oq hp c7')
structure RO (h:Heap) (T:Nat->List Int) (w:Work) (out:List Int) (n:Nat):Prop where
 b:SW h T w
 nd:w.Q.Nodup
 l:w.Q.length=out.length
 i:∀ i,i<out.length->out.getD i M∈w.old/\Z2F w (out.getD i M)=w.Q.getD i M
 s:∀ y∈w.old,Z2F w y≠0->y∈out
 un:∀ y∈w.old,Z2F w y=0->∀ m,0<=m->m<=hlA h.W y->(loadA w.heap.W (y+m)).1=(loadA h.W (y+m)).1
 uq:∀ i,n<=i->i<out.length->∀ m,0<=m->m<=hlA h.W (out.getD i M)->(loadA w.heap.W (w.Q.getD i M+m)).1=(loadA h.W (out.getD i M+m)).1
def RO.begin{h:Heap}{T:Nat->List Int}(g:Gd h T)(hw:WOk h.W):RO h T (beginW h) [] 0 :=
 ⟨SW.begin g hw,LI,rfl,λi hi=>absurd hi (Lr i),λy hy q=>absurd (Z7O g hy).1 q,λy hy _ m _ _=>rfl,λi _ hi=>absurd hi (Lr i)⟩
def Z5y{l:List Int}{a:Int}{k:Nat}:(l++[a]).getD k M=if k<l.length then l.getD k M else if k=l.length then a else M:=by
 simp only[Lg];split
 .rename_i q;rw[LS q]
 .rename_i q;rw[LU oq];split
  .rename_i q2;subst q2;simp
  .rename_i q2;rw[List.getElem?_eq_none qo];rfl
section
variable {h:Heap} {T:Nat->List Int} {w:Work} {out:List Int} {n:Nat} (o:RO h T w out n) (g:Gd h T) (mv:MV h)
include o g mv
theorem RO.fwd{r:Int}(hr:r=0\/r∈w.old):(w.fwd r).2.2=0/\RO h T (w.fwd r).1 (addO out r) n/\(w.fwd r).2.1=(if r=0 then 0 else Z2F (w.fwd r).1 r):=by
 rcases hr with rfl | hr
 .rw[Work.fwd,if_pos (.inl rfl),addO,if_pos (.inl rfl),if_pos rfl];exact⟨rfl,o,rfl⟩
 obtain⟨tq,k⟩:=o.b.o.c.k;obtain⟨i0,hx0,hk0⟩:=(k.old r).1 hr;have r0:r≠0:=by have:=g.inw hx0;omega
 rw[if_neg r0];by_cases hs:Z2F w r=0
 .obtain⟨i0,hx,e,N⟩:=o.b.o.new g mv hr hs;obtain⟨s1,s2,s3,s4,s5⟩:=o.b.o.seen g mv hr;have same:=(Z49 o.b.o.c.ok o.b.o.c.inv r e).2.2;have no:r∉out:=λc=>by
   obtain⟨j,hj,ej⟩:=getD_mem_iff.1 c;have q:=(o.i j hj).2;rw[ej,hs]at q;have:=o.b.o.c.inv.r 0 (Lc _ (getD_mem_iff.2 ⟨j,by rw[o.l];exact hj,q.symm⟩));omega
  have ea:addO out r=out++[r]:=by rw[addO,if_neg (λc=>c.elim r0 no)]
  rw[ea];have hl:=o.l;refine⟨e,⟨(o.b.fwd g mv (.inr (.inr hr))).2.1,ZpB o.b.o.c.ok o.b.o.c.inv e o.nd,by rw[N.q,Lm,Lm,hl];rfl,λj hj=>?_,λy hy hy2=>?_,λy hy hy2 m m0 m1=>?_,λj hj hj2 m m0 m1=>?_⟩,s2.symm⟩
  .rw[N.o,N.q,Z5y,Z5y,hl];rw[Lm,LH]at hj;by_cases q:j<out.length
   .rw[if_pos q,if_pos q];have:=o.i j q;refine⟨this.1, ?_⟩;rw[s3 _ this.1 (λc=>no (c▸getD_mem_iff.2 ⟨j,q,rfl⟩))];exact this.2
   .have:j=out.length:=by omega
    rw[if_neg q,if_neg q,if_pos this,if_pos this];exact⟨hr,s2⟩
  .rw[s4]at hy;by_cases q:y=r
   .rw[q];simp
   .rw[s3 y hy q]at hy2;exact Le _ (o.s y hy hy2)
  .rw[s4]at hy;have q:y≠r:=λq=>s1 (s2.symm.trans (q▸hy2));rw[s3 y hy q]at hy2;have u:=o.un y hy hy2;have ey:=(Z1L (by have:=u 0 oq (Z0b _ _).1;simpa using this)).2.1;rw[same y (Le _ hy) (.inr q) m m0 (by rw[ey];exact m1)];exact u m m0 m1
  .rw[Lm,LH]at hj2;rw[Z5y]at m1 ⊢;rw[N.q,Z5y,hl];by_cases q:j<out.length
   .rw[if_pos q]at m1 ⊢;rw[if_pos q];have u:=o.uq j hj q;have hq:w.Q.getD j M∈w.Q:=getD_mem_iff.2 ⟨j,by omega,rfl⟩;have ey:hlA w.heap.W (w.Q.getD j M)=hlA h.W (out.getD j M):=by
     have:=u 0 oq (Z0b _ _).1;simp only[Lt]at this;rw[hlA,hlA,this]
    rw[same _ (Lc _ hq) (.inl hq) m m0 (by rw[ey];exact m1)];exact u m m0 m1
   .have:j=out.length:=by omega
    rw[if_neg q,if_pos this]at m1 ⊢;rw[if_neg q,if_pos this];rw[N.x m m0 m1];exact o.un r hr hs m m0 m1
 .rw[o.b.o.same g mv hr hs,addO,if_pos (.inr (o.s r hr hs))];exact⟨rfl,o,rfl⟩
omit mv in
theorem RO.old{x j:Int}(hx:x∈w.old)(hj:j∈Z03 (hdA h.W x)):(loadA h.W (x+1+j)).1=0\/(loadA h.W (x+1+j)).1∈w.old:=by
 obtain⟨tq,k⟩:=o.b.o.c.k;obtain⟨i0,hx0,hk0⟩:=(k.old x).1 hx;have b:=Z1Q _ j hj;refine(g.q i0 x j hx0 hk0 b.1 b.2 (Z7Q _ j hj)).imp id λ⟨a,h1,h2⟩=>(k.old _).2 ⟨a,h1,h2⟩
theorem RO.in1{a:Nat}(ha:a<n)(hn:a<out.length){j:Int}(hj:0<=j/\j<hlA h.W (out.getD a M))(hq:hdA w.heap.W (w.Q.getD a M)=hdA h.W (out.getD a M))(hv:(loadA w.heap.W (w.Q.getD a M+1+j)).1=0\/(loadA w.heap.W (w.Q.getD a M+1+j)).1∈w.old) :
  (w.fwd (loadA w.heap.W (w.Q.getD a M+1+j)).1).2.2=0/\RO h T (w.in1 (w.Q.getD a M+1+j)) (addO out (loadA w.heap.W (w.Q.getD a M+1+j)).1) n/\(w.in1 (w.Q.getD a M+1+j)).Q.getD a M=w.Q.getD a M /\
  hdA (w.in1 (w.Q.getD a M+1+j)).heap.W (w.Q.getD a M)=hdA h.W (out.getD a M)/\(∀ m,0<=m->m<hlA h.W (out.getD a M)->m≠j->loadA (w.in1 (w.Q.getD a M+1+j)).heap.W (w.Q.getD a M+1+m)=loadA w.heap.W (w.Q.getD a M+1+m)):=by
 obtain⟨e,f,_⟩:=o.fwd g mv hv;have hqm:w.Q.getD a M∈w.Q:=getD_mem_iff.2 ⟨a,by have:=o.l;omega,rfl⟩;generalize hqe:w.Q.getD a M=q at *;have hl:hlA w.heap.W q=hlA h.W (out.getD a M):=congrArg Header.length hq;have hw:=o.b.o.c.ok;have iv:=o.b.o.c.inv;have S:=o.b.in1 g mv hqm hj.1 (by rw[hl];exact hj.2) e;obtain⟨tq,k⟩:=o.b.o.c.k;obtain⟨i1,x1⟩:=Z4r hw iv _ e;have sm:=ZdT hw iv _ e;have fs:=(Z49 hw iv _ e).2.2;have hq1:=x1.q q hqm;have hl1:=x1.l q hqm;have hr:=i1.r q (Lc _ hq1);generalize hve:(loadA w.heap.W (q+1+j)).1=v at *;have hin:4096<=q+1+j/\q+1+j<4096+(w.fwd v).1.heap.W.length:=by omega
 have far:∀ x∈(w.fwd v).1.old++(w.fwd v).1.Q,∀ i,0<=i->i<=hlA (w.fwd v).1.heap.W x->x+i=q+1+j->x=q:=by
  intro x hx i y0 b c;have l1:=i1.s q (Lc _ hq1) x hx;have l2:=i1.s x hx q (Lc _ hq1);omega
 have wd:∀ z,z≠q+1+j->loadA (w.in1 (q+1+j)).heap.W z=loadA (w.fwd v).1.heap.W z:=λz hz=>by
  simp only[Work.in1,hve];rw[Z0v hin hz]
 have hh:∀ x∈(w.fwd v).1.old++(w.fwd v).1.Q,loadA (w.in1 (q+1+j)).heap.W x=loadA (w.fwd v).1.heap.W x:=λx hx=>wd x λc=>by
  have:=far x hx 0 oq (Z0b _ _).1 oq;omega
 have eq0:(w.in1 (q+1+j)).Q=(w.fwd v).1.Q:=by simp only[Work.in1,hve]
 have eo0:(w.in1 (q+1+j)).old=(w.fwd v).1.old:=by simp only[Work.in1,hve]
 have se:∀ y∈(w.fwd v).1.old,Z2F (w.in1 (q+1+j)) y=Z2F (w.fwd v).1 y:=λy hy=>by
  unfold Z2F;rw[hh y (Le _ hy),eq0]
 have fl:=f.l;have ln:=o.l;have gq:(w.fwd v).1.Q.getD a M=q:=by rw[sm.get oq];exact hqe
 have ao:a<(addO out v).length:=by
  unfold addO;split
  .exact hn
  .rw[Lm];omega
 refine⟨e,⟨S.1,by rw[eq0];exact f.nd,by rw[eq0];exact f.l,λi hi=>?_,λy hy hy2=>?_,λy hy hy2 m m0 m1=>?_,λi hi hi2 m m0 m1=>?_⟩,by rw[eq0];exact gq,(S.2 q hqm).2.trans hq,λm m0 m1 hm=>?_⟩
 .have:=f.i i hi;rw[eo0,eq0,se _ this.1];exact this
 .rw[eo0]at hy;rw[se y hy]at hy2;exact f.s y hy hy2
 .rw[eo0]at hy;rw[se y hy]at hy2;have u:=f.un y hy hy2;have ey:=(Z1L (by have:=u 0 oq (Z0b _ _).1;simpa using this)).2.1;rw[wd (y+m) λc=>?_]
  .exact u m m0 m1
  .have:=far y (Le _ hy) m m0 (by rw[ey];exact m1) c;subst this;unfold Z2F at hy2;rw[if_pos hq1]at hy2;have:=i1.r y (Le _ hy);omega
 .rw[eq0];have u:=f.uq i hi hi2;have hm2:(w.fwd v).1.Q.getD i M∈(w.fwd v).1.Q:=getD_mem_iff.2 ⟨i,by omega,rfl⟩;have ey:hlA (w.fwd v).1.heap.W ((w.fwd v).1.Q.getD i M)=hlA h.W ((addO out v).getD i M):=by
   have:=u 0 oq (Z0b _ _).1;simp only[Lt]at this;rw[hlA,hlA,this]
  rw[wd _ λc=>?_]
  .exact u m m0 m1
  .have z:=far _ (Lc _ hm2) m m0 (by rw[ey];exact m1) c;have nd:=f.nd;have:i=a:=by
    have h1:(w.fwd v).1.Q[i]? = some q:=by rw[<- z,Lg,Ll oq];rfl
    have h2:(w.fwd v).1.Q[a]? = some q:=by rw[<- gq,Lg,Ll oq];rfl
    exact(List.getElem?_inj oq nd).1 (h1.trans h2.symm)
   omega
 .rw[wd _ oq,show q+1+m=q+(1+m) by omega,fs q (Lc _ hqm) (.inl hqm) (1+m) oq oq]
theorem RO.inn{q x:Int}{l:List Int}(hn:n<out.length)(hq:w.Q.getD n M=q)(hx:out.getD n M=x)(hl:Z03 (hdA h.W x)=l):∀ k,k<=l.length->RO h T (innN w q l k) (addN out (l.map λj=>(loadA h.W (x+1+j)).1) k) (n+1)/\(∀ j,j<k->innE w q l j=0)/\(innN w q l k).Q.getD n M=q/\hdA (innN w q l k).heap.W q=hdA h.W x /\
  (addN out (l.map λj=>(loadA h.W (x+1+j)).1) k).getD n M=x/\n<(addN out (l.map λj=>(loadA h.W (x+1+j)).1) k).length/\∀ m,0<=m->m<hlA h.W x->(∀ i,i<k->l.getD i M≠m)->(loadA (innN w q l k).heap.W (q+1+m)).1=(loadA h.W (x+1+m)).1
 | 0,_=>by
  subst hq;subst hx;have u:=o.uq n (Ld _) hn;refine⟨⟨o.b,o.nd,o.l,o.i,o.s,o.un,λi hi=>o.uq i oq⟩,λj hj=>absurd hj (Lr j),rfl, ?_,rfl,hn,λm m0 m1 _=>?_⟩
  .have:=u 0 oq (Z0b _ _).1;simp only[Lt]at this;show hdA w.heap.W _=_;rw[hdA,hdA,this]
  .have:=u (1+m) oq oq;rw[<- Lx,<- Lx]at this;exact this
 | k+1,hk=>by
  obtain⟨i1,i2,i3,i4,i5,i6,i7⟩:=RO.inn hn hq hx hl k oq;have hj:l.getD k M∈Z03 (hdA h.W x):=by rw[hl];exact getD_mem_iff.2 ⟨k,by omega,rfl⟩
  have jb:=Z1Q _ _ hj;have nd:=Zdr (hdA h.W x);rw[hl]at nd;have hne:∀ i,i<k->l.getD i M≠l.getD k M:=λi hi c=>by
   simp only[Lg]at c;rw[Ll oq,Ll oq]at c;have:=(List.getElem_inj nd).1 c;omega
  have ev:=i7 (l.getD k M) jb.1 jb.2 hne;have xo:x∈(innN w q l k).old:=by
   have:=(i1.i n i6).1;rw[i5]at this;exact this
  have ov:=i1.old g xo hj;rw[<- ev]at ov;obtain⟨c1,c2,c3,c4,c5⟩:=i1.in1 g mv (a:=n) oq i6 (j:=l.getD k M) (by rw[i5];exact jb) (by rw[i3,i5];exact i4) (by rw[i3];exact ov);rw[i3]at c1 c2 c3 c4 c5;rw[i5]at c4 c5;rw[ev]at c2;have em:(l.map λj=>(loadA h.W (x+1+j)).1).getD k M=(loadA h.W (x+1+l.getD k M)).1:=by
   simp only[Lg,List.getElem?_map,Ll (show k<l.length by omega),Option.map_some,Ly]
  have e2:addN out (l.map λj=>(loadA h.W (x+1+j)).1) (k+1)=addO (addN out (l.map λj=>(loadA h.W (x+1+j)).1) k) (loadA h.W (x+1+l.getD k M)).1:=by rw[addN,em]
  rw[e2];refine⟨c2,λj hj=>?_,c3,c4, ?_, ?_,λm m0 m1 hm=>?_⟩
  .by_cases c:j=k
   .rw[c];exact c1
   .exact i2 j oq
  .unfold addO;split
   .exact i5
   .rw[Z5y,if_pos i6];exact i5
  .unfold addO;split
   .exact i6
   .rw[Lm];omega
  .show(loadA ((innN w q l k).in1 (q+1+l.getD k M)).heap.W (q+1+m)).1=_;rw[c5 m m0 m1 (λc=>hm k oq c.symm)];exact i7 m m0 m1 λi hi=>hm i oq
theorem RO.step(hn:n<out.length)(hs:w.D=n):RO h T (Z0z w).1 (addN out (Z47 h (out.getD n M)) (Z47 h (out.getD n M)).length) (n+1)/\(Z0z w).2.1=O/\(Z0z w).1.D=(n+1:Nat):=by
 have hx:=(o.i n hn).1;obtain⟨tq,k⟩:=o.b.o.c.k;obtain⟨i0,hx0,hk0⟩:=(k.old _).1 hx;have e1:=g.refs hx0 hk0;have eh:hdA w.heap.W (w.Q.getD n M)=hdA h.W (out.getD n M):=by
  have:=o.uq n (Ld _) hn 0 oq (Z0b _ _).1;simp only[Lt]at this;rw[hdA,hdA,this]
 have ha:Z0U w=w.Q.getD n M:=by unfold Z0U;rw[hs,Lu]
 have hp:Z0n w=Z03 (hdA h.W (out.getD n M)):=by unfold Z0n hdW;rw[ha];exact congrArg Z03 eh
 obtain⟨i1,i2,_⟩:=o.inn g mv hn rfl rfl rfl _ (Ld _);have hlt:w.D<w.Q.length:=by rw[hs,o.l];omega
 have hb:(Lf (Z0n w).length).find? (λk=>Ls (innE w (Z0U w) (Z0n w) k≠0))=Lk:=Lp.2 λj hj=>by
  have hj:=Lh.1 hj;have e:=i2 j (by rw[hp]at hj;exact hj);rw[ha,hp];rw[e];simp
 have e7:Z0z w=(Z3H (innN w (Z0U w) (Z0n w) (Z0n w).length) (Z0n w).length,O,0):=by unfold Z0z;rw[if_pos hlt,hb]
 have sw:=o.b.step g mv;have so:=(Z8t o.b.o.c.ok sw.1).2 (by rw[e7]);refine⟨?_,by rw[e7],by rw[so,hs];omega⟩;have sw:=sw.2;rw[e7]at sw ⊢;rw[ha,hp]at sw ⊢;rw[e1,Lv];exact⟨sw,i1.nd,i1.l,i1.i,i1.s,i1.un,i1.uq⟩
end
def salA(w:Work):List (Nat×Blk):=[(22009,Z0t w.Q),(21009,Z3g w.T),(20009,Z0t w.old),(19009,Z1V w.heap.P),(18009,Z0t w.heap.W)]
def salL(w:Work):Tg:=⟨tm 26 [(2,.pt 8002 0 0),(3,int 0),(4,.pt 17009 0 0),(5,.fm 98 (.pt 17009 0 0))],(8002,.box 73 zW)::(17009,w.ckB 18009 19009 20009 21009 22009)::salA w,4⟩
def Zdz{w:Work}(m:(Z0z w).2.1=O):w.D<w.Q.length/\(∀ j,j<(Z0n w).length->innE w (Z0U w) (Z0n w) j=0)/\(Z0z w).1=Z3H (innN w (Z0U w) (Z0n w) (Z0n w).length) (Z0n w).length:=by
 unfold Z0z at m ⊢;split at m
 .rename_i hs;rw[if_pos hs];cases hb:(Lf (Z0n w).length).find? (λk=>Ls (innE w (Z0U w) (Z0n w) k≠0))with
  | none =>
   refine⟨hs,λj hj=>?_,rfl⟩;have:=Lp.1 hb j (Lh.2 hj);simpa using this
  | some i=>rw[hb]at m;cases m
 .cases m
def step_end{w:Work}(e:(Z0z w).2.2=0)(m:(Z0z w).2.1=La):¬ w.D<w.Q.length/\(Z0z w).1=w:=by
 unfold Z0z at e m ⊢;split at m
 .rename_i hs;rw[if_pos hs]at e;cases hb:(Lf (Z0n w).length).find? (λk=>Ls (innE w (Z0U w) (Z0n w) k≠0))with
  | none=>rw[hb]at m;cases m
  | some i =>
   rw[hb]at e;exact absurd e (of_decide_eq_true (Lz.1 hb).1)
 .rename_i hs;rw[if_neg hs];exact⟨hs,rfl⟩
def Zl3(w:Work)(k:Z3j w)(m:(Z0z w).2.1=O):CP (rndF f52 0) (salL w).st .nrm (salL (Z0z w).1).st:=by
 obtain⟨hs,h0,e⟩:=Zdz m;rw[e];obtain⟨kk,sc,hr,hd,hN⟩:=k;have hr:=hr hs;have hd:=hd hs;have hN:=hN hs;exact sF [(33014,19009),(34014,21009),(35014,22009)] [] (Fbr 14 [17009,18009,19009,20009,21009,22009] (@Zk0 w aa aa aa aa aa aa aa) Fz)
def ZnB(w:Work)(k:Z3j w)(hs:¬ w.D<w.Q.length):CP (rndF f52 0) (salL w).st .ret (Tg.st ⟨tm 26 [(2,.pt 8002 0 0),(3,int 0)],(8002,.box 73 (w.ckc 18009 19009 20009 21009 22009))::salA w,60⟩):=by
 have ln:=k.k.ln;have sc:=k.sc;exact sF [] [] (Fbq 14 [17009,18009,19009,20009,21009,22009] (@Zkv w aa aa aa) Fz)
def AllS(w:Work):Prop:=∀ k,(∀ j,j<k->Z2I w j=La)->Z3j (itW w k)/\(Z0z (itW w k)).2.2=0
def Zgy{w:Work}{j:Nat}(h:Z2I w j=La):(Z0z (itW w j)).2.1=O:=by
 simp only[Z2I,decide_eq_false_iff_not,not_or,Lw]at h;simpa using h.2
def Zot(w:Work)(R:AllS w)(k:Nat)(hb:(Lf (bndW w)).find? (Z2I w)=some k):CP (blkF f52 0) (Tg.st ⟨tm 26 [(2,.pt 8002 0 0),(3,int 0),(4,.pt 17009 0 0),(5,.fm 98 (.pt 17009 0 0))],(8002,.box 73 zW)::(17009,w.ckB 18009 19009 20009 21009 22009)::salA w,4⟩) .ret (Tg.st ⟨tm 26 [(2,.pt 8002 0 0),(3,int 0)],(8002,.box 73 ((allF w).1.ckc 18009 19009 20009 21009 22009))::salA (allF w).1,60⟩):=by
 obtain⟨h1,h2,h3⟩:=Lz.1 hb;have h0:∀ j,j<k->Z2I w j=La:=λj hj=>by simpa using h3 j hj
 obtain⟨Rk,e⟩:=R k h0;have m:(Z0z (itW w k)).2.1=La:=by
  simp only[Z2I,decide_eq_true_eq,e]at h1;simpa using h1
 obtain⟨hs,e2⟩:=step_end e m;have e7:allF w=(itW w k,0):=by rw[allF,hb];simp only[if_pos e];rw[e2]
 rw[e7];exact Z0H (S:=λk=>(salL (itW w k)).st) k kr (λj hj=>Zl3 _ (R j λi hi=>h0 i oq).1 (Zgy (h0 j hj))) (ZnB _ Rk hs)
def scanAll(w:Work)(hw:WkOk w)(R:AllS w):GP 52 [w.av] O (.tu [(allF w).1.av,int 0]) []:=by
 obtain⟨k,hb⟩:=Z3E hw;have ln:=(R 0 λj hj=>absurd hj (Lr j)).1.k.ln;have ln:LnOk w:=ln;exact gF [] func52 [] (Fbr 9 [] (@Za2 w aa) (Fu (@Zot w aa k hb) (Fa (by exact Z1a _:Z0x (Lb wdv (allF w).1.heap.W)) (Fa (by exact Z1O _:Z0x (Lb Page.dv (allF w).1.heap.P)) (Fa (by exact Z1a _:Z0x (Lb wdv (allF w).1.old)) (Fa (by exact Z3P _:Z0x (Lb idv (allF w).1.T)) (Fa (by exact Z1a _:Z0x (Lb wdv (allF w).1.Q)) Fz)))))))
def ordN(h:Heap)(roots:List Int):Nat->List Int
 | 0=>addN [] roots roots.length
 | i+1=>addN (ordN h roots i) (Z47 h ((ordN h roots i).getD i M)) (Z47 h ((ordN h roots i).getD i M)).length
structure OrdE (h:Heap) (roots:List Int) (k:Nat):Prop where
 r:(Lf roots.length).find? (rfsB roots (Z05 h).1)=Lk
 o:∀ i,i<k->i<(ordN h roots i).length/\ULe (Z47 h ((ordN h roots i).getD i M))/\(Lf (Z47 h ((ordN h roots i).getD i M)).length).find? (rfsB (Z47 h ((ordN h roots i).getD i M)) (Z05 h).1)=Lk
 e:(ordN h roots k).length<=k
 u:∀ i,i<=k->(ordN h roots i).length<=1048576/\ULe (ordN h roots i)
def ordS(h:Heap)(roots:List Int):Nat->Nat->Nat
 | 0,i=>i
 | f+1,i=>if(ordN h roots i).length<=i then i else ordS h roots f (i+1)
def ordK(h:Heap)(roots:List Int):Nat:=ordS h roots (1048577+roots.length) 0
def ZkG{h:Heap}{roots:List Int}{k:Nat}(E:OrdE h roots k):∀ f i,i<=k->k<=i+f->ordS h roots f i=k
 | 0,i,h1,h2=>by unfold ordS;omega
 | f+1,i,h1,h2=>by
  unfold ordS;by_cases q:i=k
  .rw[q,if_pos E.e]
  .have:=(E.o i oq).1;rw[if_neg oq];exact ZkG E f (i+1) oq oq
def ZoR{h:Heap}{roots:List Int}{k:Nat}(E:OrdE h roots k):ordK h roots=k:=by
 refine ZkG E _ 0 (L5 _) ?_;by_cases q:k=0
 .omega
 .have h1:=(E.o (k-1) oq).1;have h2:=(E.u (k-1) oq).1;omega
def Zh2(all refs:List Int)(hl:refs.length<=1048576)(ha:all.length<=1048576)(ho:(addN [] refs refs.length).length<=1048576)(hr:ULe refs)(hb:(Lf refs.length).find? (rfsB refs all)=Lk):BP 71 [Z01 all,.ow 0,Z01 refs] [.arr 35 1 []] (.tu [.ow 1,bool O]) [.dead,.arr 35 1 ((addN [] refs refs.length).map wdv)] :=
 Zjc all [] refs hl ha ho hr hb
def orL(h:Heap)(roots:List Int)(i:Nat):Tg:=⟨tm 52 [(2,.pt 8002 0 0),(4,.d (.sl 0 [])),(5,int 0),(6,Z01 (Z05 h).1),(8,.ow 41025),(9,bool O),(10,int i)],[(41025,.arr 35 1 ((ordN h roots i).map wdv)),(8002,.box 28 [int h.C.pw,int h.C.pg,.d (.sl 1 (h.W.map wdv)),.d (.sl 4 (h.P.map Page.dv)),int h.S,int h.B])],7⟩
section
variable (h:Heap) (roots:List Int) (k:Nat) (E:OrdE h roots k) (hw:WOk h.W)
include E hw
theorem Znw(i:Nat)(hi:i<k):CP (rndF f25 0) (orL h roots i).st .nrm (orL h roots (i+1)).st:=by
 have ol:=Z23 h;obtain⟨o1,o2,o3⟩:=E.o i hi;have u0:=E.u i oq;have u1:=(E.u (i+1) oq).1;have ux:=u0.2 _ (getD_mem_iff.2 ⟨i,o1,rfl⟩);have ul:=u0.1;have rl:(Z47 h ((ordN h roots i).getD i M)).length<=1048576:=by
  have:=Z7F (getH h ((ordN h roots i).getD i M)).1 (Z0G h ((ordN h roots i).getD i M)).1 (Z0G h ((ordN h roots i).getD i M)).1.length;have:=Z4W h ((ordN h roots i).getD i M);unfold Z47;omega
 have e7:ordN h roots (i+1)=addN (ordN h roots i) (Z47 h ((ordN h roots i).getD i M)) (Z47 h ((ordN h roots i).getD i M)).length:=rfl;rw[e7]at u1;unfold orL;rw[e7];let y0:=ordN h roots i;exact sF [(65046,41025)] [] (FlG 32 O wdv y0 (Ftb 34 (Ls ((i:Int)<(y0.length:Int))) (Fmq 44 wdv y0 (↑i) (Fc 45 (@ZlH h (y0.getD (i:Int).toNat M) aa aa) (Fbr 46 [41025] (@Zjc ((Z05 h).1) y0 (Z47 h (y0.getD (i:Int).toNat M)) aa oq aa aa aa) (Fx 36 i Fz))))))
theorem ZqR:CP (rndF f25 0) (orL h roots k).st (.ext 0) (Tg.st ⟨tm 52 [(4,.d (.sl 0 [])),(5,int 0),(8,.ow 41025),(9,bool O)],[(41025,.arr 35 1 ((ordN h roots k).map wdv))],7⟩):=by
 have e:=E.e;exact sF [] [] (FlG 32 O wdv (ordN h roots k) (Ffb 34 (Ls ((k:Int)<(↑(ordN h roots k).length:Int))) Fz))
def Zqb  := Z0a (S:=λi=>(orL h roots i).st) k (by kernel_rfl) (λi hi=>Znw h roots k E hw i hi) (ZqR h roots k E hw)
theorem Zh9(hl:roots.length<=1000)(hr:ULe roots)(hp:Z02 h=O)(ho:(Z05 h).2=0):GP 25 [h.av,Z01 roots] La (.tu [Z01 (ordN h roots k),int 0]) []:=by
 have ol:=Z23 h;have Er:=E.r;have u0:(addN [] roots roots.length).length<=1048576:=(E.u 0 (L5 _)).1;exact gF [] func25 [] (Fh 25 [.gh 35 1,.bor [47025] (AV.tu [AV.ow 1,Sx.bool O]) [Blk.dead,Blk.arr 35 1 (Lb wdv (addN [] roots roots.length))]] (Fc 12 (@Z0m h) (Ffb 13 (!Z02 h) (Fc 16 (@Z3n h aa) (Ffb 20 ((Z05 h).2 != 0) (Fa (@Zh2 ((Z05 h).1) roots oq oq aa aa aa) (Fu (@Zqb h roots k aa aa) Fz)))))))
end
def ZdU(h:Heap)(roots:List Int)(E:OrdE h roots (ordK h roots))(hw:WOk h.W)(hl:roots.length<=1000)(hr:ULe roots)(hp:Z02 h=O)(ho:(Z05 h).2=0):GP 25 [h.av,Z01 roots] La (.tu [Z01 (ordN h roots (ordK h roots)),int 0]) []:=Zh9 h roots _ E hw hl hr hp ho
section
variable {h:Heap} {T:Nat->List Int} (g:Gd h T) (mv:MV h) {s:List Int} (hs:∀ r∈s,r=0\/Ob h T r)
include g mv hs
theorem SW.rootsN(hw:WOk h.W):∀ k,k<=s.length->(∀ j,j<k->Z1k (beginW h) s j=0)/\SW h T (Go.Proofs.YtdhchmlalchgeaaGreat.rootsN (beginW h) s k).1/\∀ i,i<k->ToOk (Go.Proofs.YtdhchmlalchgeaaGreat.rootsN (beginW h) s k).1 ((Go.Proofs.YtdhchmlalchgeaaGreat.rootsN (beginW h) s k).2.getD i M)/\((Go.Proofs.YtdhchmlalchgeaaGreat.rootsN (beginW h) s k).2.getD i M=0↔s.getD i M=0)
 | 0,_=>⟨λj hj=>absurd hj (Lr j),SW.begin g hw,λi hi=>absurd hi (Lr i)⟩
 | k+1,hk=>by
  obtain⟨i1,i2,i3⟩:=SW.rootsN hw k oq;have hr:=hs _ (getD_mem_iff.2 ⟨k,by omega,rfl⟩);obtain⟨tq,ki⟩:=i2.o.c.k;have hr':s.getD k M=0\/s.getD k M∈(Go.Proofs.YtdhchmlalchgeaaGreat.rootsN (beginW h) s k).1.Q\/s.getD k M∈(Go.Proofs.YtdhchmlalchgeaaGreat.rootsN (beginW h) s k).1.old:=hr.imp id λq=>.inr ((ki.old _).2 q);obtain⟨e,f1,f2⟩:=i2.fwd g mv hr';have sm:=ZdT i2.o.c.ok i2.o.c.inv _ e;have hn:=Z2B (beginW h) s k;refine⟨λj hj=>?_,f1,λi hi=>?_⟩
  .by_cases q:j=k
   .rw[q];exact e
   .exact i1 j oq
  .simp only[Go.Proofs.YtdhchmlalchgeaaGreat.rootsN,Lg];by_cases q:i=k
   .subst q;rw[LU oq,hn];simp only[L4,List.getElem?_cons_zero,Ly];simp only[Lg]at hr hr' f2;refine⟨f2,λc=>?_,λc=>?_⟩
    .rcases hr with q | q
     .exact q
     .have:=(i2.o.seen g mv ((ki.old _).2 q)).1;exact absurd c this
    .rw[c,Work.fwd,if_pos (.inl rfl)]
   .rw[LS oq];have:=i3 i oq;simp only[Lg]at this;exact⟨sm.to this.1,this.2⟩
theorem SW.roots(hw:WOk h.W):rootsF (beginW h) s=((Go.Proofs.YtdhchmlalchgeaaGreat.rootsN (beginW h) s s.length).1,(Go.Proofs.YtdhchmlalchgeaaGreat.rootsN (beginW h) s s.length).2,0)/\SW h T (rootsF (beginW h) s).1:=by
 obtain⟨i1,i2,i3⟩:=SW.rootsN g mv hs hw s.length (Ld _);have e:rootsF (beginW h) s=((Go.Proofs.YtdhchmlalchgeaaGreat.rootsN (beginW h) s s.length).1,(Go.Proofs.YtdhchmlalchgeaaGreat.rootsN (beginW h) s s.length).2,0):=by
  unfold rootsF;rw[Lp.2 λj hj=>by simp[i1 j (Lh.1 hj)]]
 rw[e];exact⟨rfl,i2⟩
end
def ZgL{refs all:List Int}(h:∀ r∈refs,r=0\/r∈all):(Lf refs.length).find? (rfsB refs all)=Lk :=
 Lp.2 λj hj=>by
  have:=h _ (getD_mem_iff.2 ⟨j,Lh.1 hj,rfl⟩);unfold rfsB;simp only[decide_eq_true_eq,not_and,Lw];exact λc=>this.resolve_left c
section
variable {h:Heap} {T:Nat->List Int} (g:Gd h T) (mv:MV h) {s:List Int} (hs:∀ r∈s,r=0\/Ob h T r) (hw:WOk h.W)
include g mv hs hw
theorem RO.roots:∀ k,k<=s.length->RO h T (rootsN (beginW h) s k).1 (addN [] s k) 0/\(rootsN (beginW h) s k).1.D=0
 | 0,_=>⟨RO.begin g hw,rfl⟩
 | k+1,hk=>by
  obtain⟨i1,i2⟩:=RO.roots k oq;obtain⟨tq,ki⟩:=i1.b.o.c.k;have hr:=(hs _ (getD_mem_iff.2 ⟨k,by omega,rfl⟩)).imp id λq=>(ki.old _).2 q;have f:=i1.fwd g mv hr;exact⟨f.2.1,(Z49 i1.b.o.c.ok i1.b.o.c.inv _ f.1).2.1.trans i2⟩
theorem RO.it:∀ k,(∀ j,j<k->j<(ordN h s j).length)->RO h T (itW (rootsF (beginW h) s).1 k) (ordN h s k) k/\(itW (rootsF (beginW h) s).1 k).D=k
 | 0,_=>by
  obtain⟨i1,i2⟩:=RO.roots g mv hs hw s.length (Ld _);obtain⟨e,_⟩:=SW.roots g mv hs hw;rw[e];exact⟨i1,i2⟩
 | k+1,hk=>by
  obtain⟨i1,i2⟩:=RO.it k (λj hj=>hk j oq);obtain⟨j1,_,j3⟩:=i1.step g mv (hk k oq) i2;exact⟨j1,j3⟩
theorem ZoO:∃ k,OrdE h s k/\RO h T (cW2 h s) (ordN h s k) k/\(cW2 h s).D=k/\(ordN h s k).length=k:=by
 obtain⟨e,sw⟩:=SW.roots g mv hs hw;obtain⟨k,hk⟩:=Z3E sw.o.c.ok;obtain⟨h1,h2,h3⟩:=Lz.1 hk;have ek:=λj=>((sw.it g mv j).step g mv).1;have key:∀ j,j<=k->∀ i,i<j->i<(ordN h s i).length:=by
  intro j;induction j with
  | zero=>intro _ i hi;omega
  | succ j ih =>
   intro hj i hi;by_cases q:i=j
   .subst q;obtain⟨i1,i2⟩:=RO.it g mv hs hw i (ih oq);have m:Z2I (rootsF (beginW h) s).1 i=La:=by simpa using h3 i oq
    have:=(Zdz (Zgy m)).1;rw[i2,i1.l]at this;omega
   .exact ih oq i oq
 obtain⟨i1,i2⟩:=RO.it g mv hs hw k (key k (Ld _));have m:(Z0z (itW (rootsF (beginW h) s).1 k)).2.1=La:=by
  simp only[Z2I,decide_eq_true_eq,ek k]at h1;simpa using h1
 obtain⟨n1,n2⟩:=step_end (ek k) m;have e7:cW2 h s=itW (rootsF (beginW h) s).1 k:=by rw[cW2,allF,hk];simp only[if_pos (ek k)];exact n2
 have sc:=i1.b.o.c.ok.sc;have il:=i1.l;rw[i2,i1.l]at n1;rw[i2,i1.l]at sc;have all:∀ {i:Nat},i<=k->∀ x∈(itW (rootsF (beginW h) s).1 i).old,x∈(Z05 h).1:=λ{i} hi x hx=>by
  obtain⟨tq,ki⟩:=(sw.it g mv i).o.c.k;exact((KI.begin g).old x).2 ((ki.old x).1 hx)
 refine⟨k,⟨ZgL λr hr=>(hs r hr).imp id λq=>((KI.begin g).old r).2 q,λi hi=>(λq=>⟨key k (Ld _) i hi,λr hr=>(q r hr).elim (λc=>by omega) (λc=>by have:=Z2N h r c;omega),ZgL q⟩) λr hr=>?_,by omega,λi hi=>?_⟩,by rw[e7];exact i1,by rw[e7];exact i2,by omega⟩
 .obtain⟨j1,j2⟩:=RO.it g mv hs hw i (λj hj=>key k (Ld _) j oq);have xo:=(j1.i i (key k (Ld _) i hi)).1;obtain⟨tq,ki⟩:=j1.b.o.c.k;obtain⟨i0,hx0,hk0⟩:=(ki.old _).1 xo;rw[g.refs hx0 hk0]at hr;obtain⟨j,hj,rfl⟩:=List.mem_map.1 hr;exact(j1.old g xo hj).imp id (all oq _)
 .obtain⟨j1,j2⟩:=RO.it g mv hs hw i (λj hj=>key k (Ld _) j oq);have ln:=j1.b.o.c.ck.ln;refine⟨by rw[<- j1.l];exact ln.ql,λx hx=>?_⟩;obtain⟨j,hj,rfl⟩:=getD_mem_iff.1 hx;have:=Z2N h _ (all hi _ (j1.i j hj).1);omega
end
end Go.Proofs.YtdhchmlalchgeaaGreat
set_option maxHeartbeats 2000000
namespace Go.Proofs.YtdhchmlalchgeaaGreat
open Go.Sx
def RO.fw{h:Heap}{T:Nat->List Int}{x:Work}{l:List Int}{n:Nat}(o:RO h T x l n)(g:Gd h T)(mv:MV h){i:Nat}(hi:i<l.length):FwOk x (l.getD i M)/\x.fwd (l.getD i M)=(x,x.Q.getD i M,0):=by
 obtain⟨h1,h2⟩:=o.i i hi;have q:x.Q.getD i M∈x.Q:=getD_mem_iff.2 ⟨i,by rw[o.l];exact hi,rfl⟩;have r:=o.b.o.c.inv.r _ (Lc _ q);have rr:=o.b.o.c.inv.r _ (Le _ h1);have L:=o.b.o.c.ck.ln.wl;have lr:=Z0b x.heap.W (l.getD i M);refine⟨o.b.o.c.fw g oq, ?_⟩;rw[o.b.o.same g mv h1 (by rw[h2];omega),h2]
def soL(x:Work)(l:List Int)(i:Nat):Tg:=⟨tm 95 [(2,bool La),(8,.pt 40008 0 0),(10,Z01 l),(12,int i)],[(40008,.box 73 x.cells)],9⟩
section
variable (x:Work) (l:List Int) (f:∀ i,i<l.length->FwOk x (l.getD i M)/\x.fwd (l.getD i M)=(x,x.Q.getD i M,0)) (hq:x.Q.length=l.length) (hl:x.Q.length<=1048576)
include f hq hl
theorem ZoW(i:Nat)(hi:i<l.length):CP (rndF f14 0) (soL x l i).st .nrm (soL x l (i+1)).st:=by
 obtain⟨f1,f2⟩:=f i hi;have e1:(x.fwd (l.getD i M)).2.2=0:=by rw[f2]
 have e2:(x.fwd (l.getD i M)).2.1=x.Q.getD i M:=by rw[f2]
 have hi2:i<x.Q.length:=by omega
 have rg:=f1.rg;exact sF [] [] (FN 69 70 77 wdv l i (Fc 79 (@Zf0 x (l.getD i M) aa aa) (FeG 90 (!(0:Int) != 0) wdv x.Q (↑i) i (Ffb 93 ((x.fwd (l.getD i M)).2.1 != x.Q.getD i M) (Fx 72 i Fz)))))
omit f hq hl in
theorem ZqY:CP (rndF f14 0) (soL x l l.length).st (.ext 0) (Tg.st ⟨tm 95 [(2,bool La)],[],9⟩):=by
 exact sF [] [] (FO 69 70 wdv l Fz)
def ZpA  := Z0a (S:=λk=>(soL x l k).st) l.length (by kernel_rfl) (λk hk=>ZoW x l f hq hl k hk) (ZqY x l)
end
def Zlt(tape:List Int)(h1:tape.length<=140737488355328):GP 14 [Z0r tape] O (bool O) []:=by
 have hm:=ZfT tape;have hw:=hm.W;have hss:=hm.G;have hsl:=hm.sl;obtain⟨T,g,gs,_⟩:=ZgA tape;have mv:=Zm6 tape;have hg:=(ZhQ tape).1;have hp:=g.p;obtain⟨e1,sw⟩:=SW.roots g mv gs hw;have e2:=(sw.all g mv).1;have c0:Col (Z0e tape).heap T (beginW (Z0e tape).heap):=Col.begin g hw;have r2:Zlu (beginW (Z0e tape).heap) (Z0e tape).G:=c0.rts g hss;have ln0:=c0.ck.ln;have wk1:=sw.o.c.ok;have ln1:=sw.o.c.ck.ln;have R:AllS (rootsF (beginW (Z0e tape).heap) (Z0e tape).G).1:=λk _=>⟨(sw.it g mv k).o.c.stp g,((sw.it g mv k).step g mv).1⟩
 have e3:(rootsF (beginW (Z0e tape).heap) (Z0e tape).G).2.2=0:=by rw[e1]
 obtain⟨a1,a2,a3,a4,a5⟩:=ln1;have sa:=(sw.all g mv).2;obtain⟨b1,b2,b3,b4,b5⟩:=sa.o.c.ck.ln;obtain⟨k,E,ro,sc,lk⟩:=ZoO g mv gs hw;have ek:=ZoR E;subst ek;have lq:(allF (rootsF (beginW (Z0e tape).heap) (Z0e tape).G).1).1.Q.length=(ordN (Z0e tape).heap (Z0e tape).G (ordK (Z0e tape).heap (Z0e tape).G)).length:=ro.l;have fw:∀ i,i<(ordN (Z0e tape).heap (Z0e tape).G (ordK (Z0e tape).heap (Z0e tape).G)).length->FwOk (allF (rootsF (beginW (Z0e tape).heap) (Z0e tape).G).1).1 ((ordN (Z0e tape).heap (Z0e tape).G (ordK (Z0e tape).heap (Z0e tape).G)).getD i M)/\(allF (rootsF (beginW (Z0e tape).heap) (Z0e tape).G).1).1.fwd ((ordN (Z0e tape).heap (Z0e tape).G (ordK (Z0e tape).heap (Z0e tape).G)).getD i M)=((allF (rootsF (beginW (Z0e tape).heap) (Z0e tape).G).1).1,(allF (rootsF (beginW (Z0e tape).heap) (Z0e tape).G).1).1.Q.getD i M,0):=λi hi=>ro.fw g mv hi;have ho:=g.objs.1;let y0:=rootsF (beginW (Z0e tape).heap) (Z0e tape).G;have Q0 {h_ c_ p_} (r_:Fq h_ c_ p_):=Fc 17 (@Zck tape oq) (Fc 21 (@ZaL ((Z0e tape).heap) aa oq oq) (Fc 28 (@Z8D (beginW (Z0e tape).heap) ((Z0e tape).G) aa oq aa) (Fc 34 (@scanAll (y0.1) aa aa) (Fc 42 (@ZdU ((Z0e tape).heap) ((Z0e tape).G) aa aa oq aa oq aa) (FlG 62 (!((0:Int) != 0||y0.2.2 != 0||(0:Int) != 0||(0:Int) != 0)) wdv (allF y0.1).1.Q (FlG 64 (!((0:Int) != 0||y0.2.2 != 0||(0:Int) != 0||(0:Int) != 0)) wdv (ordN (Z0e tape).heap (Z0e tape).G (ordK (Z0e tape).heap (Z0e tape).G)) r_))))));rcases bb ((rootsF (beginW (Z0e tape).heap) (Z0e tape).G).2.2 != 0||La||La||(↑(allF (rootsF (beginW (Z0e tape).heap) (Z0e tape).G).1).1.Q.length:Int) != (↑(ordN (Z0e tape).heap (Z0e tape).G (ordK (Z0e tape).heap (Z0e tape).G)).length:Int))with hc0 | hc0<;>have hc0p:=hc0<;>simp only[bs]at hc0p
 .exact gF [] func14 (fO 12) (Q0 (Ft 66 hc0 (Fa (by grind[]:La=O) Fz)))
 .obtain⟨⟨⟨hc0paaa,hc0paab⟩,hc0pab⟩,hc0pb⟩:=hc0p;exact gF [] func14 [] (Q0 (Ff 66 hc0 (Fu (@ZpA ((allF y0.1).1) (ordN (Z0e tape).heap (Z0e tape).G (ordK (Z0e tape).heap (Z0e tape).G)) aa oq aa) (Fc 94 (@Zh6) Fz))))
end Go.Proofs.YtdhchmlalchgeaaGreat
namespace Go.Proofs.YtdhchmlalchgeaaGreat
open Go.Sx Go.RowKit
def Z85(os:Os)(started:os.Started)(H:Type)(enc:TypeId×Value->H) :
  ReturnsInHanded {} Tryz.checked os 14 .any (Rows.scanOrderSpec.pre6 enc prog f14 Rows.scanOrderRow.domain La) (Rows.scanOrderSpec.post enc prog f14 La O La La):=by
 refine Zdu (C:=Tryz.checked) (tb:=4) 5 own0 started kr func14
  (ChangeSpec.witness6 (enc:=enc) (C:=Tryz.checked) La ⟨#[],#[.slice Lk 0 0],[]⟩ 8 kr kr kr kr)
  Zmt kr kr kr kr rfl (λds hd=>?_) (λls hl h=>?_)
 .match ds,hd with
  | [a0],_=>rfl
 .match ls,hl with
  | [l0],_ =>
   obtain⟨tape,rfl,htape⟩:=ZlS (n:=3) (h 0 22 l0 kr rfl);have e:Zbk prog Tryz.f14.params.toList [[.sl 1 (tape.map idv)]]=[Z0r tape]:=by kernel_rfl
   exact⟨O,e▸Zlt tape htape⟩
def ZdL:(Rows.scanOrderRow.inPlace==Tryz.prog.inPlace 14)=O:=by kernel_rfl
def Zdh:(Rows.scanOrderRow.unfollowed==Tryz.prog.unfollowed 14)=O:=by kernel_rfl
def Zdm:(Rows.scanOrderRow.recurses==Tryz.prog.recurses 14)=O:=by kernel_rfl
def Zd5:(Rows.scanOrderRow.named==Tryz.prog.varsNamed 14)=O:=by kernel_rfl
def Z86:joinedFacts prog 14 f14 Rows.scanOrderSpec Rows.scanOrderRow=O:=by
 unfold joinedFacts;rw[ZdL,Zdh,Zdm,Zd5];kernel_rfl
theorem scanOrder_holds:Rows.ScanOrderSaid :=
 OpenClaim.holds_of_wide 14 f14 rfl rfl rfl rfl rfl rfl rfl ⟨rfl,rfl,rfl,rfl,rfl⟩ rfl rfl rfl rfl rfl kr func14 Z86
  (of_decide_eq_true kr) (by unfold Func.isWrapper;first | (rw[if_pos (by decide+kernel)];kernel_rfl) | (rw[if_neg (by decide+kernel)];exact⟨rfl,rfl⟩))
  (λos started H enc _=>Z85 os started H enc)
end Go.Proofs.YtdhchmlalchgeaaGreat
