/-
 The statement ScanSteps: part 15.
 Conditions: none.
-/
import Derived.Test.YtdhchmlalchgeaaGreatK14
set_option maxRecDepth 100000
set_option maxHeartbeats 2000000
set_option linter.all false
open Bool renaming true->M,false->O,false_eq_true->Lo,true_eq_false->Lp
open Inhabited renaming default->La
open List renaming map->Lb,length_map->Lc,mem_range->Le,range->Lf,replicate->Lj,getD_eq_getElem?_getD->Lk,map_append->Ll,mem_append->Lm,map_cons->Lq,map_drop->Lr,map_set->Ls,map_take->Lt,mem_singleton->Lu,sum_cons->Lv,find?_eq_none->LA,getElem?_eq_getElem->LB,getElem_of_mem->LC,mem_append_left->LD,mem_append_right->LF,find?_range_eq_some->LO,map_nil->LQ,range_succ->LR,set_eq_of_length_le->LS,sum_append->LU,sum_nil->LV
open Decidable renaming decide->Ld
open Or renaming inl->Lg,inr->Lh
open Int renaming le_refl->Li,toNat_natCast->Ln,emod_lt_of_pos->Lx,emod_nonneg->Ly,mul_comm->Lz,add_mul->LH,ediv_lt_of_lt_mul->LI,ediv_nonneg->LL,mul_ediv_add_emod->LM,mul_le_mul_of_nonneg_right->LN
open Nat renaming le_refl->Lw
open Option renaming getD_some->LG
open Go.Proofs.Tryz
namespace Go.Proofs.YtdhchmlalchgeaaGreat
open Go.Sx
structure CE (h:Heap) (T tq:Nat->List Int) (w:Work) (l4 l5:List Int):Prop where
 g:Gd h T
 k:KI h T tq w
 i:CIv w
 s:w.heap.S=0\/w.heap.S=1
 pt:PT w.heap.C w.heap.P
 ts:∀ x∈w.T,(w.heap.P.getD x.toNat La).S=1-w.heap.S
 sd:SD w
 sc:w.D=w.Q.length
 f3:∀ a,loadA l4 a=loadA w.heap.W a\/∃ x∈w.old,Z6b w x/\x<=a/\a<=x+hlA w.heap.W x/\(loadA l4 a).1=Zad (hlA w.heap.W x) a x
 f4:∀ x∈w.old,Z6b w x->∀ a,x<=a->a<=x+hlA w.heap.W x->(loadA l4 a).1=Zad (hlA w.heap.W x) a x
 n4:l4.length=w.heap.W.length
 n5:l5.length=w.heap.W.length
 fr:∀ (i:Nat) (o:Int),i<h.P.length->0<=o->o<h.C.pw->loadA l5 (bsP h i+o)=if Z2f w.heap.S (w.heap.P.getD i La)then(0,0)else loadA l4 (bsP h i+o)
def tE(T tq:Nat->List Int)(w:Work)(i:Nat):List Int:=if(i:Int)∈w.T then tq i else if(w.heap.P.getD i La).S≠w.heap.S then T i else []
section
variable {h:Heap} {T tq:Nat->List Int} {w:Work} {l4 l5:List Int} (c:CE h T tq w l4 l5)
include c
theorem CE.mem{i:Nat}{x:Int}(hx:x∈tE T tq w i):(i:Int)∈w.T/\x∈tq i\/(i:Int)∉w.T/\(w.heap.P.getD i La).S≠w.heap.S/\x∈T i:=by
 unfold tE at hx;split at hx
 .rename_i q;exact Lg ⟨q,hx⟩
 .rename_i q;split at hx
  .rename_i q2;exact Lh ⟨q,q2,hx⟩
  .simp at hx
theorem CE.gone0{i:Nat}(hi:(i:Int)∈w.T):¬ Z2f w.heap.S (w.heap.P.getD i La):=by
 have:=c.ts _ hi;rw[Ln]at this;have:=c.s;unfold Z2f;omega
theorem CE.pgof{i:Nat}{x a:Int}(hx:x∈T i)(h1:x<=a)(h2:a<=x+hlA h.W x):∃ (j:Nat) (o:Int),j<h.P.length/\0<=o/\o<h.C.pw/\a=bsP h j+o/\(w.heap.P.getD j La).K≠0/\(w.heap.P.getD j La).S=(w.heap.P.getD i La).S:=by
 have g:=c.g;have o:=g.on hx;have po:=Z07 g.p;have pg:=c.k.pg i (c.k.nt g hx);have hcc:=c.k.c;have hpl:=c.k.pl;rcases o.2.1 with k | k
 .have pp:=Z0I g.p o.1;exact⟨i,a-bsP h i,o.1,by omega,by omega,by omega,by omega,rfl⟩
 .have hx2:=o.2.2.2.2.2.2 k;have lg:=c.pt.lg i oq oq;rw[pg.2.1,hcc]at lg;have nu:=Z57 lg.1;have h0:0<=(a-bsP h i)/h.C.pw:=LL oq oq;have h3:=LM (a-bsP h i) h.C.pw;have h4:=Ly (a-bsP h i) (b:=h.C.pw) oq;have h5:=Lx (a-bsP h i) (b:=h.C.pw) oq;have h6:(a-bsP h i)/h.C.pw<need h.C (h.P.getD i La).U:=LI oq oq;rw[Lz]at h3;generalize hm:(a-bsP h i)/h.C.pw=m at *;have hmn:((m.toNat:Nat):Int)=m:=by omega
  refine⟨i+m.toNat,(a-bsP h i)%h.C.pw, ?_,h4,h5, ?_, ?_⟩
  .by_cases q:m.toNat=0
   .omega
   .have:=(lg.2 m.toNat oq oq).1;omega
  .unfold bsP at h3 ⊢;rw[Int.natCast_add,hmn,LH];omega
  .by_cases q:m.toNat=0
   .rw[q,Nat.add_zero];exact⟨by omega,rfl⟩
   .have:=(lg.2 m.toNat oq oq).2;exact⟨by omega,this.2⟩
theorem CE.keptw{i:Nat}{x a:Int}(hx:x∈T i)(hs:(w.heap.P.getD i La).S≠w.heap.S)(h1:x<=a)(h2:a<=x+hlA h.W x):loadA l5 a=loadA l4 a:=by
 obtain⟨j,o,j1,o1,o2,e,k0,k1⟩:=c.pgof hx h1 h2;rw[e,c.fr j o j1 o1 o2,if_neg];unfold Z2f;rw[k1];exact λq=>hs q.2
theorem CE.gonew{i:Nat}{x a:Int}(hx:x∈T i)(hs:(w.heap.P.getD i La).S=w.heap.S)(h1:x<=a)(h2:a<=x+hlA h.W x):(loadA l5 a).1=0:=by
 obtain⟨j,o,j1,o1,o2,e,k0,k1⟩:=c.pgof hx h1 h2;rw[e,c.fr j o j1 o1 o2,if_pos ⟨k0,k1.trans hs⟩]
theorem CE.seen4{x a:Int}(hx:x∈w.Q)(h1:x<=a)(h2:a<=x+hlA w.heap.W x):loadA l4 a=loadA w.heap.W a:=by
 rcases c.f3 a with q | ⟨y,hy,q1,q2,q3,q4⟩
 .exact q
 .exfalso;have hne:x≠y:=λe=>q1.2 (e▸hx);have s1:=c.i.s x (LF _ hx) y (LD _ hy);have s2:=c.i.s y (LD _ hy) x (LF _ hx);have r1:=Z0e w.heap.W x;have r2:=Z0e w.heap.W y;rcases Int.lt_or_gt_of_ne hne with q | q
  .have:=s1 q;omega
  .have:=s2 q;omega
theorem CE.takenw{i:Nat}{a:Int}(hi:(i:Int)∈w.T)(h1:bsP h i<=a)(h2:a<bsP h i+h.C.pw):loadA l5 a=loadA l4 a:=by
 have t:=c.k.tk i hi;have:=c.fr i (a-bsP h i) t.1 oq oq;rw[show bsP h i+(a-bsP h i)=a by omega,if_neg (c.gone0 hi)]at this;exact this
theorem CE.seen{x a:Int}(hx:x∈w.Q)(h1:x<=a)(h2:a<=x+hlA w.heap.W x):loadA l5 a=loadA w.heap.W a:=by
 rw[<- c.seen4 hx h1 h2];rcases c.k.q x hx with⟨i,i1,i2,i3,i4⟩ | ⟨i,i1,i2⟩
 .have he:(loadA w.heap.W x).1=(loadA h.W x).1:=by
   rcases c.k.hd i x i2 with q | q
   .exact q
   .exact absurd q.2.2 i4
  rw[(Z1V he).2.1]at h2;exact c.keptw i2 i4 h1 h2
 .have t:=c.k.tk i i1;have m:=Z1L t.2.2.2.2.2.1 i2;exact c.takenw i1 oq oq
theorem CE.where'{x:Int}(hx:x∈w.Q):∃ i,x∈tE T tq w i:=by
 rcases c.k.q x hx with⟨i,i1,i2,i3,i4⟩ | ⟨i,i1,i2⟩
 .exact⟨i,by rw[tE,if_neg i1,if_pos i4];exact i2⟩
 .exact⟨i,by rw[tE,if_pos i1];exact i2⟩
theorem CE.seenK{x:Int}(hx:x∈w.Q):kdA w.heap.W x≠0/\okA w.heap.W x:=by
 rcases c.k.q x hx with⟨i,i1,i2,i3,i4⟩ | ⟨i,i1,i2⟩
 .have he:(loadA w.heap.W x).1=(loadA h.W x).1:=by
   rcases c.k.hd i x i2 with q | q
   .exact q
   .exact absurd q.2.2 i4
  have o:=Z1V he;exact⟨by rw[o.2.2.1];exact i3,o.1 (c.g.on i2).2.2.2.2.2.1⟩
 .have t:=c.k.tk i i1;exact⟨(t.2.2.2.2.2.2 x i2).2.1,(Z1L t.2.2.2.2.2.1 i2).1⟩
theorem CE.kept{i:Nat}{x:Int}(hx:x∈T i)(hn:(i:Int)∉w.T)(hs:(w.heap.P.getD i La).S≠w.heap.S):(loadA w.heap.W x).1=(loadA h.W x).1/\okA l5 x/\hlA l5 x=hlA h.W x/\(x∉w.Q->kdA l5 x=0/\(h.P.getD i La).K=1/\(kdA h.W x≠0->x∈w.old/\Z6b w x)):=by
 have he:(loadA w.heap.W x).1=(loadA h.W x).1:=by
  rcases c.k.hd i x hx with q | q
  .exact q
  .exact absurd q.2.2 hs
 have on:=c.g.on hx;have oh:=Z1V he;have rx:=Z0e h.W x;refine⟨he, ?_⟩;by_cases hq:x∈w.Q
 .have e:=Z1V (congrArg Prod.fst (c.seen hq (Li _) (by have:=Z0e w.heap.W x;omega)));exact⟨e.1 (oh.1 on.2.2.2.2.2.1),by rw[e.2.1,oh.2.1],λq=>absurd hq q⟩
 .have k1:(h.P.getD i La).K=1:=by
   rcases on.2.1 with q | q
   .exact q
   .have:=c.k.lg i q hs;rw[<- (on.2.2.2.2.2.2 q).1]at this;exact absurd this hq
  have e5:loadA l5 x=loadA l4 x:=c.keptw hx hs (Li _) oq;by_cases hk:kdA h.W x=0
  .have e4:loadA l4 x=loadA w.heap.W x:=by
    rcases c.f3 x with q | ⟨y,hy,q1,q2,q3,q4⟩
    .exact q
    .exfalso;obtain⟨j,hj,hjk⟩:=(c.k.old y).1 hy;by_cases e:y=x
     .subst e;exact hjk hk
     .have sj:(loadA w.heap.W y).1=(loadA h.W y).1:=by
       rcases c.k.hd j y hj with q | q
       .exact q
       .exfalso;have o2:=q1.1;unfold Z0K at o2;rw[c.k.c,c.g.ofx hj]at o2;simp only[decide_eq_true_eq,Ln]at o2;exact o2.2.2.2.1 q.2.2
      rw[(Z1V sj).2.1]at q3;have:=c.g.sep hj hx oq;omega
   have e:=Z1V (ws:=h.W) (ws':=l5) (a:=x) (by rw[e5,e4,he]);exact⟨e.1 on.2.2.2.2.2.1,e.2.1,λ_=>⟨by rw[e.2.2.1];exact hk,k1,λq=>absurd hk q⟩⟩
  .have ho:x∈w.old:=(c.k.old x).2 ⟨i,hx,hk⟩;have hf:Z6b w x:=by
    refine⟨?_,hq⟩;have pg:=c.k.pg i hn;have pl:=c.k.pl;unfold Z0K;rw[c.k.c,c.g.ofx hx];simp only[decide_eq_true_eq,Ln];exact⟨by omega,by omega,by omega,hs,hn⟩
   have v:=c.f4 x ho hf x (Li _) (by have:=Z0e w.heap.W x;omega);rw[Zad,if_pos rfl,oh.2.1]at v;rw[<- e5]at v;have d:=ZiA rx;exact⟨by rw[okA,v,d],by rw[hlA,v,d],λ_=>⟨by rw[kdA,hdA,v,d],k1,λ_=>⟨ho,hf⟩⟩⟩
theorem CE.start{i:Nat}{x:Int}(hx:x∈tE T tq w i):okA l5 x/\(kdA l5 x≠0↔x∈w.Q):=by
 have sq:x∈w.Q->okA l5 x/\kdA l5 x≠0:=λhq=>by
  have e:=Z1V (congrArg Prod.fst (c.seen hq (Li _) (by have:=Z0e w.heap.W x;omega)));have s:=c.seenK hq;exact⟨e.1 s.2,by rw[e.2.2.1];exact s.1⟩
 rcases c.mem hx with⟨q1,q2⟩ | ⟨q1,q2,q3⟩
 .have hq:=((c.k.tk i q1).2.2.2.2.2.2 x q2).1;exact⟨(sq hq).1,λ_=>hq,λ_=>(sq hq).2⟩
 .have kk:=c.kept q3 q1 q2;refine⟨kk.2.1,λhk=>?_,λhq=>(sq hq).2⟩;by_cases hq:x∈w.Q
  .exact hq
  .exact absurd (kk.2.2.2 hq).1 hk
theorem CE.good{b:Int}(hp:Z02 ⟨w.heap.C,l5,w.heap.P.map (Z1h w.heap.S),1-w.heap.S,b⟩=M):Gd ⟨w.heap.C,l5,w.heap.P.map (Z1h w.heap.S),1-w.heap.S,b⟩ (tE T tq w):=by
 have g:=c.g;have hcc:=c.k.c;have hpl:=c.k.pl;have hs:=c.s;have po:=Z07 g.p;have hgt:∀ i,i<h.P.length->(w.heap.P.map (Z1h w.heap.S)).getD i La=Z1h w.heap.S (w.heap.P.getD i La):=λi hi=>by
  have:i<w.heap.P.length:=by omega
  simp[Lk,this]
 have hng:∀ i,i<h.P.length->((w.heap.P.map (Z1h w.heap.S)).getD i La).K≠0->¬ Z2f w.heap.S (w.heap.P.getD i La)/\(w.heap.P.map (Z1h w.heap.S)).getD i La=w.heap.P.getD i La:=by
  intro i hi hk;rw[hgt i hi]at hk ⊢;unfold Z1h at hk ⊢;split at hk
  .simp at hk
  .rename_i q;rw[if_neg q];exact⟨q,rfl⟩
 have hb:∀ i,bsP ⟨w.heap.C,l5,w.heap.P.map (Z1h w.heap.S),1-w.heap.S,b⟩ i=bsP h i:=λi=>by simp only[bsP,hcc]
 have hk5:∀ x,x∈w.Q->okA w.heap.W x->okA l5 x/\hlA l5 x=hlA w.heap.W x/\kdA l5 x=kdA w.heap.W x/\hdA l5 x=hdA w.heap.W x:=λx hq ho=>by
  have e:=Z1V (congrArg Prod.fst (c.seen hq (Li _) (by have:=Z0e w.heap.W x;omega)));exact⟨e.1 ho,e.2.1,e.2.2.1,e.2.2.2.1⟩
 have hkept:∀ i,i<h.P.length->(i:Int)∉w.T->((w.heap.P.map (Z1h w.heap.S)).getD i La).K≠0->(w.heap.P.getD i La).S≠w.heap.S/\(h.P.getD i La).K=((w.heap.P.map (Z1h w.heap.S)).getD i La).K/\(h.P.getD i La).U=((w.heap.P.map (Z1h w.heap.S)).getD i La).U/\(h.P.getD i La).N=((w.heap.P.map (Z1h w.heap.S)).getD i La).N:=by
  intro i hi hn hk;have n:=hng i hi hk;have pg:=c.k.pg i hn;rw[n.2]at hk ⊢;refine⟨λq=>n.1 ⟨hk,q⟩,pg.1.symm,pg.2.1.symm,pg.2.2.symm⟩
 refine⟨hp, ?_, ?_, ?_, ?_, ?_, ?_, ?_⟩
 .intro i hi hk;simp only[Lc]at hi hk ⊢;have n:=hng i oq hk;rw[n.2]at hk ⊢;have:=(c.pt.b i hi).s;have n1:=n.1;unfold Z2f at n1;omega
 .intro i hi hk;simp only[Lc]at hi hk ⊢;rw[hb];have n:=hng i oq oq;by_cases q:(i:Int)∈w.T
  .have t:=c.k.tk i q;rw[tE,if_pos q,n.2,hcc];refine⟨Z2A t.2.2.2.2.2.1 λx hx=>?_,λx hx=>?_⟩
   .have e:=hk5 x (t.2.2.2.2.2.2 x hx).1 (Z1L t.2.2.2.2.2.1 hx).1;exact⟨e.1,e.2.1⟩
   .have e:=hk5 x (t.2.2.2.2.2.2 x hx).1 (Z1L t.2.2.2.2.2.1 hx).1;rw[e.2.1];exact(t.2.2.2.2.2.2 x hx).2.2
  .have kp:=hkept i oq q oq;rw[tE,if_neg q,if_pos kp.1,<- kp.2.2.1,hcc];have t:=g.t1 i oq oq;refine⟨Z2A t.1 λx hx=>?_,λx hx=>?_⟩
   .have e:=c.kept hx q kp.1;exact⟨e.2.1,e.2.2.1⟩
   .rw[(c.kept hx q kp.1).2.2.1];exact t.2 x hx
 .intro i hi hk;simp only[Lc]at hi hk ⊢;rw[hb];have n:=hng i oq oq;by_cases q:(i:Int)∈w.T
  .have t:=c.k.tk i q;rw[n.2]at hk;omega
  .have kp:=hkept i oq q oq;have t:=g.t2 i oq oq;have hx:bsP h i∈T i:=by rw[t.1];simp
   have e:=c.kept hx q kp.1;have hq:=c.k.lg i oq kp.1;have st:=c.start (i:=i) (x:=bsP h i) (by rw[tE,if_neg q,if_pos kp.1];exact hx);rw[tE,if_neg q,if_pos kp.1,<- kp.2.2.1];exact⟨t.1,e.2.1,by rw[e.2.2.1];exact t.2.2.1,st.2.2 hq⟩
 .intro i x hx;simp only[Lc];rcases c.mem hx with⟨q1,q2⟩ | ⟨q1,q2,q3⟩
  .have t:=c.k.tk i q1;have:Z1h w.heap.S (w.heap.P.getD i La)=w.heap.P.getD i La:=by rw[Z1h,if_neg (c.gone0 q1)]
   rw[hgt i t.1,this];exact⟨by omega,Lg t.2.2.1⟩
  .have t:=g.t0 i x q3;have pg:=c.k.pg i q1;have:Z1h w.heap.S (w.heap.P.getD i La)=w.heap.P.getD i La:=by rw[Z1h,if_neg (λq=>q2 q.2)]
   rw[hgt i t.1,this];exact⟨by omega,by rw[pg.1];exact t.2⟩
 .intro a ha;simp only at ha ⊢;have h4:(loadA l4 a).1≠0:=by
   have hr:4096<=a/\a<4096+l5.length:=by
    unfold loadA at ha;by_cases q:4096<=a/\a<4096+l5.length
    .exact q
    .rw[if_neg q]at ha;simp at ha
   have hl5:=c.n5;have hL:=c.i.L;rw[hcc]at hL;have h0:0<=(a-4096)/h.C.pw:=LL oq oq;have h3:=LM (a-4096) h.C.pw;have h5:=Ly (a-4096) (b:=h.C.pw) oq;have h6:=Lx (a-4096) (b:=h.C.pw) oq;have h7:(a-4096)/h.C.pw<h.C.pg:=LI oq (by rw[Lz];omega);rw[Lz]at h3;have f:=c.fr ((a-4096)/h.C.pw).toNat ((a-4096)%h.C.pw) oq h5 h6;have ea:bsP h ((a-4096)/h.C.pw).toNat+(a-4096)%h.C.pw=a:=by
    unfold bsP;rw[Int.toNat_of_nonneg h0];omega
   rw[ea]at f;rw[f]at ha;split at ha
   .simp at ha
   .exact ha
  have hks:∀ i x,x∈T i->x<=a->a<=x+hlA h.W x->(i:Int)∉w.T/\(w.heap.P.getD i La).S≠w.heap.S:=λi x hx h1 h2 =>
   ⟨c.k.nt g hx,λq=>ha (c.gonew hx q h1 h2)⟩
  have cov:∀ i x,x∈T i->x<=a->a<=x+hlA h.W x->(x∉w.Q->a=x)->∃ i x,x∈tE T tq w i/\x<=a/\a<x+kpA l5 x:=by
   intro i x hx h1 h2 h3;obtain⟨n1,n2⟩:=hks i x hx h1 h2;have hm:x∈tE T tq w i:=by rw[tE,if_neg n1,if_pos n2];exact hx
   have kk:=c.kept hx n1 n2;have r:=Z0e l5 x;refine⟨i,x,hm,h1, ?_⟩;by_cases q:x∈w.Q
   .rw[kpA,if_neg ((c.start hm).2.2 q),kk.2.2.1];omega
   .have:=h3 q;unfold kpA;split<;>omega
  rcases c.f3 a with q | ⟨x,hx,q1,q2,q3,q4⟩
  .rw[q]at h4;rcases c.k.dt a h4 with⟨i,x,hx,h1,h2⟩ | ⟨i,i1,i2,i3⟩
   .have hkp:kpA h.W x<=hlA h.W x+1:=by
     have:=Z0e h.W x;unfold kpA;split<;>omega
    have hh:=hks i x hx h1 oq;refine cov i x hx h1 oq λhq=>?_;have kk:=(c.kept hx hh.1 hh.2).2.2.2 hq;by_cases hk:kdA h.W x=0
    .rw[kpA,if_pos hk]at h2;omega
    .have fl:=kk.2.2 hk;have oh:=Z1V (c.kept hx hh.1 hh.2).1;have v:=c.f4 x fl.1 fl.2 a h1 (by rw[oh.2.1];omega);rw[<- q]at h4;rw[v,Zad]at h4;split at h4
     .rename_i e;exact e
     .exact absurd rfl h4
   .have t:=c.k.tk i i1;obtain⟨x,hx,x1,x2⟩:=Zaz t.2.2.2.2.2.1 i2 i3;have hm:x∈tE T tq w i:=by rw[tE,if_pos i1];exact hx
    have hq:=(t.2.2.2.2.2.2 x hx).1;have e:=hk5 x hq (Z1L t.2.2.2.2.2.1 hx).1;refine⟨i,x,hm,x1, ?_⟩;rw[kpA,if_neg ((c.start hm).2.2 hq),e.2.1];omega
  .obtain⟨i,hi,hk⟩:=(c.k.old x).1 hx;have sj:(loadA w.heap.W x).1=(loadA h.W x).1:=by
    rcases c.k.hd i x hi with q | q
    .exact q
    .exfalso;have o2:=q1.1;unfold Z0K at o2;rw[hcc,g.ofx hi]at o2;simp only[decide_eq_true_eq,Ln]at o2;exact o2.2.2.2.1 q.2.2
   rw[(Z1V sj).2.1]at q3;refine cov i x hi q2 q3 λ_=>?_;rw[q4,Zad]at h4;split at h4
   .rename_i e;exact e
   .exact absurd rfl h4
 .intro i x m hx hk h0 h1 hpt;simp only at hk h1 hpt ⊢;have hq:=(c.start hx).2.1 hk;have sk:=c.seenK hq;have e:=hk5 x hq sk.2;rw[e.2.1]at h1;rw[e.2.2.2]at hpt;rw[c.seen hq (a:=x+1+m) oq oq];obtain⟨n,n1,n2⟩:=getD_mem_iff.1 hq;have sd:=(c.sd (x+1+m) ⟨n,m,by rw[c.sc];simpa using n1,by rw[n2];exact ZbF h0 h1 hpt,by rw[n2]⟩).2;rcases sd with q | q
  .exact Lg q
  .obtain⟨j,hj⟩:=c.where' q;exact Lh ⟨j,hj,(c.start hj).2.2 q⟩
 .have:crowd (w.heap.P.map (Z1h w.heap.S))<=crowd h.P:=by
   refine Z6G qo λi hi k1 k2=>?_;by_cases q:(i:Int)∈w.T
   .have t:=c.k.tk i q;have n:=hng i hi oq;rw[n.2]at k2;omega
   .have kp:=hkept i hi q oq;omega
  have g2:=g.cr;simp only[hcc];omega
end
def ZhP{B:Int}(hB:0<=B){h:Heap}{T:Nat->List Int}(g:Gd h T){s k:List Int}(hw:WOk h.W)(hb:∀ p∈h.P,p.N<=B)(hs:RtOb h T s)(hk:RtOb h T k)(e:(collectF h s k).2.2.2.2=0) :
  ∃ T',Gd (collectF h s k).1 T'/\RtOb (collectF h s k).1 T' (collectF h s k).2.1/\RtOb (collectF h s k).1 T' (collectF h s k).2.2.1:=by
 have hp:=g.p;have hr:=g.refers hs;have hr':=g.refers hk;have pr1:=(Z7K hB hw hb e).p1;by_cases e1:(rootsF (beginW h) s).2.2=0
 .by_cases e2:(allF (rootsF (beginW h) s).1).2=0
  .have e7:collectF h s k=(endH (cW5 h s k),(rootsF (beginW h) s).2.1,Z3K (cW2 h s) k k.length,(cW5 h s k).rep,0):=by rw[collectF,if_pos hp,if_pos ⟨hr,hr'⟩,if_pos e1,if_pos e2]
   rw[e7]at pr1 ⊢;have ck:=cOk h s k hw hp e1 e2;have c5:=cOk5 h s k hw hp e1 e2;have pr:=ZjA hB hw hp hb e1 e2;have sd:=ZqA hB hw hp hb e1 e2;obtain⟨tq,ki⟩:=ZpE g hw e1 e2;obtain⟨g1,g2,g3,g4,g5⟩:=ck.h4;have po:=Z07 hp;obtain⟨a1,a2,a3,a4,a5,a6,a7,a8⟩:=Z4R (cW2 h s) k k.length;have a1:(cW3 h s k).heap=(cW2 h s).heap:=a1;have a2:(cW3 h s k).old=(cW2 h s).old:=a2;have a3:(cW3 h s k).T=(cW2 h s).T:=a3;have a4:(cW3 h s k).Q=(cW2 h s).Q:=a4;have fl:FL (cW3 h s k) (cW4 h s k).heap.W (cW3 h s k).old.length:=Zgf ck.f3 ck.i3 (cW3 h s k).old.length (Lw _);have tf:∀ x,Z6b (cW3 h s k) x↔Z6b (cW2 h s) x:=λx=>by
    unfold Z6b Z0K;rw[a1,a3,a4]
   have hcc:=ki.c;have hpl:=ki.pl;have hwl:=ki.wl;have w4:(cW4 h s k).heap.W.length=h.W.length:=by
    have:=fl.l;rw[a1]at this;exact this.trans hwl
   have fw:=Zcx (c:=h.C) (s:=(cW2 h s).heap.S) (l:=(cW2 h s).heap.P) (ws:=(cW4 h s k).heap.W) oq (by rw[w4,hpl,po.2.2.2.2.2.2.2.1];exact po.2.2.2.2.2.1) (cW2 h s).heap.P.length (Lw _);have e5:(Z1q (cW4 h s k)).heap.W=Z2k h.C.pw (cW2 h s).heap.S (cW2 h s).heap.P (cW4 h s k).heap.W (cW2 h s).heap.P.length:=by
    simp only[Z1q,g1,g2,g3]
   have ce:CE h T tq (cW2 h s) (cW4 h s k).heap.W (Z1q (cW4 h s k)).heap.W:=by
    refine⟨g,ki,ck.i2,ck.w2.sp,pr.tab.pt,pr.tab.tk,sd.1,sd.2, ?_, ?_, ?_, ?_, ?_⟩
    .intro a;rcases fl.s a with q | ⟨x,hx,q1,q2,q3,q4⟩
     .refine Lg ?_;rw[a1]at q;exact q
     .refine Lh ⟨x,a2▸hx,(tf x).1 q1,q2, ?_, ?_⟩
      .rw[a1]at q3;exact q3
      .rw[a1]at q4;exact q4
    .intro x hx hf a h1 h2;obtain⟨j,j1,j2⟩:=getD_mem_iff.1 hx;have:=fl.f j (by rw[a2];exact j1);rw[a2,a1,j2]at this;exact this ((tf x).2 hf) a h1 h2
    .rw[w4,hwl]
    .rw[e5,fw.1,w4,hwl]
    .intro i o hi h0 ho;have:=fw.2 i o oq h0 ho;rw[e5];show loadA _ (4096+(i:Int)*h.C.pw+o)=_;rw[this];by_cases q:Z2f (cW2 h s).heap.S ((cW2 h s).heap.P.getD i La)
     .rw[if_pos ⟨by omega,q⟩,if_pos q]
     .rw[if_neg (λc=>q c.2),if_neg q];rfl
   have eh:endH (cW5 h s k)=⟨(cW2 h s).heap.C,(Z1q (cW4 h s k)).heap.W,(cW2 h s).heap.P.map (Z1h (cW2 h s).heap.S),1-(cW2 h s).heap.S,(endH (cW5 h s k)).B⟩:=by
    unfold endH cW5;simp only[Z1q,g1,g2,g3,hcc]
   rw[eh]at pr1 ⊢;have gd:=ce.good pr1;have seen:∀ x,ToOk (cW2 h s) x->x=0\/Ob ⟨(cW2 h s).heap.C,(Z1q (cW4 h s k)).heap.W,(cW2 h s).heap.P.map (Z1h (cW2 h s).heap.S),1-(cW2 h s).heap.S,(endH (cW5 h s k)).B⟩ (tE T tq (cW2 h s)) x:=by
    intro x hx;rcases hx with q | q
    .exact Lg q
    .obtain⟨i,hi⟩:=ce.where' q;exact Lh ⟨i,hi,(ce.start hi).2.2 q⟩
   refine⟨tE T tq (cW2 h s),gd,λx hx=>seen x ?_,λx hx=>seen x ?_⟩
   .have hbg:=Z32 hw hp;have hib:=Z35 hp;have pr0:PR B (beginW h):=⟨Z5w hp hb,Z8c hp⟩
    have hall:=Z3B (roots:=s) hbg hib e1;have ax:=ZbC hall.1 hall.2.1 e2;have:ToOk (rootsF (beginW h) s).1 x:=by
     unfold rootsF at e1 hx ⊢;cases hbb:(Lf s.length).find? (λk=>Ld (Z19 (beginW h) s k≠0))with
     | none =>
      rw[hbb]at hx;have h0:∀ j,j<s.length->Z19 (beginW h) s j=0:=λj hj=>by
       have:=LA.1 hbb j (Le.2 hj);simpa using this
      exact Z93 hB hbg hib pr0 s.length h0 x hx
     | some k =>
      rw[hbb]at e1;simp only at e1;have:=(LO.1 hbb).1;simp[e1]at this
    rcases this with q | q
    .exact Lg q
    .exact Lh (ax.2.q x q)
   .have:∀ i,i<=k.length->∀ x∈Z3K (cW2 h s) k i,ToOk (cW2 h s) x:=by
     intro i;induction i with
     | zero=>intro _ x hx;simp[Z3K]at hx
     | succ i ih =>
      intro hi' x hx;simp only[Z3K,Lm,Lu]at hx;rcases hx with hx | rfl
      .exact ih oq x hx
      .have hsi:=Z4R (cW2 h s) k i;unfold Z7b;split
       .exact Lg rfl
       .rename_i hne;unfold Z1H;rw[hsi.2.2.2.1,hsi.1];split
        .rename_i hq;exact Lh hq
        .cases ht:(Z0a (loadA (cW2 h s).heap.W (k.getD i La)).1).2 with
         | true =>
          refine Lh (pr.rt.t _ ?_ ht);rw[ki.old];rcases hk _ (getD_mem_iff.2 ⟨i,by omega,rfl⟩)with q | q
          .exact absurd q hne
          .exact q
         | false =>
          refine Lg ?_;unfold Z0a at ht ⊢;split at ht
          .simp at ht
          .rename_i hcc2;rw[if_neg hcc2]
    exact this k.length (Lw _) x hx
  .rw[collectF,if_pos hp,if_pos ⟨hr,hr'⟩,if_pos e1,if_neg e2]at e;exact absurd e e2
 .rw[collectF,if_pos hp,if_pos ⟨hr,hr'⟩,if_neg e1]at e;exact absurd e e1
def WG.collect{w:WorldM}{n:Nat}(h:WG w)(hm:MOk w n):WG w.collect:=by
 unfold WorldM.collect;split
 .rename_i e;obtain⟨T,g,g1,g2⟩:=h;exact ZhP (B:=n) oq g hm.W (λp hp=>(hm.pin_mem p hp).2) g1 g2 e
 .exact h
def WG.step{w:WorldM}{n:Nat}(h:WG w)(hm:MOk w n)(hn:n<=1000000)(t:Tape):WG (w.step t):=by
 unfold WorldM.step;repeat' split
 .exact h.put hm.W (Z4q _ _)
 .exact h.link hm hn _
 .exact h.pin hm hn _
 .exact h.drop _
 .exact h.collect hm
 .exact h.dup _
def Ziu{w:WorldM}{n:Nat}(h:WG w)(hm:MOk w n)(t:Tape):∀ k,n+k<=1000000->WG (mkS w t k).1
 | 0,_=>h
 | k+1,hk=>(Ziu h hm t k oq).step (Zat hm t k oq) oq _
def Zft(l:List Int):WG (Z06 l):=by
 have e:=Z5M l;have hl:(((Z33 l).step 4).step 5).l.length<=300:=by rw[e.1];simp;omega
 have hk:=Zdg (Z33 l).empty (((Z33 l).step 4).step 5) oq;exact Ziu (Zbi (Z33 l)) (Z8o (Z33 l)) _ _ oq
def ZhT(l:List Int):Z0B (Z06 l).heap=⟨0,0,0⟩/\Z0n (Z06 l).heap (Z06 l).G=M/\Z0n (Z06 l).heap (Z06 l).E=M:=by
 obtain⟨T,g,g1,g2⟩:=Zft l;exact⟨g.good,g.refers g1,g.refers g2⟩
def Z44(l:List Page):sumP nzP l=Z1y l:=by
 rw[Z1I];unfold Z1y;have:∀ n,((Lf n).map λi=>nzP (l.getD i La)).sum=Z1J l n:=by
  intro n;induction n with
  | zero=>simp[Z1J]
  | succ n ih =>
   have hpa:Z1m l n=l.getD n La:=by rw[Z3U];simp
   rw[LR,Ll,LU,ih,Z1J,hpa];simp only[Lq,LQ,Lv,LV,nzP];split<;>simp
 exact this _
def ZpP{pw:Int}:∀ {l:List Page},(∀ p∈l,usP p+lgP p*pw<=nzP p*pw)->sumP usP l+sumP lgP l*pw<=sumP nzP l*pw
 | [],_=>by simp[sumP]
 | x::l,h=>by
  have h1:=ZpP (l:=l) λp hp=>h p (List.mem_cons_of_mem _ hp);have h2:=h x pq;simp only[sumP,Lq,Lv,LH]at h1 h2 ⊢;omega
def ZcF{h:Heap}(hp:Z02 h=M):0<=sumP usP h.P:=Z2R λp hq=>by
 obtain⟨j,hj,rfl⟩:=LC hq;have pp:=Z0I hp hj;rw[Lk,LB hj,LG]at pp;unfold usP;split<;>omega
def ZjR(l:List Page):0<=sumP lgP l:=Z2R λp _=>by unfold lgP;split<;>omega
def MV.few{h:Heap}(hp:Z02 h=M)(hn:(Z1y h.P:Int)<=h.C.pg/4):MV h:=by
 have po:=Z07 hp;rw[<- Z44]at hn;have u0:=ZcF hp;have l0:=ZjR h.P;refine⟨?_,0,by omega,by omega⟩;have:=ZpP (pw:=h.C.pw) (l:=h.P) λp hq=>by
  obtain⟨j,hj,rfl⟩:=LC hq;have pp:=Z0I hp hj;rw[Lk,LB hj,LG]at pp;unfold usP lgP nzP;split
  .rename_i k;rw[if_neg oq,if_neg oq];omega
  .split
   .rw[if_neg oq];omega
   .split<;>omega
 have:=LN hn (show 0<=h.C.pw by omega);omega
def MV.same{h h':Heap}(m:MV h)(hc:h'.C=h.C)(hl:h'.P.length=h.P.length)(hk:∀ i,i<h.P.length->(h'.P.getD i La).K=(h.P.getD i La).K/\(h'.P.getD i La).U=(h.P.getD i La).U):MV h':=by
 have e1:sumP usP h'.P=sumP usP h.P:=Z2U usP hl λi hi=>by unfold usP;rw[(hk i hi).1,(hk i hi).2]
 have e2:sumP nzP h'.P=sumP nzP h.P:=Z2U nzP hl λi hi=>by unfold nzP;rw[(hk i hi).1]
 have e3:sumP lgP h'.P=sumP lgP h.P:=Z2U lgP hl λi hi=>by unfold lgP;rw[(hk i hi).1]
 refine⟨by rw[e1,e3,hc];exact m.v, ?_⟩;rw[e1,e2,e3,hc];exact m.n
def Zq3{l m:List Page}{i:Nat}(h:i+m.length<=l.length):∀ k,k<=m.length->sumP nzP (wr l m i k)<=sumP nzP l+k
 | 0,_=>by rw[Z7A];simp
 | k+1,hk=>by
  have ih:=Zq3 h k oq;have e:=Z8E h oq (La:Page) (k:=k);rw[<- e];have s:=Z5P nzP (m.getD k La) (wr l m i k) (i+k) (by rw[Z4o h oq];omega);have r1:∀ p:Page,0<=nzP p/\nzP p<=1:=λp=>by unfold nzP;split<;>omega
  have:=r1 (m.getD k La);have:=r1 ((wr l m i k).getD (i+k) La);omega
def ZnZ{l:List Page}{i k:Nat}{p q:Page}(hk:1<=k)(h:i+k<=l.length)(hq:q.K≠0):sumP nzP (tookP l i k p q)<=sumP nzP l+k:=by
 have h':i+(Lj k q).length<=l.length:=by simpa using h
 have w:=Zq3 h' k pq;have s:=Z5P nzP p (wr l (Lj k q) i k) i (by rw[Z4o h' pq];omega);have g:(wr l (Lj k q) i k).getD i La=q:=by
  rw[Lk,Z9g h' pq,if_neg oq,if_pos oq,Nat.sub_self,List.getElem?_replicate,if_pos oq];rfl
 rw[g]at s;have:nzP q=1:=by unfold nzP;rw[if_neg hq]
 have:nzP p<=1:=by unfold nzP;split<;>omega
 unfold tookP;omega
def ZlL{h:Heap}{hd:Header}(hp:Z02 h=M)(hc:(put7 h hd).2.2=M):(Z1y (put7 h hd).1.P:Int)<=h.C.pg/4:=by
 have po:=Z07 hp;have hv:=validB_iff.1 po.1;have li:Z2m h.C=h.C.pg/4:=by rw[Z2m,if_pos po.1,Z50 oq]
 unfold put7 at hc ⊢;split at hc
 .rename_i c;rw[if_pos c];unfold Z0x at hc ⊢;split at hc
  .rename_i c2;rw[if_pos c2];have ff:=Z1o c2.1;rw[<- Z44];simp only;have e:(Z2p h.C h.P (first h.P (need h.C (sizeH hd))) h.S (sizeH hd)).1=tookP h.P (first h.P (need h.C (sizeH hd))).toNat (need h.C (sizeH hd)).toNat ⟨2,h.S,sizeH hd,0⟩ ⟨3,h.S,0,0⟩:=by
    unfold Z2p Z31;rw[if_pos oq,if_pos oq,if_pos ff.2.2]
   rw[e];have:=ZnZ (l:=h.P) (i:=(first h.P (need h.C (sizeH hd))).toNat) (k:=(need h.C (sizeH hd)).toNat) (p:=⟨2,h.S,sizeH hd,0⟩) (q:=⟨3,h.S,0,0⟩) oq oq pq;rw[Z44 h.P]at this;omega
  .simp at hc
 .rename_i c;rw[if_neg c];unfold Z0m at hc ⊢;split at hc
  .rename_i c2;rw[if_pos c2];rw[<- Z44];simp only;have e:sumP nzP (Z1D h.P h.B.toNat (sizeH hd))=sumP nzP h.P:=Z2U nzP (by simp[Z1D]) λi hi=>by
    rw[Z3x];by_cases hb:h.B.toNat<h.P.length
    .rw[Z0q hb];split
     .rename_i q;rw[<- q];rfl
     .rfl
    .rw[LS oq]
   rw[e,Z44];have:=c2.2.2.2;omega
  .rename_i c2;rw[if_neg c2];split at hc
   .rename_i c3;rw[if_pos c3];obtain⟨g1,g2,g3⟩:=Z2W po.2.2.2.2.2.2.2.2 c3.1 (sizeH hd);rw[<- Z44];simp only;rw[g1];have s:=Z5P nzP ⟨1,h.S,sizeH hd,0⟩ h.P (first h.P 1).toNat g3;have z1:nzP ⟨1,h.S,sizeH hd,0⟩=1:=rfl;have z0:0<=nzP (h.P.getD (first h.P 1).toNat La):=by unfold nzP;split<;>omega
    rw[Z44 h.P]at s;omega
   .simp at hc
def MV.put{w:WorldM}(m:MV w.heap)(hw:WOk w.heap.W){hd:Header}(hm:0<=hd.map/\hd.map<=4294967295):MV (w.put hd).heap:=by
 unfold WorldM.put;split
 .rename_i e;obtain⟨k1,k2,k3,k4,k5,k6,k7,k8⟩:=Zbh hw hm e;have f:=ZlL k1 k4;refine MV.few k7 ?_;rw[k6];simp only;rw[k3.c];exact f
 .exact m
def MV.setf{h:Heap}{a i v:Int}(m:MV h)(hw:WOk h.W)(hv:0<=v/\v<=18446744073709551615)(e:(getH h a).2=0)(hi:0<=i/\i<(getH h a).1.length):MV (Z0A h a i v).1:=by
 obtain⟨s1,s2,s3⟩:=Z4P hw hv (a:=a) (i:=i) e hi;rw[s1];exact m.same rfl rfl λ_ _=>⟨rfl,rfl⟩
def MV.link{w:WorldM}{n:Nat}(m:MV w.heap)(hm:MOk w n)(hn:n<=1000000)(t:Tape):MV (w.link t).heap:=by
 unfold WorldM.link;split
 .rename_i hc;have hw:=hm.wm hn;have n1:=Z0T (w.pickT (w.pickT t)) (n:=8) dd;have gg:=Z3Y hc.1;have hi:0<=Z4e w t/\Z4e w t<(getH w.heap (w.pick t)).1.length:=by
   unfold Z4e;rw[Int.tmod_eq_emod_of_nonneg n1.1];exact⟨Ly _ oq,Lx _ oq⟩
  have hv:0<=Z4u w t/\Z4u w t<=18446744073709551615:=by
   unfold Z4u;split
   .exact Z2T hw _
   .have:=Z0T ((w.pickT (w.pickT t)).step 8) (n:=1048576) dd;omega
  exact m.setf hm.W hv hc.1 hi
 .exact m
def MV.pinB{w:WorldM}(m:MV w.heap)(i:Nat)(d:Int):MV (Go.Proofs.YtdhchmlalchgeaaGreat.pinB w i d).heap:=by
 refine m.same rfl (by simp[Go.Proofs.YtdhchmlalchgeaaGreat.pinB]) λj hj=>?_;simp only[Go.Proofs.YtdhchmlalchgeaaGreat.pinB];by_cases hi:i<w.heap.P.length
 .rw[Z0q hi];split
  .rename_i q;subst q;exact⟨rfl,rfl⟩
  .exact⟨rfl,rfl⟩
 .rw[LS oq];exact⟨rfl,rfl⟩
def MV.pin{w:WorldM}(m:MV w.heap)(t:Tape):MV (w.pin t).heap:=by
 unfold WorldM.pin;repeat' split
 .exact m.pinB _ _
 .exact m.pinB _ _
 .exact m
 .exact m
def MV.drop{w:WorldM}(m:MV w.heap)(t:Tape):MV (w.drop t).heap:=by
 unfold WorldM.drop;split
 .exact m
 .exact m
def MI.in1{h:Heap}{T tq:Nat->List Int}(g:Gd h T){w:Work}(m:MI h T w)(k:KI h T tq w)(mv:MV h)(hw:WkOk w)(hi:CIv w){q j:Int}(hq:q∈w.Q)(hj:0<=j/\j<hlA w.heap.W q)(e:(w.fwd (loadA w.heap.W (q+1+j)).1).2.2=0):MI h T (w.in1 (q+1+j)):=by
 obtain⟨tq',k'⟩:=k.fwd g hw hi _ e;have m':=m.fwd g k hw mv hi e;obtain⟨i1,x1⟩:=Z5n hw hi _ e;have hq1:=x1.q q hq;have hl1:=x1.l q hq;have hr:=i1.r q (LF _ hq1);have hin:4096<=q+1+j/\q+1+j<4096+(w.fwd (loadA w.heap.W (q+1+j)).1).1.heap.W.length:=by omega
 obtain⟨f1,f2,f3⟩:=k'.field g hq1 (j:=j) oq;have er:Z63 h T (w.in1 (q+1+j))<=Z63 h T (w.fwd (loadA w.heap.W (q+1+j)).1).1:=by
  refine Z4s λi _=>?_;unfold Z9r;split
  .refine Z4s λx hx=>?_;unfold wtW;rw[show(w.in1 (q+1+j)).heap.W=(Z0L (w.fwd (loadA w.heap.W (q+1+j)).1).1.heap.W (q+1+j) (w.fwd (loadA w.heap.W (q+1+j)).1).2.1).1 from rfl,Z0F hin (f1 i x hx)];exact Li _
  .exact Li _
 have m3:=m'.m3;exact⟨m'.m0,m'.m1,m'.m2,by show sumP usP (w.fwd (loadA w.heap.W (q+1+j)).1).1.heap.P+_<=_;omega,m'.m4,m'.m5⟩
def ZqJ{h:Heap}{T:Nat->List Int}(g:Gd h T)(mv:MV h){s:List Int}(hw:WOk h.W)(e:(rootsF (beginW h) s).2.2=0)(e2:(allF (rootsF (beginW h) s).1).2=0):(∃ tq,KI h T tq (cW2 h s))/\MI h T (cW2 h s) :=
 Zm3 (λw=>(∃ tq,KI h T tq w)/\MI h T w) (λw r hw hi ⟨⟨_,k⟩,m⟩ e=>⟨k.fwd g hw hi r e,m.fwd g k hw mv hi e⟩) (λw q j hw hi ⟨⟨_,k⟩,m⟩ hq h0 h1 e=>⟨k.in1 g hw hi hq ⟨h0,h1⟩ e,m.in1 g k mv hw hi hq ⟨h0,h1⟩ e⟩)
  (λw n ⟨⟨tq,k⟩,m⟩=>⟨⟨tq,k.c,k.sp,k.old,k.pl,k.wl,k.pg,k.tk,k.tk0,k.q,k.hd,k.dt,k.lg⟩,⟨m.m0,m.m1,m.m2,m.m3,m.m4,m.m5⟩⟩) hw g.p ⟨⟨_,KI.begin g⟩,MI.begin g⟩ e e2
def Z7z{α:Type}{f g:α->Int}:∀ l:List α,(l.map λx=>f x+g x).sum=(l.map f).sum+(l.map g).sum
 | []=>by simp
 | x::l=>by
  simp only[Lq,Lv,Z7z l];omega
def crP(p:Page):Int:=if p.K=1/\0<p.N then 1 else 0
def Zje(l:List Page):sumP crP l=crowd l:=by
 rw[Z1I];unfold crowd;have:∀ n,((Lf n).map λi=>crP (l.getD i La)).sum=Z0w l n:=by
  intro n;induction n with
  | zero=>simp[Z0w]
  | succ n ih =>
   rw[LR,Ll,LU,ih,Z0w];simp only[Lq,LQ,Lv,LV,crP];split<;>simp
 exact this _
def Z6Z{f:Page->Int}{q:Page->Page}(l:List Page):sumP f (l.map q)=((Lf l.length).map λi=>f (q (l.getD i La))).sum:=by
 rw[Z1I,Lc];congr 1;refine List.map_congr_left λi hi=>?_;have hi:=Le.1 hi;simp[Lk,hi]
def MI.end{h:Heap}{T tq:Nat->List Int}(g:Gd h T){w:Work}(m:MI h T w)(k:KI h T tq w)(mv:MV h)(hw:WkOk w)(ts:∀ x∈w.T,(w.heap.P.getD x.toNat La).S=1-w.heap.S){h':Heap}(hc:h'.C=h.C)(hpg:h'.P=w.heap.P.map (Z1h w.heap.S)):MV h':=by
 have hl:=m.m0.1;have sp:=hw.sp;have po:=Z07 g.p;have page:∀ i,i<h.P.length->((i:Int)∈w.T/\(h.P.getD i La).K=0/\(w.heap.P.getD i La).K=1/\(w.heap.P.getD i La).S=1-w.heap.S)\/((w.heap.P.getD i La).K=(h.P.getD i La).K/\(w.heap.P.getD i La).U=(h.P.getD i La).U/\((h.P.getD i La).K=1->((w.heap.P.getD i La).S=w.heap.S↔¬ 0<(h.P.getD i La).N))):=by
  intro i hi;by_cases c:(i:Int)∈w.T
  .have t:=k.tk i c;have:=ts _ c;rw[Ln]at this;exact Lg ⟨c,t.2.1,t.2.2.1,this⟩
  .have q:=k.pg i c;exact Lh ⟨q.1,q.2.1,m.m5 i hi⟩
 have usr:∀ i,i<h.P.length->0<=(w.heap.P.getD i La).U/\0<=(h.P.getD i La).U:=λi hi=>by
  have a:=hw.us i oq;have b:=Z0I g.p hi;omega
 have q0:(⟨0,0,0,0⟩:Page).K=0:=rfl;have e1:sumP usP h'.P+sumP unP h.P<=sumP usP w.heap.P:=by
  rw[hpg,Z6Z,Z1I unP,Z1I usP,<- hl,<- Z7z];refine Z4s λi hi=>?_;have hi:=Le.1 hi;have p:=page i oq;have u:=usr i oq;by_cases gq:Z2f w.heap.S (w.heap.P.getD i La)
  .rw[Z1h,if_pos gq];unfold Z2f at gq;unfold usP unP;repeat' split
   all_goals (try simp only at *)
   all_goals omega
  .rw[Z1h,if_neg gq];unfold Z2f at gq;unfold usP unP;repeat' split
   all_goals omega
 have e2:sumP usP w.heap.P<=sumP usP h'.P+sumP usP h.P:=by
  rw[hpg,Z6Z,Z1I usP h.P,Z1I usP,<- hl,<- Z7z];refine Z4s λi hi=>?_;have hi:=Le.1 hi;have p:=page i oq;have u:=usr i oq;by_cases gq:Z2f w.heap.S (w.heap.P.getD i La)
  .rw[Z1h,if_pos gq];unfold Z2f at gq;unfold usP;repeat' split
   all_goals (try simp only at *)
   all_goals omega
  .rw[Z1h,if_neg gq];unfold Z2f at gq;unfold usP;repeat' split
   all_goals omega
 have e3:sumP lgP h'.P<=sumP lgP h.P:=by
  rw[hpg,Z6Z,Z1I lgP h.P,<- hl];refine Z4s λi hi=>?_;have hi:=Le.1 hi;have p:=page i oq;by_cases gq:Z2f w.heap.S (w.heap.P.getD i La)
  .rw[Z1h,if_pos gq];unfold Z2f at gq;unfold lgP;repeat' split
   all_goals (try simp only at *)
   all_goals omega
  .rw[Z1h,if_neg gq];unfold Z2f at gq;unfold lgP;repeat' split
   all_goals omega
 have e4:sumP nzP h'.P+sumP nzP h.P<=sumP nzP w.heap.P+(sumP lgP h'.P+sumP crP h.P):=by
  rw[hpg,Z6Z,Z6Z,Z1I nzP h.P,Z1I nzP,Z1I crP,<- hl,<- Z7z,<- Z7z,<- Z7z];refine Z4s λi hi=>?_;have hi:=Le.1 hi;have p:=page i oq;have kr:0<=(h.P.getD i La).K/\(h.P.getD i La).K<=3:=by
   have:=Z0I g.p (show i<h.P.length by omega);omega
  by_cases gq:Z2f w.heap.S (w.heap.P.getD i La)
  .rw[Z1h,if_pos gq];unfold Z2f at gq;unfold nzP lgP crP;repeat' split
   all_goals (try simp only at *)
   all_goals omega
  .rw[Z1h,if_neg gq];unfold Z2f at gq;unfold nzP lgP crP;repeat' split
   all_goals omega
 have cr:=g.cr;rw[<- Zje]at cr;have m1:=m.m1;have m3:=m.m3;have m4:=m.m4;have r:=Zeg h T w;have v:=mv.v;have u0:=ZcF g.p;have hpw:0<=h.C.pw:=by omega
 refine⟨?_,w.T.length,by rw[hc];omega, ?_⟩
 .rw[hc];have:=LN e3 hpw;omega
 .rw[hc];by_cases z:0<w.T.length
  .have m2:=m.m2 z;have:=hw.us (Z0p w).toNat (by have:=hw.tk _ (Z1b z);omega)
   omega
  .have:w.T.length=0:=by omega
   rw[this];simp only[Int.natCast_zero,Int.zero_sub];have:0<=sumP usP h'.P:=by
    have:sumP unP h.P<=sumP usP h.P:=Z4s λp hp=>by
     obtain⟨j,hj,rfl⟩:=LC hp;have pp:=Z0I g.p hj;rw[Lk,LB hj,LG]at pp;unfold unP usP;split
     .rename_i c;rw[if_pos c.1];omega
     .split<;>omega
    omega
   omega
def MV.collectF{B:Int}(hB:0<=B){h:Heap}{T:Nat->List Int}(g:Gd h T)(mv:MV h){s k:List Int}(hw:WOk h.W)(hb:∀ p∈h.P,p.N<=B)(hs:RtOb h T s)(hk:RtOb h T k)(e:(Go.Proofs.YtdhchmlalchgeaaGreat.collectF h s k).2.2.2.2=0):MV (Go.Proofs.YtdhchmlalchgeaaGreat.collectF h s k).1:=by
 have hp:=g.p;have hr:=g.refers hs;have hr':=g.refers hk;by_cases e1:(rootsF (beginW h) s).2.2=0
 .by_cases e2:(allF (rootsF (beginW h) s).1).2=0
  .have e7:Go.Proofs.YtdhchmlalchgeaaGreat.collectF h s k=(endH (cW5 h s k),(rootsF (beginW h) s).2.1,Z3K (cW2 h s) k k.length,(cW5 h s k).rep,0):=by rw[Go.Proofs.YtdhchmlalchgeaaGreat.collectF,if_pos hp,if_pos ⟨hr,hr'⟩,if_pos e1,if_pos e2]
   rw[e7];have ck:=cOk h s k hw hp e1 e2;obtain⟨g1,g2,g3,g4,g5⟩:=ck.h4;have pr:=ZjA hB hw hp hb e1 e2;obtain⟨⟨tq,ki⟩,mi⟩:=ZqJ g mv hw e1 e2;refine mi.end g ki mv ck.w2 pr.tab.tk (h':=endH (cW5 h s k)) ?_ ?_
   .unfold endH cW5;simp only[Z1q,g1]
   .unfold endH cW5;simp only[Z1q,g2,g3]
  .rw[Go.Proofs.YtdhchmlalchgeaaGreat.collectF,if_pos hp,if_pos ⟨hr,hr'⟩,if_pos e1,if_neg e2]at e;exact absurd e e2
 .rw[Go.Proofs.YtdhchmlalchgeaaGreat.collectF,if_pos hp,if_pos ⟨hr,hr'⟩,if_neg e1]at e;exact absurd e e1
def MV.collect{w:WorldM}{n:Nat}(m:MV w.heap)(h:WG w)(hm:MOk w n):MV w.collect.heap:=by
 unfold WorldM.collect;split
 .rename_i e;obtain⟨T,g,g1,g2⟩:=h;exact MV.collectF (B:=n) oq g m hm.W (λp hp=>(hm.pin_mem p hp).2) g1 g2 e
 .exact m
def MV.step{w:WorldM}{n:Nat}(m:MV w.heap)(h:WG w)(hm:MOk w n)(hn:n<=1000000)(t:Tape):MV (w.step t).heap:=by
 unfold WorldM.step;repeat' split
 .exact m.put hm.W (Z4q _ _)
 .exact m.link hm hn _
 .exact m.pin _
 .exact m.drop _
 .exact m.collect h hm
 .exact m
def Znq{w:WorldM}{n:Nat}(m:MV w.heap)(h:WG w)(hm:MOk w n)(t:Tape):∀ k,n+k<=1000000->MV (mkS w t k).1.heap
 | 0,_=>m
 | k+1,hk=>(Znq m h hm t k oq).step (Ziu h hm t k oq) (Zat hm t k oq) oq _
def ZlX(l:List Int):MV (Z06 l).heap:=by
 have e:=Z5M l;have hl:(((Z33 l).step 4).step 5).l.length<=300:=by rw[e.1];simp;omega
 have hk:=Zdg (Z33 l).empty (((Z33 l).step 4).step 5) oq;obtain⟨_,ge,_⟩:=Zbi (Z33 l);have hp:=ge.p;refine Znq (MV.few hp ?_) (Zbi (Z33 l)) (Z8o (Z33 l)) _ _ oq;have hv:=validB_iff.1 (Z07 hp).1;have z:sumP nzP (Z33 l).empty.heap.P=0:=by simp[sumP,Tape.empty,Z3b,nzP]
 rw[Z44]at z;omega
def Zk8{w:Int}(h:(decodeH w).2=M):(Z0a w).2=O:=by
 unfold decodeH at h;split at h
 .rename_i c;unfold Z0d at c;split at c
  .simp only at c;unfold Z0a;rw[if_neg oq]
  .simp at c
 .cases h
structure OnW (h:Heap) (T:Nat->List Int) (w:Work):Prop where
 c:Col h T w
 m:MI h T w
 q:∀ y∈w.old,Z5h w y≠0->Z5h w y∈w.Q
 z:∀ y∈w.old,Z5h w y=0->y∉w.Q/\(Z0a (loadA w.heap.W y).1).2=O
 n:w.rep.copied+w.rep.kept=w.Q.length
def ZaP{h:Heap}{T:Nat->List Int}(g:Gd h T){y:Int}(hy:y∈(beginW h).old):Z5h (beginW h) y=0/\(Z0a (loadA h.W y).1).2=O:=by
 obtain⟨i,hi,hk⟩:=((KI.begin g).old y).1 hy;have t:=Zk8 (g.on hi).2.2.2.2.2.1;refine⟨?_,t⟩;unfold Z5h;rw[if_neg (by simp[beginW]),if_neg (by show ¬ (Z0a (loadA h.W y).1).2=M;rw[t];simp)]
def OnW.begin{h:Heap}{T:Nat->List Int}(g:Gd h T)(hw:WOk h.W):OnW h T (beginW h) :=
 ⟨Col.begin g hw,MI.begin g,λy hy q=>absurd (ZaP g hy).1 q,λy hy _=>⟨by simp[beginW],(ZaP g hy).2⟩,rfl⟩
section
variable {h:Heap} {T:Nat->List Int} {w:Work} (o:OnW h T w) (g:Gd h T) (mv:MV h) {r:Int} (hr:r∈w.old)
include o g mv hr
theorem OnW.new(hs:Z5h w r=0):∃ i0,r∈T i0/\(w.fwd r).2.2=0/\NewF h T w r i0 (w.fwd r).1 (w.fwd r).2.1:=by
 obtain⟨tq,k⟩:=o.c.k;obtain⟨i0,hx,hk⟩:=(k.old r).1 hr;have z:=o.z r hr hs;exact⟨i0,hx,ZoK g o.m k o.c.ok mv hx hk z.1 z.2⟩
theorem OnW.ok:(w.fwd r).2.2=0:=by
 obtain⟨tq,k⟩:=o.c.k;exact o.m.fwd_ok g k o.c.ok mv o.c.inv (.inr (.inr hr))
theorem OnW.same(hs:Z5h w r≠0):w.fwd r=(w,Z5h w r,0):=by
 unfold Work.fwd Z5h at *;split at hs
 .rename_i q;rw[if_pos (.inr q),if_pos q]
 .rename_i q;split at hs
  .rename_i q2;obtain⟨tq,k⟩:=o.c.k;obtain⟨i0,hx,hk⟩:=(k.old r).1 hr;have:=g.inw hx;have c:¬ (r=0\/r∈w.Q):=by
    rintro(c | c)
    .omega
    .exact q c
   rw[if_neg c,if_neg (by simpa using hr),if_pos q2,if_neg q,if_pos q2]
  .exact absurd rfl hs
theorem OnW.seen:(w.fwd r).2.1≠0/\Z5h (w.fwd r).1 r=(w.fwd r).2.1/\(∀ y∈w.old,y≠r->Z5h (w.fwd r).1 y=Z5h w y)/\(w.fwd r).1.old=w.old /\
  ((w.fwd r).1.Q.length:Int)=w.Q.length+(if Z5h w r=0 then 1 else 0):=by
 by_cases hs:Z5h w r=0
 .obtain⟨i0,hx,e,N⟩:=o.new g mv hr hs;have z:=o.z r hr hs;have b:=N.b;obtain⟨tq,k⟩:=o.c.k;refine⟨by omega, ?_,λy hy hne=>?_,N.o,by rw[if_pos hs,N.q];simp⟩
  .unfold Z5h;rw[N.q];by_cases q:(w.fwd r).2.1=r
   .rw[if_pos (by rw[q];simp)];exact q.symm
   .rw[if_neg (by simp only[Lm,Lu];rintro(c | c);exact z.1 c;exact q c.symm),N.c q];simp
  .obtain⟨j,hj,_⟩:=(k.old y).1 hy;have t:=N.t j y hj hne;unfold Z5h;rw[N.q,t.2];have:(y∈w.Q++[(w.fwd r).2.1])↔y∈w.Q:=by
    simp only[Lm,Lu];exact⟨λc=>c.elim id λc=>absurd c.symm t.1,.inl⟩
   simp only[this]
 .rw[o.same g mv hr hs];exact⟨hs,rfl,λ_ _ _=>rfl,rfl,by rw[if_neg hs];simp⟩
theorem OnW.fwd:OnW h T (w.fwd r).1:=by
 by_cases hs:Z5h w r=0
 .obtain⟨i0,hx,e,N⟩:=o.new g mv hr hs;obtain⟨s1,s2,s3,s4,s5⟩:=o.seen g mv hr;obtain⟨tq,k⟩:=o.c.k;refine⟨o.c.fwd g e,o.m.fwd g k o.c.ok mv o.c.inv e,λy hy hne=>?_,λy hy h0=>?_,by rw[N.n,o.n,N.q];simp⟩
  .rw[s4]at hy;rw[N.q];by_cases q:y=r
   .subst q;rw[s2];simp
   .rw[s3 y hy q]at hne ⊢;exact LD _ (o.q y hy hne)
  .rw[s4]at hy;by_cases q:y=r
   .subst q;rw[s2]at h0;exact absurd h0 s1
   .rw[s3 y hy q]at h0;have z:=o.z y hy h0;obtain⟨j,hj,_⟩:=(k.old y).1 hy;have t:=N.t j y hj q;rw[N.q,t.2];refine⟨?_,z.2⟩;simp only[Lm,Lu];rintro(c | c)
    .exact z.1 c
    .exact t.1 c.symm
 .rw[o.same g mv hr hs];exact o
end
def Zay(h:Heap)(hw:WOk h.W)(hp:Z02 h=M)(hg:Z0B h=⟨0,0,0⟩):GP 33 [h.av] O (.tu [(beginW h).av,int 0]) []:=Zg6 h hw hp hg
def stsL(w:Work)(i:Nat):Tg:=⟨tm 154 [(4,bool O),(6,.pt 32006 0 0),(8,.pt 40008 0 0),(16,int i)],[(40008,.box 89 w.cells),(32006,.box 73 w.cells)],13⟩
structure StsR (w:Work):Prop where
 s:Z3G w
 k:WkOk w
 l:LnOk (Z0j w).1
def Zgq(w:Work)(i:Nat)(hi:i<200)(R:StsR w)(e:(Z0j w).2.1=M):CP (rndF f11 0) (stsL w i).st .nrm (stsL (Z0j w).1 (i+1)).st:=by
 obtain⟨s,k,ln⟩:=R;obtain⟨a1,a2,a3,a4,a5⟩:=ln;exact sF [] [] (Ftb 119 (Ld ((i:Int)<200)) (Fc 124 (@Zbl w aa) (Fc 130 (@Z5j w aa) (FcG 145 (!((Z0j w).2.2 != (Z0j w).2.2||!(Z0j w).2.1==(Z0j w).2.1)) (λhg=>by(try simp only[bs]at hg);exact @Z4B ((Z0j w).1) aa aa aa aa aa) (Ffs 147 ((Z0j w).2.2 != (Z0j w).2.2||!(Z0j w).2.1==(Z0j w).2.1||O) (Ffb 151 (!(Z0j w).2.1) (Fx 121 i Fz)))))))
def ZoM(w:Work)(i:Nat)(hi:i<200)(R:StsR w)(e:(Z0j w).2.1=O):CP (rndF f11 0) (stsL w i).st .ret (Tg.st ⟨tm 154 [(4,bool M)],[],60⟩):=by
 obtain⟨s,k,ln⟩:=R;obtain⟨a1,a2,a3,a4,a5⟩:=ln;exact sF [] [] (Ftb 119 (Ld ((i:Int)<200)) (Fc 124 (@Zbl w aa) (Fc 130 (@Z5j w aa) (FcG 145 (!((Z0j w).2.2 != (Z0j w).2.2||!(Z0j w).2.1==(Z0j w).2.1)) (λhg=>by(try simp only[bs]at hg);exact @Z4B ((Z0j w).1) aa aa aa aa aa) (Ffs 147 ((Z0j w).2.2 != (Z0j w).2.2||!(Z0j w).2.1==(Z0j w).2.1||O) (Ftb 151 (!(Z0j w).2.1) (Fc 152 (@ZaC) Fz)))))))
def ZpB(w:Work):CP (rndF f11 0) (stsL w 200).st (.ext 0) (Tg.st ⟨tm 154 [(4,bool O)],[],13⟩):=by
 exact sF [] [] Fz
def StsS(w:Work):Prop:=∀ k,(∀ j,j<k->(Z0j (itW w j)).2.1=M)->StsR (itW w k)
section
variable (w:Work) (R:StsS w)
include R
theorem Zoy(hb:(Lf 200).find? (λk=>Ld ((Z0j (itW w k)).2.1=O))=none):CP (blkF f11 0) (Tg.st ⟨tm 154 [(4,bool O),(6,.pt 32006 0 0),(8,.pt 40008 0 0),(16,int 0)],[(40008,.box 89 w.cells),(32006,.box 73 w.cells)],13⟩) .nrm (Tg.st ⟨tm 154 [(4,bool O)],[],13⟩):=by
 have h0:∀ j,j<200->(Z0j (itW w j)).2.1=M:=λj hj=>by
  have:=LA.1 hb j (Le.2 hj);simpa using this
 exact Z0b (S:=λk=>(stsL (itW w k) k).st) 200 kr (λk hk=>Zgq _ k hk (R k λj hj=>h0 j oq) (h0 k hk)) (ZpB _)
theorem Zlu(i:Nat)(hb:(Lf 200).find? (λk=>Ld ((Z0j (itW w k)).2.1=O))=some i):CP (blkF f11 0) (Tg.st ⟨tm 154 [(4,bool O),(6,.pt 32006 0 0),(8,.pt 40008 0 0),(16,int 0)],[(40008,.box 89 w.cells),(32006,.box 73 w.cells)],13⟩) .ret (Tg.st ⟨tm 154 [(4,bool M)],[],60⟩):=by
 obtain⟨h1,h2,h3⟩:=LO.1 hb;have h2:=Le.1 h2;have h0:∀ j,j<i->(Z0j (itW w j)).2.1=M:=λj hj=>by simpa using h3 j hj
 exact Z0z (S:=λk=>(stsL (itW w k) k).st) i kr (λk hk=>Zgq _ k oq (R k λj hj=>h0 j oq) (h0 k hk)) (ZoM _ i h2 (R i h0) (of_decide_eq_true h1))
end
def ZfT{h:Heap}{T:Nat->List Int}(g:Gd h T)(mv:MV h){s:List Int}(hs:∀ r∈s,r=0\/Ob h T r){w:Work}(c:Col h T w)(m:MI h T w):∀ k,k<=s.length->(∀ j,j<k->Z19 w s j=0)/\Col h T (Z0R w s k).1/\MI h T (Z0R w s k).1/\∀ x,x∈(Z0R w s k).1.old↔Ob h T x
 | 0,_=>⟨λj hj=>absurd hj (Nat.not_lt_zero j),c,m,by obtain⟨_,k⟩:=c.k;exact k.old⟩
 | k+1,hk=>by
  obtain⟨i1,i2,i3,i4⟩:=ZfT g mv hs c m k oq;obtain⟨_,ki⟩:=i2.k;have hr:=hs _ (getD_mem_iff.2 ⟨k,by omega,rfl⟩);have e:Z19 w s k=0:=i3.fwd_ok g ki i2.ok mv i2.inv (hr.imp id λq=>Lh ((i4 _).2 q));have c':=i2.fwd g e;obtain⟨_,k'⟩:=c'.k;refine⟨λj hj=>?_,c',i3.fwd g ki i2.ok mv i2.inv e,k'.old⟩;by_cases q:j=k
  .rw[q];exact e
  .exact i1 j oq
def Zew{w:Work}{s:List Int}(h:∀ j,j<s.length->Z19 w s j=0):rootsF w s=((Z0R w s s.length).1,(Z0R w s s.length).2,0):=by
 unfold rootsF;rw[LA.2 λj hj=>by simp[h j (Le.1 hj)]]
def ZgS{w:Work}{s:List Int}(e:(rootsF w s).2.2≠0):(rootsF w s).1=noWork:=by
 cases hb:(Lf s.length).find? (λk=>Ld (Z19 w s k≠0))with
 | none=>unfold rootsF at e;rw[hb]at e;exact absurd rfl e
 | some i=>unfold rootsF;rw[hb]
def ZdC{w:Work}(e:(Z0j w).2.2≠0):(Z0j w).1=noWork/\(Z0j w).2.1=O:=by
 unfold Z0j at e ⊢;split at e
 .rename_i c;rw[if_pos c];split at e
  .exact absurd rfl e
  .exact⟨rfl,rfl⟩
 .exact absurd rfl e
def Col.sts{h:Heap}{T:Nat->List Int}{w:Work}(c:Col h T w)(g:Gd h T):StsS w:=by
 have key:∀ k,(∀ j,j<k->(Z0j (itW w j)).2.1=M)->Col h T (itW w k):=by
  intro k;induction k with
  | zero=>intro _;exact c
  | succ k ih =>
   intro hh;have ck:=ih λj hj=>hh j oq;refine ck.step g ?_;by_cases q:(Z0j (itW w k)).2.2=0
   .exact q
   .have:=(ZdC q).2;rw[hh k oq]at this;cases this
 intro k hh;have ck:=key k hh;refine⟨ck.stp g,ck.ok, ?_⟩;by_cases q:(Z0j (itW w k)).2.2=0
 .exact(ck.step g q).ck.ln
 .rw[(ZdC q).1];exact Zdm
def Zar(w:Work)(s:List Int):(rootsF w s).2.1.length<=s.length:=by
 cases hb:(Lf s.length).find? (λk=>Ld (Z19 w s k≠0))with
 | none=>unfold rootsF;rw[hb];exact Nat.le_of_eq (Z2z w s _)
 | some i=>unfold rootsF;rw[hb];exact Nat.zero_le _
def ZkM(tape more:List Int)(h1:tape.length<=140737488355328)(h2:more.length<=140737488355328)(hr:WOk more):GP 11 [Z0k tape,Z01 more] M (bool M) []:=by
  have hm:=Zg0 tape;have hw:=hm.W;have hss:=hm.G;have hsl:=hm.sl;obtain⟨T,g,gs,_⟩:=Zft tape;have mv:=ZlX tape;have hg:=(ZhT tape).1;have hp:=g.p;by_cases c:20<more.length
  . exact gF [] func11 [] (Fl 24 wdv more (Ftb 25 (Ld (20<(more.length:Int))) Fz))
  . have c0:Col (Z06 tape).heap T (beginW (Z06 tape).heap):=Col.begin g hw;have ro:=ZfT g mv gs c0 (MI.begin g) _ (Lw _);have e1:=Zew ro.1;have r2:ZiZ (beginW (Z06 tape).heap) (Z06 tape).G:=c0.rts g hss;have r1:ZiZ (beginW (Z06 tape).heap) ((Z06 tape).G++more):=c0.rts g λx hx=>(Lm.1 hx).elim (hss x) (hr x);have ln0:=c0.ck.ln;have wk0:=c0.ok;have e2:(rootsF (beginW (Z06 tape).heap) (Z06 tape).G).2.2=0:=by rw[e1]
    have c1:=c0.rootsF g e2;have ln1:=c1.ck.ln;have hu:ULe ((Z06 tape).G++more):=λx hx=>(Lm.1 hx).elim (hss x) (hr x);have hl1:=Zar (beginW (Z06 tape).heap) ((Z06 tape).G++more);have hl2:=Zar (beginW (Z06 tape).heap) (Z06 tape).G;rw[List.length_append]at hl1;have ln2:LnOk (rootsF (beginW (Z06 tape).heap) ((Z06 tape).G++more)).1:=by
      by_cases q:(rootsF (beginW (Z06 tape).heap) ((Z06 tape).G++more)).2.2=0
      . exact(c0.rootsF g q).ck.ln
      . rw[ZgS q];exact Zdm
    obtain⟨a1,a2,a3,a4,a5⟩:=ln1;obtain⟨b1,b2,b3,b4,b5⟩:=ln2;have wk1:=c1.ok;have sc:=c1.sts g;cases hb:(Lf 200).find? (λk=>Ld ((Z0j (itW (rootsF (beginW (Z06 tape).heap) (Z06 tape).G).1 k)).2.1=O))with
    | none => refine gspec_ofE [((24:Nat),[Hint.int (more.length:Int)]),((25:Nat),[Hint.br O]),((27:Nat),[Hint.call O (Z06 tape).av []]),((31:Nat),[Hint.call O (AV.tu [(beginW (Z06 tape).heap).av,int (0:Int)]) []]),((37:Nat),[Hint.call O (AV.tu [(beginW (Z06 tape).heap).av,int (0:Int)]) []]),((42:Nat),[Hint.els (Lb wdv [])]),((45:Nat),[Hint.els (Lb wdv (Z06 tape).G)]),((47:Nat),[Hint.els (Lb wdv ((Z06 tape).G++more))]),((48:Nat),[Hint.call M (AV.tu [(rootsF (beginW (Z06 tape).heap) ((Z06 tape).G++more)).1.av,Z01 (rootsF (beginW (Z06 tape).heap) ((Z06 tape).G++more)).2.1,int (rootsF (beginW (Z06 tape).heap) ((Z06 tape).G++more)).2.2]) []]),((54:Nat),[Hint.els (Lb wdv [])]),((57:Nat),[Hint.els (Lb wdv (Z06 tape).G)]),((59:Nat),[Hint.els (Lb wdv ((Z06 tape).G++more))]),((60:Nat),[Hint.kill (AV.tu [(rootsF (beginW (Z06 tape).heap) ((Z06 tape).G++more)).1.av,Z01 (rootsF (beginW (Z06 tape).heap) ((Z06 tape).G++more)).2.1,int (rootsF (beginW (Z06 tape).heap) ((Z06 tape).G++more)).2.2])]),((75:Nat),[Hint.call M (Sx.bool M) []]),((81:Nat),[Hint.call M (Sx.bool M) []]),((83:Nat),[Hint.br O]),((88:Nat),[Hint.call M (AV.tu [(rootsF (beginW (Z06 tape).heap) (Z06 tape).G).1.av,Z01 (rootsF (beginW (Z06 tape).heap) (Z06 tape).G).2.1,int (rootsF (beginW (Z06 tape).heap) (Z06 tape).G).2.2]) []]),((96:Nat),[Hint.call O (AV.tu [(rootsF (beginW (Z06 tape).heap) (Z06 tape).G).1.av,Z01 (rootsF (beginW (Z06 tape).heap) (Z06 tape).G).2.1,int (rootsF (beginW (Z06 tape).heap) (Z06 tape).G).2.2]) []]),((109:Nat),[Hint.call M (Sx.bool M) []]),((115:Nat),[Hint.call M (Sx.bool M) []]),((117:Nat),[Hint.br O]),((153:Nat),[Hint.call M (Sx.bool M) []])] [((0:Nat),Tg.mk (tm (154:Nat) [((4:Nat),Sx.bool O),((6:Nat),AV.pt (32006:Nat) (0:Nat) (0:Nat)),((8:Nat),AV.pt (40008:Nat) (0:Nat) (0:Nat)),((16:Nat),int (0:Int))]) [((40008:Nat),Blk.box 89 (rootsF (beginW (Z06 tape).heap) (Z06 tape).G).1.cells),((32006:Nat),Blk.box 73 (rootsF (beginW (Z06 tape).heap) (Z06 tape).G).1.cells)] (13:Nat),Ex.nrm,Tg.mk (tm (154:Nat) [((4:Nat),Sx.bool O)]) [] (13:Nat))] [] dd func11 [] (φ:=(↑(Lb wdv more).length:Int)=(more.length:Int)/\Ld ((20:Int)<(more.length:Int))=O/\O=O/\GP 15 [Z0k tape] O (Z06 tape).av []/\GP 33 [(Z06 tape).heap.av] O (AV.tu [(beginW (Z06 tape).heap).av,int (0:Int)]) []/\GP 41 [(Z06 tape).heap.av] O (AV.tu [(beginW (Z06 tape).heap).av,int (0:Int)]) []/\Lj (0:Nat) [du64 (0:Int)]=Lb wdv []/\(Lb wdv []).length+(Lb wdv (Z06 tape).G).length<=(2:Nat)^(30:Nat)/\Lb wdv []++Lb wdv (Z06 tape).G=Lb wdv (Z06 tape).G/\(Lb wdv (Z06 tape).G).length+(Lb wdv more).length<=(2:Nat)^(30:Nat)/\Lb wdv (Z06 tape).G++Lb wdv more=Lb wdv ((Z06 tape).G++more)/\GP 46 [(beginW (Z06 tape).heap).av,Z01 ((Z06 tape).G++more)] M (AV.tu [(rootsF (beginW (Z06 tape).heap) ((Z06 tape).G++more)).1.av,Z01 (rootsF (beginW (Z06 tape).heap) ((Z06 tape).G++more)).2.1,int (rootsF (beginW (Z06 tape).heap) ((Z06 tape).G++more)).2.2]) []/\Lj (0:Nat) [du64 (0:Int)]=Lb wdv []/\(Lb wdv []).length+(Lb wdv (Z06 tape).G).length<=(2:Nat)^(30:Nat)/\Lb wdv []++Lb wdv (Z06 tape).G=Lb wdv (Z06 tape).G/\(Lb wdv (Z06 tape).G).length+(Lb wdv more).length<=(2:Nat)^(30:Nat)/\Lb wdv (Z06 tape).G++Lb wdv more=Lb wdv ((Z06 tape).G++more)/\GP 47 [(beginW (Z06 tape).heap).av,Z01 ((Z06 tape).G++more)] O (AV.tu [(rootsF (beginW (Z06 tape).heap) ((Z06 tape).G++more)).1.av,Z01 (rootsF (beginW (Z06 tape).heap) ((Z06 tape).G++more)).2.1,int (rootsF (beginW (Z06 tape).heap) ((Z06 tape).G++more)).2.2]) []/\((!((0:Int) != (0:Int)||(rootsF (beginW (Z06 tape).heap) ((Z06 tape).G++more)).2.2 != (rootsF (beginW (Z06 tape).heap) ((Z06 tape).G++more)).2.2))=M->GP 27 [Z01 (rootsF (beginW (Z06 tape).heap) ((Z06 tape).G++more)).2.1,Z01 (rootsF (beginW (Z06 tape).heap) ((Z06 tape).G++more)).2.1] M (Sx.bool M) [])/\((!((0:Int) != (0:Int)||(rootsF (beginW (Z06 tape).heap) ((Z06 tape).G++more)).2.2 != (rootsF (beginW (Z06 tape).heap) ((Z06 tape).G++more)).2.2||!true))=M->GP 48 [(rootsF (beginW (Z06 tape).heap) ((Z06 tape).G++more)).1.av,(rootsF (beginW (Z06 tape).heap) ((Z06 tape).G++more)).1.av] M (Sx.bool M) [])/\((rootsF (beginW (Z06 tape).heap) ((Z06 tape).G++more)).2.2 != (rootsF (beginW (Z06 tape).heap) ((Z06 tape).G++more)).2.2||O||O)=O/\O=O/\GP 46 [(beginW (Z06 tape).heap).av,Z01 (Z06 tape).G] M (AV.tu [(rootsF (beginW (Z06 tape).heap) (Z06 tape).G).1.av,Z01 (rootsF (beginW (Z06 tape).heap) (Z06 tape).G).2.1,int (rootsF (beginW (Z06 tape).heap) (Z06 tape).G).2.2]) []/\GP 47 [(beginW (Z06 tape).heap).av,Z01 (Z06 tape).G] O (AV.tu [(rootsF (beginW (Z06 tape).heap) (Z06 tape).G).1.av,Z01 (rootsF (beginW (Z06 tape).heap) (Z06 tape).G).2.1,int (rootsF (beginW (Z06 tape).heap) (Z06 tape).G).2.2]) []/\((!((rootsF (beginW (Z06 tape).heap) (Z06 tape).G).2.2 != (0:Int)||(rootsF (beginW (Z06 tape).heap) (Z06 tape).G).2.2 != (0:Int)))=M->GP 27 [Z01 (rootsF (beginW (Z06 tape).heap) (Z06 tape).G).2.1,Z01 (rootsF (beginW (Z06 tape).heap) (Z06 tape).G).2.1] M (Sx.bool M) [])/\((!((rootsF (beginW (Z06 tape).heap) (Z06 tape).G).2.2 != (0:Int)||(rootsF (beginW (Z06 tape).heap) (Z06 tape).G).2.2 != (0:Int)||!true))=M->GP 48 [(rootsF (beginW (Z06 tape).heap) (Z06 tape).G).1.av,(rootsF (beginW (Z06 tape).heap) (Z06 tape).G).1.av] M (Sx.bool M) [])/\((rootsF (beginW (Z06 tape).heap) (Z06 tape).G).2.2 != (0:Int)||(rootsF (beginW (Z06 tape).heap) (Z06 tape).G).2.2 != (0:Int)||O||O)=O/\O=O/\CP (blkF f11 (0:Nat)) (Tg.mk (tm (154:Nat) [((4:Nat),Sx.bool O),((6:Nat),AV.pt (32006:Nat) (0:Nat) (0:Nat)),((8:Nat),AV.pt (40008:Nat) (0:Nat) (0:Nat)),((16:Nat),int (0:Int))]) [((40008:Nat),Blk.box 89 (rootsF (beginW (Z06 tape).heap) (Z06 tape).G).1.cells),((32006:Nat),Blk.box 73 (rootsF (beginW (Z06 tape).heap) (Z06 tape).G).1.cells)] (13:Nat)).st Ex.nrm (Tg.mk (tm (154:Nat) [((4:Nat),Sx.bool O)]) [] (13:Nat)).st/\GP 51 [] M (Sx.bool M) []) ?_ kr kr
              exact⟨(by simp only[Lc]),(by(simp only[bs];omega)),rfl,(@Zbr (tape) oq),(@Zay ((Z06 tape).heap) aa aa aa),(@Z3f ((Z06 tape).heap) aa aa aa),rfl,(by(simp[*];omega)),rfl,(by(simp only[Lc];omega)),(by simp[Lt,Lr,Ls,Ll,wdv,idv]),(@Z5s (beginW (Z06 tape).heap) ((Z06 tape).G++more) aa (by(simp[*];omega)) aa),rfl,(by(simp[*];omega)),rfl,(by(simp only[Lc];omega)),(by simp[Lt,Lr,Ls,Ll,wdv,idv]),(@Z2X (beginW (Z06 tape).heap) ((Z06 tape).G++more) aa aa (by(simp[*];omega))),(λhg=>by(try simp only[bs]at hg);exact @Z4n ((rootsF (beginW (Z06 tape).heap) ((Z06 tape).G++more)).2.1) (by(try simp only[bs]at hg);omega)),(λhg=>by(try simp only[bs]at hg);exact @Z4B ((rootsF (beginW (Z06 tape).heap) ((Z06 tape).G++more)).1) (by(try simp only[bs]at hg);omega) (by(try simp only[bs]at hg);omega) (by(try simp only[bs]at hg);omega) (by(try simp only[bs]at hg);assumption) (by(try simp only[bs]at hg);assumption)),(by simp only[bs, *,true_or,or_true,true_and,and_true,not_true_eq_false,not_false_eq_true,Lp,Lo]),rfl,(@Z5s (beginW (Z06 tape).heap) ((Z06 tape).G) aa oq aa),(@Z2X (beginW (Z06 tape).heap) ((Z06 tape).G) aa aa oq),(λhg=>by(try simp only[bs]at hg);exact @Z4n ((rootsF (beginW (Z06 tape).heap) (Z06 tape).G).2.1) (by(try simp only[bs]at hg);omega)),(λhg=>by(try simp only[bs]at hg);exact @Z4B ((rootsF (beginW (Z06 tape).heap) (Z06 tape).G).1) (by(try simp only[bs]at hg);omega) (by(try simp only[bs]at hg);omega) (by(try simp only[bs]at hg);omega) (by(try simp only[bs]at hg);omega) (by(try simp only[bs]at hg);omega)),(by simp only[bs, *,true_or,or_true,true_and,and_true,not_true_eq_false,not_false_eq_true,Lp,Lo]),rfl,(@Zoy ((rootsF (beginW (Z06 tape).heap) (Z06 tape).G).1) aa aa),(@ZaC )⟩
    | some i => refine gspec_ofE [((24:Nat),[Hint.int (more.length:Int)]),((25:Nat),[Hint.br O]),((27:Nat),[Hint.call O (Z06 tape).av []]),((31:Nat),[Hint.call O (AV.tu [(beginW (Z06 tape).heap).av,int (0:Int)]) []]),((37:Nat),[Hint.call O (AV.tu [(beginW (Z06 tape).heap).av,int (0:Int)]) []]),((42:Nat),[Hint.els (Lb wdv [])]),((45:Nat),[Hint.els (Lb wdv (Z06 tape).G)]),((47:Nat),[Hint.els (Lb wdv ((Z06 tape).G++more))]),((48:Nat),[Hint.call M (AV.tu [(rootsF (beginW (Z06 tape).heap) ((Z06 tape).G++more)).1.av,Z01 (rootsF (beginW (Z06 tape).heap) ((Z06 tape).G++more)).2.1,int (rootsF (beginW (Z06 tape).heap) ((Z06 tape).G++more)).2.2]) []]),((54:Nat),[Hint.els (Lb wdv [])]),((57:Nat),[Hint.els (Lb wdv (Z06 tape).G)]),((59:Nat),[Hint.els (Lb wdv ((Z06 tape).G++more))]),((60:Nat),[Hint.kill (AV.tu [(rootsF (beginW (Z06 tape).heap) ((Z06 tape).G++more)).1.av,Z01 (rootsF (beginW (Z06 tape).heap) ((Z06 tape).G++more)).2.1,int (rootsF (beginW (Z06 tape).heap) ((Z06 tape).G++more)).2.2])]),((75:Nat),[Hint.call M (Sx.bool M) []]),((81:Nat),[Hint.call M (Sx.bool M) []]),((83:Nat),[Hint.br O]),((88:Nat),[Hint.call M (AV.tu [(rootsF (beginW (Z06 tape).heap) (Z06 tape).G).1.av,Z01 (rootsF (beginW (Z06 tape).heap) (Z06 tape).G).2.1,int (rootsF (beginW (Z06 tape).heap) (Z06 tape).G).2.2]) []]),((96:Nat),[Hint.call O (AV.tu [(rootsF (beginW (Z06 tape).heap) (Z06 tape).G).1.av,Z01 (rootsF (beginW (Z06 tape).heap) (Z06 tape).G).2.1,int (rootsF (beginW (Z06 tape).heap) (Z06 tape).G).2.2]) []]),((109:Nat),[Hint.call M (Sx.bool M) []]),((115:Nat),[Hint.call M (Sx.bool M) []]),((117:Nat),[Hint.br O])] [((0:Nat),Tg.mk (tm (154:Nat) [((4:Nat),Sx.bool O),((6:Nat),AV.pt (32006:Nat) (0:Nat) (0:Nat)),((8:Nat),AV.pt (40008:Nat) (0:Nat) (0:Nat)),((16:Nat),int (0:Int))]) [((40008:Nat),Blk.box 89 (rootsF (beginW (Z06 tape).heap) (Z06 tape).G).1.cells),((32006:Nat),Blk.box 73 (rootsF (beginW (Z06 tape).heap) (Z06 tape).G).1.cells)] (13:Nat),Ex.ret,Tg.mk (tm (154:Nat) [((4:Nat),Sx.bool M)]) [] (60:Nat))] [] dd func11 [] (φ:=(↑(Lb wdv more).length:Int)=(more.length:Int)/\Ld ((20:Int)<(more.length:Int))=O/\O=O/\GP 15 [Z0k tape] O (Z06 tape).av []/\GP 33 [(Z06 tape).heap.av] O (AV.tu [(beginW (Z06 tape).heap).av,int (0:Int)]) []/\GP 41 [(Z06 tape).heap.av] O (AV.tu [(beginW (Z06 tape).heap).av,int (0:Int)]) []/\Lj (0:Nat) [du64 (0:Int)]=Lb wdv []/\(Lb wdv []).length+(Lb wdv (Z06 tape).G).length<=(2:Nat)^(30:Nat)/\Lb wdv []++Lb wdv (Z06 tape).G=Lb wdv (Z06 tape).G/\(Lb wdv (Z06 tape).G).length+(Lb wdv more).length<=(2:Nat)^(30:Nat)/\Lb wdv (Z06 tape).G++Lb wdv more=Lb wdv ((Z06 tape).G++more)/\GP 46 [(beginW (Z06 tape).heap).av,Z01 ((Z06 tape).G++more)] M (AV.tu [(rootsF (beginW (Z06 tape).heap) ((Z06 tape).G++more)).1.av,Z01 (rootsF (beginW (Z06 tape).heap) ((Z06 tape).G++more)).2.1,int (rootsF (beginW (Z06 tape).heap) ((Z06 tape).G++more)).2.2]) []/\Lj (0:Nat) [du64 (0:Int)]=Lb wdv []/\(Lb wdv []).length+(Lb wdv (Z06 tape).G).length<=(2:Nat)^(30:Nat)/\Lb wdv []++Lb wdv (Z06 tape).G=Lb wdv (Z06 tape).G/\(Lb wdv (Z06 tape).G).length+(Lb wdv more).length<=(2:Nat)^(30:Nat)/\Lb wdv (Z06 tape).G++Lb wdv more=Lb wdv ((Z06 tape).G++more)/\GP 47 [(beginW (Z06 tape).heap).av,Z01 ((Z06 tape).G++more)] O (AV.tu [(rootsF (beginW (Z06 tape).heap) ((Z06 tape).G++more)).1.av,Z01 (rootsF (beginW (Z06 tape).heap) ((Z06 tape).G++more)).2.1,int (rootsF (beginW (Z06 tape).heap) ((Z06 tape).G++more)).2.2]) []/\((!((0:Int) != (0:Int)||(rootsF (beginW (Z06 tape).heap) ((Z06 tape).G++more)).2.2 != (rootsF (beginW (Z06 tape).heap) ((Z06 tape).G++more)).2.2))=M->GP 27 [Z01 (rootsF (beginW (Z06 tape).heap) ((Z06 tape).G++more)).2.1,Z01 (rootsF (beginW (Z06 tape).heap) ((Z06 tape).G++more)).2.1] M (Sx.bool M) [])/\((!((0:Int) != (0:Int)||(rootsF (beginW (Z06 tape).heap) ((Z06 tape).G++more)).2.2 != (rootsF (beginW (Z06 tape).heap) ((Z06 tape).G++more)).2.2||!true))=M->GP 48 [(rootsF (beginW (Z06 tape).heap) ((Z06 tape).G++more)).1.av,(rootsF (beginW (Z06 tape).heap) ((Z06 tape).G++more)).1.av] M (Sx.bool M) [])/\((rootsF (beginW (Z06 tape).heap) ((Z06 tape).G++more)).2.2 != (rootsF (beginW (Z06 tape).heap) ((Z06 tape).G++more)).2.2||O||O)=O/\O=O/\GP 46 [(beginW (Z06 tape).heap).av,Z01 (Z06 tape).G] M (AV.tu [(rootsF (beginW (Z06 tape).heap) (Z06 tape).G).1.av,Z01 (rootsF (beginW (Z06 tape).heap) (Z06 tape).G).2.1,int (rootsF (beginW (Z06 tape).heap) (Z06 tape).G).2.2]) []/\GP 47 [(beginW (Z06 tape).heap).av,Z01 (Z06 tape).G] O (AV.tu [(rootsF (beginW (Z06 tape).heap) (Z06 tape).G).1.av,Z01 (rootsF (beginW (Z06 tape).heap) (Z06 tape).G).2.1,int (rootsF (beginW (Z06 tape).heap) (Z06 tape).G).2.2]) []/\((!((rootsF (beginW (Z06 tape).heap) (Z06 tape).G).2.2 != (0:Int)||(rootsF (beginW (Z06 tape).heap) (Z06 tape).G).2.2 != (0:Int)))=M->GP 27 [Z01 (rootsF (beginW (Z06 tape).heap) (Z06 tape).G).2.1,Z01 (rootsF (beginW (Z06 tape).heap) (Z06 tape).G).2.1] M (Sx.bool M) [])/\((!((rootsF (beginW (Z06 tape).heap) (Z06 tape).G).2.2 != (0:Int)||(rootsF (beginW (Z06 tape).heap) (Z06 tape).G).2.2 != (0:Int)||!true))=M->GP 48 [(rootsF (beginW (Z06 tape).heap) (Z06 tape).G).1.av,(rootsF (beginW (Z06 tape).heap) (Z06 tape).G).1.av] M (Sx.bool M) [])/\((rootsF (beginW (Z06 tape).heap) (Z06 tape).G).2.2 != (0:Int)||(rootsF (beginW (Z06 tape).heap) (Z06 tape).G).2.2 != (0:Int)||O||O)=O/\O=O/\CP (blkF f11 (0:Nat)) (Tg.mk (tm (154:Nat) [((4:Nat),Sx.bool O),((6:Nat),AV.pt (32006:Nat) (0:Nat) (0:Nat)),((8:Nat),AV.pt (40008:Nat) (0:Nat) (0:Nat)),((16:Nat),int (0:Int))]) [((40008:Nat),Blk.box 89 (rootsF (beginW (Z06 tape).heap) (Z06 tape).G).1.cells),((32006:Nat),Blk.box 73 (rootsF (beginW (Z06 tape).heap) (Z06 tape).G).1.cells)] (13:Nat)).st Ex.ret (Tg.mk (tm (154:Nat) [((4:Nat),Sx.bool M)]) [] (60:Nat)).st) ?_ kr kr
                exact⟨(by simp only[Lc]),(by(simp only[bs];omega)),rfl,(@Zbr (tape) oq),(@Zay ((Z06 tape).heap) aa aa aa),(@Z3f ((Z06 tape).heap) aa aa aa),rfl,(by(simp[*];omega)),rfl,(by(simp only[Lc];omega)),(by simp[Lt,Lr,Ls,Ll,wdv,idv]),(@Z5s (beginW (Z06 tape).heap) ((Z06 tape).G++more) aa (by(simp[*];omega)) aa),rfl,(by(simp[*];omega)),rfl,(by(simp only[Lc];omega)),(by simp[Lt,Lr,Ls,Ll,wdv,idv]),(@Z2X (beginW (Z06 tape).heap) ((Z06 tape).G++more) aa aa (by(simp[*];omega))),(λhg=>by(try simp only[bs]at hg);exact @Z4n ((rootsF (beginW (Z06 tape).heap) ((Z06 tape).G++more)).2.1) (by(try simp only[bs]at hg);omega)),(λhg=>by(try simp only[bs]at hg);exact @Z4B ((rootsF (beginW (Z06 tape).heap) ((Z06 tape).G++more)).1) (by(try simp only[bs]at hg);omega) (by(try simp only[bs]at hg);omega) (by(try simp only[bs]at hg);omega) (by(try simp only[bs]at hg);assumption) (by(try simp only[bs]at hg);assumption)),(by simp only[bs, *,true_or,or_true,true_and,and_true,not_true_eq_false,not_false_eq_true,Lp,Lo]),rfl,(@Z5s (beginW (Z06 tape).heap) ((Z06 tape).G) aa oq aa),(@Z2X (beginW (Z06 tape).heap) ((Z06 tape).G) aa aa oq),(λhg=>by(try simp only[bs]at hg);exact @Z4n ((rootsF (beginW (Z06 tape).heap) (Z06 tape).G).2.1) (by(try simp only[bs]at hg);omega)),(λhg=>by(try simp only[bs]at hg);exact @Z4B ((rootsF (beginW (Z06 tape).heap) (Z06 tape).G).1) (by(try simp only[bs]at hg);omega) (by(try simp only[bs]at hg);omega) (by(try simp only[bs]at hg);omega) (by(try simp only[bs]at hg);omega) (by(try simp only[bs]at hg);omega)),(by simp only[bs, *,true_or,or_true,true_and,and_true,not_true_eq_false,not_false_eq_true,Lp,Lo]),rfl,(@Zlu ((rootsF (beginW (Z06 tape).heap) (Z06 tape).G).1) aa (i) (hb))⟩
end Go.Proofs.YtdhchmlalchgeaaGreat
namespace Go.Proofs.YtdhchmlalchgeaaGreat
open Go.Sx Go.RowKit
def Z86(os:Os)(started:os.Started)(H:Type)(enc:TypeId×Value->H) :
  ReturnsInHanded {} Tryz.checked os 11 .any (Rows.scanStepsSpec.pre6 enc prog f11 Rows.scanStepsRow.domain O) (Rows.scanStepsSpec.post enc prog f11 O M O O):=by
 refine Zdx (C:=Tryz.checked) (tb:=4) 5 own0 started kr func11
  (ChangeSpec.witness6 (enc:=enc) (C:=Tryz.checked) O ⟨#[],#[.slice none 0 0,.slice none 0 0],[]⟩ 8 kr kr kr kr)
  ZmK kr kr kr kr rfl (λds hd=>?_) (λls hl h=>?_)
 .match ds,hd with
  | [a0,a1],_=>rfl
 .match ls,hl with
  | [l0,l1],_ =>
   obtain⟨tape,rfl,htape⟩:=ZmO (n:=3) (h 0 22 l0 kr rfl);obtain⟨more,rfl,hmore,kmore⟩:=ZkC (n:=3) (h 1 25 l1 kr rfl);have e:Zcu prog Tryz.f11.params.toList [[.sl 1 (tape.map idv)],[.sl 1 (more.map wdv)]]=[Z0k tape,Z01 more]:=by kernel_rfl
   exact⟨M,e▸ZkM tape more htape hmore kmore⟩
def Ze1:(Rows.scanStepsRow.inPlace==Tryz.prog.inPlace 11)=M:=by kernel_rfl
def ZcW:(Rows.scanStepsRow.unfollowed==Tryz.prog.unfollowed 11)=M:=by kernel_rfl
def ZdL:(Rows.scanStepsRow.recurses==Tryz.prog.recurses 11)=M:=by kernel_rfl
def ZcT:(Rows.scanStepsRow.named==Tryz.prog.varsNamed 11)=M:=by kernel_rfl
def Z84:joinedFacts prog 11 f11 Rows.scanStepsSpec Rows.scanStepsRow=M:=by
 unfold joinedFacts;rw[Ze1,ZcW,ZdL,ZcT];kernel_rfl
theorem scanSteps_holds:Rows.ScanStepsSaid :=
 OpenClaim.holds_of_wide 11 f11 rfl rfl rfl rfl rfl rfl rfl ⟨rfl,rfl,rfl,rfl,rfl⟩ rfl rfl rfl rfl rfl kr func11 Z84
  (of_decide_eq_true kr) (by unfold Func.isWrapper;first | (rw[if_pos (by decide+kernel)];kernel_rfl) | (rw[if_neg (by decide+kernel)];exact⟨rfl,rfl⟩))
  (λos started H enc _=>Z86 os started H enc)
end Go.Proofs.YtdhchmlalchgeaaGreat
