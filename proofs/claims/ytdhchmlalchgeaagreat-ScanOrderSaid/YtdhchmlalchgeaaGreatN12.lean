/-
 The statement ScanOrder: part 12.
 Conditions: none.
-/
import Derived.Test.YtdhchmlalchgeaaGreatN11
set_option maxRecDepth 100000
set_option maxHeartbeats 2000000
set_option linter.all false
open Inhabited renaming default->X
open List renaming map->Y,drop->Lb,take->Lc,getD_eq_getElem?_getD->Lg,mem_append_left->Lh,getElem?_eq_none->Ll,mem_range->Lm,range->Ln,getElem?_eq_getElem->Lq,mem_append->Lr,mem_map->Ls,mem_singleton->Lt
open Decidable renaming decide->Z,not_not->Lu
open Int renaming toNat->M,toNat_natCast->Li,toNat_of_nonneg->Lj,mul_nonneg->Lk,add_zero->Lo,mul_comm->Lp
open Bool renaming false->O,true->La
open Or renaming inl->Ld,inr->Le
open Go.IntKind renaming i64->Lf
open Go.Proofs.Tryz
namespace Go.Proofs.YtdhchmlalchgeaaGreat
open Go.Sx
section
variable {h:Heap} {T:Nat->List Int} (g:Gd h T)
include g
theorem KI.copy{tq:Nat->List Int}{w:Work}(k:KI h T tq w)(hw:WkOk w){r n:Int}{i0:Nat}(hr:r∈T i0)(hkd:kdA h.W r≠0)(h1:(h.P.getD i0 X).K=1)(hs:(w.heap.P.getD i0 X).S=w.heap.S)(he:(loadA w.heap.W r).1=(loadA h.W r).1)
  (hn:n=hlA w.heap.W r+1) (hp:n<=w.heap.C.pw) (hc:(w.place n).2.2=La):∃ tq',KI h T tq' ((w.place n).1.copy r (w.place n).2.1 n):=by
 have hlr:=Z0b w.heap.W r;have ey:=Z1L he;obtain⟨i,p,t,p1,p2,p3,p4,p5,p6,p7,e⟩:=Z4G hw ⟨by omega,hp⟩ hc;have hcc:=k.c;have hpl:=k.pl;have hwl:=k.wl;have po:=Z06 g.p;have hin:=g.inw hr;have hki:(h.P.getD i X).K=0:=by
  rcases p2 with q | q
  .by_cases c:(i:Int)∈w.T
   .exact(k.tk i c).2.1
   .rw[<- (k.pg i c).1];exact q.1
  .exact(k.tk i q.1).2.1
 have hio:=Z17 (i:=i) (j:=h.C.pg) (pw:=h.C.pw) oq oq;rw[Lp h.C.pg]at hio;have hi0:0<=(i:Int)*h.C.pw:=Lk oq oq;rw[hcc]at p5 p7 hp;have hbp:4096+(i:Int)*h.C.pw=bsP h i:=rfl;rw[e,p7,hbp];generalize hu:occP (w.heap.P.getD i X)=u at *;generalize ha:bsP h i+u=a;have hbl:4096<=a/\a+n<=4096+w.heap.W.length:=by omega
 have far:∀ j x,x∈T j->x+hlA h.W x<bsP h i\/bsP h i+h.C.pw<=x:=by
  intro j x hx;have:=g.free (show i<h.P.length by omega) (Ld hki) hx;rw[occP,if_pos hki]at this;omega
 have farr:=far i0 r hr;obtain⟨m1,m2,m3⟩:=Z5x (ws:=w.heap.W) (a:=a) (b:=r) (n:=n) oq oq oq;have hsr:4096<=r/\r<4096+(moveA w.heap.W a r n).1.length:=by omega
 have w1:∀ x,x≠r->(x<a\/a+n<=x)->loadA (Z0L (moveA w.heap.W a r n).1 r (4*a+2)).1 x=loadA w.heap.W x:=λx q1 q2=>by rw[Z0v hsr q1,m3 x q2]
 have w2:(loadA (Z0L (moveA w.heap.W a r n).1 r (4*a+2)).1 r).1=4*a+2:=by rw[Z1P hsr]
 have w3:(loadA (Z0L (moveA w.heap.W a r n).1 r (4*a+2)).1 a).1=(loadA w.heap.W r).1:=by rw[Z0v hsr oq,m2]
 have hlen:(Z0L (moveA w.heap.W a r n).1 r (4*a+2)).1.length=w.heap.W.length:=by rw[Z2u hsr,m1]
 have hit:(i:Int)∈t:=by rcases p2 with q | q;(rw[q.2.1];simp);(rw[q.2.2.1];exact q.1)
 have htt:∀ x,x∈t↔x∈w.T\/x=(i:Int):=by
  intro x;rcases p2 with q | q
  .rw[q.2.1];simp
  .rw[q.2.2.1];exact⟨Ld,λc=>c.elim id λc=>c▸q.1⟩
 have w4:∀ (j:Nat) x,(j:Int)∈w.T->x∈tq j->x≠r/\(x<a\/a+n<=x)/\(j=i->x+hlA w.heap.W x<a):=by
  intro j x hj hx;have s:=k.sepT g hj hx hr;have rx:=Z0b w.heap.W x;have t:=k.tk j hj;have m:=Z1J t.2.2.2.2.2.1 hx;refine⟨by omega, ?_⟩;rcases Nat.lt_trichotomy j i with q | q | q
  .have:=Z17 (i:=j) (j:=i) (pw:=h.C.pw) oq oq;unfold bsP at s;rw[<- hbp]at ha;exact⟨Ld oq,λq2=>by omega⟩
  .subst q;have:u=(w.heap.P.getD j X).U:=by rw[<- hu,occP,if_neg oq]
   exact⟨Ld oq,λ_=>by omega⟩
  .have:=Z17 (i:=i) (j:=j) (pw:=h.C.pw) oq oq;unfold bsP at s;rw[<- hbp]at ha;exact⟨Le oq,λq2=>by omega⟩
 have kq:∀ (j:Nat) x,(j:Int)∈w.T->x∈tq j->(loadA (Z0L (moveA w.heap.W a r n).1 r (4*a+2)).1 x).1=(loadA w.heap.W x).1:=λj x hj hx=>by
  have:=w4 j x hj hx;rw[w1 x this.1 this.2.1]
 refine⟨λj=>if j=i then tq i++[a]else tq j,k.c,k.sp,k.old, ?_, ?_, ?_, ?_, ?_, ?_, ?_, ?_, ?_⟩
 .simp only[Work.copy,List.length_set];exact k.pl
 .simp only[Work.copy,hlen];exact k.wl
 .intro j hj;simp only[Work.copy]at hj ⊢;have hj':=λq=>hj ((htt _).2 (Ld q));have hne:¬ i=j:=λq=>hj (q▸hit);rw[Z0p p1,if_neg hne];exact k.pg j hj'
 .intro j hj;simp only[Work.copy]at hj ⊢;rw[Z0p p1];by_cases q:i=j
  .subst q;rw[if_pos rfl];simp only[if_true];have ka:=Z1L (ws:=w.heap.W) (ws':=(Z0L (moveA w.heap.W a r n).1 r (4*a+2)).1) (a:=a);have ke:hdA (Z0L (moveA w.heap.W a r n).1 r (4*a+2)).1 a=hdA h.W r:=by rw[hdA,hdA,w3,he]
   have kl:hlA (Z0L (moveA w.heap.W a r n).1 r (4*a+2)).1 a=n-1:=by
    have:hlA (Z0L (moveA w.heap.W a r n).1 r (4*a+2)).1 a=hlA w.heap.W r:=by rw[hlA,hlA,w3]
    omega
   have kk:okA (Z0L (moveA w.heap.W a r n).1 r (4*a+2)).1 a:=by
    have:=(g.on hr).2.2.2.2.2.1;rw[okA]at this ⊢;rw[w3,he];exact this
   refine⟨by omega,hki,p3, ?_,by omega, ?_, ?_⟩
   .rcases p2 with q | q
    .exact q.2.2
    .rw[q.2.2.2];exact(k.tk i q.1).2.2.2.1
   .refine ZbK (b:=a) ?_ ⟨rfl,kk,by rw[kl];simp only[tile];omega⟩;by_cases c:(i:Int)∈w.T
    .have t:=k.tk i c;have hue:u=(w.heap.P.getD i X).U:=by rw[<- hu,occP,if_neg oq]
     have t6:=t.2.2.2.2.2.1;rw[<- hue,ha]at t6;exact Z2D t6 λx hx=>⟨(Z1L (kq i x c hx)).1 (Z1J t6 hx).1,(Z1L (kq i x c hx)).2.1⟩
    .rw[k.tk0 i c];have hue:u=0:=by
      rcases p2 with q | q
      .rw[<- hu,occP,if_pos q.1]
      .exact absurd q.1 c
     simp only[tile];omega
   .intro x hx;rcases Lr.1 hx with hx | hx
    .by_cases c:(i:Int)∈w.T
     .have t:=(k.tk i c).2.2.2.2.2.2 x hx;have o:=Z1L (kq i x c hx);rw[o.2.2.1,o.2.1];exact⟨Lh _ t.1,t.2⟩
     .rw[k.tk0 i c]at hx;simp at hx
    .have:=Lt.1 hx;subst this;refine⟨by simp,by rw[kdA,ke];exact hkd, ?_⟩;have:=(g.t1 i0 (g.t0 i0 r hr).1 h1).2 r hr;rw[kl];have:=ey.2.1;omega
  .rw[if_neg q];have hj':(j:Int)∈w.T:=by
    rcases(htt _).1 hj with c | c
    .exact c
    .omega
   obtain⟨t1,t2,t3,t4,t5,t6,t7⟩:=k.tk j hj';simp only[show ¬ j=i from λc=>q c.symm,if_false];refine⟨t1,t2,t3,t4,t5,Z2D t6 λx hx=>⟨(Z1L (kq j x hj' hx)).1 (Z1J t6 hx).1,(Z1L (kq j x hj' hx)).2.1⟩,λx hx=>?_⟩;have o:=Z1L (kq j x hj' hx);rw[o.2.2.1,o.2.1];exact⟨Lh _ (t7 x hx).1,(t7 x hx).2⟩
 .intro j hj;simp only[Work.copy]at hj;have hne:¬ j=i:=λq=>hj (q▸hit);simp only[hne,if_false];exact k.tk0 j λq=>hj ((htt _).2 (Ld q))
 .intro x hx;simp only[Work.copy,Lr,Lt]at hx ⊢;rcases hx with hx | rfl
  .rcases k.q x hx with⟨j,j1,j2,j3,j4⟩ | ⟨j,j1,j2⟩
   .have hne:¬ i=j:=by
     rintro rfl;have:=(g.t0 i x j2).2;omega
    refine Ld ⟨j,λc=>?_,j2,j3,by rw[Z0p p1,if_neg hne];exact j4⟩;rcases(htt _).1 c with c | c
    .exact j1 c
    .omega
   .refine Le ⟨j,(htt _).2 (Ld j1), ?_⟩;split
    .rename_i q;subst q;exact Lh _ j2
    .exact j2
  .exact Le ⟨i,hit,by simp⟩
 .intro j x hx;simp only[Work.copy];have hne:¬ i=j:=by
   rintro rfl;have:=(g.t0 i x hx).2;omega
  rw[Z0p p1,if_neg hne];by_cases q:x=r
  .subst q;refine Le ⟨by rw[w2,Z5E oq oq], ?_, ?_⟩
   .have e1:=g.ofx hx;have e2:=g.ofx hr;rw[e1]at e2;have:j=i0:=by simp only[Prod.mk.injEq]at e2;omega
    subst this;rw[(k.pg j (k.nt g hx)).1];exact h1
   .have e1:=g.ofx hx;have e2:=g.ofx hr;rw[e1]at e2;have:j=i0:=by simp only[Prod.mk.injEq]at e2;omega
    subst this;exact hs
  .have f:=far j x hx;have rx:=Z0b h.W x;rw[w1 x q oq];exact k.hd j x hx
 .intro b hb;simp only[Work.copy]at hb ⊢;by_cases q:a<=b/\b<a+n
  .exact Le ⟨i,hit,by omega,by rw[Z0p p1,if_pos rfl];omega⟩
  .by_cases q2:b=r
   .refine Ld ⟨i0,r,hr,by omega, ?_⟩;rw[kpA,if_neg hkd];have:=Z0b h.W r;omega
   .rw[w1 b q2 oq]at hb;rcases k.dt b hb with c | ⟨j,j1,j2,j3⟩
    .exact Ld c
    .refine Le ⟨j,(htt _).2 (Ld j1),j2, ?_⟩;rw[Z0p p1];split
     .rename_i c;subst c;have:=(k.tk i j1).2.2.1;have:u=(w.heap.P.getD i X).U:=by rw[<- hu,occP,if_neg oq]
      omega
     .exact j3
 .intro j h2 hsj;simp only[Work.copy]at hsj ⊢;have hne:¬ i=j:=by rintro rfl;omega
  rw[Z0p p1,if_neg hne]at hsj;exact Lh _ (k.lg j h2 hsj)
theorem KI.fwd{tq:Nat->List Int}{w:Work}(k:KI h T tq w)(hw:WkOk w)(hi:CIv w)(r:Int)(e:(w.fwd r).2.2=0):∃ tq',KI h T tq' (w.fwd r).1:=by
 unfold Work.fwd at e ⊢;split at e
 .rename_i c1;rw[if_pos c1];exact⟨tq,k⟩
 .rename_i c1;rw[if_neg c1];split at e
  .simp at e
  .rename_i c2;rw[if_neg c2];have c2':r∈w.old:=Lu.1 c2;obtain⟨i0,hr,hkd⟩:=(k.old r).1 c2';have ofr:ofA w.heap.C r=((i0:Int),r-bsP h i0,0):=by rw[k.c];exact g.ofx hr
   have nt:=k.nt g hr;have pgi:=k.pg i0 nt;have hil:=(g.t0 i0 r hr).1;have hki:=(g.t0 i0 r hr).2;have hpl:=k.pl;split at e
   .rename_i c3;rw[if_pos c3];exact⟨tq,k⟩
   .rename_i c3;rw[if_neg c3];split at e
    .simp at e
    .rename_i c4;rw[if_neg c4];split at e
     .rename_i c5;rw[if_pos c5];simp only[Z0M,decide_eq_true_eq]at c5;rw[ofr]at c5;simp only[Li]at c5;exact⟨tq,k.keep g hr hkd c5.2.2.2.1⟩
     .rename_i c5;rw[if_neg c5];have epw:Z19 w r=i0:=by rw[Z19,ofr];simp
      split at e
      .rename_i c6;rw[if_pos c6];rw[epw]at c6 ⊢;exact⟨tq,k.flip g hw hr hkd c6⟩
      .rename_i c6;rw[if_neg c6];split at e
       .simp at e
       .rename_i c7;rw[if_neg c7];have c7':(w.place (sizeH (hdW w r))).2.2=La:=by simpa using c7
        rw[epw]at c6;have k1:(h.P.getD i0 X).K=1:=by omega
        have hs:(w.heap.P.getD i0 X).S=w.heap.S:=by
         by_cases q:(w.heap.P.getD i0 X).S=w.heap.S
         .exact q
         .exfalso;apply c5;simp only[Z0M,decide_eq_true_eq];rw[ofr];simp only[Li];exact⟨by omega,by omega,by omega,q,nt⟩
        have he:(loadA w.heap.W r).1=(loadA h.W r).1:=by
         rcases k.hd i0 r hr with q | q
         .exact q
         .exact absurd q.1 c3
        have hz:=hi.z r c2';have hp:sizeH (hdW w r)<=w.heap.C.pw:=by
         rw[Z1N];rw[ofr]at hz;simp only[Li]at hz;rcases hz with hz | hz
         .exact absurd hz c6
         .exact hz
        exact k.copy g hw hr hkd k1 hs he (Z1N w r) hp c7'
theorem KI.field{tq:Nat->List Int}{w:Work}(k:KI h T tq w){q j:Int}(hq:q∈w.Q)(hj:0<=j/\j<hlA w.heap.W q) :
  (∀ i x,x∈T i->x≠q+1+j)/\(∀ (i:Nat) x,(i:Int)∈w.T->x∈tq i->x≠q+1+j)/\((∃ i x,x∈T i/\x<=q+1+j/\q+1+j<x+kpA h.W x)\/(∃ i:Nat,(i:Int)∈w.T/\bsP h i<=q+1+j/\q+1+j<bsP h i+(w.heap.P.getD i X).U)):=by
 rcases k.q q hq with⟨i,i1,i2,i3,i4⟩ | ⟨i,i1,i2⟩
 .have he:(loadA w.heap.W q).1=(loadA h.W q).1:=by
   rcases k.hd i q i2 with c | c
   .exact c
   .exact absurd c.2.2 i4
  have o:=Z1L he;rw[o.2.1]at hj;refine⟨λm x hx c=>?_,λm x hm hx c=>?_,Ld ⟨i,q,i2,by omega,by rw[kpA,if_neg i3];omega⟩⟩
  .have:=g.sep i2 hx oq;omega
  .have:=k.sepT g hm hx i2;have:=Z0b w.heap.W x;omega
 .have t:=k.tk i i1;have m:=Z1J t.2.2.2.2.2.1 i2;refine⟨λm x hx c=>?_,λm x hm hx c=>?_,Le ⟨i,i1,by omega,by omega⟩⟩
  .have:=k.sepT g i1 i2 hx;have:=Z0b h.W x;omega
  .have:=k.sepQ g i1 i2 hm hx oq;omega
theorem KI.in1{tq:Nat->List Int}{w:Work}(k:KI h T tq w)(hw:WkOk w)(hi:CIv w){q j:Int}(hq:q∈w.Q)(hj:0<=j/\j<hlA w.heap.W q)(e:(w.fwd (loadA w.heap.W (q+1+j)).1).2.2=0):∃ tq',KI h T tq' (w.in1 (q+1+j)):=by
 obtain⟨tq',k'⟩:=k.fwd g hw hi _ e;obtain⟨i1,x1⟩:=Z4r hw hi _ e;have hq1:=x1.q q hq;have hl1:=x1.l q hq;have hr:=i1.r q (List.mem_append_right _ hq1);have hin:4096<=q+1+j/\q+1+j<4096+(w.fwd (loadA w.heap.W (q+1+j)).1).1.heap.W.length:=by omega
 obtain⟨f1,f2,f3⟩:=k'.field g hq1 (j:=j) oq;refine⟨tq',k'.withWords g (Z2u hin) (λi x hx=>?_) (λi x hm hx=>?_) (λa ha=>?_)⟩
 .rw[Z0v hin (f1 i x hx)]
 .rw[Z0v hin (f2 i x hm hx)]
 .by_cases c:a=q+1+j
  .subst c;exact Le f3
  .rw[Z0v hin c]at ha;exact Ld ha
theorem KI.begin:KI h T (λ_=>[]) (beginW h):=by
 have hq:∀ j,((h.P.map (begQ (1-h.S))).getD j X).K=(h.P.getD j X).K/\((h.P.map (begQ (1-h.S))).getD j X).U=(h.P.getD j X).U/\((h.P.map (begQ (1-h.S))).getD j X).N=(h.P.getD j X).N/\((h.P.getD j X).K=2->((h.P.map (begQ (1-h.S))).getD j X).S=(h.P.getD j X).S):=by
  intro j;by_cases hj:j<h.P.length
  .have:(h.P.map (begQ (1-h.S))).getD j X=begQ (1-h.S) (h.P.getD j X):=by simp[Lg,hj]
   rw[this,begQ];split
   .rename_i c;exact⟨rfl,rfl,rfl,λq=>by omega⟩
   .exact⟨rfl,rfl,rfl,λ_=>rfl⟩
  .rw[Lg,Lg,Ll qo,Ll oq];exact⟨rfl,rfl,rfl,λ_=>rfl⟩
 refine⟨rfl,rfl,g.objs.2,by simp[beginW],rfl,λi _=>⟨(hq i).1,(hq i).2.1,(hq i).2.2.1⟩,by simp[beginW],λ_ _=>rfl,by simp[beginW],λ_ _ _=>Ld rfl,λa ha=>Ld (g.d a ha), ?_⟩;intro i h2 hs;exfalso;simp only[beginW]at hs;rw[(hq i).2.2.2 h2]at hs;by_cases hi:i<h.P.length
 .exact hs (g.sp i hi oq)
 .rw[Lg,Ll oq]at h2;have d:(X:Page).K=0:=rfl;simp only[Option.getD_none]at h2;omega
theorem ZqJ{s:List Int}(hw:WOk h.W)(e:(rootsF (beginW h) s).2.2=0)(e2:(allF (rootsF (beginW h) s).1).2=0):∃ tq,KI h T tq (cW2 h s) :=
 ZmS (λw=>∃ tq,KI h T tq w) (λw r hw hi ⟨_,k⟩ e=>k.fwd g hw hi r e) (λw q j hw hi ⟨_,k⟩ hq h0 h1 e=>k.in1 g hw hi hq ⟨h0,h1⟩ e) (λw n ⟨tq,k⟩=>⟨tq,k.c,k.sp,k.old,k.pl,k.wl,k.pg,k.tk,k.tk0,k.q,k.hd,k.dt,k.lg⟩) hw g.p ⟨_,KI.begin g⟩ e e2
end
def SpOk(l:List Page):Prop:=∀ p∈l,p.S=0\/p.S=1
def SpOk.at{l:List Page}(h:SpOk l){i:Nat}(hi:i<l.length):(l.getD i X).S=0\/(l.getD i X).S=1:=by
 rw[Lg,Lq hi];exact h _ (List.getElem_mem hi)
def SpOk.set{l:List Page}(h:SpOk l)(i:Nat){p:Page}(hp:p.S=0\/p.S=1):SpOk (l.set i p):=λq hq=>by
 rcases List.mem_or_eq_of_mem_set hq with q1 | q1
 .exact h q q1
 .rw[q1];exact hp
def SpOk.fwd{w:Work}(hw:WkOk w)(h:SpOk w.heap.P)(r:Int)(e:(w.fwd r).2.2=0):SpOk (w.fwd r).1.heap.P:=by
 have sp:=hw.sp;have pl:∀ n,(w.place n).2.2=La->SpOk (w.place n).1.heap.P:=λn hn=>by
  by_cases hf:Z2A w n
  .rw[Work.place,if_pos hf];unfold Z2A at hf;have hm:=hw.tk _ (Z18 hf.1);show SpOk (Z1C _ _ _);rw[Z3z];exact h.set _ (h.at oq)
  .by_cases hg:0<=Z0g w
   .rw[Work.place,if_neg hf,if_pos hg];obtain⟨g1,_,_⟩:=Z30 (h:=⟨w.heap.C,w.heap.W,w.heap.P,1-w.heap.S,w.heap.B⟩) (by simp only;omega) hg n;have g1':Z1C (Z1Z w) (Z0g w).toNat n=w.heap.P.set (Z0g w).toNat ⟨1,1-w.heap.S,n,0⟩:=g1;show SpOk (Z1C _ _ _);rw[g1'];exact h.set _ (by simp only;omega)
   .rw[Work.place,if_neg hf,if_neg hg]at hn;cases hn
 unfold Work.fwd at e ⊢;repeat' split at e
 all_goals first | (simp at e;done) | skip
 all_goals (repeat' (first | rw[if_pos aa] | rw[if_neg aa]))
 all_goals first | exact h | skip
 .intro p hp;simp only[Work.keep,Work.flip,Z0s,Ls,Lm]at hp;obtain⟨j,hj,rfl⟩:=hp;split
  .simp only[Z8K];omega
  .exact h.at hj
 .exact pl _ (by simp only[Bool.not_eq_false]at *;assumption)
def SpOk.begin{h:Heap}(hp:Z02 h=La):SpOk (beginW h).heap.P:=λp hq=>by
 have po:=Z06 hp;simp only[beginW,Ls]at hq;obtain⟨q,hq,rfl⟩:=hq;obtain⟨i,hi,rfl⟩:=List.getElem_of_mem hq;have pp:=Z0J hp hi;rw[Lg,Lq hi,Option.getD_some]at pp;unfold begQ;split
 .simp only;omega
 .omega
structure CkOk (w:Work):Prop where
 ok:WkOk w
 so:SpOk w.heap.P
 L:(w.heap.W.length:Int)=w.heap.C.pw*w.heap.C.pg
structure FwOk (w:Work) (r:Int):Prop where
 ck:CkOk w
 rg:0<=r/\r<=18446744073709551615
 ol:r∈w.old->4096<=r/\r+hlA w.heap.W r<4096+w.heap.W.length/\(ofA w.heap.C r).2.2=0/\(ofA w.heap.C r).1.toNat<w.heap.P.length
 dc:r∈w.old->(Z08 (loadA w.heap.W r).1).2=O->(decodeH (loadA w.heap.W r).1).2=La
 sz:r∈w.old->(w.heap.P.getD (ofA w.heap.C r).1.toNat X).K=2\/hlA w.heap.W r+1<=w.heap.C.pw
structure Col (h:Heap) (T:Nat->List Int) (w:Work):Prop where
 k:∃ tq,KI h T tq w
 ok:WkOk w
 inv:CIv w
 so:SpOk w.heap.P
def Col.begin{h:Heap}{T:Nat->List Int}(g:Gd h T)(hw:WOk h.W):Col h T (beginW h) :=
 ⟨⟨_,KI.begin g⟩,Z38 hw g.p,Z34 g.p,SpOk.begin g.p⟩
def Col.fwd{h:Heap}{T:Nat->List Int}{w:Work}(c:Col h T w)(g:Gd h T){r:Int}(e:(w.fwd r).2.2=0):Col h T (w.fwd r).1:=by
 obtain⟨tq,k⟩:=c.k;exact⟨k.fwd g c.ok c.inv r e,(fwd_ok c.ok r e).1,(Z4r c.ok c.inv r e).1,c.so.fwd c.ok r e⟩
def Col.ck{h:Heap}{T:Nat->List Int}{w:Work}(c:Col h T w):CkOk w:=⟨c.ok,c.so,c.inv.L⟩
def Col.fw{h:Heap}{T:Nat->List Int}{w:Work}(c:Col h T w)(g:Gd h T){r:Int}(hr:0<=r/\r<=18446744073709551615):FwOk w r:=by
 obtain⟨tq,k⟩:=c.k;refine⟨c.ck,hr,λho=>?_,λho ht=>?_,λho=>c.inv.z r ho⟩
 .obtain⟨i,hi,hk⟩:=(k.old r).1 ho;have q:=c.inv.r r (Lh _ ho);have e:=g.ofx hi;rw[<- k.c]at e;rw[e];have:=(g.t0 i r hi).1;have:=k.pl;refine⟨q.1,q.2,rfl, ?_⟩;simp only[Li];omega
 .obtain⟨i,hi,hk⟩:=(k.old r).1 ho;rcases k.hd i r hi with q | q
  .rw[q];exact(g.on hi).2.2.2.2.2.1
  .rw[q.1]at ht;cases ht
def Work.ckc(w:Work)(a b c d e:Nat):List AV:=[int w.heap.C.pw,int w.heap.C.pg,.ow a,.ow b,int w.heap.S,int w.heap.B,.ow c,.ow d,.ow e,int w.D,int w.rep.copied,int w.rep.kept,int w.rep.filled,int w.rep.freed,int w.rep.cleared,int w.rep.steps]
def Work.ckB(w:Work)(a b c d e:Nat):Blk:=.box 140 (w.ckc a b c d e)
def Z0t(l:List Int):Blk:=.arr 35 1 (l.map wdv)
def Z3g(l:List Int):Blk:=.arr 3 1 (l.map idv)
def Z1V(l:List Page):Blk:=.arr 84 4 (l.map Page.dv)
def Work.ckp(w:Work):List Blk:=[w.ckB 1 2 3 4 5,Z0t w.heap.W,Z1V w.heap.P,Z0t w.old,Z3g w.T,Z0t w.Q]
def Work.ckq(w:Work):List Blk:=[w.ckB 1 6 3 7 8,Z0t w.heap.W,.dead,Z0t w.old,.dead,.dead,Z1V w.heap.P,Z3g w.T,Z0t w.Q]
def Work.ckr(w:Work):List Blk:=[w.ckB 1 2 3 4 6,Z0t w.heap.W,Z1V w.heap.P,Z0t w.old,Z3g w.T,.dead,Z0t w.Q]
def Work.cks(w:Work):List Blk:=[w.ckB 1 6 3 7 5,Z0t w.heap.W,.dead,Z0t w.old,.dead,Z0t w.Q,Z1V w.heap.P,Z3g w.T]
structure LnOk (w:Work):Prop where
 wl:w.heap.W.length<=1048576
 pl:w.heap.P.length<=1048576
 ol:w.old.length<=1048576
 tl:w.T.length<=1048576
 ql:w.Q.length<=1048576
def CkOk.ln{w:Work}(k:CkOk w):LnOk w:=by
 have h1:=k.ok.mu;have h2:=k.ok.ol;have h3:=k.ok.wl;have h4:=k.ok.pl;have h5:=validB_iff.1 k.ok.C;have h6:=k.ok.tl;exact⟨by omega,by omega,by omega,by omega,by omega⟩
def Zqu{c:Conf}{a:Int}(hv:Z07 c=La)(h:4096<=a/\a-4096<c.pw*c.pg):(ofA c a).2.2=0/\(ofA c a).1*c.pw+(ofA c a).2.1=a-4096/\0<=(ofA c a).1*c.pw/\(ofA c a).1*c.pw<=a-4096/\0<=(ofA c a).2.1:=by
 have cf:=validB_iff.1 hv;have e:(ofA c a).2.2=0:=by
  unfold ofA;rw[if_pos hv,if_pos oq]
 have o:=Z2L hv e;have:=Lk o.1 (show 0<=c.pw by omega);omega
structure MemOk (w:Work):Prop where
 C:Z07 w.heap.C=La
 wl:w.heap.W.length<=4096
 pl:(w.heap.P.length:Int)=w.heap.C.pg
 L:(w.heap.W.length:Int)=w.heap.C.pw*w.heap.C.pg
def CkOk.mem{w:Work}(k:CkOk w):MemOk w:=⟨k.ok.C,k.ok.wl,k.ok.pl,k.L⟩
def ckX(pw pg sp bm sc r1 r2 r3 r4 r5 r6:Int)(a b c d e:Nat):Blk:=.box 140 [int pw,int pg,.ow a,.ow b,int sp,int bm,.ow c,.ow d,.ow e,int sc,int r1,int r2,int r3,int r4,int r5,int r6]
def Z8G(pw pg sp bm sc r1 r2 r3 r4 r5 r6:Int)(ws ol q tk:List Int)(ps:List Page)(hs:sp=0\/sp=1):BP 140 [.pt 0 0 0] [ckX pw pg sp bm sc r1 r2 r3 r4 r5 r6 1 2 3 4 5,Z0t ws,Z1V ps,Z0t ol,Z3g tk,Z0t q] (int (1-sp)) [ckX pw pg sp bm sc r1 r2 r3 r4 r5 r6 1 2 3 4 5,Z0t ws,Z1V ps,Z0t ol,Z3g tk,Z0t q]:=by
 exact borF [0,1,2,3,4,5] [] func140 [] (Fi 8 (1-sp) Fz)
def Z2Z(w:Work)(i:Int)(hw:CkOk w):BP 89 [.pt 0 0 0,int i] w.ckp (bool (Z0M w i)) w.ckp:=by
 have k:=hw.ok;have mu:=k.mu;have pl:=k.pl;have cf:=validB_iff.1 k.C;have tl:=k.tl;have sp:=k.sp;have so:=λh=>hw.so.at (i:=i.toNat) h;rcases bb (Z (i<0)||Z ((w.heap.P.length:Int)<=i))with hc0 | hc0<;>have hc0p:=hc0<;>simp only[bs]at hc0p
 .exact borF [0,1,2,3,4,5] [] func89 (fO 8) (FlG 15 (!decide (i<0)) Page.dv w.heap.P (Ft 17 hc0 (Fa (by(simp[Z0M, *];omega):O=Z0M w i) Fz)))
 .obtain⟨hc0pa,hc0pb⟩:=hc0p;have Q0 {h_ c_ p_} (r_:Fq h_ c_ p_):=FlG 15 (!decide (i<0)) Page.dv w.heap.P (Ff 17 hc0 (Fmq 25 Page.dv w.heap.P i r_));rcases bb ((w.heap.P.getD i.toNat X).K==1)with hc1 | hc1<;>have hc1p:=hc1<;>simp only[bs]at hc1p
  .exact borF [0,1,2,3,4,5] [] func89 (fO 19) (Fh 28 [.br La] (Q0 (Fa hc1 (Fbq 33 [0,1,2,3,4,5] (@Z8G w.heap.C.pw w.heap.C.pg w.heap.S w.heap.B w.D w.rep.copied w.rep.kept w.rep.filled w.rep.freed w.rep.cleared w.rep.steps w.heap.W w.old w.Q w.T w.heap.P aa) (FcG 42 (La&&(w.heap.P.getD i.toNat X).S==1-w.heap.S) (λhg=>by(try simp only[bs]at hg);exact @ZdP w.T i oq) (Fa (by grind[Z0M]:((w.heap.P.getD i.toNat X).S==1-w.heap.S&&!decide (i∈w.T))=Z0M w i) Fz))))))
  .exact borF [0,1,2,3,4,5] [] func89 (fO 19) (Fh 28 [.br O] (Fh 33 [.bor [0,1,2,3,4,5] (int (1-w.heap.S)) []] (Q0 (Fa hc1 (FcG 42 (O&&(w.heap.P.getD i.toNat X).S==1-w.heap.S) (λhg=>by(try simp only[bs]at hg);exact @ZdP w.T i oq) (Fa (by(simp only[Z0M] ;exact sj):O=Z0M w i) Fz))))))
def Z20(w:Work)(a n:Int)(hw:MemOk w)(h:4096<=a/\1<=n/\a-4096+n<=w.heap.W.length):BP 136 [.pt 0 0 0,u64 a,int n] w.ckp (.tu [.os 1 (a-4096).toNat n.toNat,bool La]) w.ckp:=by
 have wl:=hw.wl;have pl:=hw.pl;have cf:=validB_iff.1 hw.C;have L:=hw.L;have hv:=hw.C;have o:=Zqu (c:=w.heap.C) (a:=a) hv oq;have eo:(ofA w.heap.C a).2.2=0:=o.1;have q:=o.2.1;have r1:=o.2.2;have ei0:Lf.wrap ((ofA w.heap.C a).1*w.heap.C.pw)=(ofA w.heap.C a).1*w.heap.C.pw:=wrapI' oq oq;have ei1:Lf.wrap ((ofA w.heap.C a).1*w.heap.C.pw+(ofA w.heap.C a).2.1)=a-4096:=by rw[q];exact wrapI' oq oq
 exact borF [0,1,2,3,4,5] [] func136 (fO 10) (Fc 19 (@Z2t w.heap.C a oq oq) (Fi 30 ((ofA w.heap.C a).1*w.heap.C.pw) (Fi 32 ((ofA w.heap.C a).1*w.heap.C.pw+(ofA w.heap.C a).2.1) (FlG 42 (!(ofA w.heap.C a).2.2 != 0) wdv w.heap.W (FiG 44 (!(ofA w.heap.C a).2.2 != 0) ((w.heap.W.length:Int)-((ofA w.heap.C a).1*w.heap.C.pw+(ofA w.heap.C a).2.1)) (Ffb 46 ((ofA w.heap.C a).2.2 != 0||Z ((w.heap.W.length:Int)-((ofA w.heap.C a).1*w.heap.C.pw+(ofA w.heap.C a).2.1)<n)) (Fi 55 ((ofA w.heap.C a).1*w.heap.C.pw+(ofA w.heap.C a).2.1+n) (Fa (by(simp only[List.length_map];omega):0<=(ofA w.heap.C a).1*w.heap.C.pw+(ofA w.heap.C a).2.1/\(ofA w.heap.C a).1*w.heap.C.pw+(ofA w.heap.C a).2.1<=(ofA w.heap.C a).1*w.heap.C.pw+(ofA w.heap.C a).2.1+n/\(ofA w.heap.C a).1*w.heap.C.pw+(ofA w.heap.C a).2.1+n<=(↑(Y wdv w.heap.W).length:Int)) (Fa (by(simp[eo, *];omega):AV.os 1 ((ofA w.heap.C a).1*w.heap.C.pw+(ofA w.heap.C a).2.1).toNat (((ofA w.heap.C a).1*w.heap.C.pw+(ofA w.heap.C a).2.1+n).toNat-((ofA w.heap.C a).1*w.heap.C.pw+(ofA w.heap.C a).2.1).toNat)=AV.os 1 (a-4096).toNat n.toNat) (Ftt Fz))))))))))
def Zn8(pw pg sp bm sc r1 r2 r3 r4 r5 r6 r:Int)(ws ol q tk:List Int)(ps:List Page)(hq:q.length<=1000000)(hr:0<=r2/\r2<=1000000):BP 139 [.pt 0 0 0,u64 r] [ckX pw pg sp bm sc r1 r2 r3 r4 r5 r6 1 2 3 4 5,Z0t ws,Z1V ps,Z0t ol,Z3g tk,Z0t q] (.tu [u64 r,int 0]) [ckX pw pg sp bm sc r1 (r2+1) r3 r4 r5 r6 1 2 3 4 6,Z0t ws,Z1V ps,Z0t ol,Z3g tk,.dead,Z0t (q++[r])]:=by
 have ei0:Lf.wrap (r2+1)=r2+1:=wrapI' oq oq;exact borF [0,1,2,3,4,8005] [24013] func139 [] (Fh 13 [.els (Y wdv (q++[r]))] (Fs 12 (Y wdv [r]) (Fa (by(simp[*];omega):(Y wdv q).length+(Y wdv [r]).length<=2^30) (Fa (ms:Y wdv q++Y wdv [r]=Y wdv (q++[r])) (Fi 21 (r2+1) Fz)))))
def Zkt(w:Work)(n:Int)(hw:CkOk w)(hn:1<=n/\n<=256)(h:Z2A w n):BP 142 [.pt 0 0 0,int n] w.ckp (.tu [int (Z0o w),int (w.heap.P.getD (Z0o w).toNat X).U,int 0]) w.ckp:=by
 have k:=hw.ok;have mu:=k.mu;have pl:=k.pl;have cf:=validB_iff.1 k.C;have tl:=k.tl;have hm:=k.tk _ (Z18 h.1);have hu:=k.us (Z0o w).toNat oq
 have h':=h;unfold Z2A at h';have ei0:Lf.wrap ((w.T.length:Int)-1)=(w.T.length:Int)-1:=wrapI' oq oq;have ei1:Lf.wrap (w.heap.C.pw-(w.heap.P.getD (w.T.getD ((w.T.length:Int)-1).toNat X).toNat X).U)=w.heap.C.pw-(w.heap.P.getD (w.T.getD ((w.T.length:Int)-1).toNat X).toNat X).U:=by
  unfold Z0o at hu;exact wrapI' oq oq
 unfold Z0o at *;let y0:=(w.T.length:Int)-1;let y2:=w.heap.P.getD (w.T.getD y0.toNat X).toNat X;let y3:=0<(w.T.length:Int);let y1:=decide y3&&Z (0<=w.T.getD y0.toNat X);exact borF [0,1,2,3,4,5] [] func142 [] (Fl 17 idv w.T (FiG 26 (decide y3) y0 (FmGq 28 (decide y3) idv w.T y0 (FiG 37 y1 y0 (FmGq 39 y1 idv w.T y0 (FlG 45 y1 Page.dv w.heap.P (Ftb 47 (decide y3&&Z (0<=w.T.getD y0.toNat X)&&Z (w.T.getD y0.toNat X<(w.heap.P.length:Int))) (Fi 53 y0 (Fmq 55 idv w.T y0 (Fmq 64 Page.dv w.heap.P (w.T.getD y0.toNat X) (Fi 73 (w.heap.C.pw-y2.U) (Ftb 74 (Z (n<=w.heap.C.pw-y2.U)) Fz))))))))))))
def ZhK(w:Work)(n:Int)(hw:CkOk w)(hn:1<=n/\n<=256)(h:¬ Z2A w n)(hf:¬ 0<=Z0g w):BP 142 [.pt 0 0 0,int n] w.ckp (.tu [int 0,int 0,int 3]) w.ckp:=by
 have k:=hw.ok;have mu:=k.mu;have pl:=k.pl;have cf:=validB_iff.1 k.C;have tl:=k.tl;have hu:=λq=>k.us (Z0o w).toNat q;unfold Z2A at h;unfold Z0o at h hu;unfold Z0g at hf;have ei0:0<w.T.length->Lf.wrap ((w.T.length:Int)-1)=(w.T.length:Int)-1:=λ_=>wrapI' oq oq;have Q0 {h_ c_ p_} (r_:Fq h_ c_ p_):=Fl 17 idv w.T (FiG 26 (Z (0<(w.T.length:Int))) ((w.T.length:Int)-1) (FmGq 28 (Z (0<(w.T.length:Int))) idv w.T ((w.T.length:Int)-1) (FiG 37 (Z (0<(w.T.length:Int))&&Z (0<=w.T.getD ((w.T.length:Int)-1).toNat X)) ((w.T.length:Int)-1) (FmGq 39 (Z (0<(w.T.length:Int))&&Z (0<=w.T.getD ((w.T.length:Int)-1).toNat X)) idv w.T ((w.T.length:Int)-1) (FlG 45 (Z (0<(w.T.length:Int))&&Z (0<=w.T.getD ((w.T.length:Int)-1).toNat X)) Page.dv w.heap.P r_)))));rcases bb (Z (0<(w.T.length:Int))&&Z (0<=w.T.getD ((w.T.length:Int)-1).toNat X)&&Z (w.T.getD ((w.T.length:Int)-1).toNat X<(w.heap.P.length:Int)))with hc0 | hc0<;>have hc0p:=hc0<;>simp only[bs]at hc0p
 .obtain⟨⟨hc0paa,hc0pab⟩,hc0pb⟩:=hc0p;exact borF [0,1,2,3,4,5] [] func142 [] (Q0 (Ft 47 hc0 (Fi 53 ((w.T.length:Int)-1) (Fmq 55 idv w.T ((w.T.length:Int)-1) (Fmq 64 Page.dv w.heap.P (w.T.getD ((w.T.length:Int)-1).toNat X) (Fi 73 (w.heap.C.pw-(w.heap.P.getD (w.T.getD ((w.T.length:Int)-1).toNat X).toNat X).U) (Ffb 74 (Z (n<=w.heap.C.pw-(w.heap.P.getD (w.T.getD ((w.T.length:Int)-1).toNat X).toNat X).U)) (Fc 82 (@Z7o w.heap.P (1) oq) (Ftb 84 (Z (first w.heap.P (1:Int)<0)) Fz)))))))))
 .exact borF [0,1,2,3,4,5] [] func142 [] (Q0 (Ff 47 hc0 (Fc 82 (@Z7o w.heap.P (1) oq) (Ftb 84 (Z (first w.heap.P (1:Int)<0)) Fz))))
def Work.took(w:Work):Work:=⟨⟨w.heap.C,w.heap.W,Z1Z w,w.heap.S,w.heap.B⟩,w.old,w.T++[Z0g w],w.Q,w.D,w.rep⟩
def Zju(w:Work)(n:Int)(hw:CkOk w)(hn:1<=n/\n<=256)(h:¬ Z2A w n)(hf:0<=Z0g w):BP 142 [.pt 0 0 0,int n] w.ckp (.tu [int (Z0g w),int 0,int 0]) w.took.cks:=by
 have k:=hw.ok;have mu:=k.mu;have pl:=k.pl;have cf:=validB_iff.1 k.C;have tl:=k.tl;have sp:=k.sp;have hu:=λq=>k.us (Z0o w).toNat q;unfold Z2A at h;unfold Z0o at h hu;obtain⟨f1,f2,f3,f4⟩:=Z2s (h:=⟨w.heap.C,w.heap.W,w.heap.P,1-w.heap.S,w.heap.B⟩) (by simp only;omega) hf;have f1':Z1Z w=tookP w.heap.P (Z0g w).toNat 1 ⟨1,1-w.heap.S,0,0⟩ ⟨0,0,0,0⟩:=f1;have ff:=Z1m hf;have ei0:0<w.T.length->Lf.wrap ((w.T.length:Int)-1)=(w.T.length:Int)-1:=λ_=>wrapI' oq oq;unfold Work.took;rw[f1'];unfold Z0g at *;have Q0 {h_ c_ p_} (r_:Fq h_ c_ p_):=Fl 17 idv w.T (FiG 26 (Z (0<(w.T.length:Int))) ((w.T.length:Int)-1) (FmGq 28 (Z (0<(w.T.length:Int))) idv w.T ((w.T.length:Int)-1) (FiG 37 (Z (0<(w.T.length:Int))&&Z (0<=w.T.getD ((w.T.length:Int)-1).toNat X)) ((w.T.length:Int)-1) (FmGq 39 (Z (0<(w.T.length:Int))&&Z (0<=w.T.getD ((w.T.length:Int)-1).toNat X)) idv w.T ((w.T.length:Int)-1) (FlG 45 (Z (0<(w.T.length:Int))&&Z (0<=w.T.getD ((w.T.length:Int)-1).toNat X)) Page.dv w.heap.P r_)))));rcases bb (Z (0<(w.T.length:Int))&&Z (0<=w.T.getD ((w.T.length:Int)-1).toNat X)&&Z (w.T.getD ((w.T.length:Int)-1).toNat X<(w.heap.P.length:Int)))with hc0 | hc0<;>have hc0p:=hc0<;>simp only[bs]at hc0p
 .obtain⟨⟨hc0paa,hc0pab⟩,hc0pb⟩:=hc0p;exact borF [0,1,8002,3,8004,5] [81094,96109] func142 [] (Fh 109 [.els (Y idv (w.T++[first w.heap.P 1]))] (Q0 (Ft 47 hc0 (Fi 53 ((w.T.length:Int)-1) (Fmq 55 idv w.T ((w.T.length:Int)-1) (Fmq 64 Page.dv w.heap.P (w.T.getD ((w.T.length:Int)-1).toNat X) (Fi 73 (w.heap.C.pw-(w.heap.P.getD (w.T.getD ((w.T.length:Int)-1).toNat X).toNat X).U) (Ffb 74 (Z (n<=w.heap.C.pw-(w.heap.P.getD (w.T.getD ((w.T.length:Int)-1).toNat X).toNat X).U)) (Fc 82 (@Z7o w.heap.P (1) oq) (Ffb 84 (Z (first w.heap.P (1:Int)<0)) (Fbq 93 [0,1,8002,3,8004,5] (@Z8G w.heap.C.pw w.heap.C.pg w.heap.S w.heap.B w.D w.rep.copied w.rep.kept w.rep.filled w.rep.freed w.rep.cleared w.rep.steps w.heap.W w.old w.Q w.T w.heap.P aa) (Fc 94 (@Zb4 w.heap.P (first w.heap.P 1) (1-w.heap.S) oq oq oq (by grind[])) (Fs 108 (Y idv [first w.heap.P 1]) (Fa (by(simp[*];omega):(Y idv w.T).length+(Y idv [first w.heap.P 1]).length<=2^30) (Fa (ms:Y idv w.T++Y idv [first w.heap.P 1]=Y idv (w.T++[first w.heap.P 1])) Fz)))))))))))))))
 .exact borF [0,1,8002,3,8004,5] [57094,72109] func142 [] (Fh 109 [.els (Y idv (w.T++[first w.heap.P 1]))] (Q0 (Ff 47 hc0 (Fc 82 (@Z7o w.heap.P (1) oq) (Ffb 84 (Z (first w.heap.P (1:Int)<0)) (Fbq 93 [0,1,8002,3,8004,5] (@Z8G w.heap.C.pw w.heap.C.pg w.heap.S w.heap.B w.D w.rep.copied w.rep.kept w.rep.filled w.rep.freed w.rep.cleared w.rep.steps w.heap.W w.old w.Q w.T w.heap.P aa) (Fc 94 (@Zb4 w.heap.P (first w.heap.P 1) (1-w.heap.S) oq oq oq (by grind[])) (Fs 108 (Y idv [first w.heap.P 1]) (Fa (by(simp[*];omega):(Y idv w.T).length+(Y idv [first w.heap.P 1]).length<=2^30) (Fa (ms:Y idv w.T++Y idv [first w.heap.P 1]=Y idv (w.T++[first w.heap.P 1])) Fz))))))))))
def Work.put(w:Work)(i:Nat)(r a n:Int):Work:=⟨⟨w.heap.C,(Z0L (moveA w.heap.W a r n).1 r (4*a+2)).1,Z1C w.heap.P i n,w.heap.S,w.heap.B⟩,w.old,w.T,w.Q++[a],w.D,⟨w.rep.copied+1,w.rep.kept,w.rep.filled,w.rep.freed,w.rep.cleared,w.rep.steps⟩⟩
def Zi9{ws:List Int}{i:Nat}{v:Int}(h:i<ws.length):spl ws i [v]=ws.set i v:=by
 rw[List.set_eq_take_append_cons_drop,if_pos h,spl];simp
def Zqz{ws:List Int}{a r:Int}{n:Nat}(hn:1<=n)(ha:4096<=a/\a-4096+n<=ws.length)(hr:4096<=r/\r-4096+n<=ws.length) :
  (ws.take (a-4096).toNat++(ws.drop (r-4096).toNat).take n++ws.drop ((a-4096).toNat+((ws.drop (r-4096).toNat).take n).length)).set (r-4096).toNat (4*a+2)=(Z0L (moveA ws a r n).1 r (4*a+2)).1:=by
 have e1:Z1n ws r n=((ws.drop (r-4096).toNat).take n,0):=by rw[Z1n,if_neg oq,if_pos hr];rfl
 have hl:((ws.drop (r-4096).toNat).take n).length=n:=by simp;omega
 have e2:(moveA ws a r n).1=spl ws (a-4096).toNat ((ws.drop (r-4096).toNat).take n):=by
  rw[moveA,e1];simp only[if_neg (show ¬ (0:Int)≠0 by simp)];rw[Z0F,if_pos oq]
 rw[e2];have hL:=Z3Z (ws:=ws) (l:=(ws.drop (r-4096).toNat).take n) (i:=(a-4096).toNat) oq;rw[Z0L,Z0F,if_pos (by simp only[List.length_singleton];omega),Zi9 oq];rfl
section
variable (w:Work) (r i off:Int) (n:Nat) (hw:MemOk w) (hq:w.Q.length<=1000000) (rk:0<=w.rep.copied/\w.rep.copied<=1000000) (hu:0<=(w.heap.P.getD i.toNat X).U/\(w.heap.P.getD i.toNat X).U<=1024) (hr:4096<=r/\1<=n/\r-4096+n<=w.heap.W.length) (hi:0<=i/\i<w.heap.P.length) (ha:(address w.heap.C i off).2=0) (har:4096<=(address w.heap.C i off).1/\(address w.heap.C i off).1-4096+n<=w.heap.W.length)
include hw hq rk hu hr hi ha har
theorem ckTo:BP 143 [.ag [.pt 0 0 0,.os 1 (r-4096).toNat n],int i,int off] w.ckp (.tu [u64 (address w.heap.C i off).1,int 0]) (w.put i.toNat r (address w.heap.C i off).1 n).ckr:=by
 have wl:=hw.wl;have pl:=hw.pl;have hs:=Zqz (ws:=w.heap.W) (a:=(address w.heap.C i off).1) (r:=r) (n:=n) hr.2.1 har oq;have hs2:Y wdv ((w.heap.W.take ((address w.heap.C i off).1-4096).toNat++(w.heap.W.drop (r-4096).toNat).take n++w.heap.W.drop (((address w.heap.C i off).1-4096).toNat+((w.heap.W.drop (r-4096).toNat).take n).length)).set ((r-4096).toNat+M 0) (4*(address w.heap.C i off).1+2))=Y wdv (w.put i.toNat r (address w.heap.C i off).1 n).heap.W:=congrArg _ hs;have hn:=hr.2.1;have ei0:Lf.wrap ((w.heap.P.getD i.toNat X).U+n)=(w.heap.P.getD i.toNat X).U+n:=wrapI' oq oq;have ei1:Lf.wrap (w.rep.copied+1)=w.rep.copied+1:=wrapI' oq oq;exact borF [0,1,2,3,4,8005] [88082] func143 (fO 4) (Fh 52 [.els (Y wdv (Lc ((address w.heap.C i off).1-4096).toNat w.heap.W++Lc n (Lb (r-4096).toNat w.heap.W)++Lb (((address w.heap.C i off).1-4096).toNat+(Lc n (Lb (r-4096).toNat w.heap.W)).length) w.heap.W))] (Fh 10056 [.els (Y wdv ((Lc ((address w.heap.C i off).1-4096).toNat w.heap.W++Lc n (Lb (r-4096).toNat w.heap.W)++Lb (((address w.heap.C i off).1-4096).toNat+(Lc n (Lb (r-4096).toNat w.heap.W)).length) w.heap.W).set ((r-4096).toNat+M 0) (4*(address w.heap.C i off).1+2)))] (Fh 82 [.els (Y wdv (w.Q++[(address w.heap.C i off).1]))] (Fc 22 (@Z46 w.heap.C i off) (Ffb 26 ((address w.heap.C i off).2 != 0) (Fbq 35 [0,1,2,3,4,8005] (@Z20 w ((address w.heap.C i off).1) ((n:Int)) aa oq) (Fc 40 (@Zc8 ((address w.heap.C i off).1) oq) (Fa (by(simp[ha,Work.put,Z1C, *];omega):(Lc n (Lb (r-4096).toNat (Y wdv w.heap.W))).length<=(n:Int).toNat) (Fa (by(simp[Z0R]):Z0R (Y wdv w.heap.W) ((address w.heap.C i off).1-4096).toNat (Lc n (Lb (r-4096).toNat (Y wdv w.heap.W)))=Y wdv (Lc ((address w.heap.C i off).1-4096).toNat w.heap.W++Lc n (Lb (r-4096).toNat w.heap.W)++Lb (((address w.heap.C i off).1-4096).toNat+(Lc n (Lb (r-4096).toNat w.heap.W)).length) w.heap.W)) (Fo ((0:Int)<=0/\M 0<n) (Fa (by(simp[ha,Work.put,Z1C, *];omega):(r-4096).toNat+M 0<(Y wdv (Lc ((address w.heap.C i off).1-4096).toNat w.heap.W++Lc n (Lb (r-4096).toNat w.heap.W)++Lb (((address w.heap.C i off).1-4096).toNat+(Lc n (Lb (r-4096).toNat w.heap.W)).length) w.heap.W)).length) (Fa (by simp[ha,Work.put,Z1C,List.map_take,List.map_drop,List.map_set,List.map_append,wdv,idv]:(Y wdv (Lc ((address w.heap.C i off).1-4096).toNat w.heap.W++Lc n (Lb (r-4096).toNat w.heap.W)++Lb (((address w.heap.C i off).1-4096).toNat+(Lc n (Lb (r-4096).toNat w.heap.W)).length) w.heap.W)).set ((r-4096).toNat+M 0) [du64 (4*(address w.heap.C i off).1+2)]=Y wdv ((Lc ((address w.heap.C i off).1-4096).toNat w.heap.W++Lc n (Lb (r-4096).toNat w.heap.W)++Lb (((address w.heap.C i off).1-4096).toNat+(Lc n (Lb (r-4096).toNat w.heap.W)).length) w.heap.W).set ((r-4096).toNat+M 0) (4*(address w.heap.C i off).1+2))) (Fmq 66 Page.dv w.heap.P i (Fi 70 ((w.heap.P.getD i.toNat X).U+(n:Int)) (Fm0q Page.dv w.heap.P i (FS 10072 Page.dv w.heap.P i.toNat (Page.mk (w.heap.P.getD i.toNat X).K (w.heap.P.getD i.toNat X).S ((w.heap.P.getD i.toNat X).U+(n:Int)) (w.heap.P.getD i.toNat X).N) ((w.heap.P.getD i.toNat X).dv) (Fs 81 (Y wdv [(address w.heap.C i off).1]) (Fa (by(simp[ha,Work.put,Z1C, *];omega):(Y wdv w.Q).length+(Y wdv [(address w.heap.C i off).1]).length<=2^30) (Fa (by(simp[Z0R]):Y wdv w.Q++Y wdv [(address w.heap.C i off).1]=Y wdv (w.Q++[(address w.heap.C i off).1])) (Fi 91 (w.rep.copied+1) (Fr (35:Int) (Fa (by refine congrArg _ ?_;assumption:Y wdv ((Lc ((address w.heap.C i off).1-4096).toNat w.heap.W++Lc n (Lb (r-4096).toNat w.heap.W)++Lb (((address w.heap.C i off).1-4096).toNat+(Lc n (Lb (r-4096).toNat w.heap.W)).length) w.heap.W).set ((r-4096).toNat+M 0) (4*(address w.heap.C i off).1+2))=Y wdv (w.put i.toNat r (address w.heap.C i off).1 (n:Int)).heap.W) Fz))))))))))))))))))))))
end
def ckfB(w:Work)(l:List Page):List (Nat×Blk):=[(2,Z1V l),(0,w.ckB 1 2 3 4 8005),(1,Z0t w.heap.W),(3,Z0t w.old),(4,Z3g w.T),(8005,Z0t w.Q)]
def ckfL(w:Work)(r x:Int)(m:Nat):Tg:=⟨tm 180 [(0,.pt 0 0 0),(1,u64 r),(4,u64 0),(5,int 0),(6,.os 1 (r-4096).toNat 1),(7,bool La),(13,int (x+1+m))],ckfB w (Z0s w.heap.P x.toNat m (1-w.heap.S)),15⟩
def ZlM(w:Work)(r x:Int)(m:Nat)(hs:w.heap.S=0\/w.heap.S=1)(hl:w.heap.P.length<=1048576)(hx:0<=x)(hm:m<Z0i w.heap.P x.toNat):CP (rndF f85 0) (ckfL w r x m).st .nrm (ckfL w r x (m+1)).st:=by
 have ht:=Z6l hm;have ha:=Z8m (l:=w.heap.P) (i:=x.toNat) (m:=m) (1-w.heap.S);have hn:=Z1j w.heap.P x.toNat m (1-w.heap.S);have hq:=Zax (1-w.heap.S) ht.1;unfold Z8K at hq;rw[<- ha]at hq ht;have eN:x.toNat+1+m=(x+1+(m:Int)).toNat:=by omega
 have eI:((x.toNat+1+m:Nat):Int)=x+1+(m:Int):=by omega
 rw[eN]at ha hq ht;let y1:=Z0s w.heap.P x.toNat m (1-w.heap.S);let y2:=x+1+(m:Int);let y0:=y1.getD y2.toNat X;let y3:=x+1+(m:Int)<(y1.length:Int);let y4:=Page.mk y0.K (1-w.heap.S) y0.U y0.N;exact sF [] (fP 16) (Fl 109 Page.dv (Z0s w.heap.P x.toNat m ((1:Int)-w.heap.S)) (FmGq 120 (decide y3) Page.dv y1 y2 (Ftb 122 (decide y3&&y0.K==3) (Fbq 132 [0,1,2,3,4,8005] (@Z8G w.heap.C.pw w.heap.C.pg w.heap.S w.heap.B w.D w.rep.copied w.rep.kept w.rep.filled w.rep.freed w.rep.cleared w.rep.steps w.heap.W w.old w.Q w.T y1 aa) (Fm0q Page.dv y1 y2 (FS 10134 Page.dv y1 (y2.toNat) y4 (y0.dv) (Fi 124 (x+1+(m:Int)+1) (Fo (x+1+(m:Int)+1=x+1+(↑(m+1):Int)) (Fr (84:Int) (Fa (by refine congrArg _ ?_;exact hq:Y Page.dv (y1.set y2.toNat y4)=Y Page.dv (Z0s w.heap.P x.toNat (m+1) (1-w.heap.S))) Fz))))))))))
def ZqO(w:Work)(r x:Int)(hl:w.heap.P.length<=1048576)(hx:0<=x):CP (rndF f85 0) (ckfL w r x (Z0i w.heap.P x.toNat)).st (.ext 0) (Tg.st ⟨tm 180 [(0,.pt 0 0 0),(1,u64 r),(4,u64 0),(5,int 0),(6,.os 1 (r-4096).toNat 1),(7,bool La)],ckfB w (Z0s w.heap.P x.toNat (Z0i w.heap.P x.toNat) (1-w.heap.S)),15⟩):=by
 have ht:=λh=>Zcc (l:=w.heap.P) (i:=x.toNat) h;have ha:=Z8m (l:=w.heap.P) (i:=x.toNat) (m:=Z0i w.heap.P x.toNat) (1-w.heap.S);have hn:=Z1j w.heap.P x.toNat (Z0i w.heap.P x.toNat) (1-w.heap.S)
 have eN:x.toNat+1+Z0i w.heap.P x.toNat=(x+1+(Z0i w.heap.P x.toNat:Int)).toNat:=by omega
 rw[<- ha,eN]at ht;exact sF [] [] (Fl 109 Page.dv (Z0s w.heap.P x.toNat (Z0i w.heap.P x.toNat) ((1:Int)-w.heap.S)) (FmGq 120 (Z (x+1+(↑(Z0i w.heap.P x.toNat):Int)<(↑(Z0s w.heap.P x.toNat (Z0i w.heap.P x.toNat) (1-w.heap.S)).length:Int))) Page.dv (Z0s w.heap.P x.toNat (Z0i w.heap.P x.toNat) (1-w.heap.S)) (x+1+(↑(Z0i w.heap.P x.toNat):Int)) (Ffb 122 (Z (x+1+(↑(Z0i w.heap.P x.toNat):Int)<(↑(Z0s w.heap.P x.toNat (Z0i w.heap.P x.toNat) (1-w.heap.S)).length:Int))&&((Z0s w.heap.P x.toNat (Z0i w.heap.P x.toNat) (1-w.heap.S)).getD (x+1+(↑(Z0i w.heap.P x.toNat):Int)).toNat X).K==3) Fz)))
def Zo4(w:Work)(r x:Int)(hs:w.heap.S=0\/w.heap.S=1)(hl:w.heap.P.length<=1048576)(hx:0<=x):CP (blkF f85 0) (Tg.st ⟨tm 180 [(0,.pt 0 0 0),(1,u64 r),(4,u64 0),(5,int 0),(6,.os 1 (r-4096).toNat 1),(7,bool La),(13,int (x+1))],ckfB w (w.heap.P.set x.toNat ⟨(w.heap.P.getD x.toNat X).K,1-w.heap.S,(w.heap.P.getD x.toNat X).U,(w.heap.P.getD x.toNat X).N⟩),15⟩) .nrm (Tg.st ⟨tm 180 [(0,.pt 0 0 0),(1,u64 r),(4,u64 0),(5,int 0),(6,.os 1 (r-4096).toNat 1),(7,bool La)],ckfB w (Z0s w.heap.P x.toNat (Z0i w.heap.P x.toNat) (1-w.heap.S)),15⟩):=by
 have h:=Z0a (S:=λk=>(ckfL w r x k).st) (Z0i w.heap.P x.toNat) kr (λk hk=>ZlM w r x k hs hl hx hk) (ZqO w r x hl hx);have hz:=Zas (l:=w.heap.P) (i:=x.toNat) (1-w.heap.S);simp only[ckfL,hz,Z8K,Int.natCast_zero,Lo]at h;exact h
def FwOk.ld{w:Work}{r:Int}(f:FwOk w r)(c3:r∈w.old):(loadA w.heap.W r).1=w.heap.W.getD ((r-4096).toNat+M 0) X:=by
 have h3:=f.ol c3;have lr:=Z0b w.heap.W r;unfold loadA;rw[if_pos oq];rfl
def Zqp(w:Work)(r:Int)(h0:0<=r/\r<=18446744073709551615)(ln:LnOk w)(c1:r=0\/r∈w.Q):BP 85 [.pt 0 0 0,u64 r] w.ckp (.tu [u64 r,int 0]) w.ckp:=by
 obtain⟨h1,h2,h3,h4,h5⟩:=ln;exact borF [0,1,2,3,4,5] [] func85 [] (FcG 27 (!r==0) (λhg=>by(try simp only[bs]at hg);exact @Z0W w.Q r aa) (Ftb 28 (r==0||Z (r∈w.Q)) Fz))
def Zpo(w:Work)(r:Int)(h0:0<=r/\r<=18446744073709551615)(ln:LnOk w)(c1:r≠0)(c2:r∉w.Q)(c3:r∉w.old):BP 85 [.pt 0 0 0,u64 r] w.ckp (.tu [u64 0,int 19]) w.ckp:=by
 obtain⟨h1,h2,h3,h4,h5⟩:=ln;exact borF [0,1,2,3,4,5] [] func85 [] (FcG 27 (!r==0) (λhg=>by(try simp only[bs]at hg);exact @Z0W w.Q r aa) (Ffs 28 (r==0||Z (r∈w.Q)) (Fc 35 (@Z0W w.old r aa) (Ftb 36 (!decide (r∈w.old)) Fz))))
section
variable (w:Work) (r:Int) (f:FwOk w r)
include f
variable (c1:r≠0) (c2:r∉w.Q) (c3:r∈w.old)
include c1 c2 c3
theorem ZqH(c4:(Z08 (loadA w.heap.W r).1).2=La):BP 85 [.pt 0 0 0,u64 r] w.ckp (.tu [u64 (Z08 (loadA w.heap.W r).1).1,int 0]) w.ckp:=by
 have h0:=f.rg;have hk:=f.ck;have hmm:=hk.mem;have ok:=hk.ok;obtain⟨-,wl,-,pl,sp,ol,-,-,tl,-,-,mu,-,rk,-,-⟩:=id ok;have cf:=validB_iff.1 ok.C;have h3:=f.ol c3;have lr:=Z0b w.heap.W r;have o:=Z2L ok.C h3.2.2.1;have eof:=h3.2.2.1;have el:=f.ld c3;have ld:=Z0D ok.W r;rw[el]at c4 ld ⊢;have Q0 {h_ c_ p_} (r_:Fq h_ c_ p_):=FcG 27 (!r==0) (λhg=>by(try simp only[bs]at hg);exact @Z0W w.Q r oq) r_;rcases bb (r==0||Z (r∈w.Q))with hc0 | hc0<;>have hc0p:=hc0<;>simp only[bs]at hc0p
 .exact borF [0,1,2,3,4,5] [] func85 (fO 6) (Q0 (Ft 28 hc0 (Fa (by grind[]:r=(Z08 (w.heap.W.getD ((r-4096).toNat+M 0) X)).1) (Fr (0:Int) Fz))))
 .obtain⟨hc0pa,hc0pb⟩:=hc0p;let y0:=w.heap.W.getD ((r-4096).toNat+M 0) X;exact borF [0,1,2,3,4,5] [] func85 [] (Fh 48 [.el (wdv y0)] (Fh 52 [.br La] (Q0 (Ff 28 hc0 (Fc 35 (@Z0W w.old r oq) (Ffb 36 (!decide (r∈w.old)) (Fbq 40 [0,1,2,3,4,5] (@Z20 w r (1) aa oq) (Fo ((0:Int)<=0/\M 0<M 1) (Fa (by exact Z0I oq:(Y wdv w.heap.W)[(r-4096).toNat+M 0]? = some (wdv y0)) (Fc 49 (@Z1S y0 oq oq) (Fa ‹(Z08 y0).2=La› Fz)))))))))))
variable (c4:(Z08 (loadA w.heap.W r).1).2=O)
include c4
theorem ZqI(c6:Z0M w (ofA w.heap.C r).1=La):BP 85 [.pt 0 0 0,u64 r] w.ckp (.tu [u64 r,int 0]) (w.keep r).ckr:=by
 have h0:=f.rg;have hk:=f.ck;have hmm:=hk.mem;have ok:=hk.ok;obtain⟨-,wl,-,pl,sp,ol,-,-,tl,-,-,mu,-,rk,-,-⟩:=id ok;have cf:=validB_iff.1 ok.C;have h3:=f.ol c3;have lr:=Z0b w.heap.W r;have o:=Z2L ok.C h3.2.2.1;have eof:=h3.2.2.1;have el:=f.ld c3;have ld:=Z0D ok.W r;rw[el]at c4 ld;rcases bb (r==0||Z (r∈w.Q))with hc0 | hc0<;>have hc0p:=hc0<;>simp only[bs]at hc0p
 .rw[show w.keep r=w from by exact absurd hc0p (by simp[c1,c2])];exact absurd hc0p (by simp[c1,c2])
 .obtain⟨hc0pa,hc0pb⟩:=hc0p;let y0:=w.heap.W.getD ((r-4096).toNat+M 0) X;let y1:=ofA w.heap.C r;exact borF [0,1,2,3,4,8005] [97078] func85 [] (Fh 48 [.el (wdv y0)] (Fh 72 [.br O] (Fh 75 [.bor [0,1,2,3,4,8005] (Sx.bool (Z0M w y1.1)) [],.br La] (FcG 27 (!r==0) (λhg=>by(try simp only[bs]at hg);exact @Z0W w.Q r oq) (Ff 28 hc0 (Fc 35 (@Z0W w.old r oq) (Ffb 36 (!decide (r∈w.old)) (Fbq 40 [0,1,2,3,4,8005] (@Z20 w r (1) aa oq) (Fo ((0:Int)<=0/\M 0<M 1) (Fa (by exact Z0I oq:(Y wdv w.heap.W)[(r-4096).toNat+M 0]? = some (wdv y0)) (Fc 49 (@Z1S y0 oq oq) (Fa ‹(Z08 y0).2=O› (Fc 61 (@Z2t w.heap.C r oq oq) (Fl 71 Page.dv w.heap.P (Ffb 52 (Z ((w.heap.P.length:Int)<=y1.1)) (Fa (@Z2Z w (y1.1) aa) (Fa ‹Z0M w y1.1=La› (Fbr 78 [0,1,2,3,4,8005] (@Zn8 w.heap.C.pw w.heap.C.pg w.heap.S w.heap.B w.D w.rep.copied w.rep.kept w.rep.filled w.rep.freed w.rep.cleared w.rep.steps r w.heap.W w.old w.Q w.T w.heap.P oq oq) Fz))))))))))))))))))
theorem ZpV(c6:Z0M w (ofA w.heap.C r).1=O)(c7:(w.heap.P.getD (Z19 w r) X).K=2):BP 85 [.pt 0 0 0,u64 r] w.ckp (.tu [u64 r,int 0]) ((w.flip (Z19 w r)).keep r).ckr:=by
 have h0:=f.rg;have hk:=f.ck;have hmm:=hk.mem;have ok:=hk.ok;obtain⟨-,wl,-,pl,sp,ol,-,-,tl,-,-,mu,-,rk,-,-⟩:=id ok;have cf:=validB_iff.1 ok.C;have h3:=f.ol c3;have lr:=Z0b w.heap.W r;have o:=Z2L ok.C h3.2.2.1;have eof:=h3.2.2.1;have el:=f.ld c3;have ld:=Z0D ok.W r;rw[el]at c4 ld;unfold Z19 at c7;rcases bb (r==0||Z (r∈w.Q))with hc0 | hc0<;>have hc0p:=hc0<;>simp only[bs]at hc0p
 .rw[show(w.flip (Z19 w r)).keep r=w from by exact absurd hc0p (by simp[c1,c2])];exact absurd hc0p (by simp[c1,c2])
 .obtain⟨hc0pa,hc0pb⟩:=hc0p;let y0:=ofA w.heap.C r;let y1:=w.heap.W.getD ((r-4096).toNat+M 0) X;let y2:=w.heap.P.getD y0.1.toNat X;exact borF [0,1,2,3,4,8005] [121137] func85 [] (Fh 48 [.el (wdv y1)] (Fh 72 [.br O] (Fh 75 [.bor [0,1,2,3,4,8005] (Sx.bool (Z0M w y0.1)) [],.br O] (FcG 27 (!r==0) (λhg=>by(try simp only[bs]at hg);exact @Z0W w.Q r oq) (Ff 28 hc0 (Fc 35 (@Z0W w.old r oq) (Ffb 36 (!decide (r∈w.old)) (Fbq 40 [0,1,2,3,4,8005] (@Z20 w r (1) aa oq) (Fo ((0:Int)<=0/\M 0<M 1) (Fa (by exact Z0I oq:(Y wdv w.heap.W)[(r-4096).toNat+M 0]? = some (wdv y1)) (Fc 49 (@Z1S y1 oq oq) (Fa ‹(Z08 y1).2=O› (Fc 61 (@Z2t w.heap.C r oq oq) (Fl 71 Page.dv w.heap.P (Ffb 52 (Z ((w.heap.P.length:Int)<=y0.1)) (Fa (@Z2Z w (y0.1) aa) (Fa ‹Z0M w y0.1=O› (Fmq 89 Page.dv w.heap.P (y0.1) (Ftb 90 (y2.K==2) (Fbq 98 [0,1,2,3,4,8005] (@Z8G w.heap.C.pw w.heap.C.pg w.heap.S w.heap.B w.D w.rep.copied w.rep.kept w.rep.filled w.rep.freed w.rep.cleared w.rep.steps w.heap.W w.old w.Q w.T w.heap.P aa) (Fm0q Page.dv w.heap.P (y0.1) (FS 10100 Page.dv w.heap.P (y0.1.toNat) (Page.mk y2.K (1-w.heap.S) y2.U y2.N) (y2.dv) (Fi 102 (y0.1+1) (Fu (@Zo4 w r (y0.1) aa oq oq) (Fbr 137 [0,1,2,3,4,8005] (@Zn8 w.heap.C.pw w.heap.C.pg w.heap.S w.heap.B w.D w.rep.copied w.rep.kept w.rep.filled w.rep.freed w.rep.cleared w.rep.steps r w.heap.W w.old w.Q w.T (Z0s w.heap.P y0.1.toNat (Z0i w.heap.P y0.1.toNat) (1-w.heap.S)) oq oq) Fz)))))))))))))))))))))))))
variable (c6:Z0M w (ofA w.heap.C r).1=O) (c7:¬ (w.heap.P.getD (Z19 w r) X).K=2)
include c6 c7
theorem Zq6(c8:¬ Z2A w (sizeH (hdW w r)))(c9:¬ 0<=Z0g w):BP 85 [.pt 0 0 0,u64 r] w.ckp (.tu [u64 0,int 3]) w.ckp:=by
 have h0:=f.rg;have hk:=f.ck;have hmm:=hk.mem;have ok:=hk.ok;obtain⟨-,wl,-,pl,sp,ol,-,-,tl,-,-,mu,-,rk,-,-⟩:=id ok;have cf:=validB_iff.1 ok.C;have h3:=f.ol c3;have lr:=Z0b w.heap.W r;have o:=Z2L ok.C h3.2.2.1;have eof:=h3.2.2.1;have el:=f.ld c3;have ld:=Z0D ok.W r;have dc:=f.dc c3 c4;have sz:=Z2K w r;have hl:=Z1N w r;have dm:=Z1q (loadA w.heap.W r).1 ld.1;have ein:(((sizeH (hdW w r)).toNat:Nat):Int)=sizeH (hdW w r):=Lj oq;unfold Z19 at c7;unfold hdW at *;rw[el]at c4 c8 ld dc sz hl dm ein;rcases bb (r==0||Z (r∈w.Q))with hc0 | hc0<;>have hc0p:=hc0<;>simp only[bs]at hc0p
 .exact absurd hc0p (by simp[c1,c2])
 .obtain⟨hc0pa,hc0pb⟩:=hc0p;rcases bb (!(decodeH (w.heap.W.getD ((r-4096).toNat+M 0) X)).2||O)with hc1 | hc1<;>have hc1p:=hc1<;>simp only[bs]at hc1p
  .exact absurd hc1p (by rw[dc];simp)
  .obtain⟨hc1pa,hc1pb⟩:=hc1p;let y0:=w.heap.W.getD ((r-4096).toNat+M 0) X;let y1:=ofA w.heap.C r;let y2:=sizeH (decodeH y0).1;let y3:=(0:Int)<=0/\M 0<M 1;exact borF [0,1,2,3,4,5] [] func85 [] (Fh 48 [.el (wdv y0)] (Fh 75 [.bor [0,1,2,3,4,5] (Sx.bool (Z0M w y1.1)) [],.br O] (Fh 143 [.el (wdv y0)] (Fh 160 [.br O] (FcG 27 (!r==0) (λhg=>by(try simp only[bs]at hg);exact @Z0W w.Q r oq) (Ff 28 hc0 (Fc 35 (@Z0W w.old r oq) (Ffb 36 (!decide (r∈w.old)) (Fbq 40 [0,1,2,3,4,5] (@Z20 w r (1) aa oq) (Fo y3 (Fa (by exact Z0I oq:(Y wdv w.heap.W)[(r-4096).toNat+M 0]? = some (wdv y0)) (Fc 49 (@Z1S y0 oq oq) (Fa ‹(Z08 y0).2=O› (Fc 61 (@Z2t w.heap.C r oq oq) (Fl 71 Page.dv w.heap.P (Ffb 52 (Z ((w.heap.P.length:Int)<=y1.1)) (Fa (@Z2Z w (y1.1) aa) (Fa ‹Z0M w y1.1=O› (Fmq 89 Page.dv w.heap.P (y1.1) (Ffb 72 ((w.heap.P.getD y1.1.toNat X).K==2) (Fo y3 (Fa (by exact Z0I oq:(Y wdv w.heap.W)[(r-4096).toNat+M 0]? = some (wdv y0)) (Fc 144 (@Z0P y0 oq oq) (Fc 151 (@Z0S ((decodeH y0).1) aa) (Fbq 152 [0,1,2,3,4,5] (@Z20 w r y2 aa oq) (Ff 90 hc1 (Fg 164 (by assumption:(y2.toNat:Int)=sizeH (decodeH y0).1) (Fbq 165 [0,1,2,3,4,5] (@ZhK w y2 aa aa aa aa) Fz))))))))))))))))))))))))))))
theorem ZqG(c8:Z2A w (sizeH (hdW w r)))(ha:(address w.heap.C (Z0o w) (w.heap.P.getD (Z0o w).toNat X).U).2=0)(har:4096<=(address w.heap.C (Z0o w) (w.heap.P.getD (Z0o w).toNat X).U).1/\(address w.heap.C (Z0o w) (w.heap.P.getD (Z0o w).toNat X).U).1-4096+sizeH (hdW w r)<=w.heap.W.length):BP 85 [.pt 0 0 0,u64 r] w.ckp (.tu [u64 (address w.heap.C (Z0o w) (w.heap.P.getD (Z0o w).toNat X).U).1,int 0]) (w.put (Z0o w).toNat r (address w.heap.C (Z0o w) (w.heap.P.getD (Z0o w).toNat X).U).1 (sizeH (hdW w r)).toNat).ckr:=by
 have h0:=f.rg;have hk:=f.ck;have hmm:=hk.mem;have ok:=hk.ok;obtain⟨-,wl,-,pl,sp,ol,-,-,tl,-,-,mu,-,rk,-,-⟩:=id ok;have cf:=validB_iff.1 ok.C;have h3:=f.ol c3;have lr:=Z0b w.heap.W r;have o:=Z2L ok.C h3.2.2.1;have eof:=h3.2.2.1;have el:=f.ld c3;have ld:=Z0D ok.W r;have dc:=f.dc c3 c4;have sz:=Z2K w r;have hl:=Z1N w r;have dm:=Z1q (loadA w.heap.W r).1 ld.1;have ein:(((sizeH (hdW w r)).toNat:Nat):Int)=sizeH (hdW w r):=Lj oq;unfold Z19 at c7;unfold hdW at *;rw[el]at c4 c8 har ld dc sz hl dm ein ⊢;have hm:=ok.tk _ (Z18 c8.1);have hu:=ok.us (Z0o w).toNat oq
 rcases bb (r==0||Z (r∈w.Q))with hc0 | hc0<;>have hc0p:=hc0<;>simp only[bs]at hc0p
 .rw[show w.put (Z0o w).toNat r (address w.heap.C (Z0o w) (w.heap.P.getD (Z0o w).toNat X).U).1 (↑(sizeH (decodeH (w.heap.W.getD ((r-(4096:Int)).toNat+M (0:Int)) X)).1).toNat:Int)=w from by exact absurd hc0p (by simp[c1,c2])];exact absurd hc0p (by simp[c1,c2])
 .obtain⟨hc0pa,hc0pb⟩:=hc0p;rcases bb (!(decodeH (w.heap.W.getD ((r-4096).toNat+M 0) X)).2||O)with hc1 | hc1<;>have hc1p:=hc1<;>simp only[bs]at hc1p
  .rw[show w.put (Z0o w).toNat r (address w.heap.C (Z0o w) (w.heap.P.getD (Z0o w).toNat X).U).1 (↑(sizeH (decodeH (w.heap.W.getD ((r-(4096:Int)).toNat+M (0:Int)) X)).1).toNat:Int)=w from by exact absurd hc1p (by rw[dc];simp)];exact absurd hc1p (by rw[dc];simp)
  .obtain⟨hc1pa,hc1pb⟩:=hc1p;let y0:=w.heap.W.getD ((r-4096).toNat+M 0) X;let y1:=ofA w.heap.C r;let y2:=sizeH (decodeH y0).1;let y3:=(0:Int)<=0/\M 0<M 1;exact borF [0,1,2,3,4,8005] [145177] func85 [] (Fh 48 [.el (wdv y0)] (Fh 75 [.bor [0,1,2,3,4,8005] (Sx.bool (Z0M w y1.1)) [],.br O] (Fh 143 [.el (wdv y0)] (Fh 160 [.br O] (FcG 27 (!r==0) (λhg=>by(try simp only[bs]at hg);exact @Z0W w.Q r oq) (Ff 28 hc0 (Fc 35 (@Z0W w.old r oq) (Ffb 36 (!decide (r∈w.old)) (Fbq 40 [0,1,2,3,4,8005] (@Z20 w r (1) aa oq) (Fo y3 (Fa (by exact Z0I oq:(Y wdv w.heap.W)[(r-4096).toNat+M 0]? = some (wdv y0)) (Fc 49 (@Z1S y0 oq oq) (Fa ‹(Z08 y0).2=O› (Fc 61 (@Z2t w.heap.C r oq oq) (Fl 71 Page.dv w.heap.P (Ffb 52 (Z ((w.heap.P.length:Int)<=y1.1)) (Fa (@Z2Z w (y1.1) aa) (Fa ‹Z0M w y1.1=O› (Fmq 89 Page.dv w.heap.P (y1.1) (Ffb 72 ((w.heap.P.getD y1.1.toNat X).K==2) (Fo y3 (Fa (by exact Z0I oq:(Y wdv w.heap.W)[(r-4096).toNat+M 0]? = some (wdv y0)) (Fc 144 (@Z0P y0 oq oq) (Fc 151 (@Z0S ((decodeH y0).1) aa) (Fbq 152 [0,1,2,3,4,8005] (@Z20 w r y2 aa oq) (Ff 90 hc1 (Fg 164 (by assumption:(y2.toNat:Int)=sizeH (decodeH y0).1) (Fbq 165 [0,1,2,3,4,8005] (@Zkt w y2 aa aa aa) (Fbr 177 [0,1,2,3,4,8005] (@ckTo w r (Z0o w) ((w.heap.P.getD (Z0o w).toNat X).U) (y2.toNat) aa oq oq aa oq oq aa oq) Fz)))))))))))))))))))))))))))))
theorem Zpq(hk2:MemOk w.took)(hu2:0<=(w.took.heap.P.getD (Z0g w).toNat X).U/\(w.took.heap.P.getD (Z0g w).toNat X).U<=1024)(c8:¬ Z2A w (sizeH (hdW w r)))(c9:0<=Z0g w)(ha:(address w.heap.C (Z0g w) 0).2=0)(har:4096<=(address w.heap.C (Z0g w) 0).1/\(address w.heap.C (Z0g w) 0).1-4096+sizeH (hdW w r)<=w.heap.W.length):BP 85 [.pt 0 0 0,u64 r] w.ckp (.tu [u64 (address w.heap.C (Z0g w) 0).1,int 0]) (w.took.put (Z0g w).toNat r (address w.heap.C (Z0g w) 0).1 (sizeH (hdW w r)).toNat).ckq:=by
 have h0:=f.rg;have hk:=f.ck;have hmm:=hk.mem;have ok:=hk.ok;obtain⟨-,wl,-,pl,sp,ol,-,-,tl,-,-,mu,-,rk,-,-⟩:=id ok;have cf:=validB_iff.1 ok.C;have h3:=f.ol c3;have lr:=Z0b w.heap.W r;have o:=Z2L ok.C h3.2.2.1;have eof:=h3.2.2.1;have el:=f.ld c3;have ld:=Z0D ok.W r;have dc:=f.dc c3 c4;have sz:=Z2K w r;have hl:=Z1N w r;have dm:=Z1q (loadA w.heap.W r).1 ld.1;have ein:(((sizeH (hdW w r)).toNat:Nat):Int)=sizeH (hdW w r):=Lj oq;unfold Z19 at c7;unfold hdW at *;rw[el]at c4 c8 har ld dc sz hl dm ein ⊢;have ff:=Z1m c9;have fl:Z0g w<w.heap.C.pg:=by unfold Z0g;omega
 have tw:w.took.heap.W.length=w.heap.W.length:=rfl;have tp:=hk2.pl;have tq:w.took.Q.length=w.Q.length:=rfl;have trk:w.took.rep.copied=w.rep.copied:=rfl;have tc:w.took.heap.C=w.heap.C:=rfl;rw[tc]at tp;have ha2:(address w.took.heap.C (Z0g w) 0).2=0:=ha;have har2:=har;rw[<- tw,<- tc]at har2;rcases bb (r==0||Z (r∈w.Q))with hc0 | hc0<;>have hc0p:=hc0<;>simp only[bs]at hc0p
 .rw[show w.took.put (Z0g w).toNat r (address w.heap.C (Z0g w) (0:Int)).1 (↑(sizeH (decodeH (w.heap.W.getD ((r-(4096:Int)).toNat+M (0:Int)) X)).1).toNat:Int)=w from by exact absurd hc0p (by simp[c1,c2])];exact absurd hc0p (by simp[c1,c2])
 .obtain⟨hc0pa,hc0pb⟩:=hc0p;rcases bb (!(decodeH (w.heap.W.getD ((r-4096).toNat+M 0) X)).2||O)with hc1 | hc1<;>have hc1p:=hc1<;>simp only[bs]at hc1p
  .rw[show w.took.put (Z0g w).toNat r (address w.heap.C (Z0g w) (0:Int)).1 (↑(sizeH (decodeH (w.heap.W.getD ((r-(4096:Int)).toNat+M (0:Int)) X)).1).toNat:Int)=w from by exact absurd hc1p (by rw[dc];simp)];exact absurd hc1p (by rw[dc];simp)
  .obtain⟨hc1pa,hc1pb⟩:=hc1p;let y0:=w.heap.W.getD ((r-4096).toNat+M 0) X;let y1:=ofA w.heap.C r;let y2:=sizeH (decodeH y0).1;let y3:=(0:Int)<=0/\M 0<M 1;exact borF [0,1,8002,3,8004,8005] [129165,130165,145177] func85 [] (Fh 48 [.el (wdv y0)] (Fh 75 [.bor [0,1,8002,3,8004,8005] (Sx.bool (Z0M w y1.1)) [],.br O] (Fh 143 [.el (wdv y0)] (Fh 160 [.br O] (FcG 27 (!r==0) (λhg=>by(try simp only[bs]at hg);exact @Z0W w.Q r oq) (Ff 28 hc0 (Fc 35 (@Z0W w.old r oq) (Ffb 36 (!decide (r∈w.old)) (Fbq 40 [0,1,8002,3,8004,8005] (@Z20 w r (1) aa oq) (Fo y3 (Fa (by exact Z0I oq:(Y wdv w.heap.W)[(r-4096).toNat+M 0]? = some (wdv y0)) (Fc 49 (@Z1S y0 oq oq) (Fa ‹(Z08 y0).2=O› (Fc 61 (@Z2t w.heap.C r oq oq) (Fl 71 Page.dv w.heap.P (Ffb 52 (Z ((w.heap.P.length:Int)<=y1.1)) (Fa (@Z2Z w (y1.1) aa) (Fa ‹Z0M w y1.1=O› (Fmq 89 Page.dv w.heap.P (y1.1) (Ffb 72 ((w.heap.P.getD y1.1.toNat X).K==2) (Fo y3 (Fa (by exact Z0I oq:(Y wdv w.heap.W)[(r-4096).toNat+M 0]? = some (wdv y0)) (Fc 144 (@Z0P y0 oq oq) (Fc 151 (@Z0S ((decodeH y0).1) aa) (Fbq 152 [0,1,8002,3,8004,8005] (@Z20 w r y2 aa oq) (Ff 90 hc1 (Fg 164 (by assumption:(y2.toNat:Int)=sizeH (decodeH y0).1) (Fbr 165 [0,1,8002,3,8004,8005] (@Zju w y2 aa aa aa aa) (Fbr 177 [0,1,129165,3,130165,8005] (@ckTo w.took r (Z0g w) (0) (y2.toNat) aa oq oq aa oq oq aa oq) Fz)))))))))))))))))))))))))))))
end
def ZjV{c:Conf}{i o:Int}(hv:Z07 c=La)(h:0<=i/\i<c.pg/\0<=o/\o<c.pw):address c i o=(4096+(i*c.pw+o),0):=by
 unfold address;rw[if_pos hv,if_pos (inB_iff.2 h)]
def Zil{w:Work}(k:MemOk w){i n o:Int}(hi:0<=i/\i<w.heap.P.length)(hn:1<=n)(ho:0<=o/\o+n<=w.heap.C.pw):(address w.heap.C i o).2=0/\(address w.heap.C i o).1=4096+i*w.heap.C.pw+o/\4096<=(address w.heap.C i o).1/\(address w.heap.C i o).1-4096+n<=w.heap.W.length:=by
 have pl:=k.pl;have L:=k.L;have cf:=validB_iff.1 k.C;have m:=Z17 (i:=i) (j:=w.heap.C.pg) (pw:=w.heap.C.pw) oq oq;rw[Lp w.heap.C.pg]at m;have m0:0<=i*w.heap.C.pw:=Lk hi.1 oq;rw[ZjV k.C oq];exact⟨rfl,by simp only;omega,by simp only;omega,by simp only;omega⟩
def Zmi{w:Work}(k:CkOk w)(h:0<=Z0g w):MemOk w.took/\(w.took.heap.P.getD (Z0g w).toNat X).U=0:=by
 have sp:=k.ok.sp;obtain⟨f1,f2,f3,f4⟩:=Z2s (h:=⟨w.heap.C,w.heap.W,w.heap.P,1-w.heap.S,w.heap.B⟩) (by simp only;omega) h;have f2':(Z1Z w).length=w.heap.P.length:=f2;have f4':(Z1Z w).getD (Z0g w).toNat X=⟨1,1-w.heap.S,0,0⟩:=f4;refine⟨⟨k.ok.C,k.ok.wl, ?_,k.L⟩, ?_⟩
 .show((Z1Z w).length:Int)=_;rw[f2'];exact k.ok.pl
 .show((Z1Z w).getD (Z0g w).toNat X).U=0;rw[f4']
section
variable {w:Work} {r:Int} (f:FwOk w r)
include f
theorem Zf4(e:(w.fwd r).2.2=0):BP 85 [.pt 0 0 0,u64 r] w.ckp (.tu [u64 (w.fwd r).2.1,int 0]) (w.fwd r).1.ckq:=by
 unfold Work.fwd at e ⊢;by_cases c1:r=0\/r∈w.Q
 .rw[if_pos c1];exact Z7n [0,1,6,3,7,8] 9 (Zqp w r f.rg f.ck.ln c1) (by rfl) rfl rfl
 rw[if_neg c1]at e ⊢;have c1':r≠0:=λh=>c1 (Ld h);have c2:r∉w.Q:=λh=>c1 (Le h);by_cases c3:r∈w.old;rotate_left
 .rw[if_pos c3]at e;cases e
 rw[if_neg (by simpa using c3)]at e ⊢;by_cases c4:(Z08 (loadA w.heap.W r).1).2=La
 .rw[if_pos c4];exact Z7n [0,1,6,3,7,8] 9 (ZqH w r f c1' c2 c3 c4) (by rfl) rfl rfl
 rw[if_neg c4]at e ⊢;have c4':(Z08 (loadA w.heap.W r).1).2=O:=by simpa using c4
 have h3:=f.ol c3;rw[if_neg (by rw[h3.2.2.1];simp)]at e ⊢;by_cases c6:Z0M w (ofA w.heap.C r).1=La
 .rw[if_pos c6];exact Z7n [0,1,6,3,7,5,8] 9 (ZqI w r f c1' c2 c3 c4' c6) (by rfl) rfl rfl
 rw[if_neg c6]at e ⊢;have c6':Z0M w (ofA w.heap.C r).1=O:=by simpa using c6
 by_cases c7:(w.heap.P.getD (Z19 w r) X).K=2
 .rw[if_pos c7];exact Z7n [0,1,6,3,7,5,8] 9 (ZpV w r f c1' c2 c3 c4' c6' c7) (by rfl) rfl rfl
 rw[if_neg c7]at e ⊢;have sz:=Z2K w r;have hl:=Z1N w r;have en:(((sizeH (hdW w r)).toNat:Nat):Int)=sizeH (hdW w r):=Lj oq;have hpw:sizeH (hdW w r)<=w.heap.C.pw:=by
  rcases f.sz c3 with q | q
  .exact absurd q c7
  .omega
 have ok:=f.ck.ok;by_cases hf:Z2A w (sizeH (hdW w r))
 .have ep:w.place (sizeH (hdW w r))=(⟨⟨w.heap.C,w.heap.W,Z1C w.heap.P (Z0o w).toNat (sizeH (hdW w r)),w.heap.S,w.heap.B⟩,w.old,w.T,w.Q,w.D,w.rep⟩,4096+Z0o w*w.heap.C.pw+(w.heap.P.getD (Z0o w).toNat X).U,La):=by rw[Work.place,if_pos hf]
  rw[ep];rw[if_neg pq];have hm:=ok.tk _ (Z18 hf.1);have hu:=ok.us (Z0o w).toNat oq
  have ri:=Zil f.ck.mem (i:=Z0o w) (n:=sizeH (hdW w r)) (o:=(w.heap.P.getD (Z0o w).toNat X).U) ⟨hm.1,hm.2.1⟩ sz.1 ⟨hu.1,hf.2⟩;have b:=ZqG w r f c1' c2 c3 c4' c6' c7 hf ri.1 ri.2.2;rw[en,ri.2.1]at b;exact Z7n [0,1,6,3,7,5,8] 9 b (by rfl) rfl rfl
 .by_cases hg:0<=Z0g w
  .have ep:w.place (sizeH (hdW w r))=(⟨⟨w.heap.C,w.heap.W,Z1C (Z1Z w) (Z0g w).toNat (sizeH (hdW w r)),w.heap.S,w.heap.B⟩,w.old,w.T++[Z0g w],w.Q,w.D,w.rep⟩,4096+Z0g w*w.heap.C.pw,La):=by rw[Work.place,if_neg hf,if_pos hg]
   rw[ep];rw[if_neg pq];obtain⟨t1,t2⟩:=Zmi f.ck hg;have ff:=Z1m hg;have ri:=Zil f.ck.mem (i:=Z0g w) (n:=sizeH (hdW w r)) (o:=0) ⟨hg,by unfold Z0g;omega⟩ sz.1 ⟨Int.le_refl _,by omega⟩;have b:=Zpq w r f c1' c2 c3 c4' c6' c7 t1 oq hf hg ri.1 ri.2.2;rw[en,ri.2.1,Lo]at b;exact b
  .rw[Work.place,if_neg hf,if_neg hg]at e;simp at e
theorem ZfS(e:¬ (w.fwd r).2.2=0):BP 85 [.pt 0 0 0,u64 r] w.ckp (.tu [u64 0,int (w.fwd r).2.2]) w.ckp:=by
 unfold Work.fwd at e ⊢;by_cases c1:r=0\/r∈w.Q
 .rw[if_pos c1]at e;exact absurd rfl e
 rw[if_neg c1]at e ⊢;have c1':r≠0:=λh=>c1 (Ld h);have c2:r∉w.Q:=λh=>c1 (Le h);by_cases c3:r∈w.old;rotate_left
 .rw[if_pos c3];exact Zpo w r f.rg f.ck.ln c1' c2 c3
 rw[if_neg (by simpa using c3)]at e ⊢;by_cases c4:(Z08 (loadA w.heap.W r).1).2=La
 .rw[if_pos c4]at e;exact absurd rfl e
 rw[if_neg c4]at e ⊢;have c4':(Z08 (loadA w.heap.W r).1).2=O:=by simpa using c4
 have h3:=f.ol c3;rw[if_neg (by rw[h3.2.2.1];simp)]at e ⊢;by_cases c6:Z0M w (ofA w.heap.C r).1=La
 .rw[if_pos c6]at e;exact absurd rfl e
 rw[if_neg c6]at e ⊢;have c6':Z0M w (ofA w.heap.C r).1=O:=by simpa using c6
 by_cases c7:(w.heap.P.getD (Z19 w r) X).K=2
 .rw[if_pos c7]at e;exact absurd rfl e
 rw[if_neg c7]at e ⊢;by_cases c8:(w.place (sizeH (hdW w r))).2.2=O
 .rw[if_pos c8];by_cases hf:Z2A w (sizeH (hdW w r))
  .rw[Work.place,if_pos hf]at c8;simp at c8
  .by_cases hg:0<=Z0g w
   .rw[Work.place,if_neg hf,if_pos hg]at c8;simp at c8
   .exact Zq6 w r f c1' c2 c3 c4' c6' c7 hf hg
 .rw[if_neg c8]at e;exact absurd rfl e
end
def Za2(w:Work)(hw:LnOk w):BP 84 [w.av] [] (.pt 0 0 0) w.ckp:=by
 obtain⟨h1,h2,h3,h4,h5⟩:=hw;exact borF [] [16001,25006,25010,33017,33020,33023] func84 [] (Fc 6 (@Z4Q w.heap.W aa) (Fc 10 (@ZeW w.heap.P aa) (Fc 17 (@Z4Q w.old aa) (Fc 20 (@ZhD w.T aa) (Fc 23 (@Z4Q w.Q aa) Fz)))))
structure PrOk (w:Work):Prop where
 tl:w.T.length<=1000000
 pl:w.heap.P.length<=1000000
 sp:w.heap.S=0\/w.heap.S=1
 so:SpOk w.heap.P
def CkOk.pr{w:Work}(k:CkOk w):PrOk w:=by
 have mu:=k.ok.mu;have pl:=k.ok.pl;have cf:=validB_iff.1 k.ok.C;have tl:=k.ok.tl;exact⟨by omega,by omega,k.ok.sp,k.so⟩
def Zf0(w:Work)(r:Int)(f:FwOk w r)(e:(w.fwd r).2.2=0):GP 36 [w.av,u64 r] La (.tu [(w.fwd r).1.av,u64 (w.fwd r).2.1,int 0]) []:=by
 have hk:=f.ck.ln;exact gF [] func36 [] (Fbr 10 [] (@Za2 w aa) (Fbr 16 [17010,18010,19010,20010,21010,22010] (@Zf4 w r aa aa) (Fa (by exact Z1a _:Z0x (Y wdv (w.fwd r).1.heap.W)) (Fa (by exact Z1O _:Z0x (Y Page.dv (w.fwd r).1.heap.P)) (Fa (by exact Z1a _:Z0x (Y wdv (w.fwd r).1.old)) (Fa (by exact Z3P _:Z0x (Y idv (w.fwd r).1.T)) (Fa (by exact Z1a _:Z0x (Y wdv (w.fwd r).1.Q)) Fz)))))))
def scrB(w:Work):List (Nat×Blk):=[(22014,Z0t w.Q),(21014,Z3g w.T),(20014,Z0t w.old),(19014,Z1V w.heap.P),(18014,Z0t w.heap.W),(17014,w.ckB 18014 19014 20014 21014 22014)]
def scrL(w:Work)(roots out:List Int)(i:Nat):Tg:=⟨tm 40 [(4,.pt 8004 0 0),(5,.d (.sl 0 [])),(6,int 0),(7,.pt 17014 0 0),(8,.ow 24008),(15,Z01 roots),(16,int roots.length),(17,int i)],(24008,.arr 35 1 (out.map wdv))::(8004,.box 73 zW)::scrB w,5⟩
section
variable (w:Work) (roots out:List Int) (i:Nat) (f:FwOk w (roots.getD i X)) (hl:roots.length<=1048576) (ho:out.length<=1048576) (hi:i<roots.length)
include f hl ho hi
theorem Zge(e:(w.fwd (roots.getD i X)).2.2=0):CP (rndF f46 0) (scrL w roots out i).st .nrm (scrL (w.fwd (roots.getD i X)).1 roots (out++[(w.fwd (roots.getD i X)).2.1]) (i+1)).st:=by
 let y0:=w.fwd (roots.getD i X);exact sF [(72034,24008),(57024,19014),(58024,21014),(59024,22014)] [] (Fh 34 [.els (Y wdv (out++[y0.2.1]))] (Ftb 18 (Z ((i:Int)<(roots.length:Int))) (Fek 19 wdv roots (↑i) i (Fbr 24 [17014,18014,19014,20014,21014,22014] (@Zf4 w (roots.getD i X) aa aa) (Fs 33 (Y wdv [y0.2.1]) (Fa (by(simp[*];omega):(Y wdv out).length+(Y wdv [y0.2.1]).length<=2^30) (Fa (ms:Y wdv out++Y wdv [y0.2.1]=Y wdv (out++[y0.2.1])) (Fx 35 i Fz))))))))
theorem Zpw(e:¬ (w.fwd (roots.getD i X)).2.2=0):CP (rndF f46 0) (scrL w roots out i).st .ret (Tg.st ⟨tm 40 [(4,.pt 8004 0 0),(5,.d (.sl 0 [])),(6,int (w.fwd (roots.getD i X)).2.2)],[(8004,.box 73 zW)],60⟩):=by
 exact sF [] [] (Ftb 18 (Z ((i:Int)<(roots.length:Int))) (Fek 19 wdv roots (↑i) i (Fbq 24 [17014,18014,19014,20014,21014,22014] (@ZfS w (roots.getD i X) aa aa) (Ftb 28 ((w.fwd (roots.getD i X)).2.2 != 0) Fz))))
end
def ZpI(w:Work)(roots out:List Int):CP (rndF f46 0) (scrL w roots out roots.length).st (.ext 0) (Tg.st ⟨tm 40 [(4,.pt 8004 0 0),(7,.pt 17014 0 0),(8,.ow 24008)],(24008,.arr 35 1 (out.map wdv))::(8004,.box 73 zW)::scrB w,5⟩):=by
 exact sF [] [] (Ffb 18 (Z ((roots.length:Int)<(roots.length:Int))) Fz)
def Zlu(w:Work)(roots:List Int):Prop:=∀ k,k<roots.length->(∀ j,j<k->Z1k w roots j=0)->FwOk (rootsN w roots k).1 (roots.getD k X)
section
variable (w:Work) (roots:List Int) (hN:Zlu w roots) (hl:roots.length<=1048576)
include hN hl
theorem Zok(hb:(Ln roots.length).find? (λk=>Z (Z1k w roots k≠0))=none):CP (blkF f46 0) (Tg.st ⟨tm 40 [(4,.pt 8004 0 0),(5,.d (.sl 0 [])),(6,int 0),(7,.pt 17014 0 0),(8,.ow 24008),(15,Z01 roots),(16,int roots.length),(17,int 0)],(24008,.arr 35 1 [])::(8004,.box 73 zW)::scrB w,5⟩) .nrm (Tg.st ⟨tm 40 [(4,.pt 8004 0 0),(7,.pt 17014 0 0),(8,.ow 24008)],(24008,.arr 35 1 ((rootsN w roots roots.length).2.map wdv))::(8004,.box 73 zW)::scrB (rootsN w roots roots.length).1,5⟩):=by
 have h0:∀ j,j<roots.length->Z1k w roots j=0:=λj hj=>by
  have:=List.find?_eq_none.1 hb j (Lm.2 hj);simpa using this
 exact Z0a (S:=λk=>(scrL (rootsN w roots k).1 roots (rootsN w roots k).2 k).st) roots.length kr (λk hk=>Zge _ roots _ k (hN k hk λj hj=>h0 j oq) hl (by rw[Z2B];omega) hk (h0 k hk)) (ZpI _ roots _)
theorem ZmX(i:Nat)(hb:(Ln roots.length).find? (λk=>Z (Z1k w roots k≠0))=some i):CP (blkF f46 0) (Tg.st ⟨tm 40 [(4,.pt 8004 0 0),(5,.d (.sl 0 [])),(6,int 0),(7,.pt 17014 0 0),(8,.ow 24008),(15,Z01 roots),(16,int roots.length),(17,int 0)],(24008,.arr 35 1 [])::(8004,.box 73 zW)::scrB w,5⟩) .ret (Tg.st ⟨tm 40 [(4,.pt 8004 0 0),(5,.d (.sl 0 [])),(6,int (Z1k w roots i))],[(8004,.box 73 zW)],60⟩):=by
 obtain⟨h1,h2,h3⟩:=List.find?_range_eq_some.1 hb;have h2:=Lm.1 h2;have h0:∀ j,j<i->Z1k w roots j=0:=λj hj=>by simpa using h3 j hj
 exact Z0H (S:=λk=>(scrL (rootsN w roots k).1 roots (rootsN w roots k).2 k).st) i kr (λk hk=>Zge _ roots _ k (hN k oq λj hj=>h0 j oq) hl (by rw[Z2B];omega) oq (h0 k hk)) (Zpw _ roots _ i (hN i h2 h0) hl (by rw[Z2B];omega) h2 (by simpa[Z1k]using h1))
theorem Z8D(ln:LnOk w):GP 46 [w.av,Z01 roots] La (.tu [(rootsF w roots).1.av,Z01 (rootsF w roots).2.1,int (rootsF w roots).2.2]) []:=by
 cases hb:(Ln roots.length).find? (λk=>Z (Z1k w roots k≠0))with
 | none =>
  have e7:rootsF w roots=((rootsN w roots roots.length).1,(rootsN w roots roots.length).2,0):=by unfold rootsF;rw[hb]
  rw[e7];let y0:=rootsN w roots roots.length;exact gF [] func46 [] (Fh 8 [.own] (Fbr 14 [] (@Za2 w aa) (Fl 16 wdv roots (Fu (@Zok w roots aa aa aa) (Fa (by exact Z1a _:Z0x (Y wdv y0.1.heap.W)) (Fa (by exact Z1O _:Z0x (Y Page.dv y0.1.heap.P)) (Fa (by exact Z1a _:Z0x (Y wdv y0.1.old)) (Fa (by exact Z3P _:Z0x (Y idv y0.1.T)) (Fa (by exact Z1a _:Z0x (Y wdv y0.1.Q)) (Fa (by exact Z1a _:Z0x (Y wdv y0.2)) Fz))))))))))
 | some i =>
  have e7:rootsF w roots=(noWork,[],Z1k w roots i):=by unfold rootsF;rw[hb]
  rw[e7];exact gF [] func46 [] (Fh 8 [.own] (Fbr 14 [] (@Za2 w aa) (Fl 16 wdv roots (Fu (@ZmX w roots aa aa i aa) (Fnl (Fnl (Fnl (Fnl (Fnl (Fnl Fz))))))))))
end
end Go.Proofs.YtdhchmlalchgeaaGreat
