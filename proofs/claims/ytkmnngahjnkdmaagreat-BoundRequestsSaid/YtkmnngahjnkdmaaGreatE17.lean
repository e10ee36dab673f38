/-
 The statement BoundRequests: part 17.
 Conditions: none.
-/
import Derived.Defers
import Derived.WalkKit
import Derived.Test.YtkmnngahjnkdmaaGreatE16
set_option maxRecDepth 100000
set_option maxHeartbeats 2000000
set_option linter.all false
open Inhabited renaming default->M
open List renaming map->O,drop->Lf,take->Lg,length_map->Lj,getD_eq_getElem?_getD->Lk,getElem?_eq_getElem->Lm,getElem?_eq_some_iff->Ln,mem_append_left->Lo,mem_of_getElem?->Lp,getElem?_eq_none->Lq,map_set->Lr,replicate->Ls,ext_getElem->Lw,getElem_map->Lx,length_set->Ly,getElem_range->LB,getElem_set->LC,mem_append->LD,mem_cons_self->LF,mem_map->LG,mem_singleton->LH,range->LI,zip_cons_cons->LL
open Decidable renaming decide->La,not_not->LN
open Bool renaming true->Lb,false->Ld
open Int renaming toNat->Lc,mul_comm->Lt,mul_nonneg->Lu,toNat_of_nonneg->Lv
open Option renaming some->Le,map_eq_some_iff->LA
open Or renaming inl->Lh,inr->Ll
open Go.IntKind renaming i64->Li
open Nat renaming lt_of_lt_of_le->Lz,le_trans->LM
open Go.Proofs.Tryz
namespace Go.Proofs.YtkmnngahjnkdmaaGreat
open Go.Sx
section
variable{h:Heap}{T:Nat->List Int}(g:Gd h T)
include g
theorem KI.copy{tq w}(k:KI h T tq w)(hw:Bh w){r n:Int}{i0}(hr:r∈T i0)(hkd:kdA h.W r≠0)(h1:(h.P.getD i0 M).K=1)(hs:(w.j.P.getD i0 M).S=w.j.S)(he:(Z5 w.j.W r).1=(Z5 h.W r).1)(hn:n=ZE w.j.W r+1)(hp:n<=w.j.C.pw)(hc:(w.place n).2.2=Lb):∃tq',KI h T tq' ((w.place n).1.copy r (w.place n).2.1 n):=by
 have hlr:=Ch w.j.W r;have ey:=Iq he;obtain⟨i,p,t,p1,p2,p3,p4,p5,p6,p7,e⟩:=Z5z hw ⟨by omega,hp⟩ hc;have hcc:=k.c;have hpl:=k.pl;have hwl:=k.wl;have po:=B7 g.p;have hin:=g.inw hr;have hki:(h.P.getD i M).K=0:=by(rcases p2 with q|q;by_cases c:(i:Int)∈w.T;exact(k.tk i c).2.1;rw[<-(k.pg i c).1];exact q.1;exact(k.tk i q.1).2.1)
 have hio:=Gb (i:=i) (j:=h.C.pg) (pw:=h.C.pw) oq oq;rw[Lt h.C.pg]at hio;have hi0:0<=(i:Int)*h.C.pw:=Lu oq oq;rw[hcc]at p5 p7 hp;have hbp:4096+(i:Int)*h.C.pw=B5 h i:=rfl;rw[e,p7,hbp];generalize hu:CX (w.j.P.getD i M)=u at *;generalize ha:B5 h i+u=a;have hbl:4096<=a/\a+n<=4096+w.j.W.length:=by omega
 have far:∀j x,x∈T j->x+ZE h.W x<B5 h i\/B5 h i+h.C.pw<=x:=by(intro j x hx;have:=g.free (show i<h.P.length by omega) (Lh hki) hx;rw[CX,if_pos hki]at this;omega)
 have farr:=far i0 r hr;obtain⟨m1,m2,m3⟩:=MR (ws:=w.j.W) (a:=a) (b:=r) (n:=n) oq oq oq;have hsr:4096<=r/\r<4096+(moveA w.j.W a r n).1.length:=by omega
 have w1:∀x,x≠r->(x<a\/a+n<=x)->Z5 (Cj (moveA w.j.W a r n).1 r (4*a+2)).1 x=Z5 w.j.W x:=λx q1 q2=>by rw[Nf hsr q1,m3 x q2]
 have w2:(Z5 (Cj (moveA w.j.W a r n).1 r (4*a+2)).1 r).1=4*a+2:=by rw[Pn hsr]
 have w3:(Z5 (Cj (moveA w.j.W a r n).1 r (4*a+2)).1 a).1=(Z5 w.j.W r).1:=by rw[Nf hsr oq,m2]
 have hlen:(Cj (moveA w.j.W a r n).1 r (4*a+2)).1.length=w.j.W.length:=by rw[Ts hsr,m1]
 have hit:(i:Int)∈t:=by rcases p2 with q|q;(rw[q.2.1];simp);(rw[q.2.2.1];exact q.1)
 have htt:∀x,x∈t↔x∈w.T\/x=(i:Int):=by(intro x;rcases p2 with q|q;rw[q.2.1];simp;rw[q.2.2.1];exact⟨Lh,λc=>c.elim id λc=>c▸q.1⟩)
 have w4:∀(j:Nat) x,(j:Int)∈w.T->x∈tq j->x≠r/\(x<a\/a+n<=x)/\(j=i->x+ZE w.j.W x<a):=by
  intro j x hj hx;have s:=k.sepT g hj hx hr;have rx:=Ch w.j.W x;have t:=k.tk j hj;have m:=I7 t.2.2.2.2.2.1 hx;refine⟨by omega, ?_⟩;rcases Nat.lt_trichotomy j i with q|q|q;have:=Gb (i:=j) (j:=i) (pw:=h.C.pw) oq oq;unfold B5 at s;rw[<-hbp]at ha;exact⟨Lh oq,λq2=>by omega⟩;subst q;have:u=(w.j.P.getD j M).U:=by rw[<-hu,CX,if_neg oq]
  exact⟨Lh oq,λ_=>by omega⟩;have:=Gb (i:=i) (j:=j) (pw:=h.C.pw) oq oq;unfold B5 at s;rw[<-hbp]at ha;exact⟨Ll oq,λq2=>by omega⟩
 have kq:∀(j:Nat) x,(j:Int)∈w.T->x∈tq j->(Z5 (Cj (moveA w.j.W a r n).1 r (4*a+2)).1 x).1=(Z5 w.j.W x).1:=λj x hj hx=>by(have:=w4 j x hj hx;rw[w1 x this.1 this.2.1])
 refine⟨λj=>if j=i then tq i++[a]else tq j,k.c,k.sp,k.old, ?_, ?_, ?_, ?_, ?_, ?_, ?_, ?_, ?_⟩;simp only[Z8.copy,Ly];exact k.pl;simp only[Z8.copy,hlen];exact k.wl;intro j hj;simp only[Z8.copy]at hj⊢;have hj':=λq=>hj ((htt _).2 (Lh q));have hne:¬ i=j:=λq=>hj (q▸hit);rw[EH p1,if_neg hne];exact k.pg j hj';intro j hj;simp only[Z8.copy]at hj⊢;rw[EH p1];by_cases q:i=j;subst q;rw[if_pos rfl];simp only[if_true];have ka:=Iq (ws:=w.j.W) (ws':=(Cj (moveA w.j.W a r n).1 r (4*a+2)).1) (a:=a);have ke:Ej (Cj (moveA w.j.W a r n).1 r (4*a+2)).1 a=Ej h.W r:=by rw[Ej,Ej,w3,he]
 have kl:ZE (Cj (moveA w.j.W a r n).1 r (4*a+2)).1 a=n-1:=by
  have:ZE (Cj (moveA w.j.W a r n).1 r (4*a+2)).1 a=ZE w.j.W r:=by rw[ZE,ZE,w3]
  omega
 have kk:okA (Cj (moveA w.j.W a r n).1 r (4*a+2)).1 a:=by(have:=(g.on hr).2.2.2.2.2.1;rw[okA]at this⊢;rw[w3,he];exact this)
 refine⟨by omega,hki,p3, ?_,by omega, ?_, ?_⟩;rcases p2 with q|q;exact q.2.2;rw[q.2.2.2];exact(k.tk i q.1).2.2.2.1;refine Z8G (b:=a) ?_ ⟨rfl,kk,by rw[kl];simp only[Gx];omega⟩;by_cases c:(i:Int)∈w.T;have t:=k.tk i c;have hue:u=(w.j.P.getD i M).U:=by rw[<-hu,CX,if_neg oq]
 have t6:=t.2.2.2.2.2.1;rw[<-hue,ha]at t6;exact Tf t6 λx hx=>⟨(Iq (kq i x c hx)).1 (I7 t6 hx).1,(Iq (kq i x c hx)).2.1⟩;rw[k.tk0 i c];have hue:u=0:=by(rcases p2 with q|q;rw[<-hu,CX,if_pos q.1];exact absurd q.1 c)
 simp only[Gx];omega;intro x hx;rcases LD.1 hx with hx|hx;by_cases c:(i:Int)∈w.T;have t:=(k.tk i c).2.2.2.2.2.2 x hx;have o:=Iq (kq i x c hx);rw[o.2.2.1,o.2.1];exact⟨Lo _ t.1,t.2⟩;rw[k.tk0 i c]at hx;simp at hx;have:=LH.1 hx;subst this;refine⟨by simp,by rw[kdA,ke];exact hkd, ?_⟩;have:=(g.t1 i0 (g.t0 i0 r hr).1 h1).2 r hr;rw[kl];have:=ey.2.1;omega;rw[if_neg q];have hj':(j:Int)∈w.T:=by(rcases(htt _).1 hj with c|c;exact c;omega)
 obtain⟨t1,t2,t3,t4,t5,t6,t7⟩:=k.tk j hj';simp only[show¬ j=i fromλc=>q c.symm,if_false];refine⟨t1,t2,t3,t4,t5,Tf t6 λx hx=>⟨(Iq (kq j x hj' hx)).1 (I7 t6 hx).1,(Iq (kq j x hj' hx)).2.1⟩,λx hx=>?_⟩;have o:=Iq (kq j x hj' hx);rw[o.2.2.1,o.2.1];exact⟨Lo _ (t7 x hx).1,(t7 x hx).2⟩;intro j hj;simp only[Z8.copy]at hj;have hne:¬ j=i:=λq=>hj (q▸hit);simp only[hne,if_false];exact k.tk0 j λq=>hj ((htt _).2 (Lh q));intro x hx;simp only[Z8.copy,LD,LH]at hx⊢;rcases hx with hx|rfl;rcases k.q x hx with⟨j,j1,j2,j3,j4⟩|⟨j,j1,j2⟩;have hne:¬ i=j:=by(rintro rfl;have:=(g.t0 i x j2).2;omega)
 refine Lh ⟨j,λc=>?_,j2,j3,by rw[EH p1,if_neg hne];exact j4⟩;rcases(htt _).1 c with c|c;exact j1 c;omega;refine Ll ⟨j,(htt _).2 (Lh j1), ?_⟩;split;rename_i q;subst q;exact Lo _ j2;exact j2;exact Ll ⟨i,hit,by simp⟩;intro j x hx;simp only[Z8.copy];have hne:¬ i=j:=by(rintro rfl;have:=(g.t0 i x hx).2;omega)
 rw[EH p1,if_neg hne];by_cases q:x=r;subst q;refine Ll ⟨by rw[w2,Z6O oq oq], ?_, ?_⟩;have e1:=g.ofx hx;have e2:=g.ofx hr;rw[e1]at e2;have:j=i0:=by simp only[Prod.mk.injEq]at e2;omega
 subst this;rw[(k.pg j (k.nt g hx)).1];exact h1;have e1:=g.ofx hx;have e2:=g.ofx hr;rw[e1]at e2;have:j=i0:=by simp only[Prod.mk.injEq]at e2;omega
 subst this;exact hs;have f:=far j x hx;have rx:=Ch h.W x;rw[w1 x q oq];exact k.hd j x hx;intro b hb;simp only[Z8.copy]at hb⊢;by_cases q:a<=b/\b<a+n;exact Ll ⟨i,hit,by omega,by rw[EH p1,if_pos rfl];omega⟩;by_cases q2:b=r;refine Lh ⟨i0,r,hr,by omega, ?_⟩;rw[kpA,if_neg hkd];have:=Ch h.W r;omega;rw[w1 b q2 oq]at hb;rcases k.dt b hb with c|⟨j,j1,j2,j3⟩;exact Lh c;refine Ll ⟨j,(htt _).2 (Lh j1),j2, ?_⟩;rw[EH p1];split;rename_i c;subst c;have:=(k.tk i j1).2.2.1;have:u=(w.j.P.getD i M).U:=by rw[<-hu,CX,if_neg oq]
 omega;exact j3;intro j h2 hsj;simp only[Z8.copy]at hsj⊢;have hne:¬ i=j:=by rintro rfl;omega
 rw[EH p1,if_neg hne]at hsj;exact Lo _ (k.lg j h2 hsj)
theorem KI.fwd{n w}(k:KI h T n w)(p:Bh w)(u:BM w) r(e:(w.fwd r).2.2=0):∃o,KI h T o (w.fwd r).1:=by
 unfold Z8.fwd at e⊢;split at e;grind;rename_i c1;rw[if_neg c1];split at e;simp at e;rename_i c2;rw[if_neg c2];have i:r∈w.old:=LN.1 c2;obtain⟨a,b,d⟩:=(k.old r).1 i;have m:Z4 w.j.C r=((a:Int),r-B5 h a,0):=by rw[k.c];exact g.ofx b
 have nt:=k.nt g b;have a0:=k.pg a nt;have v:=(g.t0 a r b).1;have x:=(g.t0 a r b).2;have z:=k.pl;split at e;grind;rename_i c3;rw[if_neg c3];split at e;simp at e;rename_i c4;rw[if_neg c4];split at e;rename_i c;rw[if_pos c];simp only[ZR,decide_eq_true_eq]at c;rw[m]at c;simp only[Int.toNat_natCast]at c;exact⟨n,k.keep g b d c.2.2.2.1⟩;rename_i c;rw[if_neg c];have j:ED w r=a:=by grind[ED]
 split at e;rename_i f;rw[if_pos f];rw[j]at f⊢;exact⟨n,k.flip g p b d f⟩;rename_i f;rw[if_neg f];split at e;simp at e;rename_i s;rw[if_neg s];have l:(w.place (Z1 (Zx w r))).2.2=Lb:=by grind
 rw[j]at f;have k1:(h.P.getD a M).K=1:=by omega
 have hs:(w.j.P.getD a M).S=w.j.S:=by grind[ZR]
 have t:(Z5 w.j.W r).1=(Z5 h.W r).1:=by(rcases k.hd a r b with q|q;exact q;grind)
 have hz:=u.z r i;have y:Z1 (Zx w r)<=w.j.C.pw:=by grind[HC]
 exact k.copy g p b d k1 hs t (HC w r) y l
theorem KI.field{tq w}(k:KI h T tq w){q j:Int}(hq:q∈w.Q)(hj:0<=j/\j<ZE w.j.W q) :(∀i x,x∈T i->x≠q+1+j)/\(∀(i:Nat) x,(i:Int)∈w.T->x∈tq i->x≠q+1+j)/\((∃i x,x∈T i/\x<=q+1+j/\q+1+j<x+kpA h.W x)\/(∃i:Nat,(i:Int)∈w.T/\B5 h i<=q+1+j/\q+1+j<B5 h i+(w.j.P.getD i M).U)):=by
 rcases k.q q hq with⟨i,i1,i2,i3,i4⟩|⟨i,i1,i2⟩;have he:(Z5 w.j.W q).1=(Z5 h.W q).1:=by(rcases k.hd i q i2 with c|c;exact c;omega)
 have o:=Iq he;rw[o.2.1]at hj;refine⟨λm x hx c=>?_,λm x hm hx c=>?_,Lh ⟨i,q,i2,by omega,by grind[kpA]⟩⟩;have:=g.sep i2 hx oq;omega;have:=k.sepT g hm hx i2;have:=Ch w.j.W x;omega;have t:=k.tk i i1;have m:=I7 t.2.2.2.2.2.1 i2;refine⟨λm x hx c=>?_,λm x hm hx c=>?_,Ll ⟨i,i1,by omega,by omega⟩⟩;have:=k.sepT g i1 i2 hx;have:=Ch h.W x;omega;have:=k.sepQ g i1 i2 hm hx oq;omega
theorem KI.in1{s w}(k:KI h T s w)(m:Bh w)(f:BM w){q j:Int}(l:q∈w.Q)(hj:0<=j/\j<ZE w.j.W q)(e:(w.fwd (Z5 w.j.W (q+1+j)).1).2.2=0):∃b,KI h T b (w.in1 (q+1+j)):=by
 obtain⟨b,n⟩:=k.fwd g m f _ e;obtain⟨r,o⟩:=AZ m f _ e;have c:=o.q q l;have p:=o.l q l;have hr:=r.r q (List.mem_append_right _ c);have d:4096<=q+1+j/\q+1+j<4096+(w.fwd (Z5 w.j.W (q+1+j)).1).1.j.W.length:=by omega
 obtain⟨f1,f2,f3⟩:=n.field g c (j:=j) oq;refine⟨b,n.withWords g (Ts d) (λi x hx=>?_) (λi x hm hx=>?_) (λa ha=>?_)⟩;all_goals grind[Nf]
theorem KI.begin:KI h T (λ_=>[]) (Zv h):=by
 have hq:∀j,((h.P.map (Zs (1-h.S))).getD j M).K=(h.P.getD j M).K/\((h.P.map (Zs (1-h.S))).getD j M).U=(h.P.getD j M).U/\((h.P.map (Zs (1-h.S))).getD j M).N=(h.P.getD j M).N/\((h.P.getD j M).K=2->((h.P.map (Zs (1-h.S))).getD j M).S=(h.P.getD j M).S):=by grind[Zs]
 refine⟨rfl,rfl,g.objs.2,by simp[Zv],rfl,λi _=>⟨(hq i).1,(hq i).2.1,(hq i).2.2.1⟩,by simp[Zv],λ_ _=>rfl,by simp[Zv],λ_ _ _=>Lh rfl,λa ha=>Lh (g.d a ha), ?_⟩;intro i h2 hs;exfalso;simp only[Zv]at hs;rw[(hq i).2.2.2 h2]at hs;by_cases hi:i<h.P.length;exact hs (g.sp i hi oq);rw[Lk,Lq oq]at h2;have d:(M:Z0).K=0:=rfl;grind
theorem ZeQ{s}(a:Zz h.W)(e:(rootsF (Zv h) s).2.2=0)(d:(Bz (rootsF (Zv h) s).1).2=0):∃b,KI h T b (B6 h s):=
 Z03 (λw=>∃b,KI h T b w) (λw r a c ⟨_,k⟩ e=>k.fwd g a c r e) (λw q j a c ⟨_,k⟩ hq f i e=>k.in1 g a c hq ⟨f,i⟩ e) (λw n ⟨b,k⟩=>⟨b,k.c,k.sp,k.old,k.pl,k.wl,k.pg,k.tk,k.tk0,k.q,k.hd,k.dt,k.lg⟩) a g.p ⟨_,KI.begin g⟩ e d
end
def H4(l:List Z0):Prop:=∀p∈l,p.S=0\/p.S=1
def H4.at{l}(h:H4 l){i:Nat}(a:i<l.length):(l.getD i M).S=0\/(l.getD i M).S=1:=by rw[Lk,Lm a];exact h _ (List.getElem_mem a)
def H4.set{l}(h:H4 l)(i:Nat){p:Z0}(hp:p.S=0\/p.S=1):H4 (l.set i p):=λq a=>by
 rcases List.mem_or_eq_of_mem_set a with q1|q1
 .exact h q q1
 grind
def H4.fwd{w}(d:Bh w)(h:H4 w.j.P) r(e:(w.fwd r).2.2=0):H4 (w.fwd r).1.j.P:=by
 have sp:=d.sp;have pl:∀n,(w.place n).2.2=Lb->H4 (w.place n).1.j.P:=λn hn=>by(by_cases a:EC w n;rw[Z8.place,if_pos a];unfold EC at a;have hm:=d.tk _ (Hh a.1);grind[H4,M1];by_cases b:0<=B3 w;rw[Z8.place,if_neg a,if_pos b];obtain⟨g1,_,_⟩:=TF (h:=⟨w.j.C,w.j.W,w.j.P,1-w.j.S,w.j.B⟩) (by grind) b n;grind[G2,B3,H4];grind[Z8.place])
 unfold Z8.fwd at e⊢;repeat' split at e
 all_goals first|(simp at e;done)|skip
 all_goals (repeat' (first|rw[if_pos aa]|rw[if_neg aa]))
 all_goals first|exact h|skip
 intro p c;simp only[Z8.keep,Z8.flip,ZK,LG,List.mem_range]at c;obtain⟨j,f,rfl⟩:=c;split;grind[Nz];exact h.at f;exact pl _ (by grind)
def H4.begin{h:Heap}(b:Z9 h=Lb):H4 (Zv h).j.P:=λp a=>by
 have po:=B7 b;simp only[Zv,LG]at a;obtain⟨q,a,rfl⟩:=a;obtain⟨i,c,rfl⟩:=List.getElem_of_mem a;have pp:=Ew b c;grind[Zs]
structure HH (w:Z8):Prop where
 ok:Bh w
 so:H4 w.j.P
 L:(w.j.W.length:Int)=w.j.C.pw*w.j.C.pg
structure FwOk (w:Z8) (r:Int):Prop where
 ck:HH w
 rg:0<=r/\r<=18446744073709551615
 ol:r∈w.old->4096<=r/\r+ZE w.j.W r<4096+w.j.W.length/\(Z4 w.j.C r).2.2=0/\(Z4 w.j.C r).1.toNat<w.j.P.length
 dc:r∈w.old->(ZQ (Z5 w.j.W r).1).2=Ld->(Z7 (Z5 w.j.W r).1).2=Lb
 sz:r∈w.old->(w.j.P.getD (Z4 w.j.C r).1.toNat M).K=2\/ZE w.j.W r+1<=w.j.C.pw
structure EB (h:Heap) (T:Nat->List Int) (w:Z8):Prop where
 k:∃tq,KI h T tq w
 ok:Bh w
 inv:BM w
 so:H4 w.j.P
def EB.begin{h T}(g:Gd h T)(hw:Zz h.W):EB h T (Zv h):=
 ⟨⟨_,KI.begin g⟩,RG hw g.p,SE g.p,H4.begin g.p⟩
def EB.fwd{h T w}(c:EB h T w)(g:Gd h T){r}(e:(w.fwd r).2.2=0):EB h T (w.fwd r).1:=by obtain⟨tq,k⟩:=c.k;exact⟨k.fwd g c.ok c.inv r e,(Z0i c.ok r e).1,(AZ c.ok c.inv r e).1,c.so.fwd c.ok r e⟩
def EB.ck{h T w}(c:EB h T w):HH w:=⟨c.ok,c.so,c.inv.L⟩
def EB.fw{h T w}(c:EB h T w)(g:Gd h T){r:Int}(d:0<=r/\r<=18446744073709551615):FwOk w r:=by obtain⟨tq,k⟩:=c.k;refine⟨c.ck,d,λa=>?_,λa ht=>?_,λa=>c.inv.z r a⟩;obtain⟨i,b,hk⟩:=(k.old r).1 a;have q:=c.inv.r r (Lo _ a);have e:=g.ofx b;rw[<-k.c]at e;rw[e];have:=(g.t0 i r b).1;have:=k.pl;grind;obtain⟨i,b,hk⟩:=(k.old r).1 a;rcases k.hd i r b with q|q;rw[q];exact(g.on b).2.2.2.2.2.1;grind
def Z8.ckc(w:Z8)(a b c d e:Nat):List AV:=[nI w.j.C.pw,nI w.j.C.pg,.ow a,.ow b,nI w.j.S,nI w.j.B,.ow c,.ow d,.ow e,nI w.D,nI w.rep.copied,nI w.rep.kept,nI w.rep.filled,nI w.rep.freed,nI w.rep.cleared,nI w.rep.steps]
def Z8.ckB(w:Z8)(a b c d e:Nat):Z3:=.box 201 (w.ckc a b c d e)
def Bj(l:List Int):Z3:=.arr 44 1 (l.map wD)
def ET(l:List Int):Z3:=.arr 3 1 (l.map iD)
def EV(l:List Z0):Z3:=.arr 79 4 (l.map Z0.dv)
def Z8.ckp(w:Z8):List Z3:=[w.ckB 1 2 3 4 5,Bj w.j.W,EV w.j.P,Bj w.old,ET w.T,Bj w.Q]
def Z8.ckq(w:Z8):List Z3:=[w.ckB 1 6 3 7 8,Bj w.j.W,.dead,Bj w.old,.dead,.dead,EV w.j.P,ET w.T,Bj w.Q]
def Z8.ckr(w:Z8):List Z3:=[w.ckB 1 2 3 4 6,Bj w.j.W,EV w.j.P,Bj w.old,ET w.T,.dead,Bj w.Q]
def Z8.cks(w:Z8):List Z3:=[w.ckB 1 6 3 7 5,Bj w.j.W,.dead,Bj w.old,.dead,Bj w.Q,EV w.j.P,ET w.T]
structure Ro (w:Z8):Prop where
 wl:w.j.W.length<=1048576
 pl:w.j.P.length<=1048576
 ol:w.old.length<=1048576
 tl:w.T.length<=1048576
 ql:w.Q.length<=1048576
def HH.ln{w}(k:HH w):Ro w:=by have h1:=k.ok.mu;have h2:=k.ok.ol;have h3:=k.ok.wl;have h4:=k.ok.pl;have h5:=BR.1 k.ok.C;have h6:=k.ok.tl;exact⟨by omega,by omega,by omega,by omega,by omega⟩
def ZiY{c:ZU}{a:Int}(b:Zm c=Lb)(h:4096<=a/\a-4096<c.pw*c.pg):(Z4 c a).2.2=0/\(Z4 c a).1*c.pw+(Z4 c a).2.1=a-4096/\0<=(Z4 c a).1*c.pw/\(Z4 c a).1*c.pw<=a-4096/\0<=(Z4 c a).2.1:=by
 have cf:=BR.1 b;have e:(Z4 c a).2.2=0:=by(unfold Z4;rw[if_pos b,if_pos oq])
 have o:=Hg b e;have:=Lu o.1 (show 0<=c.pw by omega);omega
structure D1 (w:Z8):Prop where
 C:Zm w.j.C=Lb
 wl:w.j.W.length<=4096
 pl:(w.j.P.length:Int)=w.j.C.pg
 L:(w.j.W.length:Int)=w.j.C.pw*w.j.C.pg
def HH.mem{w}(k:HH w):D1 w:=⟨k.ok.C,k.ok.wl,k.ok.pl,k.L⟩
def H1(pw pg sp f sc r1 r2 r3 g h i:Int)(a b c d e:Nat):Z3:=.box 201 [nI pw,nI pg,.ow a,.ow b,nI sp,nI f,.ow c,.ow d,.ow e,nI sc,nI r1,nI r2,nI r3,nI g,nI h,nI i]
def TV(pw pg sp a sc r1 r2 r3 c d e:Int) ws ol q f b(hs:sp=0\/sp=1):BP 187 [.pt 0 0 0] [H1 pw pg sp a sc r1 r2 r3 c d e 1 2 3 4 5,Bj ws,EV b,Bj ol,ET f,Bj q] (nI (1-sp)) [H1 pw pg sp a sc r1 r2 r3 c d e 1 2 3 4 5,Bj ws,EV b,Bj ol,ET f,Bj q]:=by exact borF [0,1,2,3,4,5] [] func187 []<|Fi 8 (1-sp) Fz
def Se w i(g:HH w):BP 185 [.pt 0 0 0,nI i] w.ckp (bL (ZR w i)) w.ckp:=by have k:=g.ok;have mu:=k.mu;have pl:=k.pl;have cf:=BR.1 k.C;have tl:=k.tl;have sp:=k.sp;have so:=λh=>g.so.at (i:=i.toNat) h;rcases bb (La (i<0)||La ((w.j.P.length:Int)<=i))with hc0|hc0<;>have a:=hc0<;>simp only[bs]at a;exact borF [0,1,2,3,4,5] [] func185 (fO 8)<|FlG 15 (!decide (i<0)) Z0.dv w.j.P<|Ft 17 hc0<|Fa (by(simp[ZR, *];omega):Ld=ZR w i) Fz;obtain⟨c,d⟩:=a;have f {h_ c_ p_} (j:Fq h_ c_ p_):=FlG 15 (!decide (i<0)) Z0.dv w.j.P<|Ff 17 hc0<|Fmq 25 Z0.dv w.j.P i j;rcases bb ((w.j.P.getD i.toNat M).K==1)with hc1|hc1<;>have b:=hc1<;>simp only[bs]at b;exact borF [0,1,2,3,4,5] [] func185 (fO 19)<|Fh 28 [.br Lb] (f (Fa hc1<|Fbq 33 [0,1,2,3,4,5] (@TV w.j.C.pw w.j.C.pg w.j.S w.j.B w.D w.rep.copied w.rep.kept w.rep.filled w.rep.freed w.rep.cleared w.rep.steps w.j.W w.old w.Q w.T w.j.P aa)<|FcG 42 (Lb&&(w.j.P.getD i.toNat M).S==1-w.j.S) (λe=>by(try simp only[bs]at e);exact@OZ w.T i oq)<|Fa (by grind[ZR]:((w.j.P.getD i.toNat M).S==1-w.j.S&&!decide (i∈w.T))=ZR w i) Fz));exact borF [0,1,2,3,4,5] [] func185 (fO 19)<|Fh 28 [.br Ld]<|Fh 33 [.bor [0,1,2,3,4,5] (nI (1-w.j.S)) []] (f (Fa hc1<|FcG 42 (Ld&&(w.j.P.getD i.toNat M).S==1-w.j.S) (λe=>by(try simp only[bs]at e);exact@OZ w.T i oq)<|Fa (by(simp only[ZR] ;exact sj):Ld=ZR w i) Fz))
def H9 w(a n:Int)(b:D1 w)(h:4096<=a/\1<=n/\a-4096+n<=w.j.W.length):BP 183 [.pt 0 0 0,uU a,nI n] w.ckp (.tu [.os 1 (a-4096).toNat n.toNat,bL Lb]) w.ckp:=by
 have wl:=b.wl;have pl:=b.pl;have cf:=BR.1 b.C;have L:=b.L;have g:=b.C;have o:=ZiY (c:=w.j.C) (a:=a) g oq;have f:(Z4 w.j.C a).2.2=0:=o.1;have q:=o.2.1;have r1:=o.2.2;have d:Li.wrap ((Z4 w.j.C a).1*w.j.C.pw)=(Z4 w.j.C a).1*w.j.C.pw:=E6 oq oq;have e:Li.wrap ((Z4 w.j.C a).1*w.j.C.pw+(Z4 w.j.C a).2.1)=a-4096:=by rw[q];exact E6 oq oq
 exact borF [0,1,2,3,4,5] [] func183 (fO 10)<|Fc 19 (@Gs w.j.C a oq oq)<|Fi 30 ((Z4 w.j.C a).1*w.j.C.pw)<|Fi 32 ((Z4 w.j.C a).1*w.j.C.pw+(Z4 w.j.C a).2.1)<|FlG 42 (!(Z4 w.j.C a).2.2 != 0) wD w.j.W<|FiG 44 (!(Z4 w.j.C a).2.2 != 0) ((w.j.W.length:Int)-((Z4 w.j.C a).1*w.j.C.pw+(Z4 w.j.C a).2.1))<|Ffb 46 ((Z4 w.j.C a).2.2 != 0||La ((w.j.W.length:Int)-((Z4 w.j.C a).1*w.j.C.pw+(Z4 w.j.C a).2.1)<n))<|Fi 55 ((Z4 w.j.C a).1*w.j.C.pw+(Z4 w.j.C a).2.1+n)<|Fa (by(simp only[Lj];omega):0<=(Z4 w.j.C a).1*w.j.C.pw+(Z4 w.j.C a).2.1/\(Z4 w.j.C a).1*w.j.C.pw+(Z4 w.j.C a).2.1<=(Z4 w.j.C a).1*w.j.C.pw+(Z4 w.j.C a).2.1+n/\(Z4 w.j.C a).1*w.j.C.pw+(Z4 w.j.C a).2.1+n<=(↑(O wD w.j.W).length:Int))<|Fa (by(simp[f, *];omega):AV.os 1 ((Z4 w.j.C a).1*w.j.C.pw+(Z4 w.j.C a).2.1).toNat (((Z4 w.j.C a).1*w.j.C.pw+(Z4 w.j.C a).2.1+n).toNat-((Z4 w.j.C a).1*w.j.C.pw+(Z4 w.j.C a).2.1).toNat)=AV.os 1 (a-4096).toNat n.toNat)<|Ftt Fz
def Z9i(pw pg sp a sc r1 r2 r3 c d e r:Int)(ws ol q f:List Int) b(hq:q.length<=1000000)(hr:0<=r2/\r2<=1000000):BP 186 [.pt 0 0 0,uU r] [H1 pw pg sp a sc r1 r2 r3 c d e 1 2 3 4 5,Bj ws,EV b,Bj ol,ET f,Bj q] (.tu [uU r,nI 0]) [H1 pw pg sp a sc r1 (r2+1) r3 c d e 1 2 3 4 6,Bj ws,EV b,Bj ol,ET f,.dead,Bj (q++[r])]:=by have g:Li.wrap (r2+1)=r2+1:=E6 oq oq;exact borF [0,1,2,3,4,8005] [24013] func186 []<|Fh 13 [.els (O wD (q++[r]))]<|Fs 12 (O wD [r])<|Fa (by(simp[*];omega):(O wD q).length+(O wD [r]).length<=2^30)<|Fa (ms:O wD q++O wD [r]=O wD (q++[r]))<|Fi 21 (r2+1) Fz
def ZgT w(n:Int)(j:HH w)(hn:1<=n/\n<=256)(h:EC w n):BP 188 [.pt 0 0 0,nI n] w.ckp (.tu [nI (ZS w),nI (w.j.P.getD (ZS w).toNat M).U,nI 0]) w.ckp:=by
 have k:=j.ok;have mu:=k.mu;have pl:=k.pl;have cf:=BR.1 k.C;have tl:=k.tl;have hm:=k.tk _ (Hh h.1);have i:=k.us (ZS w).toNat oq;have g:=h;unfold EC at g;have e:Li.wrap ((w.T.length:Int)-1)=(w.T.length:Int)-1:=E6 oq oq;have f:Li.wrap (w.j.C.pw-(w.j.P.getD (w.T.getD ((w.T.length:Int)-1).toNat M).toNat M).U)=w.j.C.pw-(w.j.P.getD (w.T.getD ((w.T.length:Int)-1).toNat M).toNat M).U:=by(unfold ZS at i;exact E6 oq oq)
 unfold ZS at *;let a:=(w.T.length:Int)-1;let d:=w.j.P.getD (w.T.getD a.toNat M).toNat M;let b:=0<(w.T.length:Int);let c:=decide b&&La (0<=w.T.getD a.toNat M);exact borF [0,1,2,3,4,5] [] func188 []<|Fl 17 iD w.T<|FiG 26 (decide b) a<|FmGq 28 (decide b) iD w.T a<|FiG 37 c a<|FmGq 39 c iD w.T a<|FlG 45 c Z0.dv w.j.P<|Ftb 47 (decide b&&La (0<=w.T.getD a.toNat M)&&La (w.T.getD a.toNat M<(w.j.P.length:Int)))<|Fi 53 a<|Fmq 55 iD w.T a<|Fmq 64 Z0.dv w.j.P (w.T.getD a.toNat M)<|Fi 73 (w.j.C.pw-d.U)<|Ftb 74 (La (n<=w.j.C.pw-d.U)) Fz
def Zja w(n:Int)(j:HH w)(hn:1<=n/\n<=256)(h:¬ EC w n)(g:¬ 0<=B3 w):BP 188 [.pt 0 0 0,nI n] w.ckp (.tu [nI 0,nI 0,nI 3]) w.ckp:=by have k:=j.ok;have mu:=k.mu;have pl:=k.pl;have cf:=BR.1 k.C;have tl:=k.tl;have i:=λq=>k.us (ZS w).toNat q;unfold EC at h;unfold ZS at h i;unfold B3 at g;have f:0<w.T.length->Li.wrap ((w.T.length:Int)-1)=(w.T.length:Int)-1:=λ_=>E6 oq oq;have e {h_ c_ p_} (l:Fq h_ c_ p_):=Fl 17 iD w.T<|FiG 26 (La (0<(w.T.length:Int))) ((w.T.length:Int)-1)<|FmGq 28 (La (0<(w.T.length:Int))) iD w.T ((w.T.length:Int)-1)<|FiG 37 (La (0<(w.T.length:Int))&&La (0<=w.T.getD ((w.T.length:Int)-1).toNat M)) ((w.T.length:Int)-1)<|FmGq 39 (La (0<(w.T.length:Int))&&La (0<=w.T.getD ((w.T.length:Int)-1).toNat M)) iD w.T ((w.T.length:Int)-1)<|FlG 45 (La (0<(w.T.length:Int))&&La (0<=w.T.getD ((w.T.length:Int)-1).toNat M)) Z0.dv w.j.P l;rcases bb (La (0<(w.T.length:Int))&&La (0<=w.T.getD ((w.T.length:Int)-1).toNat M)&&La (w.T.getD ((w.T.length:Int)-1).toNat M<(w.j.P.length:Int)))with hc0|hc0<;>have a:=hc0<;>simp only[bs]at a;obtain⟨⟨b,c⟩,d⟩:=a;exact borF [0,1,2,3,4,5] [] func188 [] (e (Ft 47 hc0<|Fi 53 ((w.T.length:Int)-1)<|Fmq 55 iD w.T ((w.T.length:Int)-1)<|Fmq 64 Z0.dv w.j.P (w.T.getD ((w.T.length:Int)-1).toNat M)<|Fi 73 (w.j.C.pw-(w.j.P.getD (w.T.getD ((w.T.length:Int)-1).toNat M).toNat M).U)<|Ffb 74 (La (n<=w.j.C.pw-(w.j.P.getD (w.T.getD ((w.T.length:Int)-1).toNat M).toNat M).U))<|Fc 82 (@NS w.j.P (1) oq)<|Ftb 84 (La (first w.j.P (1:Int)<0)) Fz));exact borF [0,1,2,3,4,5] [] func188 [] (e (Ff 47 hc0<|Fc 82 (@NS w.j.P (1) oq)<|Ftb 84 (La (first w.j.P (1:Int)<0)) Fz))
def Z8.took(w:Z8):Z8:=⟨⟨w.j.C,w.j.W,G2 w,w.j.S,w.j.B⟩,w.old,w.T++[B3 w],w.Q,w.D,w.rep⟩
def Zlz w(n:Int)(m:HH w)(hn:1<=n/\n<=256)(h:¬ EC w n)(g:0<=B3 w):BP 188 [.pt 0 0 0,nI n] w.ckp (.tu [nI (B3 w),nI 0,nI 0]) w.took.cks:=by have k:=m.ok;have mu:=k.mu;have pl:=k.pl;have cf:=BR.1 k.C;have tl:=k.tl;have sp:=k.sp;have l:=λq=>k.us (ZS w).toNat q;unfold EC at h;unfold ZS at h l;obtain⟨j,f2,f3,f4⟩:=Nm (h:=⟨w.j.C,w.j.W,w.j.P,1-w.j.S,w.j.B⟩) (by simp only;omega) g;have d:G2 w=ZF w.j.P (B3 w).toNat 1 ⟨1,1-w.j.S,0,0⟩ ⟨0,0,0,0⟩:=j;have ff:=HU g;have i:0<w.T.length->Li.wrap ((w.T.length:Int)-1)=(w.T.length:Int)-1:=λ_=>E6 oq oq;unfold Z8.took;rw[d];unfold B3 at *;have f {h_ c_ p_} (o:Fq h_ c_ p_):=Fl 17 iD w.T<|FiG 26 (La (0<(w.T.length:Int))) ((w.T.length:Int)-1)<|FmGq 28 (La (0<(w.T.length:Int))) iD w.T ((w.T.length:Int)-1)<|FiG 37 (La (0<(w.T.length:Int))&&La (0<=w.T.getD ((w.T.length:Int)-1).toNat M)) ((w.T.length:Int)-1)<|FmGq 39 (La (0<(w.T.length:Int))&&La (0<=w.T.getD ((w.T.length:Int)-1).toNat M)) iD w.T ((w.T.length:Int)-1)<|FlG 45 (La (0<(w.T.length:Int))&&La (0<=w.T.getD ((w.T.length:Int)-1).toNat M)) Z0.dv w.j.P o;rcases bb (La (0<(w.T.length:Int))&&La (0<=w.T.getD ((w.T.length:Int)-1).toNat M)&&La (w.T.getD ((w.T.length:Int)-1).toNat M<(w.j.P.length:Int)))with hc0|hc0<;>have a:=hc0<;>simp only[bs]at a;obtain⟨⟨b,c⟩,e⟩:=a;exact borF [0,1,8002,3,8004,5] [81094,96109] func188 []<|Fh 109 [.els (O iD (w.T++[first w.j.P 1]))] (f (Ft 47 hc0<|Fi 53 ((w.T.length:Int)-1)<|Fmq 55 iD w.T ((w.T.length:Int)-1)<|Fmq 64 Z0.dv w.j.P (w.T.getD ((w.T.length:Int)-1).toNat M)<|Fi 73 (w.j.C.pw-(w.j.P.getD (w.T.getD ((w.T.length:Int)-1).toNat M).toNat M).U)<|Ffb 74 (La (n<=w.j.C.pw-(w.j.P.getD (w.T.getD ((w.T.length:Int)-1).toNat M).toNat M).U))<|Fc 82 (@NS w.j.P (1) oq)<|Ffb 84 (La (first w.j.P (1:Int)<0))<|Fbq 93 [0,1,8002,3,8004,5] (@TV w.j.C.pw w.j.C.pg w.j.S w.j.B w.D w.rep.copied w.rep.kept w.rep.filled w.rep.freed w.rep.cleared w.rep.steps w.j.W w.old w.Q w.T w.j.P aa)<|Fc 94 (@Z2D w.j.P (first w.j.P 1) (1-w.j.S) oq oq oq (by grind[]))<|Fs 108 (O iD [first w.j.P 1])<|Fa (by(simp[*];omega):(O iD w.T).length+(O iD [first w.j.P 1]).length<=2^30)<|Fa (ms:O iD w.T++O iD [first w.j.P 1]=O iD (w.T++[first w.j.P 1])) Fz));exact borF [0,1,8002,3,8004,5] [57094,72109] func188 []<|Fh 109 [.els (O iD (w.T++[first w.j.P 1]))] (f (Ff 47 hc0<|Fc 82 (@NS w.j.P (1) oq)<|Ffb 84 (La (first w.j.P (1:Int)<0))<|Fbq 93 [0,1,8002,3,8004,5] (@TV w.j.C.pw w.j.C.pg w.j.S w.j.B w.D w.rep.copied w.rep.kept w.rep.filled w.rep.freed w.rep.cleared w.rep.steps w.j.W w.old w.Q w.T w.j.P aa)<|Fc 94 (@Z2D w.j.P (first w.j.P 1) (1-w.j.S) oq oq oq (by grind[]))<|Fs 108 (O iD [first w.j.P 1])<|Fa (by(simp[*];omega):(O iD w.T).length+(O iD [first w.j.P 1]).length<=2^30)<|Fa (ms:O iD w.T++O iD [first w.j.P 1]=O iD (w.T++[first w.j.P 1])) Fz))
def Z8.put(w:Z8)(i:Nat)(r a n:Int):Z8:=⟨⟨w.j.C,(Cj (moveA w.j.W a r n).1 r (4*a+2)).1,Cw w.j.P i n,w.j.S,w.j.B⟩,w.old,w.T,w.Q++[a],w.D,⟨w.rep.copied+1,w.rep.kept,w.rep.filled,w.rep.freed,w.rep.cleared,w.rep.steps⟩⟩
def Z7Y{ws:List Int}{i:Nat}{v:Int}(h:i<ws.length):C6 ws i [v]=ws.set i v:=by rw[List.set_eq_take_append_cons_drop,if_pos h,C6];simp
def ZbH{ws:List Int}{a r:Int}{n:Nat}(hn:1<=n)(ha:4096<=a/\a-4096+n<=ws.length)(d:4096<=r/\r-4096+n<=ws.length) :(ws.take (a-4096).toNat++(ws.drop (r-4096).toNat).take n++ws.drop ((a-4096).toNat+((ws.drop (r-4096).toNat).take n).length)).set (r-4096).toNat (4*a+2)=(Cj (moveA ws a r n).1 r (4*a+2)).1:=by
 have b:C4 ws r n=((ws.drop (r-4096).toNat).take n,0):=by rw[C4,if_neg oq,if_pos d];rfl
 have hl:((ws.drop (r-4096).toNat).take n).length=n:=by simp;omega
 have c:(moveA ws a r n).1=C6 ws (a-4096).toNat ((ws.drop (r-4096).toNat).take n):=by(rw[moveA,b];simp only[if_neg (show¬ (0:Int)≠0 by simp)];rw[ZZ,if_pos oq])
 rw[c];have hL:=Nx (ws:=ws) (l:=(ws.drop (r-4096).toNat).take n) (i:=(a-4096).toNat) oq;rw[Cj,ZZ,if_pos (by simp only[List.length_singleton];omega),Z7Y oq];rfl
section
variable(w:Z8)(r i off:Int)(n:Nat)(e:D1 w)(hq:w.Q.length<=1000000)(rk:0<=w.rep.copied/\w.rep.copied<=1000000)(hu:0<=(w.j.P.getD i.toNat M).U/\(w.j.P.getD i.toNat M).U<=1024)(d:4096<=r/\1<=n/\r-4096+n<=w.j.W.length)(hi:0<=i/\i<w.j.P.length)(b:(address w.j.C i off).2=0)(c:4096<=(address w.j.C i off).1/\(address w.j.C i off).1-4096+n<=w.j.W.length)
include e hq rk hu d hi b c
theorem Z9T:BP 189 [.ag [.pt 0 0 0,.os 1 (r-4096).toNat n],nI i,nI off] w.ckp (.tu [uU (address w.j.C i off).1,nI 0]) (w.put i.toNat r (address w.j.C i off).1 n).ckr:=by have wl:=e.wl;have pl:=e.pl;have h:=ZbH (ws:=w.j.W) (a:=(address w.j.C i off).1) (r:=r) (n:=n) d.2.1 c oq;have j:O wD ((w.j.W.take ((address w.j.C i off).1-4096).toNat++(w.j.W.drop (r-4096).toNat).take n++w.j.W.drop (((address w.j.C i off).1-4096).toNat+((w.j.W.drop (r-4096).toNat).take n).length)).set ((r-4096).toNat+Lc 0) (4*(address w.j.C i off).1+2))=O wD (w.put i.toNat r (address w.j.C i off).1 n).j.W:=congrArg _ h;have hn:=d.2.1;have f:Li.wrap ((w.j.P.getD i.toNat M).U+n)=(w.j.P.getD i.toNat M).U+n:=E6 oq oq;have g:Li.wrap (w.rep.copied+1)=w.rep.copied+1:=E6 oq oq;exact borF [0,1,2,3,4,8005] [88082] func189 (fO 4)<|Fh 52 [.els (O wD (Lg ((address w.j.C i off).1-4096).toNat w.j.W++Lg n (Lf (r-4096).toNat w.j.W)++Lf (((address w.j.C i off).1-4096).toNat+(Lg n (Lf (r-4096).toNat w.j.W)).length) w.j.W))]<|Fh 10056 [.els (O wD ((Lg ((address w.j.C i off).1-4096).toNat w.j.W++Lg n (Lf (r-4096).toNat w.j.W)++Lf (((address w.j.C i off).1-4096).toNat+(Lg n (Lf (r-4096).toNat w.j.W)).length) w.j.W).set ((r-4096).toNat+Lc 0) (4*(address w.j.C i off).1+2)))]<|Fh 82 [.els (O wD (w.Q++[(address w.j.C i off).1]))]<|Fc 22 (@RQ w.j.C i off)<|Ffb 26 ((address w.j.C i off).2 != 0)<|Fbq 35 [0,1,2,3,4,8005] (@H9 w ((address w.j.C i off).1) ((n:Int)) aa oq)<|Fc 40 (@ZjH ((address w.j.C i off).1) oq)<|Fa (by(simp[b,Z8.put,Cw, *];omega):(Lg n (Lf (r-4096).toNat (O wD w.j.W))).length<=(n:Int).toNat)<|Fa (by(simp[Cc]):Cc (O wD w.j.W) ((address w.j.C i off).1-4096).toNat (Lg n (Lf (r-4096).toNat (O wD w.j.W)))=O wD (Lg ((address w.j.C i off).1-4096).toNat w.j.W++Lg n (Lf (r-4096).toNat w.j.W)++Lf (((address w.j.C i off).1-4096).toNat+(Lg n (Lf (r-4096).toNat w.j.W)).length) w.j.W))<|Fo ((0:Int)<=0/\Lc 0<n)<|Fa (by(simp[b,Z8.put,Cw, *];omega):(r-4096).toNat+Lc 0<(O wD (Lg ((address w.j.C i off).1-4096).toNat w.j.W++Lg n (Lf (r-4096).toNat w.j.W)++Lf (((address w.j.C i off).1-4096).toNat+(Lg n (Lf (r-4096).toNat w.j.W)).length) w.j.W)).length)<|Fa (by simp[b,Z8.put,Cw,List.map_take,List.map_drop,Lr,List.map_append,wD,iD]:(O wD (Lg ((address w.j.C i off).1-4096).toNat w.j.W++Lg n (Lf (r-4096).toNat w.j.W)++Lf (((address w.j.C i off).1-4096).toNat+(Lg n (Lf (r-4096).toNat w.j.W)).length) w.j.W)).set ((r-4096).toNat+Lc 0) [ZD (4*(address w.j.C i off).1+2)]=O wD ((Lg ((address w.j.C i off).1-4096).toNat w.j.W++Lg n (Lf (r-4096).toNat w.j.W)++Lf (((address w.j.C i off).1-4096).toNat+(Lg n (Lf (r-4096).toNat w.j.W)).length) w.j.W).set ((r-4096).toNat+Lc 0) (4*(address w.j.C i off).1+2)))<|Fmq 66 Z0.dv w.j.P i<|Fi 70 ((w.j.P.getD i.toNat M).U+(n:Int))<|Fm0q Z0.dv w.j.P i<|FS 10072 Z0.dv w.j.P i.toNat (Z0.mk (w.j.P.getD i.toNat M).K (w.j.P.getD i.toNat M).S ((w.j.P.getD i.toNat M).U+(n:Int)) (w.j.P.getD i.toNat M).N) ((w.j.P.getD i.toNat M).dv)<|Fs 81 (O wD [(address w.j.C i off).1])<|Fa (by(simp[b,Z8.put,Cw, *];omega):(O wD w.Q).length+(O wD [(address w.j.C i off).1]).length<=2^30)<|Fa (by(simp[Cc]):O wD w.Q++O wD [(address w.j.C i off).1]=O wD (w.Q++[(address w.j.C i off).1]))<|Fi 91 (w.rep.copied+1)<|Fr (44:Int)<|Fa (by refine congrArg _ ?_;assumption:O wD ((Lg ((address w.j.C i off).1-4096).toNat w.j.W++Lg n (Lf (r-4096).toNat w.j.W)++Lf (((address w.j.C i off).1-4096).toNat+(Lg n (Lf (r-4096).toNat w.j.W)).length) w.j.W).set ((r-4096).toNat+Lc 0) (4*(address w.j.C i off).1+2))=O wD (w.put i.toNat r (address w.j.C i off).1 (n:Int)).j.W) Fz
end
def SC(w:Z8)(l:List Z0):List (Nat×Z3):=[(2,EV l),(0,w.ckB 1 2 3 4 8005),(1,Bj w.j.W),(3,Bj w.old),(4,ET w.T),(8005,Bj w.Q)]
def TW(w:Z8)(r x:Int)(m:Nat):Tg:=⟨tm 180 [(0,.pt 0 0 0),(1,uU r),(4,uU 0),(5,nI 0),(6,.os 1 (r-4096).toNat 1),(7,bL Lb),(13,nI (x+1+m))],SC w (ZK w.j.P x.toNat m (1-w.j.S)),15⟩
def Zjn(w:Z8)(r x:Int)(m:Nat)(hs:w.j.S=0\/w.j.S=1)(hl:w.j.P.length<=1048576)(hx:0<=x)(j:m<ZC w.j.P x.toNat):CP (Zn f132 0) (TW w r x m).st .nrm (TW w r x (m+1)).st:=by
 have e:=Sd j;have f:=Z0o (l:=w.j.P) (i:=x.toNat) (m:=m) (1-w.j.S);have hn:=HK w.j.P x.toNat m (1-w.j.S);have d:=Z57 (1-w.j.S) e.1;unfold Nz at d;rw[<-f]at d e;have h:x.toNat+1+m=(x+1+(m:Int)).toNat:=by omega
 have eI:((x.toNat+1+m:Nat):Int)=x+1+(m:Int):=by omega
 rw[h]at f d e;let b:=ZK w.j.P x.toNat m (1-w.j.S);let c:=x+1+(m:Int);let a:=b.getD c.toNat M;let g:=x+1+(m:Int)<(b.length:Int);exact sF [] (fP 16)<|Fl 109 Z0.dv (ZK w.j.P x.toNat m ((1:Int)-w.j.S))<|FmGq 120 (decide g) Z0.dv b c<|Ftb 122 (decide g&&a.K==3)<|Fbq 132 [0,1,2,3,4,8005] (@TV w.j.C.pw w.j.C.pg w.j.S w.j.B w.D w.rep.copied w.rep.kept w.rep.filled w.rep.freed w.rep.cleared w.rep.steps w.j.W w.old w.Q w.T b aa)<|Fm0q Z0.dv b c<|FS 10134 Z0.dv b (c.toNat) (Z0.mk a.K (1-w.j.S) a.U a.N) (a.dv)<|Fi 124 (x+1+(m:Int)+1)<|Fo (x+1+(m:Int)+1=x+1+(↑(m+1):Int))<|Fr (79:Int)<|Fa (by refine congrArg _ ?_;exact d:O Z0.dv (b.set c.toNat (Z0.mk a.K (1-w.j.S) a.U a.N))=O Z0.dv (ZK w.j.P x.toNat (m+1) (1-w.j.S))) Fz
def ZiZ(w:Z8)(r x:Int)(hl:w.j.P.length<=1048576)(hx:0<=x):CP (Zn f132 0) (TW w r x (ZC w.j.P x.toNat)).st (.ext 0) (Tg.st ⟨tm 180 [(0,.pt 0 0 0),(1,uU r),(4,uU 0),(5,nI 0),(6,.os 1 (r-4096).toNat 1),(7,bL Lb)],SC w (ZK w.j.P x.toNat (ZC w.j.P x.toNat) (1-w.j.S)),15⟩):=by
 have c:=λh=>Mv (l:=w.j.P) (i:=x.toNat) h;have b:=Z0o (l:=w.j.P) (i:=x.toNat) (m:=ZC w.j.P x.toNat) (1-w.j.S);have hn:=HK w.j.P x.toNat (ZC w.j.P x.toNat) (1-w.j.S);have a:x.toNat+1+ZC w.j.P x.toNat=(x+1+(ZC w.j.P x.toNat:Int)).toNat:=by omega
 rw[<-b,a]at c;exact sF [] []<|Fl 109 Z0.dv (ZK w.j.P x.toNat (ZC w.j.P x.toNat) ((1:Int)-w.j.S))<|FmGq 120 (La (x+1+(↑(ZC w.j.P x.toNat):Int)<(↑(ZK w.j.P x.toNat (ZC w.j.P x.toNat) (1-w.j.S)).length:Int))) Z0.dv (ZK w.j.P x.toNat (ZC w.j.P x.toNat) (1-w.j.S)) (x+1+(↑(ZC w.j.P x.toNat):Int))<|Ffb 122 (La (x+1+(↑(ZC w.j.P x.toNat):Int)<(↑(ZK w.j.P x.toNat (ZC w.j.P x.toNat) (1-w.j.S)).length:Int))&&((ZK w.j.P x.toNat (ZC w.j.P x.toNat) (1-w.j.S)).getD (x+1+(↑(ZC w.j.P x.toNat):Int)).toNat M).K==3) Fz
def ZbS(w:Z8)(r x:Int)(hs:w.j.S=0\/w.j.S=1)(hl:w.j.P.length<=1048576)(hx:0<=x):CP (Zl f132 0) (Tg.st ⟨tm 180 [(0,.pt 0 0 0),(1,uU r),(4,uU 0),(5,nI 0),(6,.os 1 (r-4096).toNat 1),(7,bL Lb),(13,nI (x+1))],SC w (w.j.P.set x.toNat ⟨(w.j.P.getD x.toNat M).K,1-w.j.S,(w.j.P.getD x.toNat M).U,(w.j.P.getD x.toNat M).N⟩),15⟩) .nrm (Tg.st ⟨tm 180 [(0,.pt 0 0 0),(1,uU r),(4,uU 0),(5,nI 0),(6,.os 1 (r-4096).toNat 1),(7,bL Lb)],SC w (ZK w.j.P x.toNat (ZC w.j.P x.toNat) (1-w.j.S)),15⟩):=by have h:=Bs (S:=λk=>(TW w r x k).st) (ZC w.j.P x.toNat) kr (λk hk=>Zjn w r x k hs hl hx hk) (ZiZ w r x hl hx);have a:=Z6i (l:=w.j.P) (i:=x.toNat) (1-w.j.S);simp only[TW,a,Nz,Int.natCast_zero,Int.add_zero]at h;exact h
def FwOk.ld{w r}(f:FwOk w r)(c3:r∈w.old):(Z5 w.j.W r).1=w.j.W.getD ((r-4096).toNat+Lc 0) M:=by have h3:=f.ol c3;have lr:=Ch w.j.W r;unfold Z5;rw[if_pos oq];rfl
def Zho w(r:Int)(h0:0<=r/\r<=18446744073709551615)(b:Ro w)(c1:r=0\/r∈w.Q):BP 132 [.pt 0 0 0,uU r] w.ckp (.tu [uU r,nI 0]) w.ckp:=by obtain⟨h1,h2,h3,h4,h5⟩:=b;exact borF [0,1,2,3,4,5] [] func132 []<|FcG 27 (!r==0) (λa=>by(try simp only[bs]at a);exact@Es w.Q r aa)<|Ftb 28 (r==0||La (r∈w.Q)) Fz
def Zf4 w(r:Int)(h0:0<=r/\r<=18446744073709551615)(b:Ro w)(c1:r≠0)(c2:r∉w.Q)(c3:r∉w.old):BP 132 [.pt 0 0 0,uU r] w.ckp (.tu [uU 0,nI 19]) w.ckp:=by obtain⟨h1,h2,h3,h4,h5⟩:=b;exact borF [0,1,2,3,4,5] [] func132 []<|FcG 27 (!r==0) (λa=>by(try simp only[bs]at a);exact@Es w.Q r aa)<|Ffs 28 (r==0||La (r∈w.Q))<|Fc 35 (@Es w.old r aa)<|Ftb 36 (!decide (r∈w.old)) Fz
section
variable(w:Z8)(r:Int)(f:FwOk w r)
include f
variable(c1:r≠0)(c2:r∉w.Q)(c3:r∈w.old)
include c1 c2 c3
theorem ZgO(c4:(ZQ (Z5 w.j.W r).1).2=Lb):BP 132 [.pt 0 0 0,uU r] w.ckp (.tu [uU (ZQ (Z5 w.j.W r).1).1,nI 0]) w.ckp:=by have h0:=f.rg;have hk:=f.ck;have hmm:=hk.mem;have ok:=hk.ok;obtain⟨-,wl,-,pl,sp,ol,-,-,tl,-,-,mu,-,rk,-,-⟩:=id ok;have cf:=BR.1 ok.C;have h3:=f.ol c3;have lr:=Ch w.j.W r;have o:=Hg ok.C h3.2.2.1;have eof:=h3.2.2.1;have el:=f.ld c3;have ld:=EW ok.W r;rw[el]at c4 ld⊢;have Q0 {h_ c_ p_} (r_:Fq h_ c_ p_):=FcG 27 (!r==0) (λhg=>by(try simp only[bs]at hg);exact@Es w.Q r oq) r_;rcases bb (r==0||La (r∈w.Q))with hc0|hc0<;>have hc0p:=hc0<;>simp only[bs]at hc0p;exact borF [0,1,2,3,4,5] [] func132 (fO 6) (Q0 (Ft 28 hc0<|Fa (by grind[]:r=(ZQ (w.j.W.getD ((r-4096).toNat+Lc 0) M)).1)<|Fr (0:Int) Fz));obtain⟨hc0pa,hc0pb⟩:=hc0p;let y0:=w.j.W.getD ((r-4096).toNat+Lc 0) M;exact borF [0,1,2,3,4,5] [] func132 []<|Fh 48 [.el (wD y0)]<|Fh 52 [.br Lb] (Q0 (Ff 28 hc0<|Fc 35 (@Es w.old r oq)<|Ffb 36 (!decide (r∈w.old))<|Fbq 40 [0,1,2,3,4,5] (@H9 w r (1) aa oq)<|Fo ((0:Int)<=0/\Lc 0<Lc 1)<|Fa (ZT oq:(O wD w.j.W)[(r-4096).toNat+Lc 0]?=Le (wD y0))<|Fc 49 (@Rc y0 oq oq)<|Fa ‹(ZQ y0).2=Lb› Fz))
variable(c4:(ZQ (Z5 w.j.W r).1).2=Ld)
include c4
theorem ZkZ(c6:ZR w (Z4 w.j.C r).1=Lb):BP 132 [.pt 0 0 0,uU r] w.ckp (.tu [uU r,nI 0]) (w.keep r).ckr:=by have h0:=f.rg;have hk:=f.ck;have hmm:=hk.mem;have ok:=hk.ok;obtain⟨-,wl,-,pl,sp,ol,-,-,tl,-,-,mu,-,rk,-,-⟩:=id ok;have cf:=BR.1 ok.C;have h3:=f.ol c3;have lr:=Ch w.j.W r;have o:=Hg ok.C h3.2.2.1;have eof:=h3.2.2.1;have el:=f.ld c3;have ld:=EW ok.W r;rw[el]at c4 ld;rcases bb (r==0||La (r∈w.Q))with hc0|hc0<;>have hc0p:=hc0<;>simp only[bs]at hc0p;rw[show w.keep r=w from by exact absurd hc0p (by simp[c1,c2])];exact absurd hc0p (by simp[c1,c2]);obtain⟨hc0pa,hc0pb⟩:=hc0p;let y0:=w.j.W.getD ((r-4096).toNat+Lc 0) M;exact borF [0,1,2,3,4,8005] [97078] func132 []<|Fh 48 [.el (wD y0)]<|Fh 72 [.br Ld]<|Fh 75 [.bor [0,1,2,3,4,8005] (bL (ZR w (Z4 w.j.C r).1)) [],.br Lb]<|FcG 27 (!r==0) (λhg=>by(try simp only[bs]at hg);exact@Es w.Q r oq)<|Ff 28 hc0<|Fc 35 (@Es w.old r oq)<|Ffb 36 (!decide (r∈w.old))<|Fbq 40 [0,1,2,3,4,8005] (@H9 w r (1) aa oq)<|Fo ((0:Int)<=0/\Lc 0<Lc 1)<|Fa (ZT oq:(O wD w.j.W)[(r-4096).toNat+Lc 0]?=Le (wD y0))<|Fc 49 (@Rc y0 oq oq)<|Fa ‹(ZQ y0).2=Ld›<|Fc 61 (@Gs w.j.C r oq oq)<|Fl 71 Z0.dv w.j.P<|Ffb 52 (La ((w.j.P.length:Int)<=(Z4 w.j.C r).1))<|Fa (@Se w ((Z4 w.j.C r).1) aa)<|Fa ‹ZR w (Z4 w.j.C r).1=Lb›<|Fbr 78 [0,1,2,3,4,8005] (@Z9i w.j.C.pw w.j.C.pg w.j.S w.j.B w.D w.rep.copied w.rep.kept w.rep.filled w.rep.freed w.rep.cleared w.rep.steps r w.j.W w.old w.Q w.T w.j.P oq oq) Fz
theorem ZgR(c6:ZR w (Z4 w.j.C r).1=Ld)(c7:(w.j.P.getD (ED w r) M).K=2):BP 132 [.pt 0 0 0,uU r] w.ckp (.tu [uU r,nI 0]) ((w.flip (ED w r)).keep r).ckr:=by have h0:=f.rg;have hk:=f.ck;have hmm:=hk.mem;have ok:=hk.ok;obtain⟨-,wl,-,pl,sp,ol,-,-,tl,-,-,mu,-,rk,-,-⟩:=id ok;have cf:=BR.1 ok.C;have h3:=f.ol c3;have lr:=Ch w.j.W r;have o:=Hg ok.C h3.2.2.1;have eof:=h3.2.2.1;have el:=f.ld c3;have ld:=EW ok.W r;rw[el]at c4 ld;unfold ED at c7;rcases bb (r==0||La (r∈w.Q))with hc0|hc0<;>have hc0p:=hc0<;>simp only[bs]at hc0p;rw[show(w.flip (ED w r)).keep r=w from by exact absurd hc0p (by simp[c1,c2])];exact absurd hc0p (by simp[c1,c2]);obtain⟨hc0pa,hc0pb⟩:=hc0p;let y0:=w.j.P.getD (Z4 w.j.C r).1.toNat M;let y1:=w.j.W.getD ((r-4096).toNat+Lc 0) M;let y2:=(Z4 w.j.C r).1;exact borF [0,1,2,3,4,8005] [121137] func132 []<|Fh 48 [.el (wD y1)]<|Fh 72 [.br Ld]<|Fh 75 [.bor [0,1,2,3,4,8005] (bL (ZR w (Z4 w.j.C r).1)) [],.br Ld]<|FcG 27 (!r==0) (λhg=>by(try simp only[bs]at hg);exact@Es w.Q r oq)<|Ff 28 hc0<|Fc 35 (@Es w.old r oq)<|Ffb 36 (!decide (r∈w.old))<|Fbq 40 [0,1,2,3,4,8005] (@H9 w r (1) aa oq)<|Fo ((0:Int)<=0/\Lc 0<Lc 1)<|Fa (ZT oq:(O wD w.j.W)[(r-4096).toNat+Lc 0]?=Le (wD y1))<|Fc 49 (@Rc y1 oq oq)<|Fa ‹(ZQ y1).2=Ld›<|Fc 61 (@Gs w.j.C r oq oq)<|Fl 71 Z0.dv w.j.P<|Ffb 52 (La ((w.j.P.length:Int)<=(Z4 w.j.C r).1))<|Fa (@Se w y2 aa)<|Fa ‹ZR w (Z4 w.j.C r).1=Ld›<|Fmq 89 Z0.dv w.j.P y2<|Ftb 90 (y0.K==2)<|Fbq 98 [0,1,2,3,4,8005] (@TV w.j.C.pw w.j.C.pg w.j.S w.j.B w.D w.rep.copied w.rep.kept w.rep.filled w.rep.freed w.rep.cleared w.rep.steps w.j.W w.old w.Q w.T w.j.P aa)<|Fm0q Z0.dv w.j.P y2<|FS 10100 Z0.dv w.j.P ((Z4 w.j.C r).1.toNat) (Z0.mk y0.K (1-w.j.S) y0.U y0.N) (y0.dv)<|Fi 102 ((Z4 w.j.C r).1+1)<|Fu (@ZbS w r y2 aa oq oq)<|Fbr 137 [0,1,2,3,4,8005] (@Z9i w.j.C.pw w.j.C.pg w.j.S w.j.B w.D w.rep.copied w.rep.kept w.rep.filled w.rep.freed w.rep.cleared w.rep.steps r w.j.W w.old w.Q w.T (ZK w.j.P (Z4 w.j.C r).1.toNat (ZC w.j.P (Z4 w.j.C r).1.toNat) (1-w.j.S)) oq oq) Fz
variable(c6:ZR w (Z4 w.j.C r).1=Ld)(c7:¬ (w.j.P.getD (ED w r) M).K=2)
include c6 c7
theorem Zhx(c8:¬ EC w (Z1 (Zx w r)))(c9:¬ 0<=B3 w):BP 132 [.pt 0 0 0,uU r] w.ckp (.tu [uU 0,nI 3]) w.ckp:=by have h0:=f.rg;have hk:=f.ck;have hmm:=hk.mem;have ok:=hk.ok;obtain⟨-,wl,-,pl,sp,ol,-,-,tl,-,-,mu,-,rk,-,-⟩:=id ok;have cf:=BR.1 ok.C;have h3:=f.ol c3;have lr:=Ch w.j.W r;have o:=Hg ok.C h3.2.2.1;have eof:=h3.2.2.1;have el:=f.ld c3;have ld:=EW ok.W r;have dc:=f.dc c3 c4;have sz:=NE w r;have hl:=HC w r;have dm:=IT (Z5 w.j.W r).1 ld.1;have ein:(((Z1 (Zx w r)).toNat:Nat):Int)=Z1 (Zx w r):=Lv oq;unfold ED at c7;unfold Zx at *;rw[el]at c4 c8 ld dc sz hl dm ein;rcases bb (r==0||La (r∈w.Q))with hc0|hc0<;>have hc0p:=hc0<;>simp only[bs]at hc0p;exact absurd hc0p (by simp[c1,c2]);obtain⟨hc0pa,hc0pb⟩:=hc0p;rcases bb (!(Z7 (w.j.W.getD ((r-4096).toNat+Lc 0) M)).2||Ld)with hc1|hc1<;>have hc1p:=hc1<;>simp only[bs]at hc1p;exact absurd hc1p (by rw[dc];simp);obtain⟨hc1pa,hc1pb⟩:=hc1p;let y0:=w.j.W.getD ((r-4096).toNat+Lc 0) M;let y1:=(0:Int)<=0/\Lc 0<Lc 1;exact borF [0,1,2,3,4,5] [] func132 []<|Fh 48 [.el (wD y0)]<|Fh 75 [.bor [0,1,2,3,4,5] (bL (ZR w (Z4 w.j.C r).1)) [],.br Ld]<|Fh 143 [.el (wD y0)]<|Fh 160 [.br Ld]<|FcG 27 (!r==0) (λhg=>by(try simp only[bs]at hg);exact@Es w.Q r oq)<|Ff 28 hc0<|Fc 35 (@Es w.old r oq)<|Ffb 36 (!decide (r∈w.old))<|Fbq 40 [0,1,2,3,4,5] (@H9 w r (1) aa oq)<|Fo y1<|Fa (ZT oq:(O wD w.j.W)[(r-4096).toNat+Lc 0]?=Le (wD y0))<|Fc 49 (@Rc y0 oq oq)<|Fa ‹(ZQ y0).2=Ld›<|Fc 61 (@Gs w.j.C r oq oq)<|Fl 71 Z0.dv w.j.P<|Ffb 52 (La ((w.j.P.length:Int)<=(Z4 w.j.C r).1))<|Fa (@Se w ((Z4 w.j.C r).1) aa)<|Fa ‹ZR w (Z4 w.j.C r).1=Ld›<|Fmq 89 Z0.dv w.j.P ((Z4 w.j.C r).1)<|Ffb 72 ((w.j.P.getD (Z4 w.j.C r).1.toNat M).K==2)<|Fo y1<|Fa (ZT oq:(O wD w.j.W)[(r-4096).toNat+Lc 0]?=Le (wD y0))<|Fc 144 (@GX y0 oq oq)<|Fc 151 (@CK ((Z7 y0).1) aa)<|Fbq 152 [0,1,2,3,4,5] (@H9 w r (Z1 (Z7 y0).1) aa oq)<|Ff 90 hc1<|Fg 164 (by assumption:(↑(Z1 (Z7 y0).1).toNat:Int)=Z1 (Z7 y0).1)<|Fbq 165 [0,1,2,3,4,5] (@Zja w (Z1 (Z7 y0).1) aa aa aa aa) Fz
theorem ZhO(c8:EC w (Z1 (Zx w r)))(ha:(address w.j.C (ZS w) (w.j.P.getD (ZS w).toNat M).U).2=0)(har:4096<=(address w.j.C (ZS w) (w.j.P.getD (ZS w).toNat M).U).1/\(address w.j.C (ZS w) (w.j.P.getD (ZS w).toNat M).U).1-4096+Z1 (Zx w r)<=w.j.W.length):BP 132 [.pt 0 0 0,uU r] w.ckp (.tu [uU (address w.j.C (ZS w) (w.j.P.getD (ZS w).toNat M).U).1,nI 0]) (w.put (ZS w).toNat r (address w.j.C (ZS w) (w.j.P.getD (ZS w).toNat M).U).1 (Z1 (Zx w r)).toNat).ckr:=by have h0:=f.rg;have hk:=f.ck;have hmm:=hk.mem;have ok:=hk.ok;obtain⟨-,wl,-,pl,sp,ol,-,-,tl,-,-,mu,-,rk,-,-⟩:=id ok;have cf:=BR.1 ok.C;have h3:=f.ol c3;have lr:=Ch w.j.W r;have o:=Hg ok.C h3.2.2.1;have eof:=h3.2.2.1;have el:=f.ld c3;have ld:=EW ok.W r;have dc:=f.dc c3 c4;have sz:=NE w r;have hl:=HC w r;have dm:=IT (Z5 w.j.W r).1 ld.1;have ein:(((Z1 (Zx w r)).toNat:Nat):Int)=Z1 (Zx w r):=Lv oq;unfold ED at c7;unfold Zx at *;rw[el]at c4 c8 har ld dc sz hl dm ein⊢;have hm:=ok.tk _ (Hh c8.1);have hu:=ok.us (ZS w).toNat oq;rcases bb (r==0||La (r∈w.Q))with hc0|hc0<;>have hc0p:=hc0<;>simp only[bs]at hc0p;rw[show w.put (ZS w).toNat r (address w.j.C (ZS w) (w.j.P.getD (ZS w).toNat M).U).1 (↑(Z1 (Z7 (w.j.W.getD ((r-(4096:Int)).toNat+Lc (0:Int)) M)).1).toNat:Int)=w from by exact absurd hc0p (by simp[c1,c2])];exact absurd hc0p (by simp[c1,c2]);obtain⟨hc0pa,hc0pb⟩:=hc0p;rcases bb (!(Z7 (w.j.W.getD ((r-4096).toNat+Lc 0) M)).2||Ld)with hc1|hc1<;>have hc1p:=hc1<;>simp only[bs]at hc1p;rw[show w.put (ZS w).toNat r (address w.j.C (ZS w) (w.j.P.getD (ZS w).toNat M).U).1 (↑(Z1 (Z7 (w.j.W.getD ((r-(4096:Int)).toNat+Lc (0:Int)) M)).1).toNat:Int)=w from by exact absurd hc1p (by rw[dc];simp)];exact absurd hc1p (by rw[dc];simp);obtain⟨hc1pa,hc1pb⟩:=hc1p;let y0:=w.j.W.getD ((r-4096).toNat+Lc 0) M;let y1:=(0:Int)<=0/\Lc 0<Lc 1;let y2:=Z1 (Z7 y0).1;exact borF [0,1,2,3,4,8005] [145177] func132 []<|Fh 48 [.el (wD y0)]<|Fh 75 [.bor [0,1,2,3,4,8005] (bL (ZR w (Z4 w.j.C r).1)) [],.br Ld]<|Fh 143 [.el (wD y0)]<|Fh 160 [.br Ld]<|FcG 27 (!r==0) (λhg=>by(try simp only[bs]at hg);exact@Es w.Q r oq)<|Ff 28 hc0<|Fc 35 (@Es w.old r oq)<|Ffb 36 (!decide (r∈w.old))<|Fbq 40 [0,1,2,3,4,8005] (@H9 w r (1) aa oq)<|Fo y1<|Fa (ZT oq:(O wD w.j.W)[(r-4096).toNat+Lc 0]?=Le (wD y0))<|Fc 49 (@Rc y0 oq oq)<|Fa ‹(ZQ y0).2=Ld›<|Fc 61 (@Gs w.j.C r oq oq)<|Fl 71 Z0.dv w.j.P<|Ffb 52 (La ((w.j.P.length:Int)<=(Z4 w.j.C r).1))<|Fa (@Se w ((Z4 w.j.C r).1) aa)<|Fa ‹ZR w (Z4 w.j.C r).1=Ld›<|Fmq 89 Z0.dv w.j.P ((Z4 w.j.C r).1)<|Ffb 72 ((w.j.P.getD (Z4 w.j.C r).1.toNat M).K==2)<|Fo y1<|Fa (ZT oq:(O wD w.j.W)[(r-4096).toNat+Lc 0]?=Le (wD y0))<|Fc 144 (@GX y0 oq oq)<|Fc 151 (@CK ((Z7 y0).1) aa)<|Fbq 152 [0,1,2,3,4,8005] (@H9 w r y2 aa oq)<|Ff 90 hc1<|Fg 164 (by assumption:(y2.toNat:Int)=Z1 (Z7 y0).1)<|Fbq 165 [0,1,2,3,4,8005] (@ZgT w y2 aa aa aa)<|Fbr 177 [0,1,2,3,4,8005] (@Z9T w r (ZS w) ((w.j.P.getD (ZS w).toNat M).U) (y2.toNat) aa oq oq aa oq oq aa oq) Fz
theorem Zko(hk2:D1 w.took)(hu2:0<=(w.took.j.P.getD (B3 w).toNat M).U/\(w.took.j.P.getD (B3 w).toNat M).U<=1024)(c8:¬ EC w (Z1 (Zx w r)))(c9:0<=B3 w)(ha:(address w.j.C (B3 w) 0).2=0)(har:4096<=(address w.j.C (B3 w) 0).1/\(address w.j.C (B3 w) 0).1-4096+Z1 (Zx w r)<=w.j.W.length):BP 132 [.pt 0 0 0,uU r] w.ckp (.tu [uU (address w.j.C (B3 w) 0).1,nI 0]) (w.took.put (B3 w).toNat r (address w.j.C (B3 w) 0).1 (Z1 (Zx w r)).toNat).ckq:=by
 have h0:=f.rg;have hk:=f.ck;have hmm:=hk.mem;have ok:=hk.ok;obtain⟨-,wl,-,pl,sp,ol,-,-,tl,-,-,mu,-,rk,-,-⟩:=id ok;have cf:=BR.1 ok.C;have h3:=f.ol c3;have lr:=Ch w.j.W r;have o:=Hg ok.C h3.2.2.1;have eof:=h3.2.2.1;have el:=f.ld c3;have ld:=EW ok.W r;have dc:=f.dc c3 c4;have sz:=NE w r;have hl:=HC w r;have dm:=IT (Z5 w.j.W r).1 ld.1;have ein:(((Z1 (Zx w r)).toNat:Nat):Int)=Z1 (Zx w r):=Lv oq;unfold ED at c7;unfold Zx at *;rw[el]at c4 c8 har ld dc sz hl dm ein⊢;have ff:=HU c9;have fl:B3 w<w.j.C.pg:=by unfold B3;omega
 have tw:w.took.j.W.length=w.j.W.length:=rfl;have tp:=hk2.pl;have tq:w.took.Q.length=w.Q.length:=rfl;have trk:w.took.rep.copied=w.rep.copied:=rfl;have tc:w.took.j.C=w.j.C:=rfl;rw[tc]at tp;have ha2:(address w.took.j.C (B3 w) 0).2=0:=ha;have har2:=har;rw[<-tw,<-tc]at har2;rcases bb (r==0||La (r∈w.Q))with hc0|hc0<;>have hc0p:=hc0<;>simp only[bs]at hc0p;rw[show w.took.put (B3 w).toNat r (address w.j.C (B3 w) (0:Int)).1 (↑(Z1 (Z7 (w.j.W.getD ((r-(4096:Int)).toNat+Lc (0:Int)) M)).1).toNat:Int)=w from by exact absurd hc0p (by simp[c1,c2])];exact absurd hc0p (by simp[c1,c2]);obtain⟨hc0pa,hc0pb⟩:=hc0p;rcases bb (!(Z7 (w.j.W.getD ((r-4096).toNat+Lc 0) M)).2||Ld)with hc1|hc1<;>have hc1p:=hc1<;>simp only[bs]at hc1p;rw[show w.took.put (B3 w).toNat r (address w.j.C (B3 w) (0:Int)).1 (↑(Z1 (Z7 (w.j.W.getD ((r-(4096:Int)).toNat+Lc (0:Int)) M)).1).toNat:Int)=w from by exact absurd hc1p (by rw[dc];simp)];exact absurd hc1p (by rw[dc];simp);obtain⟨hc1pa,hc1pb⟩:=hc1p;let y0:=w.j.W.getD ((r-4096).toNat+Lc 0) M;let y1:=(0:Int)<=0/\Lc 0<Lc 1;let y2:=Z1 (Z7 y0).1;exact borF [0,1,8002,3,8004,8005] [129165,130165,145177] func132 []<|Fh 48 [.el (wD y0)]<|Fh 75 [.bor [0,1,8002,3,8004,8005] (bL (ZR w (Z4 w.j.C r).1)) [],.br Ld]<|Fh 143 [.el (wD y0)]<|Fh 160 [.br Ld]<|FcG 27 (!r==0) (λhg=>by(try simp only[bs]at hg);exact@Es w.Q r oq)<|Ff 28 hc0<|Fc 35 (@Es w.old r oq)<|Ffb 36 (!decide (r∈w.old))<|Fbq 40 [0,1,8002,3,8004,8005] (@H9 w r (1) aa oq)<|Fo y1<|Fa (ZT oq:(O wD w.j.W)[(r-4096).toNat+Lc 0]?=Le (wD y0))<|Fc 49 (@Rc y0 oq oq)<|Fa ‹(ZQ y0).2=Ld›<|Fc 61 (@Gs w.j.C r oq oq)<|Fl 71 Z0.dv w.j.P<|Ffb 52 (La ((w.j.P.length:Int)<=(Z4 w.j.C r).1))<|Fa (@Se w ((Z4 w.j.C r).1) aa)<|Fa ‹ZR w (Z4 w.j.C r).1=Ld›<|Fmq 89 Z0.dv w.j.P ((Z4 w.j.C r).1)<|Ffb 72 ((w.j.P.getD (Z4 w.j.C r).1.toNat M).K==2)<|Fo y1<|Fa (ZT oq:(O wD w.j.W)[(r-4096).toNat+Lc 0]?=Le (wD y0))<|Fc 144 (@GX y0 oq oq)<|Fc 151 (@CK ((Z7 y0).1) aa)<|Fbq 152 [0,1,8002,3,8004,8005] (@H9 w r y2 aa oq)<|Ff 90 hc1<|Fg 164 (by assumption:(y2.toNat:Int)=Z1 (Z7 y0).1)<|Fbr 165 [0,1,8002,3,8004,8005] (@Zlz w y2 aa aa aa aa)<|Fbr 177 [0,1,129165,3,130165,8005] (@Z9T w.took r (B3 w) (0) (y2.toNat) aa oq oq aa oq oq aa oq) Fz
end
def HN(e:Int)(h:e=0):GP 78 [nI e] Lb (.tu []) []:=by subst h;exact gF [] func78 [] Fz
def ZeT{c a}(e:(Z4 c a).2.2=0):Zm c=Lb/\4096<=a/\a<4096+c.pw*c.pg/\0<=(Z4 c a).1/\(Z4 c a).1<c.pg/\0<=(Z4 c a).2.1/\(Z4 c a).2.1<c.pw/\(Z4 c a).1*c.pw+(Z4 c a).2.1=a-4096:=by unfold Z4 at e⊢;by_cases b:Zm c=Lb;rw[if_pos b]at e⊢;have hb:=BR.1 b;by_cases q:4096<=a/\a<4096+c.pw*c.pg;rw[if_pos q]at e⊢;have d:0<=(a-4096)/c.pw:=Int.ediv_nonneg oq oq;have d1:(a-4096)/c.pw<c.pg:=Int.ediv_lt_of_lt_mul oq (by rw[Lt];omega);refine⟨b,q.1,q.2,d,d1,Int.emod_nonneg _ oq,Int.emod_lt_of_pos _ oq, ?_⟩;simp only;rw[Lt];exact Int.mul_ediv_add_emod _ _;rw[if_neg q]at e;simp at e;rw[if_neg b]at e;simp at e
def Z9r(w:Z8) r(ww:Zz w.j.W)(wl:w.j.W.length<=4096)(ql:w.Q.length<=1048576)(hL:(w.j.W.length:Int)=w.j.C.pw*w.j.C.pg)(o:(Z4 w.j.C r).2.2=0):GP 134 [w.av,uU r] Lb (uU (Cb w r)) []:=by
 obtain⟨d,r1,r2,e,p2,p3,p4,f⟩:=ZeT o;have b:Z5 w.j.W r=(w.j.W.getD ((Z4 w.j.C r).1*w.j.C.pw+(Z4 w.j.C r).2.1).toNat M,0):=by rw[Z5,if_pos oq,f];rfl
 have hb:=BR.1 d;have wr:=Z1w ww ((Z4 w.j.C r).1*w.j.C.pw+(Z4 w.j.C r).2.1).toNat
 have m0:0<=(Z4 w.j.C r).1*w.j.C.pw:=Lu e oq;unfold Cb;by_cases c:r∈w.Q;rw[if_pos c];exact gF [] func134 []<|Fh 13 [.call Lb (bL (La (r∈w.Q))) [],.br Lb]<|Fa (@Es w.Q r aa)<|Fb (La (r∈w.Q)=Lb) Fz;rw[if_neg c,b];let a:=(Z4 w.j.C r).1*w.j.C.pw+(Z4 w.j.C r).2.1;exact gF [] func134 []<|Fh 13 [.call Lb (bL (La (r∈w.Q))) [],.br Ld]<|Fa (@Es w.Q r aa)<|Fb (La (r∈w.Q)=Ld)<|Fc 20 (@Gs w.j.C r oq oq)<|Fc 25 (@HN ((Z4 w.j.C r).2.2) aa)<|Fi 35 ((Z4 w.j.C r).1*w.j.C.pw)<|Fi 37 a<|Fe 38 wD w.j.W a<|Fc 40 (@Rc (w.j.W.getD a.toNat M) (by grind[]) (by grind[])) Fz
def Z8.evD(w:Z8):Z3:=.box 129 w.cells
def wkL(w:Z8)(k out:List Int)(i:Nat):Tg:=⟨tm 39 [(0,.pt 0 0 0),(4,.d (.sl 0 [])),(5,.ow 24005),(9,Z2 k),(10,nI k.length),(11,nI i)],[(24005,.arr 44 1 (out.map wD)),(0,w.evD)],5⟩
section
variable(w:Z8)(k out:List Int)(i:Nat)(ww:Zz w.j.W)(wl:w.j.W.length<=4096)(ql:w.Q.length<=1048576)(hL:(w.j.W.length:Int)=w.j.C.pw*w.j.C.pg)(hk:k.length<=1000)(ho:out.length<=1000)(hi:i<k.length)(hx:0<=k.getD i M/\k.getD i M<=18446744073709551615)(hc:0<=w.rep.cleared/\w.rep.cleared<=1048576)(o:k.getD i M=0\/(Z4 w.j.C (k.getD i M)).2.2=0)
include ww wl ql hL hk ho hi hx hc o
theorem Zhg:CP (Zn f81 0) (wkL w k out i).st .nrm (wkL (Hw w (k.getD i M)) k (out++[N0 w (k.getD i M)]) (i+1)).st:=by
 by_cases d:k.getD i M=0;have e:N0 w (k.getD i M)=0:=by rw[N0,if_pos d]
 have c:Hw w (k.getD i M)=w:=by rw[Hw,if_neg (by rintro⟨q,_⟩;exact q d)]
 rw[e,c];exact sF [(72036,24005)] []<|Fh 36 [.els (O wD (out++[0]))]<|Ftb 12 (La ((i:Int)<(k.length:Int)))<|Fek 13 wD k (↑i) i<|Ffb 16 (k.getD i M != 0)<|Fs 35 (O wD [0])<|Fa (by(simp[*];omega):(O wD out).length+(O wD [0]).length<=2^30)<|Fa (ms:O wD out++O wD [0]=O wD (out++[0]))<|Fx 37 i Fz;have e:N0 w (k.getD i M)=Cb w (k.getD i M):=by rw[N0,if_neg d]
 have o2:(Z4 w.j.C (k.getD i M)).2.2=0:=o.resolve_left d;rw[e];by_cases f:Cb w (k.getD i M)=0;have c:Hw w (k.getD i M)=⟨w.j,w.old,w.T,w.Q,w.D,⟨w.rep.copied,w.rep.kept,w.rep.filled,w.rep.freed,w.rep.cleared+1,w.rep.steps⟩⟩:=by rw[Hw,if_pos ⟨d,f⟩]
 rw[c];let a:=k.getD i M;exact sF [(96036,24005)] []<|Fh 36 [.els (O wD (out++[Cb w a]))]<|Ftb 12 (La ((i:Int)<(k.length:Int)))<|Fek 13 wD k (↑i) i<|Ftb 16 (k.getD i M != 0)<|Fc 21 (@Z9r w a aa aa aa oq aa)<|Ftb 23 (Cb w a==0)<|Fi 29 (w.rep.cleared+1)<|Fs 35 (O wD [Cb w a])<|Fa (by(simp[*];omega):(O wD out).length+(O wD [Cb w a]).length<=2^30)<|Fa (ms:O wD out++O wD [Cb w a]=O wD (out++[Cb w a]))<|Fx 37 i Fz;have c:Hw w (k.getD i M)=w:=by rw[Hw,if_neg (by rintro⟨_,q⟩;exact f q)]
 rw[c];let b:=k.getD i M;exact sF [(88036,24005)] []<|Fh 36 [.els (O wD (out++[Cb w b]))]<|Ftb 12 (La ((i:Int)<(k.length:Int)))<|Fek 13 wD k (↑i) i<|Ftb 16 (k.getD i M != 0)<|Fc 21 (@Z9r w b aa aa aa oq aa)<|Ffb 23 (Cb w b==0)<|Fs 35 (O wD [Cb w b])<|Fa (by(simp[*];omega):(O wD out).length+(O wD [Cb w b]).length<=2^30)<|Fa (ms:O wD out++O wD [Cb w b]=O wD (out++[Cb w b]))<|Fx 37 i Fz
end
def ZiC w k out:CP (Zn f81 0) (wkL w k out k.length).st (.ext 0) (Tg.st ⟨tm 39 [(0,.pt 0 0 0),(4,.d (.sl 0 [])),(5,.ow 24005)],[(24005,.arr 44 1 (out.map wD)),(0,w.evD)],5⟩):=by exact sF [] []<|Ffb 12 (La ((k.length:Int)<(k.length:Int))) Fz
structure Ze2 (w:Z8) (k:List Int):Prop where
 ww:Zz w.j.W
 wl:w.j.W.length<=4096
 ql:w.Q.length<=1048576
 hL:(w.j.W.length:Int)=w.j.C.pw*w.j.C.pg
 hk:k.length<=1000
 hx:CR k
 hc:w.rep.cleared=0
 o:∀x∈k,x=0\/(Z4 w.j.C x).2.2=0
section
variable(w:Z8)(k:List Int)(c:Ze2 w k)
include c
def Zec  := Bs (S:=λi=>(wkL (EG w k i) k (Cy w k i) i).st) k.length (by kernel_rfl) (λi b=>by
  obtain⟨a,h2,h3,d,h5,h6,h7,h8⟩:=Ae w k i;have mem:k.getD i M∈k:=C1.2 ⟨i,b,rfl⟩;have hc:=c.hc;have hk:=c.hk;exact Zhg (EG w k i) k (Cy w k i) i (by rw[a];exact c.ww) (by rw[a];exact c.wl) (by rw[d];exact c.ql) (by rw[a];exact c.hL) c.hk (by rw[Z0A];omega) b (c.hx _ mem) (by omega) (by rw[a];exact c.o _ mem)) (ZiC (EG w k k.length) k (Cy w k k.length))
theorem Zk1:BP 81 [.pt 0 0 0,Z2 k] [w.evD] (.ow 1) [(EG w k k.length).evD,Bj (Cy w k k.length)]:=by have hk:=c.hk;exact borF [0] [24005] func81 []<|Fh 5 [.own]<|Fl 10 wD k<|Fu (@Zec w k aa) Fz
end
def BN(l:List Z0)(i m:Nat):List Z0:=(LI l.length).map λj=>if i<=j/\j<=i+m then⟨0,0,0,0⟩else l.getD j M
def P8 l i m:(BN l i m).length=l.length:=by simp[BN]
def Z7h{l:List Z0}{i m j:Nat}(h:j<l.length):(BN l i m).getD j M=if i<=j/\j<=i+m then⟨0,0,0,0⟩else l.getD j M:=by rw[Lk,Lm (by rw[P8];exact h)];simp[BN]
def Zdg{l i}:BN l i 0=l.set i ⟨0,0,0,0⟩:=by
 refine Lw (by simp[BN]) λj h1 b=>?_;have h:j<l.length:=by simpa using b
 have e:l.getD j M=l[j]:=by simp[Lk,h]
 simp only[BN,Lx,LB,LC,e];by_cases a:i=j;subst a;rw[if_pos oq,if_pos rfl];rw[if_neg oq,if_neg a]
def Zeh{l:List Z0}{i m:Nat}(h:i+1+m<l.length):(BN l i m).set (i+1+m) ⟨0,0,0,0⟩=BN l i (m+1):=by
 refine Lw (by simp[BN]) λj h1 b=>?_;have h:j<l.length:=by simpa[BN]using b
 simp only[BN,Lx,LB,LC];by_cases a:i+1+m=j;subst a;rw[if_pos rfl,if_pos oq];rw[if_neg a];by_cases hk:i<=j/\j<=i+m;rw[if_pos hk,if_pos oq];rw[if_neg hk,if_neg oq]
def Z9g{l i m}:(BN l i m).getD (i+1+m) M=l.getD (i+1+m) M:=by by_cases h:i+1+m<l.length;rw[Z7h h,if_neg oq];rw[Lk,Lk,Lq (by rw[P8];omega),Lq oq]
def P7(l:List Z0)(i:Int)(m:Nat):Tg:=⟨tm 59 [(4,.d (.sl 0 [])),(5,nI 0),(6,nI (l.getD i.toNat M).K),(7,.ow 41029),(8,nI (i+1+m))],[(41029,.arr 79 4 ((BN l i.toNat m).map Z0.dv))],60⟩
section
variable(l:List Z0)(i:Int)(hl:l.length<=1048576)(hi:0<=i/\i<l.length)(hk:(l.getD i.toNat M).K=2)
include hl hi hk
theorem ZdK(m:Nat)(hm:m<ZC l i.toNat):CP (Zn f139 0) (P7 l i m).st .nrm (P7 l i (m+1)).st:=by
 obtain⟨t1,t2⟩:=Sd hm;have ha:=Z9g (l:=l) (i:=i.toNat) (m:=m);have hq:=Zeh (l:=l) (i:=i.toNat) (m:=m) t1;have hn:=P8 l i.toNat m;have eN:i.toNat+1+m=(i+1+(m:Int)).toNat:=by omega
 rw[eN]at ha hq t2;have t3:((BN l i.toNat m).getD (i+1+(m:Int)).toNat M).K=3:=by rw[ha];exact t2
 exact sF [] (fP 14)<|Fh 10057 [.els (O Z0.dv ((BN l i.toNat m).set (i+1+(m:Int)).toNat (Z0.mk 0 0 0 0)))]<|FlG 41 ((l.getD i.toNat M).K==2) Z0.dv (BN l i.toNat m)<|FmGq 49 ((l.getD i.toNat M).K==2&&La (i+1+(m:Int)<(↑(BN l i.toNat m).length:Int))) Z0.dv (BN l i.toNat m) (i+1+(m:Int))<|Ftb 51 ((l.getD i.toNat M).K==2&&La (i+1+(m:Int)<(↑(BN l i.toNat m).length:Int))&&((BN l i.toNat m).getD (i+1+(m:Int)).toNat M).K==3)<|Fa (by(simp only[Lj];omega):0<=i+1+(m:Int)/\(i+1+(m:Int)).toNat<(O Z0.dv (BN l i.toNat m)).length)<|Fa (by(simp only[Lj];omega):(i+1+(m:Int)).toNat<(O Z0.dv (BN l i.toNat m)).length)<|Fa (by rw[Lr];rfl:(O Z0.dv (BN l i.toNat m)).set (i+1+(m:Int)).toNat [Ze 0,Ze 0,Ze 0,Ze 0]=O Z0.dv ((BN l i.toNat m).set (i+1+(m:Int)).toNat (Z0.mk 0 0 0 0)))<|Fi 53 (i+1+(m:Int)+1)<|Fo (i+1+(m:Int)+1=i+1+(↑(m+1):Int))<|Fr (79:Int)<|Fa (by refine congrArg _ ?_;assumption:O Z0.dv ((BN l i.toNat m).set (i+1+(m:Int)).toNat (Z0.mk 0 0 0 0))=O Z0.dv (BN l i.toNat (m+1))) Fz
theorem Zd4:CP (Zn f139 0) (P7 l i (ZC l i.toNat)).st (.ext 0) (Tg.st ⟨tm 59 [(4,.d (.sl 0 [])),(5,nI 0),(7,.ow 41029)],[(41029,.arr 79 4 ((BN l i.toNat (ZC l i.toNat)).map Z0.dv))],60⟩):=by
 have ha:=Z9g (l:=l) (i:=i.toNat) (m:=ZC l i.toNat);have hn:=P8 l i.toNat (ZC l i.toNat);have eN:i.toNat+1+ZC l i.toNat=(i+1+(ZC l i.toNat:Int)).toNat:=by omega
 have t3:(i+1+(ZC l i.toNat:Int))<l.length->¬ ((BN l i.toNat (ZC l i.toNat)).getD (i+1+(ZC l i.toNat:Int)).toNat M).K=3:=λh=>by(rw[<-eN,ha];exact Mv oq)
 by_cases h:(i+1+(ZC l i.toNat:Int))<l.length;have t4:=t3 h;exact sF [] []<|FlG 41 ((l.getD i.toNat M).K==2) Z0.dv (BN l i.toNat (ZC l i.toNat))<|FmGq 49 ((l.getD i.toNat M).K==2&&La (i+1+(↑(ZC l i.toNat):Int)<(↑(BN l i.toNat (ZC l i.toNat)).length:Int))) Z0.dv (BN l i.toNat (ZC l i.toNat)) (i+1+(↑(ZC l i.toNat):Int))<|Ffb 51 ((l.getD i.toNat M).K==2&&La (i+1+(↑(ZC l i.toNat):Int)<(↑(BN l i.toNat (ZC l i.toNat)).length:Int))&&((BN l i.toNat (ZC l i.toNat)).getD (i+1+(↑(ZC l i.toNat):Int)).toNat M).K==3) Fz;exact sF [] []<|FlG 41 ((l.getD i.toNat M).K==2) Z0.dv (BN l i.toNat (ZC l i.toNat))<|FmGq 49 ((l.getD i.toNat M).K==2&&La (i+1+(↑(ZC l i.toNat):Int)<(↑(BN l i.toNat (ZC l i.toNat)).length:Int))) Z0.dv (BN l i.toNat (ZC l i.toNat)) (i+1+(↑(ZC l i.toNat):Int))<|Ffb 51 ((l.getD i.toNat M).K==2&&La (i+1+(↑(ZC l i.toNat):Int)<(↑(BN l i.toNat (ZC l i.toNat)).length:Int))&&((BN l i.toNat (ZC l i.toNat)).getD (i+1+(↑(ZC l i.toNat):Int)).toNat M).K==3) Fz
theorem Zdq:CP (Zl f139 0) (Tg.st ⟨tm 59 [(4,.d (.sl 0 [])),(5,nI 0),(6,nI (l.getD i.toNat M).K),(7,.ow 41029),(8,nI (i+1))],[(41029,.arr 79 4 ((l.set i.toNat ⟨0,0,0,0⟩).map Z0.dv))],60⟩) .nrm (Tg.st ⟨tm 59 [(4,.d (.sl 0 [])),(5,nI 0),(7,.ow 41029)],[(41029,.arr 79 4 ((BN l i.toNat (ZC l i.toNat)).map Z0.dv))],60⟩):=by have h:=Bs (S:=λj=>(P7 l i j).st) (ZC l i.toNat) kr (λj a=>ZdK l i hl hi hk j a) (Zd4 l i hl hi hk);simp only[P7,Zdg]at h;rw[show i+1+((0:Nat):Int)=i+1 from by omega]at h;exact h
end
def Z77(l:List Z0)(i:Int):Tg:=⟨tm 59 [(4,.d (.sl 0 [])),(5,nI 0),(6,nI (l.getD i.toNat M).K),(7,.ow 41029),(8,nI (i+1))],[(41029,.arr 79 4 ((l.set i.toNat ⟨0,0,0,0⟩).map Z0.dv))],60⟩
def Zkz(l:List Z0)(i:Int)(hl:l.length<=1048576)(hi:0<=i/\i<l.length)(hk:(l.getD i.toNat M).K=1):CP (Zn f139 0) (Z77 l i).st (.ext 0) (Tg.st ⟨tm 59 [(4,.d (.sl 0 [])),(5,nI 0),(7,.ow 41029)],[(41029,.arr 79 4 ((l.set i.toNat ⟨0,0,0,0⟩).map Z0.dv))],60⟩):=by exact sF [] []<|Fh 41 [.int ↑l.length]<|Fa (by intro hg;(try simp only[bs]at hg);simp only[Lj,List.length_append,List.length_take,List.length_drop,Ly,List.length_replicate,List.length_nil,List.length_cons]:((l.getD i.toNat M).K==2)=Lb->(↑(O Z0.dv (l.set i.toNat (Z0.mk 0 0 0 0))).length:Int)=(l.length:Int))<|FmGq 49 ((l.getD i.toNat M).K==2&&La (i+1<(l.length:Int))) Z0.dv (l.set i.toNat (Z0.mk 0 0 0 0)) (i+1)<|Ffb 51 ((l.getD i.toNat M).K==2&&La (i+1<(l.length:Int))&&((l.set i.toNat (Z0.mk 0 0 0 0)).getD (i+1).toNat M).K==3) Fz
def ZgV(l:List Z0)(i:Int)(hl:l.length<=1048576)(a:0<=i/\i<l.length)(hk:(l.getD i.toNat M).K=1)  := Bs (S:=λ_=>(Z77 l i).st) 0 (by kernel_rfl) (λj b=>absurd b (Nat.not_lt_zero j)) (Zkz l i hl a hk)
def ZfC(l:List Z0)(i:Int)(hl:l.length<=1048576)(hi:0<=i/\i<l.length)(hk:(l.getD i.toNat M).K=1):GP 139 [ZJ l,nI i] Lb (.tu [ZJ (l.set i.toNat ⟨0,0,0,0⟩),nI 0]) []:=by have hne:l≠[]:=Sa oq;let y0:=l.set i.toNat (Z0.mk 0 0 0 0);exact gF [] func139 []<|Fh 10033 [.els (O Z0.dv y0)]<|FlG 14 (!decide (i<0)) Z0.dv l<|Ffb 16 (La (i<0)||La ((l.length:Int)<=i))<|Fe 19 Z0.dv l i<|Ffb 27 ((l.getD i.toNat M).K != 1&&(l.getD i.toNat M).K != 2)<|Fc 29 (@Z27 l aa)<|Fa (by(simp only[Lj];omega):0<=i/\i.toNat<(O Z0.dv l).length)<|Fa (by(simp only[Lj];omega):i.toNat<(O Z0.dv l).length)<|Fa (by rw[Lr];rfl:(O Z0.dv l).set i.toNat [Ze 0,Ze 0,Ze 0,Ze 0]=O Z0.dv y0)<|Fi 35 (i+1)<|Fu (@ZgV l i aa aa aa)<|Fa (IP _:Ca (O Z0.dv y0)) Fz
def Zgo(l:List Z0)(i:Int)(hl:l.length<=1048576)(hi:0<=i/\i<l.length)(hk:(l.getD i.toNat M).K=2):GP 139 [ZJ l,nI i] Lb (.tu [ZJ (BN l i.toNat (ZC l i.toNat)),nI 0]) []:=by have hne:l≠[]:=Sa oq;exact gF [] func139 []<|Fh 10033 [.els (O Z0.dv (l.set i.toNat (Z0.mk 0 0 0 0)))]<|FlG 14 (!decide (i<0)) Z0.dv l<|Ffb 16 (La (i<0)||La ((l.length:Int)<=i))<|Fe 19 Z0.dv l i<|Ffb 27 ((l.getD i.toNat M).K != 1&&(l.getD i.toNat M).K != 2)<|Fc 29 (@Z27 l aa)<|Fa (by(simp only[Lj];omega):0<=i/\i.toNat<(O Z0.dv l).length)<|Fa (by(simp only[Lj];omega):i.toNat<(O Z0.dv l).length)<|Fa (by rw[Lr];rfl:(O Z0.dv l).set i.toNat [Ze 0,Ze 0,Ze 0,Ze 0]=O Z0.dv (l.set i.toNat (Z0.mk 0 0 0 0)))<|Fi 35 (i+1)<|Fu (@Zdq l i aa aa aa)<|Fa (IP _:Ca (O Z0.dv (BN l i.toNat (ZC l i.toNat)))) Fz
def frL(w:Z8)(a b:List Z0)(ws:List Int)(n:Int)(i:Nat):Tg:=⟨tm 88 [(0,.pt 0 0 0),(2,.pt 0 0 0),(21,ZJ a),(22,nI a.length),(23,nI i)],[(0,.box 129 [nI w.j.C.pw,nI w.j.C.pg,.ow 25015,ZJ b,nI w.j.S,nI w.j.B,Z2 w.old,ZG w.T,Z2 w.Q,nI w.D,nI w.rep.copied,nI w.rep.kept,nI w.rep.filled,nI n,nI w.rep.cleared,nI w.rep.steps]),(25015,.arr 44 1 (ws.map wD))],5⟩
section
variable(w:Z8)(qs ps:List Z0)(ws:List Int)(n:Int)(i:Nat)(hl:qs.length<=64)(hi:i<qs.length)
include hl hi
theorem Zi0(c:¬ Ga w.j.S (qs.getD i M)):CP (Zn f83 0) (frL w qs ps ws n i).st .nrm (frL w qs ps ws n (i+1)).st:=by unfold Ga at c;by_cases d:(qs.getD i M).K=0;exact sF [] []<|Ftb 24 (La ((i:Int)<(qs.length:Int)))<|Fek 26 Z0.dv qs (↑i) i<|Ftb 39 ((qs.getD i M).K==0||(qs.getD i M).S != w.j.S)<|Fx 87 i Fz;have d2:¬ (qs.getD i M).S=w.j.S:=λq=>c ⟨d,q⟩;exact sF [] []<|Ftb 24 (La ((i:Int)<(qs.length:Int)))<|Fek 26 Z0.dv qs (↑i) i<|Ftb 39 ((qs.getD i M).K==0||(qs.getD i M).S != w.j.S)<|Fx 87 i Fz
omit hl hi in
theorem Z1q a m:Cc (O wD ws) a (Ls m [ZD 0])=O wD (C6 ws a (Ls m 0)):=by simp[Cc,wD,C6]
theorem Zjd(c:Ga w.j.S (qs.getD i default))(k3:(qs.getD i default).K=3)(hp:0≤w.j.C.pw∧w.j.C.pw≤64)(hw:i*w.j.C.pw.toNat+w.j.C.pw.toNat≤ws.length)(hw2:ws.length≤4096)(hn:0≤n∧n≤64):CSpec Tryz.prog (Zn Tryz.f83 0) (frL w qs ps ws n i).st .nrm (frL w qs ps (C6 ws (i*w.j.C.pw.toNat) (List.replicate w.j.C.pw.toNat 0)) (n+1) (i+1)).st:=by
 obtain⟨c1,c2⟩:=c
 have em:(i:Int)*w.j.C.pw=((i*w.j.C.pw.toNat:Nat):Int):=by rw[Int.natCast_mul,Int.toNat_of_nonneg hp.1]
 have em2:((i+1:Nat):Int)*w.j.C.pw=((i*w.j.C.pw.toNat+w.j.C.pw.toNat:Nat):Int):=by rw[Int.natCast_add,Int.add_mul,em];omega
 have t1:((i:Int)*w.j.C.pw).toNat=i*w.j.C.pw.toNat:=by omega
 have t2:(((i+1:Nat):Int)*w.j.C.pw).toNat-i*w.j.C.pw.toNat=w.j.C.pw.toNat:=by omega
 exact sF [] (fO 13)<|Fh 20000 [.els (List.map wD (List.take ((↑i:Int)*w.j.C.pw).toNat ws++List.replicate (((↑(i+1):Int)*w.j.C.pw).toNat-((↑i:Int)*w.j.C.pw).toNat) 0++List.drop (((↑i:Int)*w.j.C.pw).toNat+(List.replicate (((↑(i+1):Int)*w.j.C.pw).toNat-((↑i:Int)*w.j.C.pw).toNat) (0:Int)).length) ws))]<|Ftb 24 (decide ((↑i:Int)<(↑qs.length:Int)))<|Fek 26 Z0.dv qs (↑i) i<|Ffb 39 ((qs.getD i default).K==0||(qs.getD i default).S != w.j.S)<|Fi 50 ((↑i:Int)*w.j.C.pw)<|Fx 52 i<|Fi 58 ((↑(i+1):Int)*w.j.C.pw)<|Fa (by(simp only[List.length_map];omega):0≤(↑i:Int)*w.j.C.pw∧(↑i:Int)*w.j.C.pw≤(↑(i+1):Int)*w.j.C.pw∧(↑(i+1):Int)*w.j.C.pw≤(↑(List.map wD ws).length:Int))<|Fa (Z1q _ _ _:Cc (List.map wD ws) ((↑i:Int)*w.j.C.pw).toNat (List.replicate (((↑(i+1):Int)*w.j.C.pw).toNat-((↑i:Int)*w.j.C.pw).toNat) [ZD 0])=List.map wD (List.take ((↑i:Int)*w.j.C.pw).toNat ws++List.replicate (((↑(i+1):Int)*w.j.C.pw).toNat-((↑i:Int)*w.j.C.pw).toNat) 0++List.drop (((↑i:Int)*w.j.C.pw).toNat+(List.replicate (((↑(i+1):Int)*w.j.C.pw).toNat-((↑i:Int)*w.j.C.pw).toNat) (0:Int)).length) ws))<|Fi 65 (n+1)<|Ffb 71 ((qs.getD i default).K != 3)<|Fx 87 i<|Fr (44:Int)<|Fa (by refine congrArg _ ?_;rw[t1,t2];rfl:List.map wD (List.take ((↑i:Int)*w.j.C.pw).toNat ws++List.replicate (((↑(i+1):Int)*w.j.C.pw).toNat-((↑i:Int)*w.j.C.pw).toNat) 0++List.drop (((↑i:Int)*w.j.C.pw).toNat+(List.replicate (((↑(i+1):Int)*w.j.C.pw).toNat-((↑i:Int)*w.j.C.pw).toNat) (0:Int)).length) ws)=List.map wD (C6 ws (i*w.j.C.pw.toNat) (List.replicate w.j.C.pw.toNat 0))) Fz
theorem Zbq(c:Ga w.j.S (qs.getD i default))(k3:(qs.getD i default).K=1)(pl:ps.length≤64)(ip:i<ps.length)(kp:(ps.getD i default).K=1)(hp:0≤w.j.C.pw∧w.j.C.pw≤64)(hw:i*w.j.C.pw.toNat+w.j.C.pw.toNat≤ws.length)(hw2:ws.length≤4096)(hn:0≤n∧n≤64):CSpec Tryz.prog (Zn Tryz.f83 0) (frL w qs ps ws n i).st .nrm (frL w qs (ps.set i ⟨0,0,0,0⟩) (C6 ws (i*w.j.C.pw.toNat) (List.replicate w.j.C.pw.toNat 0)) (n+1) (i+1)).st:=by
 obtain⟨c1,c2⟩:=c
 have em:(i:Int)*w.j.C.pw=((i*w.j.C.pw.toNat:Nat):Int):=by rw[Int.natCast_mul,Int.toNat_of_nonneg hp.1]
 have em2:((i+1:Nat):Int)*w.j.C.pw=((i*w.j.C.pw.toNat+w.j.C.pw.toNat:Nat):Int):=by rw[Int.natCast_add,Int.add_mul,em];omega
 have t1:((i:Int)*w.j.C.pw).toNat=i*w.j.C.pw.toNat:=by omega
 have t2:(((i+1:Nat):Int)*w.j.C.pw).toNat-i*w.j.C.pw.toNat=w.j.C.pw.toNat:=by omega
 have kp2:(ps.getD (i:Int).toNat default).K=1:=kp
 exact sF [] (fO 13)<|Fh 20000 [.els (List.map wD (List.take ((↑i:Int)*w.j.C.pw).toNat ws++List.replicate (((↑(i+1):Int)*w.j.C.pw).toNat-((↑i:Int)*w.j.C.pw).toNat) 0++List.drop (((↑i:Int)*w.j.C.pw).toNat+(List.replicate (((↑(i+1):Int)*w.j.C.pw).toNat-((↑i:Int)*w.j.C.pw).toNat) (0:Int)).length) ws))]<|Ftb 24 (decide ((↑i:Int)<(↑qs.length:Int)))<|Fek 26 Z0.dv qs (↑i) i<|Ffb 39 ((qs.getD i default).K==0||(qs.getD i default).S != w.j.S)<|Fi 50 ((↑i:Int)*w.j.C.pw)<|Fx 52 i<|Fi 58 ((↑(i+1):Int)*w.j.C.pw)<|Fa (by(simp only[List.length_map];omega):0≤(↑i:Int)*w.j.C.pw∧(↑i:Int)*w.j.C.pw≤(↑(i+1):Int)*w.j.C.pw∧(↑(i+1):Int)*w.j.C.pw≤(↑(List.map wD ws).length:Int))<|Fa (Z1q _ _ _:Cc (List.map wD ws) ((↑i:Int)*w.j.C.pw).toNat (List.replicate (((↑(i+1):Int)*w.j.C.pw).toNat-((↑i:Int)*w.j.C.pw).toNat) [ZD 0])=List.map wD (List.take ((↑i:Int)*w.j.C.pw).toNat ws++List.replicate (((↑(i+1):Int)*w.j.C.pw).toNat-((↑i:Int)*w.j.C.pw).toNat) 0++List.drop (((↑i:Int)*w.j.C.pw).toNat+(List.replicate (((↑(i+1):Int)*w.j.C.pw).toNat-((↑i:Int)*w.j.C.pw).toNat) (0:Int)).length) ws))<|Fi 65 (n+1)<|Ftb 71 ((qs.getD i default).K != 3)<|Fc 78 (@ZfC ps ((↑i:Int)) (by omega) (by omega) ‹_›)<|Fc 82 (@HN (0) (by rfl))<|Fx 87 i<|Fr (44:Int)<|Fa (by refine congrArg _ ?_;rw[t1,t2];rfl:List.map wD (List.take ((↑i:Int)*w.j.C.pw).toNat ws++List.replicate (((↑(i+1):Int)*w.j.C.pw).toNat-((↑i:Int)*w.j.C.pw).toNat) 0++List.drop (((↑i:Int)*w.j.C.pw).toNat+(List.replicate (((↑(i+1):Int)*w.j.C.pw).toNat-((↑i:Int)*w.j.C.pw).toNat) (0:Int)).length) ws)=List.map wD (C6 ws (i*w.j.C.pw.toNat) (List.replicate w.j.C.pw.toNat 0))) Fz
theorem ZlG(c:Ga w.j.S (qs.getD i default))(k3:(qs.getD i default).K=2)(pl:ps.length≤64)(ip:i<ps.length)(kp:(ps.getD i default).K=2)(hp:0≤w.j.C.pw∧w.j.C.pw≤64)(hw:i*w.j.C.pw.toNat+w.j.C.pw.toNat≤ws.length)(hw2:ws.length≤4096)(hn:0≤n∧n≤64):CSpec Tryz.prog (Zn Tryz.f83 0) (frL w qs ps ws n i).st .nrm (frL w qs (BN ps i (ZC ps i)) (C6 ws (i*w.j.C.pw.toNat) (List.replicate w.j.C.pw.toNat 0)) (n+1) (i+1)).st:=by
 obtain⟨c1,c2⟩:=c
 have em:(i:Int)*w.j.C.pw=((i*w.j.C.pw.toNat:Nat):Int):=by rw[Int.natCast_mul,Int.toNat_of_nonneg hp.1]
 have em2:((i+1:Nat):Int)*w.j.C.pw=((i*w.j.C.pw.toNat+w.j.C.pw.toNat:Nat):Int):=by rw[Int.natCast_add,Int.add_mul,em];omega
 have t1:((i:Int)*w.j.C.pw).toNat=i*w.j.C.pw.toNat:=by omega
 have t2:(((i+1:Nat):Int)*w.j.C.pw).toNat-i*w.j.C.pw.toNat=w.j.C.pw.toNat:=by omega
 have kp2:(ps.getD (i:Int).toNat default).K=2:=kp
 exact sF [] (fO 13)<|Fh 20000 [.els (List.map wD (List.take ((↑i:Int)*w.j.C.pw).toNat ws++List.replicate (((↑(i+1):Int)*w.j.C.pw).toNat-((↑i:Int)*w.j.C.pw).toNat) 0++List.drop (((↑i:Int)*w.j.C.pw).toNat+(List.replicate (((↑(i+1):Int)*w.j.C.pw).toNat-((↑i:Int)*w.j.C.pw).toNat) (0:Int)).length) ws))]<|Ftb 24 (decide ((↑i:Int)<(↑qs.length:Int)))<|Fek 26 Z0.dv qs (↑i) i<|Ffb 39 ((qs.getD i default).K==0||(qs.getD i default).S != w.j.S)<|Fi 50 ((↑i:Int)*w.j.C.pw)<|Fx 52 i<|Fi 58 ((↑(i+1):Int)*w.j.C.pw)<|Fa (by(simp only[List.length_map];omega):0≤(↑i:Int)*w.j.C.pw∧(↑i:Int)*w.j.C.pw≤(↑(i+1):Int)*w.j.C.pw∧(↑(i+1):Int)*w.j.C.pw≤(↑(List.map wD ws).length:Int))<|Fa (Z1q _ _ _:Cc (List.map wD ws) ((↑i:Int)*w.j.C.pw).toNat (List.replicate (((↑(i+1):Int)*w.j.C.pw).toNat-((↑i:Int)*w.j.C.pw).toNat) [ZD 0])=List.map wD (List.take ((↑i:Int)*w.j.C.pw).toNat ws++List.replicate (((↑(i+1):Int)*w.j.C.pw).toNat-((↑i:Int)*w.j.C.pw).toNat) 0++List.drop (((↑i:Int)*w.j.C.pw).toNat+(List.replicate (((↑(i+1):Int)*w.j.C.pw).toNat-((↑i:Int)*w.j.C.pw).toNat) (0:Int)).length) ws))<|Fi 65 (n+1)<|Ftb 71 ((qs.getD i default).K != 3)<|Fc 78 (@Zgo ps ((↑i:Int)) (by omega) (by omega) ‹_›)<|Fc 82 (@HN (0) (by rfl))<|Fx 87 i<|Fr (44:Int)<|Fa (by refine congrArg _ ?_;rw[t1,t2];rfl:List.map wD (List.take ((↑i:Int)*w.j.C.pw).toNat ws++List.replicate (((↑(i+1):Int)*w.j.C.pw).toNat-((↑i:Int)*w.j.C.pw).toNat) 0++List.drop (((↑i:Int)*w.j.C.pw).toNat+(List.replicate (((↑(i+1):Int)*w.j.C.pw).toNat-((↑i:Int)*w.j.C.pw).toNat) (0:Int)).length) ws)=List.map wD (C6 ws (i*w.j.C.pw.toNat) (List.replicate w.j.C.pw.toNat 0))) Fz
end
def Cm(s:Int)(a:List Z0):Nat->List Z0|0=>a|i+1=>if Ga s (a.getD i M)then(if(a.getD i M).K=1 then(Cm s a i).set i ⟨0,0,0,0⟩else if(a.getD i M).K=2 then BN (Cm s a i) i (ZC (Cm s a i) i)else Cm s a i)else Cm s a i
def AN s a:∀i,(Cm s a i).length=a.length
 |0=>rfl
 |i+1=>by
  have:=AN s a i;rw[Cm];split
  .split
   .rw[Ly];exact this
   .split
    .rw[P8];exact this
    .exact this
  .exact this
def Nn(c:ZU)(s:Int)(a:List Z0)(i j:Nat):Prop:=Ga s (a.getD j M)/\((a.getD j M).K=3->∃h,h<i/\h<j/\(a.getD h M).K=2/\(j:Int)<h+need c (a.getD h M).U)/\(¬ (a.getD j M).K=3->j<i)
section
variable{c:ZU}{s:Int}{qs:List Z0}(P:PT c qs)
include P
theorem Z6u{h i:Nat}(hi:i<qs.length)(h1:h<i)(k1:(qs.getD h M).K=2)(a:¬ (qs.getD i M).K=3):(h:Int)+need c (qs.getD h M).U<=i:=by by_cases q:(h:Int)+need c (qs.getD h M).U<=i;exact q;have:=(P.lg h oq k1).2 (i-h) oq oq;rw[show h+(i-h)=i by omega]at this;exact absurd this.2.1 a
theorem P9:∀i,i≤qs.length→∀j,j<qs.length→(Nn c s qs i j→(Cm s qs i).getD j default=⟨0,0,0,0⟩)∧(¬ Nn c s qs i j→(Cm s qs i).getD j default=qs.getD j default)
 |0,_,j,hj=>by
  refine⟨fun z=>?_,fun _=>rfl⟩
  by_cases k3:(qs.getD j default).K=3
  ·obtain⟨h,h0,_⟩:=z.2.1 k3;omega
  ·have:=z.2.2 k3;omega
 |i+1,hi,j,hj=>by
  obtain⟨h1,h2⟩:=P9 i (by omega) j hj
  have ln:=AN s qs i
  have same:(Nn c s qs (i+1) j↔Nn c s qs i j)→(Cm s qs (i+1)).getD j default=(Cm s qs i).getD j default→(Nn c s qs (i+1) j→(Cm s qs (i+1)).getD j default=⟨0,0,0,0⟩)∧(¬ Nn c s qs (i+1) j→(Cm s qs (i+1)).getD j default=qs.getD j default):=fun e1 e2=>by
   rw[e1,e2];exact⟨h1,h2⟩
  have up:Nn c s qs i j→Nn c s qs (i+1) j:=fun z=>⟨z.1,fun k=>by obtain⟨h,a,b⟩:=z.2.1 k;exact⟨h,by omega,b⟩,fun k=>by have:=z.2.2 k;omega⟩
  by_cases g:Ga s (qs.getD i default)
  rotate_left
  ·refine same ⟨fun z=>⟨z.1,fun k=>?_,fun k=>?_⟩,up⟩ (by rw[Cm,if_neg g])
   ·obtain⟨h,a,b,k2,d⟩:=z.2.1 k
    by_cases q:h=i
    ·subst q
     have t:=(P.lg h (by omega) k2).2 (j-h) (by omega) (by omega)
     rw[show h+(j-h)=j by omega]at t
     exact absurd ⟨by omega,by have:=z.1.2;have:=t.2.2;omega⟩ g
    ·exact⟨h,by omega,b,k2,d⟩
   ·have:=z.2.2 k
    by_cases q:j=i
    ·subst q;exact absurd z.1 g
    ·omega
  by_cases c1:(qs.getD i default).K=1
  ·have e:Cm s qs (i+1)=(Cm s qs i).set i ⟨0,0,0,0⟩:=by rw[Cm,if_pos g,if_pos c1]
   by_cases q:j=i
   ·subst q
    refine⟨fun _=>?_,fun z=>absurd ⟨g,fun k=>by omega,fun _=>by omega⟩ z⟩
    rw[e,List.getD_eq_getElem?_getD,List.getElem?_set_self (by omega)];rfl
   ·refine same ⟨fun z=>⟨z.1,fun k=>?_,fun k=>by have:=z.2.2 k;omega⟩,up⟩ (by rw[e,List.getD_eq_getElem?_getD,List.getElem?_set_ne (by omega),← List.getD_eq_getElem?_getD])
    obtain⟨h,a,b,k2,d⟩:=z.2.1 k
    have q:h<i:=by
     by_cases r:h=i
     ·subst r;omega
     ·omega
    exact⟨h,q,b,k2,d⟩
  by_cases c2:(qs.getD i default).K=2
  rotate_left
  ·have e:Cm s qs (i+1)=Cm s qs i:=by rw[Cm,if_pos g,if_neg c1,if_neg c2]
   have k3:(qs.getD i default).K=3:=by
    have:=(P.b i (by omega)).k
    have:=g.1
    omega
   refine same ⟨fun z=>⟨z.1,fun k=>?_,fun k=>?_⟩,up⟩ (by rw[e])
   ·obtain⟨h,a,b,k2,d⟩:=z.2.1 k
    have q:h<i:=by
     by_cases r:h=i
     ·subst r;omega
     ·omega
    exact⟨h,q,b,k2,d⟩
   ·have:=z.2.2 k
    by_cases q:j=i
    ·subst q;exact absurd k3 k
    ·omega
  ·have e:Cm s qs (i+1)=BN (Cm s qs i) i (ZC (Cm s qs i) i):=by rw[Cm,if_pos g,if_neg c1,if_pos c2]
   obtain⟨n1,nd⟩:=P.lg i (by omega) c2
   have mid:∀m:Nat,i<m→(m:Int)<i+need c (qs.getD i default).U→m<qs.length∧(qs.getD m default).K=3∧(qs.getD m default).S=s∧(Cm s qs i).getD m default=qs.getD m default:=fun m m1 m2=>by
    have t:=nd (m-i) (by omega) (by omega)
    rw[show i+(m-i)=m by omega]at t
    refine⟨t.1,t.2.1,t.2.2.trans g.2,(P9 i (by omega) m t.1).2 fun z=>?_⟩
    obtain⟨h,a,b,k2,d⟩:=z.2.1 t.2.1
    have:=Z6u P (by omega) a k2 (by omega)
    omega
   have T:((ZC (Cm s qs i) i:Nat):Int)+1=need c (qs.getD i default).U:=by
    by_cases q1:((ZC (Cm s qs i) i:Nat):Int)+1<need c (qs.getD i default).U
    ·obtain⟨m1,m2,_,m4⟩:=mid (i+1+ZC (Cm s qs i) i) (by omega) (by omega)
     have te:=Mv (l:=Cm s qs i) (i:=i) (by omega)
     rw[m4]at te
     exact absurd m2 te
    by_cases q2:need c (qs.getD i default).U<((ZC (Cm s qs i) i:Nat):Int)+1
    ·obtain⟨t1,t2⟩:=Sd (l:=Cm s qs i) (i:=i) (m:=(need c (qs.getD i default).U).toNat-1) (by omega)
     have eq:((i+1+((need c (qs.getD i default).U).toNat-1):Nat):Int)=i+need c (qs.getD i default).U:=by omega
     generalize i+1+((need c (qs.getD i default).U).toNat-1)=m at t1 t2 eq
     rw[ln]at t1
     have k3:(qs.getD m default).K=3:=by
      obtain⟨z1,z2⟩:=P9 i (by omega) m t1
      by_cases z:Nn c s qs i m
      ·rw[z1 z]at t2;simp at t2
      ·rwa [z2 z]at t2
     obtain⟨h,a,k2,d⟩:=P.tl m t1 k3
     by_cases r1:h<i
     ·have:=Z6u P (by omega) r1 k2 (by omega);omega
     by_cases r2:h=i
     ·subst r2;omega
     ·have t:=nd (h-i) (by omega) (by omega)
      rw[show i+(h-i)=h by omega]at t
      omega
    ·omega
   rw[e,Z7h (by omega)]
   by_cases q:i≤j∧j≤i+ZC (Cm s qs i) i
   ·rw[if_pos q]
    refine⟨fun _=>rfl,fun z=>absurd ?_ z⟩
    by_cases q2:j=i
    ·subst q2;exact⟨g,fun k=>by omega,fun _=>by omega⟩
    ·obtain⟨m1,m2,m3,_⟩:=mid j (by omega) (by omega)
     exact⟨⟨by omega,m3⟩,fun _=>⟨i,by omega,by omega,c2,by omega⟩,fun k=>absurd m2 k⟩
   ·rw[if_neg q]
    have ez:Nn c s qs (i+1) j↔Nn c s qs i j:=⟨fun z=>⟨z.1,fun k=>by
     obtain⟨h,a,b,k2,d⟩:=z.2.1 k
     refine⟨h, ?_,b,k2,d⟩
     by_cases r:h=i
     ·subst r;omega
     ·omega,fun k=>by have:=z.2.2 k;omega⟩,up⟩
    rw[ez]
    exact⟨h1,h2⟩
theorem ZeO:Cm s qs qs.length=qs.map (Gu s):=by
 refine Lw (by rw[AN,Lj]) λj a b=>?_;rw[AN]at a;obtain⟨f,i⟩:=P9 P qs.length (Nat.le_refl _) j a;have d:(Cm s qs qs.length)[j]=(Cm s qs qs.length).getD j M:=by rw[Lk,Lm (by rw[AN];exact a)];rfl
 have e:qs[j]=qs.getD j M:=by rw[Lk,Lm a];rfl
 rw[Lx,d,e];unfold Gu;by_cases g:Ga s (qs.getD j M);rw[if_pos g];exact f ⟨g,λk=>by obtain⟨h,x,y⟩:=P.tl j a k;exact⟨h,by omega,x,y⟩,λ_=>a⟩;rw[if_neg g];exact i λz=>g z.1
end
def Zi2 w a b ws n:CP (Zn f83 0) (frL w a b ws n a.length).st (.ext 0) (Tg.st ⟨tm 88 [(0,.pt 0 0 0)],[(0,.box 129 [nI w.j.C.pw,nI w.j.C.pg,.ow 25015,ZJ b,nI w.j.S,nI w.j.B,Z2 w.old,ZG w.T,Z2 w.Q,nI w.D,nI w.rep.copied,nI w.rep.kept,nI w.rep.filled,nI n,nI w.rep.cleared,nI w.rep.steps]),(25015,.arr 44 1 (ws.map wD))],5⟩):=by exact sF [] []<|Ffb 24 (La ((a.length:Int)<(a.length:Int))) Fz
section
variable(w:Z8)(hl:w.j.P.length<=64)(a:0<=w.j.C.pw/\w.j.C.pw<=64)(hs:w.j.P.length*w.j.C.pw.toNat<=w.j.W.length)(hw:w.j.W.length<=4096)(hr:w.rep.freed=0)(P:PT w.j.C w.j.P)
include hl a hs hw hr P
theorem Zc1:CP (Zl f83 0) (Tg.st ⟨tm 88 [(0,.pt 0 0 0),(2,.pt 0 0 0),(21,ZJ w.j.P),(22,nI w.j.P.length),(23,nI 0)],[(0,.box 129 [nI w.j.C.pw,nI w.j.C.pg,.ow 25015,ZJ w.j.P,nI w.j.S,nI w.j.B,Z2 w.old,ZG w.T,Z2 w.Q,nI w.D,nI w.rep.copied,nI w.rep.kept,nI w.rep.filled,nI w.rep.freed,nI w.rep.cleared,nI w.rep.steps]),(25015,.arr 44 1 (w.j.W.map wD))],5⟩) .nrm (Tg.st ⟨tm 88 [(0,.pt 0 0 0)],[(0,(HZ w).evD)],5⟩):=by
 refine CSpec.frz 25015 (t:=⟨tm 88 [(0,.pt 0 0 0)],[(0,.box 129 [nI w.j.C.pw,nI w.j.C.pg,.ow 25015,ZJ (w.j.P.map (Gu w.j.S)),nI w.j.S,nI w.j.B,Z2 w.old,ZG w.T,Z2 w.Q,nI w.D,nI w.rep.copied,nI w.rep.kept,nI w.rep.filled,nI (Ge w.rep.freed w.j.S w.j.P w.j.P.length),nI w.rep.cleared,nI w.rep.steps]),(25015,.arr 44 1 ((EA w.j.C.pw w.j.S w.j.P w.j.W w.j.P.length).map wD))],5⟩) (Bs (S:=λk=>(frL w w.j.P (Cm w.j.S w.j.P k) (EA w.j.C.pw w.j.S w.j.P w.j.W k) (Ge w.rep.freed w.j.S w.j.P k) k).st) w.j.P.length kr (λk hk=>?_) ?_) kr;have h1:=AN w.j.S w.j.P k;have h3:=TU (s:=w.j.S) hs k oq;have h4:=Z0L w.rep.freed w.j.S w.j.P k;have i:(k+1)*w.j.C.pw.toNat<=w.j.P.length*w.j.C.pw.toNat:=Nat.mul_le_mul_right _ hk;rw[Nat.add_mul,Nat.one_mul]at i;by_cases b:Ga w.j.S (w.j.P.getD k M);have f:EA w.j.C.pw w.j.S w.j.P w.j.W (k+1)=C6 (EA w.j.C.pw w.j.S w.j.P w.j.W k) (k*w.j.C.pw.toNat) (Ls w.j.C.pw.toNat 0):=by rw[EA,if_pos b]
 have g:Ge w.rep.freed w.j.S w.j.P (k+1)=Ge w.rep.freed w.j.S w.j.P k+1:=by rw[Ge,if_pos b]
 have d:¬ (w.j.P.getD k M).K=3->(Cm w.j.S w.j.P k).getD k M=w.j.P.getD k M:=λq=>(P9 P k oq k hk).2 λz=>by have:=z.2.2 q;omega
 rw[f,g];by_cases k1:(w.j.P.getD k M).K=1;have c:Cm w.j.S w.j.P (k+1)=(Cm w.j.S w.j.P k).set k ⟨0,0,0,0⟩:=by rw[Cm,if_pos b,if_pos k1]
 rw[c];exact Zbq w _ _ _ _ k hl hk b k1 oq oq (by rw[d oq];exact k1) a oq oq oq;by_cases e:(w.j.P.getD k M).K=2;have c:Cm w.j.S w.j.P (k+1)=BN (Cm w.j.S w.j.P k) k (ZC (Cm w.j.S w.j.P k) k):=by rw[Cm,if_pos b,if_neg k1,if_pos e]
 rw[c];exact ZlG w _ _ _ _ k hl hk b e oq oq (by rw[d oq];exact e) a oq oq oq;have c:Cm w.j.S w.j.P (k+1)=Cm w.j.S w.j.P k:=by rw[Cm,if_pos b,if_neg k1,if_neg e]
 have kk:=(P.b k hk).k;have k0:=b.1;rw[c];exact Zjd w _ _ _ _ k hl hk b oq a oq oq oq;have c:Cm w.j.S w.j.P (k+1)=Cm w.j.S w.j.P k:=by rw[Cm,if_neg b]
 have f:EA w.j.C.pw w.j.S w.j.P w.j.W (k+1)=EA w.j.C.pw w.j.S w.j.P w.j.W k:=by rw[EA,if_neg b]
 have g:Ge w.rep.freed w.j.S w.j.P (k+1)=Ge w.rep.freed w.j.S w.j.P k:=by rw[Ge,if_neg b]
 rw[c,f,g];exact Zi0 w _ _ _ _ k hl hk b;have h:=Zi2 w w.j.P (Cm w.j.S w.j.P w.j.P.length) (EA w.j.C.pw w.j.S w.j.P w.j.W w.j.P.length) (Ge w.rep.freed w.j.S w.j.P w.j.P.length);simp only[ZeO P]at h⊢;exact h
theorem Zk8:BP 83 [.pt 0 0 0] [w.evD] (.tu []) [(HZ w).evD]:=by exact lF func83 []<|Fc 15 (@Mr w.j.W oq)<|Fl 22 Z0.dv w.j.P<|Fu (@Zc1 w aa aa aa aa aa aa) Fz
end
end Go.Proofs.YtkmnngahjnkdmaaGreat
namespace Go.Proofs.YtkmnngahjnkdmaaGreat
open Go.Sx Go.RowKit
def ZgP(a b c d e:Value) w :CallsD prog 76 #[a,b,c,d,e] .returning w λg i w'=>g=.returned (.tuple #[])/\i=.returning/\w'=w:=by refine callsD_of_wpS func76 rfl λf cs h=>?_;apply wpS_seq;apply wpS_region;simp[wpOpsS,go_sem,recoverD,h,Tryz.ntmps76,Exit.thenS];apply wpS_seq;apply wpS_region;simp[wpOpsS,go_sem,Tryz.ntmps76,Exit.thenS];refine wpS_cond (t:=Ld) (by simp[Act.eval,go_sem,Array.replicate]) ?_;simp only[Bool.false_eq_true,if_false];refine wpS_of_wp (wp_skip ?_);cases f;simp_all[bodyPostS,results,Tryz.results76]
end Go.Proofs.YtkmnngahjnkdmaaGreat
namespace Go.Proofs.YtkmnngahjnkdmaaGreat
open Go.Sx Go.RowKit
structure Z9X (h:Heap) (s k:List Int) (w0 w1 w2 w3 w4 w5:Z8) (l o:List Int):Prop where
 b:GP 77 [h.av] Ld (.tu [w0.av,nI 0]) []
 r:GP 31 [h.av,Z2 (s++k)] Lb (bL Lb) []
 t:GP 79 [w0.av,Z2 s] Lb (.tu [w1.av,Z2 l,nI 0]) []
 a:GP 80 [w1.av] Lb (.tu [w2.av,nI 0]) []
 w:BP 81 [.pt 0 0 0,Z2 k] [w2.evD] (.ow 1) [w3.evD,Bj o]
 f:BP 82 [.pt 0 0 0] [w3.evD] (.tu []) [w4.evD]
 g:BP 83 [.pt 0 0 0] [w4.evD] (.tu []) [w5.evD]
 sl:s.length<=1000
 kl:k.length<=1000
 tl:w5.T.length<=1000000
 sp:w5.j.S=0\/w5.j.S=1
def Z6R{P:Program}{o:Oper}{a:Act}{w:World}{f:Nat}{l:Array Operand}(b:o.op=.makeFunc (.func f) #[] l):(execOp a.eval o).run P w=.ok (.value (.func (.func f) #[] (l.map a.eval))) w:=by simp[execOp,b,Instr.makeFunc]
def Z9A{P}{o:Oper}{a:Act}{w}{c:Call}{x:Operand}{f:Nat}{l:Array Value}{next:Act->World->Prop}{Q}(b:o.op=.defer c)(hc:c=⟨.value x,#[],#[]⟩)(hx:a.eval x=.func (.func f) #[] l)(h:next ({a with defers:=⟨.fn (.func f) l,#[]⟩::a.defers}.put o.dst undef) w):o.wp P a w next Q:=by
 subst hc;have:(execOp a.eval o).run P w=.ok (.defer ⟨.fn (.func f) l,#[]⟩) w:=by simp[execOp,b,resolve,hx,Deferred.ofValue]
 unfold Oper.wp;rw[this];exact h
def clS(h:Heap)(s k:List Int):Tg:=⟨tm 79 [(1,Z2 s),(2,Z2 k),(3,.pt 8003 0 0),(6,.pt 8006 0 0),(7,.pt 8007 0 0),(8,.pt 8008 0 0),(9,.pt 8009 0 0),(10,.pt 8010 0 0)],[(8003,.box 27 h.cells),(8006,.box 27 [nI 0,nI 0,.d (.sl 0 []),.d (.sl 0 []),nI 0,nI 0]),(8007,.box 24 [.d (.sl 0 [])]),(8008,.box 24 [.d (.sl 0 [])]),(8009,.box 46 [nI 0,nI 0,nI 0,nI 0,nI 0,nI 0]),(8010,.box 49 [nI 0])],2⟩
section
variable{h:Heap}{s k:List Int}{w0 w1 w2 w3 w4 a:Z8}{l o:List Int}(c:Z9X h s k w0 w1 w2 w3 w4 a l o)
include c
theorem Z9q:GP 77 [h.av] Ld (.tu [w0.av,nI 0]) []:=c.b
theorem Z8Y:GP 31 [h.av,Z2 (s++k)] Lb (bL Lb) []:=c.r
theorem Z71:GP 79 [w0.av,Z2 s] Lb (.tu [w1.av,Z2 l,nI 0]) []:=c.t
theorem Z48:GP 80 [w1.av] Lb (.tu [w2.av,nI 0]) []:=c.a
theorem Z7E:BP 81 [.pt 0 0 0,Z2 k] [w2.evD] (.ow 1) [w3.evD,Bj o]:=c.w
theorem Z5T:BP 82 [.pt 0 0 0] [w3.evD] (.tu []) [w4.evD]:=c.f
theorem Z7V:BP 83 [.pt 0 0 0] [w4.evD] (.tu []) [a.evD]:=c.g
omit c in
theorem Z8C(h:Heap) s k:CP (Cv f34 0) (Tg.st ⟨tm 79 [(0,h.av),(1,Z2 s),(2,Z2 k)],[],1⟩) .nrm (clS h s k).st:=by exact sF [] [] Fz
theorem Zen:CP (GE f34 2) (clS h s k).st .ret (Tg.st ⟨tm 79 [(6,.pt 8006 0 0),(7,.pt 8007 0 0),(8,.pt 8008 0 0),(9,.pt 8009 0 0),(10,.pt 8010 0 0)],[(8006,.box 27 (Bn a).cells),(8007,.box 24 [Z2 l]),(8008,.box 24 [.ow 24049]),(24049,.arr 44 1 (o.map wD)),(8009,.box 46 a.rep.cells),(8010,.box 49 [nI 0])],60⟩):=by
 have sl:=c.sl;have kl:=c.kl;have tl:=c.tl;have sp:=c.sp;by_cases e:0<a.T.length;have d:Bn a=⟨a.j.C,a.j.W,a.j.P,1-a.j.S,ZS a⟩:=by rw[Bn,if_pos e]
 rw[d];refine Zi [((16:Nat),[Hint.call Ld (AV.tu [w0.av,nI (0:Int)]) []]),((26:Nat),[Hint.call Lb (Z2 (s++k)) []]),((27:Nat),[Hint.call Lb (bL Lb) []]),((31:Nat),[Hint.call Lb (AV.tu []) []]),((35:Nat),[Hint.call Lb (AV.tu [w1.av,Z2 l,nI (0:Int)]) []]),((40:Nat),[Hint.call Lb (AV.tu []) []]),((43:Nat),[Hint.call Lb (AV.tu [w2.av,nI (0:Int)]) []]),((47:Nat),[Hint.call Lb (AV.tu []) []]),((49:Nat),[Hint.bor [(16011:Nat)] (AV.ow (1:Nat)) [w3.evD,Bj o]]),((50:Nat),[Hint.bor [(16011:Nat)] (AV.tu []) [w4.evD]]),((51:Nat),[Hint.bor [(16011:Nat)] (AV.tu []) [a.evD]]),((55:Nat),[Hint.int ((1:Int)-a.j.S)]),((62:Nat),[Hint.int (a.T.length:Int)]),((64:Nat),[Hint.br Lb]),((68:Nat),[Hint.int ((a.T.length:Int)-(1:Int))]),((69:Nat),[Hint.el (iD (a.T.getD ((a.T.length:Int)-(1:Int)).toNat M))])] [] [((73049:Nat),(24049:Nat))] [] (φ:=GP 77 [h.av] Ld (AV.tu [w0.av,nI (0:Int)]) []/\(((0:Int)==(0:Int))=Lb->GP 32 [E0 s k] Lb (Z2 (s++k)) [])/\(((0:Int)==(0:Int))=Lb->GP 31 [h.av,Z2 (s++k)] Lb (bL Lb) [])/\GP 78 [nI (0:Int)] Lb (AV.tu []) []/\GP 79 [w0.av,Z2 s] Lb (AV.tu [w1.av,Z2 l,nI (0:Int)]) []/\GP 78 [nI (0:Int)] Lb (AV.tu []) []/\GP 80 [w1.av] Lb (AV.tu [w2.av,nI (0:Int)]) []/\GP 78 [nI (0:Int)] Lb (AV.tu []) []/\BP 81 [AV.pt (0:Nat) (0:Nat) (0:Nat),Z2 k] [w2.evD] (AV.ow (1:Nat)) [w3.evD,Bj o]/\BP 82 [AV.pt (0:Nat) (0:Nat) (0:Nat)] [w3.evD] (AV.tu []) [w4.evD]/\BP 83 [AV.pt (0:Nat) (0:Nat) (0:Nat)] [w4.evD] (AV.tu []) [a.evD]/\Li.wrap ((1:Int)-a.j.S)=(1:Int)-a.j.S/\(↑(O iD a.T).length:Int)=(a.T.length:Int)/\La ((0:Int)<(a.T.length:Int))=Lb/\Lb=Lb/\Li.wrap ((a.T.length:Int)-(1:Int))=(a.T.length:Int)-(1:Int)/\(0:Int)<=(a.T.length:Int)-(1:Int)/\(O iD a.T)[((a.T.length:Int)-(1:Int)).toNat]?=Le (iD (a.T.getD ((a.T.length:Int)-(1:Int)).toNat M))) ?_ kr kr kr;exact⟨(@Z9q (h) (s) (k) (w0) (w1) (w2) (w3) (w4) (a) (l) (o) aa),(λb=>by(try simp only[bs]at b);exact@RJ (s) (k) (by(try simp only[bs]at b);omega) (by(try simp only[bs]at b);omega)),(λb=>by(try simp only[bs]at b);exact@Z8Y (h) (s) (k) (w0) (w1) (w2) (w3) (w4) (a) (l) (o) aa),(@HN ((0:Int)) (by rfl)),(@Z71 (h) (s) (k) (w0) (w1) (w2) (w3) (w4) (a) (l) (o) aa),(@HN ((0:Int)) (by rfl)),(@Z48 (h) (s) (k) (w0) (w1) (w2) (w3) (w4) (a) (l) (o) aa),(@HN ((0:Int)) (by rfl)),(@Z7E (h) (s) (k) (w0) (w1) (w2) (w3) (w4) (a) (l) (o) aa),(@Z5T (h) (s) (k) (w0) (w1) (w2) (w3) (w4) (a) (l) (o) aa),(@Z7V (h) (s) (k) (w0) (w1) (w2) (w3) (w4) (a) (l) (o) aa),(by exact Zf rfl oq oq),(by simp only[Lj]),(by(simp only[bs];omega)),rfl,(by exact Zf rfl oq oq),(by exact Zp oq oq oq)⟩;have d:Bn a=⟨a.j.C,a.j.W,a.j.P,1-a.j.S,-1⟩:=by rw[Bn,if_neg e]
 rw[d];exact sF [(73049,24049)] []<|Fc 16 (@Z9q h s k w0 w1 w2 w3 w4 a l o aa)<|FcG 26 ((0:Int)==0) (λb=>by(try simp only[bs]at b);exact@RJ s k oq oq)<|FcG 27 ((0:Int)==0) (λb=>by(try simp only[bs]at b);exact@Z8Y h s k w0 w1 w2 w3 w4 a l o aa)<|Fc 31 (@HN (0) (by rfl))<|Fc 35 (@Z71 h s k w0 w1 w2 w3 w4 a l o aa)<|Fc 40 (@HN (0) (by rfl))<|Fc 43 (@Z48 h s k w0 w1 w2 w3 w4 a l o aa)<|Fc 47 (@HN (0) (by rfl))<|Fbr 49 [16011] (@Z7E h s k w0 w1 w2 w3 w4 a l o aa)<|Fbr 50 [16011] (@Z5T h s k w0 w1 w2 w3 w4 a l o aa)<|Fbr 51 [16011] (@Z7V h s k w0 w1 w2 w3 w4 a l o aa)<|Fi 55 (1-a.j.S)<|Fl 62 iD a.T<|Ffb 64 (La (0<(a.T.length:Int))) Fz
def clT(a:Z8)(l o:List Int):Tg:=⟨tm 79 [(6,.pt 8006 0 0),(7,.pt 8007 0 0),(8,.pt 8008 0 0),(9,.pt 8009 0 0),(10,.pt 8010 0 0)],[(8006,.box 27 (Bn a).cells),(8007,.box 24 [Z2 l]),(8008,.box 24 [Z2 o]),(8009,.box 46 a.rep.cells),(8010,.box 49 [nI 0])],60⟩
theorem Ziu:CP (GE f34 2) (clS h s k).st .ret (clT a l o).st:=
 CSpec.frz 24049 (Zen c) kr
theorem ZjM:GP 34 [h.av,Z2 s,Z2 k] Ld (.tu [(Bn a).av,Z2 l,Z2 o,.ag a.rep.cells,nI 0]) []:=by
 intro w y vs q r g;refine calls_of_wp_defers func34 (c:=.seq (Cv f34 0) (.seq (Cv f34 1) (GE f34 2))) kr ?_;have S0:=Pv (n:=79) q r g;rw[show [h.av,Z2 s,Z2 k]++Ls (79 - [h.av,Z2 s,Z2 k].length) .any=tm 79 [(0,h.av),(1,Z2 s),(2,Z2 k)]from by kernel_rfl]at S0;refine wp_seq (wp_mono (Z8C h s k _ _ _ _ _ S0) ?_);rintro e a1 w1 ⟨rfl,S1⟩;refine wp_seq ?_;rw[show Cv f34 1=.region 1 (Bq f34 1) Ld from by kernel_rfl];refine wp_region ?_;rw[show LI (Bq f34 1).size=[0,1]from by kernel_rfl];refine Rs (o:=(Bq f34 1).getD 0 M) kr kr (NP (Z6R (f:=76) (l:=#[.tmp 6,.tmp 7,.tmp 8,.tmp 9,.tmp 10]) kr) ?_);rw[show Array.map a1.eval #[.tmp 6,.tmp 7,.tmp 8,.tmp 9,.tmp 10]=#[a1.eval (.tmp 6),a1.eval (.tmp 7),a1.eval (.tmp 8),a1.eval (.tmp 9),a1.eval (.tmp 10)]from by simp];show wpOps prog (Bq f34 1) _ [1] (a1.put (Le 13) (.func (.func 76) #[] #[a1.eval (.tmp 6),a1.eval (.tmp 7),a1.eval (.tmp 8),a1.eval (.tmp 9),a1.eval (.tmp 10)])) w1;generalize a1.eval (.tmp 6)=v6,a1.eval (.tmp 7)=v7,a1.eval (.tmp 8)=v8,a1.eval (.tmp 9)=v9,a1.eval (.tmp 10)=v10;have j:Sx.Sys EU y w ((clS h s k).st.tmps.set 13 .any) (clS h s k).st.H 2 (a1.put (Le 13) (.func (.func 76) #[] #[v6,v7,v8,v9,v10])) w1:=by(obtain⟨ρ,b,I,T⟩:=S1;exact⟨ρ,b,I,T.put 13 (.any _)⟩)
 have d:(a1.put (Le 13) (.func (.func 76) #[] #[v6,v7,v8,v9,v10])).eval (.tmp 13)=.func (.func 76) #[] #[v6,v7,v8,v9,v10]:=by
  obtain⟨ρ,b,I,T⟩:=S1;have:=T.size;have z:13<a1.tmps.size:=by rw[this,show(clS h s k).st.tmps.length=79 from by kernel_rfl];decide
  simp[Act.put,Act.eval,z]
 generalize a1.put (Le 13) (.func (.func 76) #[] #[v6,v7,v8,v9,v10])=a2 at j d⊢;refine Rs (o:=(Bq f34 1).getD 1 M) kr kr (Z9A (c:=⟨.value (.tmp 13),#[],#[]⟩) (x:=.tmp 13) kr rfl d ?_);have S3:=j.defer [⟨.fn (.func 76) #[v6,v7,v8,v9,v10],#[]⟩];have hd:a2.defers=[]:=by(obtain⟨_,_,_,T⟩:=j;exact T.defers)
 rw[hd];show Code.wp prog (GE f34 2) _ {tmps:=a2.tmps,defers:=[⟨.fn (.func 76) #[v6,v7,v8,v9,v10],#[]⟩]} w1;have S6:=Pw (s:=⟨(clS h s k).st.tmps.set 13 .any,(clS h s k).st.H,2⟩) (t:=clS h s k) kr kr S3;refine wp_mono (Ziu c _ _ _ _ _ S6) ?_;rintro e m i ⟨rfl,S4⟩;obtain⟨ρ,b,I,T⟩:=S4;show Leaves _ _ m.tmps _ m.defers .returning i;rw[T.defers];refine leaves_cons (f:=76) (args:=#[v6,v7,v8,v9,v10]) pq (Ns kr _ _) ?_;refine(ZgP v6 v7 v8 v9 v10 i).mono ?_;rintro e u' u ⟨rfl,rfl,rfl⟩;have S5:Sx.Sys EU y w (clT a l o).st.tmps (clT a l o).st.H 60 {m with defers:=[]} u:=⟨ρ,b,⟨I.kept,I.inj,I.notIm,I.bnd,I.own,I.imb,I.im0,I.blk,I.fresh,I.one⟩,⟨T.size,T.tmp,rfl⟩⟩;obtain⟨v,r1,r2⟩:=Z0J (P:=prog) (fn:=f34) (fr:=Ld) (ns:=[]) (l:=[(Bn a).av,Z2 l,Z2 o,.ag a.rep.cells,nI 0]) (res:=.tu [(Bn a).av,Z2 l,Z2 o,.ag a.rep.cells,nI 0]) (x:=.tu [(Bn a).av,Z2 l,Z2 o,.ag a.rep.cells,nI 0]) (p:=[]) (qq:=[]) (st:=(clT a l o).st) (List.nodup_nil (α:=Nat)) S5 kr kr trivial trivial kr kr trivial;exact⟨v,r1,v,rfl,r2⟩
end
end Go.Proofs.YtkmnngahjnkdmaaGreat
namespace Go.Sx
def Z4S{l}:∀(n k i:Nat) {x:AV},(SU l n k)[i]?=Le x->x=Dj (k+i) l
 |0,_,_,_,h=>by simp[SU]at h
 |n+1,k,0,_,h=>by
  simp only[SU,List.getElem?_cons_zero,Option.some.injEq]at h;exact h.symm
 |n+1,k,i+1,_,h=>by
  simp only[SU,List.getElem?_cons_succ]at h;rw[Z4S n (k+1) i h,show k+1+i=k+(i+1)from by omega]
def Z7v{l}:∀(n k:Nat),(SU l n k).length=n|0,_=>rfl|n+1,k=>by simp[SU,Z7v n (k+1)]
def Z6T:∀{l:List (Nat×AV)} {k:Nat},Dj k l=.any\/(k,Dj k l)∈l
 |[],_=>.inl rfl
 |(j,x)::l,k=>by
  unfold Dj;split
  .rename_i q;first|(subst q;exact .inr (LF ..))|(have:=Nat.eq_of_beq_eq_true q;subst this;exact .inr (LF ..))
  .exact(Z6T (l:=l) (k:=k)).imp id (List.mem_cons_of_mem _)
def Z3f{D:List Deferred}{ρ w Im}{n:Nat}{l:List (Nat×AV)}{a:Act}(hs:a.tmps.size=n)(hd:a.defers=D)(h:∀k x v,(k,x)∈l->a.tmps[k]?=Le v->Zk ρ w Im x v):Ct D ρ w Im (tm n l) a:=by refine⟨by rw[hs];exact(Z7v n 0).symm,λi x v hx b=>?_,hd⟩;have e:=Z4S n 0 i hx;rw[Nat.zero_add]at e;rcases Z6T (l:=l) (k:=i)with q|q;rw[e,q];exact .any _;exact h i x v (e▸q) b
def TL:Z3->Prop|.box _ cells=>∀x∈cells,∃d,x=.d d|_=>False
def Z4j{B:Z3}:∀(n k:Nat) (a:List Z3) (j:Nat),a.length=n->a[j]?=Le B->Bv ((upto k n).zip a) (k+j)=Le B
 |0,k,a,j,hp,hj=>by
  have:=List.length_eq_zero_iff.1 hp;subst this;simp at hj
 |n+1,k,[],j,hp,hj=>by simp at hj
 |n+1,k,p::a,0,hp,hj=>by
  simp only[upto,LL,Bv];simp at hj;subst hj;simp
 |n+1,k,p::a,j+1,hp,hj=>by
  simp only[upto,LL,Bv];rw[if_neg oq];have:=Z4j n (k+1) a j (by simpa using hp) (by simpa using hj);rwa [show k+1+j=k+(j+1)from by omega]at this
def PV:Z3->Z3|.box ty cells=>.box ty (cells.map λ_=>.any)|B=>B
def Pg:∀(L:List (Nat×Z3)) (b:Nat),Bv (L.map λp=>(p.1,PV p.2)) b=(Bv L b).map PV
 |[],_=>rfl
 |p::L,b=>by
  simp only[List.map_cons,Bv];split
  .rfl
  .exact Pg L b
def ZaX{Ow Im0 Im w0 w ρ L clk}(I:Sx.Inv Ow Im0 w0 ρ w Im (Bv L) clk):Sx.Inv Ow Im0 w0 ρ w Im (Bv (L.map λp=>(p.1,PV p.2))) clk:=by
 have h:∀{b:Nat},live (Bv (L.map λp=>(p.1,PV p.2))) b->live (Bv L) b:=λ{b} ⟨B,d,r⟩=>by(rw[Pg,LA]at d;obtain⟨C,c,a⟩:=d;refine⟨C,c,λe=>r ?_⟩;rw[<-a,e];rfl)
 refine⟨I.kept,λb j β β' g f s=>I.inj b j β β' g (h f) (h s),λb β g f=>I.notIm b β g (h f),I.bnd,I.own,I.imb,I.im0,λb B d=>?_,λb c a=>I.fresh b c ?_,I.one⟩;rw[Pg,LA]at d;obtain⟨C,c,rfl⟩:=d;obtain⟨β,k1,i⟩:=I.blk b C c;refine⟨β,k1, ?_⟩;cases C with|box ty cells =>obtain⟨a,e,g,k,l,m,n,q,h8⟩:=i;refine⟨by simpa using a,e,g,k,l,m,by simpa using n,q,λo x v hx _=>?_⟩;rw[List.getElem?_map,LA]at hx;obtain⟨_,_,rfl⟩:=hx;exact .any _|_=>exact i
 rw[Pg]at a;cases hq:Bv L b with|none=>rfl|some C=>rw[hq]at a;cases a
section
variable{Im0 Im:Nat->Prop}{w0 w1:World}{ρ:ZM}{H:Heap}{clk:Nat}(I:Sx.Inv EU Im0 w0 ρ w1 Im H clk){ids:List Nat}
include I
theorem ZiQ{b:Nat}{β g}(a:ρ b=Le β)(c:β.g=Le g):w0.heap.size<=g:=(I.own b β g a c).elim (·.1) λq=>q.no.elim
omit I in
theorem MG{k:Nat}{β}(h:(ids[k]?).bind ρ=Le β):∃b,ids[k]?=Le b/\ρ b=Le β:=by
 cases q:ids[k]? with|none=>rw[q]at h;cases h|some b=>rw[q]at h;exact⟨b,rfl,h⟩
theorem Zia{pre:List Z3}(nd:ids.Nodup)(hl:ids.length=pre.length)(hn:ids.length<=8000)(c:∀(i b:Nat) (B:Z3),ids[i]?=Le b->pre[i]?=Le B->H b=Le B/\TL B)(D:List Deferred) :Sx.Inv ⟨λk β=>(ids[k]?).bind ρ=Le β,D⟩ Im w1 (λk=>(ids[k]?).bind ρ) w1 Im (Bv ((upto 0 ids.length).zip pre)) 2:=by
 have n:∀{k i:Nat},(upto 0 ids.length)[i]?=Le k->k=i:=λ{k i} h=>by
  have h0:i<ids.length:=by(have:=(Ln.1 h).1;rwa [Z0m]at this)
  rw[Ty _ _ _ h0]at h;simp at h;omega
 have t:∀{k b:Nat},live (Bv ((upto 0 ids.length).zip pre)) k->ids[k]?=Le b->live H b:=λ{k b} ⟨B,r,hd⟩ hb=>by(obtain⟨i,w,p⟩:=AR r;exact⟨B,(c i b B ((n w)▸hb) p).1,hd⟩)
 refine⟨Kept.refl _ _, ?_, ?_, ?_, ?_,I.imb,λ_=>.inl, ?_, ?_,⟨by decide,λ_ _ _ h=>h⟩⟩;intro k k' β β' g s l2 a f e e2;obtain⟨b,j,m⟩:=MG a;obtain⟨b',l,u⟩:=MG f;have:=I.inj b b' β β' g (t s j) (t l2 l) m u e e2;subst this;have a1:=Ln.1 j;have z:=Ln.1 l;exact(List.getElem_inj nd).1 (a1.2.trans z.2.symm);intro k β g s a e;obtain⟨b,j,m⟩:=MG a;exact I.notIm b β g (t s j) m e;intro k β g a e;obtain⟨b,j,m⟩:=MG a;exact I.bnd b β g m e;intro k β g a e;exact .inr ⟨k,β,a,e⟩;intro k B r;obtain⟨i,w,p⟩:=AR r;have hk:=n w;subst hk;have y:k<ids.length:=by(have:=(Ln.1 p).1;omega)
 obtain⟨r1,r2⟩:=c k _ B (Lm y) p;obtain⟨β,a,f⟩:=I.blk _ _ r1;refine⟨β,by rw[Lm y];exact a, ?_⟩;cases B with
 |box ty cells =>
  obtain⟨f,h3,g,cs,h4,h5,h6,h7,h8⟩:=f;refine⟨f,h3,g,cs,h4,h5,h6,h7,λo x v hx hv=>?_⟩;obtain⟨d,rfl⟩:=r2 x (Lp hx);cases h8 o _ v hx hv with|d q=>exact .d q
 |_=>exact r2.elim
 intro k hk _;show(ids[k]?).bind ρ=none;rw[Lq oq];rfl
theorem ZeJ{Ow ρ2 w' m z ck}(a:Sx.Inv Ow Im w1 ρ2 w' m z ck){post:List Z3}(hl:ids.length=post.length)(hn:ids.length<=8000)(lH:∀b∈ids,live H b)(c:∀B∈post,TL B)(p:∀(i:Nat) (B:Z3),post[i]?=Le B->z i=Le B)(w:∀(i b:Nat) (β:Bi),ids[i]?=Le b->Ow.p i β->ρ b=Le β)(ow:∀g,OwA Ow g->w0.heap.size<=g):∃ρr,Sx.Inv EU Im0 w0 ρr w' m (Bv (ids.zip post)) clk/\∀b∈ids,ρr b=ρ b:=by
 have j:∀{i b:Nat} {B:Z3},ids[i]?=Le b->post[i]?=Le B->∃β,ρ b=Le β/\ρ2 i=Le β/\RelB ρ2 w' m β B:=λ{i b B} q1 q2=>by(have hi:i<ids.length:=(Ln.1 q1).1;obtain⟨β,k1,u⟩:=a.blk i B (p i B q2);exact⟨β,w i b β q1 (a.one.2 i β oq k1),k1,u⟩)
 have f:∀{b:Nat} {β:Bi},(if b∈ids then ρ b else none)=Le β->b∈ids/\ρ b=Le β:=λ{b β} h=>by(split at h;exact⟨aa,h⟩;cases h)
 have lv:∀{b:Nat},live (Bv (ids.zip post)) b->∃i B,ids[i]?=Le b/\post[i]?=Le B:=λ{b} ⟨B,t,_⟩=>by(obtain⟨i,s,l⟩:=AR t;exact⟨i,B,s,l⟩)
 refine⟨λb=>if b∈ids then ρ b else none,⟨?_, ?_, ?_, ?_, ?_,a.imb, ?_, ?_, ?_, ?_⟩,λb r=>if_pos r⟩;refine⟨a.kept.os.trans I.kept.os,a.kept.tape.trans I.kept.tape,a.kept.output.trans I.kept.output,LM I.kept.size a.kept.size,λk hk y=>?_,λk hk=>?_⟩;rw[a.kept.block k (Lz hk I.kept.size) λq=>by have:=ow k q;omega];exact I.kept.block k hk y;rw[a.kept.rows k (Lz hk I.kept.size)];exact I.kept.rows k hk;intro b b' β β' g l1 l2 e p n e2;exact I.inj b b' β β' g (lH b (f e).1) (lH b' (f p).1) (f e).2 (f p).2 n e2;intro b β g l1 e n;obtain⟨i,B,s,l⟩:=lv l1;obtain⟨β2,k1,u,k3⟩:=j s l;have:=(f e).2;rw[k1]at this;cases this;refine a.notIm i _ g ⟨B,p i B l, ?_⟩ u n;have r:=c B (Lp l);intro hd;rw[hd]at r;exact r;intro b β g e n;exact Lz (I.bnd b β g (f e).2 n) a.kept.size;intro b β g e n;exact I.own b β g (f e).2 n;intro g hg;rcases a.im0 g hg with q|q|q;exact I.im0 g q;exact .inr (.inl (LM I.kept.size q));exact .inr (.inl (ow g q));intro b B t;obtain⟨i,s,l⟩:=AR t;obtain⟨β,k1,u,k3⟩:=j s l;refine⟨β,by rw[if_pos (Lp s)];exact k1, ?_⟩;have r:=c B (Lp l);cases B with
 |box ty cells =>
  obtain⟨p,h3,g,cs,h4,h5,h6,h7,h8⟩:=k3;refine⟨p,h3,g,cs,h4,h5,h6,h7,λo x v hx hv=>?_⟩;obtain⟨d,rfl⟩:=r x (Lp hx);cases h8 o _ v hx hv with|d q=>exact .d q
 |_=>exact r.elim
 intro b _ t;have:=Zga hl t;rw[if_neg this];exact⟨I.one.1,λb β h0 e=>I.one.2 b β h0 (f e).2⟩
end
end Go.Sx
namespace Go.Proofs.YtkmnngahjnkdmaaGreat
open Go.Sx Go.RowKit
def Tt(e:Int):Value:=.iface 126 (.agg #[.int .i64 e])
def ZcG(e:Int)(he:e≠0) w:Calls prog 78 #[.int .i64 e] w λa w'=>a=.panicked [{v:=Tt e,recovered:=Ld}]/\w'=w:=by go_enter func78,Tryz.ntmps78;go_wp2;all_goals exact⟨rfl,rfl,rfl⟩
def Nh(e:Int):List Z3:=[.box 27 [nI 0,nI 0,.d (.sl 0 []),.d (.sl 0 []),nI 0,nI 0],.box 24 [.d (.sl 0 [])],.box 24 [.d (.sl 0 [])],.box 46 [nI 0,nI 0,nI 0,nI 0,nI 0,nI 0],.box 49 [nI e]]
def pnB:List (Nat×Z3):=[(0,.box 27 [.any,.any,.any,.any,.any,.any]),(1,.box 24 [.any]),(2,.box 24 [.any]),(3,.box 46 [.any,.any,.any,.any,.any,.any]),(4,.box 49 [.any])]
def ZbN e:CP (GE f76 1) (Tg.st ⟨tm 23 [(0,.pt 0 0 0),(1,.pt 1 0 0),(2,.pt 2 0 0),(3,.pt 3 0 0),(4,.pt 4 0 0),(5,.ic 126 (.ag [nI e]))],[(0,.box 27 [.any,.any,.any,.any,.any,.any]),(1,.box 24 [.any]),(2,.box 24 [.any]),(3,.box 46 [.any,.any,.any,.any,.any,.any]),(4,.box 49 [.any])],60⟩) .nrm (Tg.st ⟨tm 23 [],[(0,.box 27 [nI 0,nI 0,.d (.sl 0 []),.d (.sl 0 []),nI 0,nI 0]),(1,.box 24 [.d (.sl 0 [])]),(2,.box 24 [.d (.sl 0 [])]),(3,.box 46 [nI 0,nI 0,nI 0,nI 0,nI 0,nI 0]),(4,.box 49 [nI e])],90⟩):=by exact sF [] [] Fz
def Zld{Ow Im0 Im w0 w1 ρ} e(I:Sx.Inv Ow Im0 w0 ρ w1 Im (Bv pnB) 60){n o p q g}(u:Zk ρ w1 Im (.pt 0 0 0) n)(y:Zk ρ w1 Im (.pt 1 0 0) o)(z:Zk ρ w1 Im (.pt 2 0 0) p)(r9:Zk ρ w1 Im (.pt 3 0 0) q)(m:Zk ρ w1 Im (.pt 4 0 0) g) :CallsD prog 76 #[n,o,p,q,g] (.panicking [{v:=Tt e,recovered:=Ld}]) w1 λs u' w'=>s=.returned (.tuple #[])/\u'=.panicking [{v:=Tt e,recovered:=Lb}]/\∃ρ' f,Sx.Inv Ow Im0 w0 ρ' w' f (Bv ((upto 0 5).zip (Nh e))) 90:=by
 refine callsD_of_wpS func76 rfl λc₀ cs t=>?_;apply wpS_seq;apply wpS_region;simp[wpOpsS,go_sem,recoverD,t,Tryz.ntmps76,Exit.thenS];refine wpS_of_wp ?_;have hc:∀{c:Code} {Q:Exit->Act->World->Prop} {a:Act} {w:World},c=GE f76 1->(GE f76 1).wp prog Q a w->c.wp prog Q a w:=λ{c Q a w} h k=>h▸k;refine hc kr ?_;clear hc;generalize l:GE f76 1=cc;have run:=ZbN e;rw[l]at run;refine wp_mono (run ⟨Ow.p,[]⟩ Im0 w0 _ w1 ⟨ρ,Im,⟨I.kept,I.inj,I.notIm,I.bnd,I.own,I.imb,I.im0,I.blk,I.fresh,I.one⟩,Z3f pq rfl λk x v hx d=>?_⟩) ?_;simp only[List.mem_cons,Prod.mk.injEq,List.not_mem_nil,or_false]at hx;rcases hx with⟨rfl,rfl⟩|⟨rfl,rfl⟩|⟨rfl,rfl⟩|⟨rfl,rfl⟩|⟨rfl,rfl⟩|⟨rfl,rfl⟩<;>simp[Array.getElem?_append]at d<;>subst d;exact u;exact y;exact z;exact r9;exact m;refine .ic (.ag _ _ rfl (λi v d=>?_) λi a v j d=>?_);match i,d with|0,d=>cases d;rfl
 match i,j,d with|0,j,d=>cases j;cases d;exact .d (.sc _ rfl)
 rintro e' a' w' ⟨rfl,ρ',f,b,r⟩;exact⟨r.defers,_,rfl,.tuple #[],by simp[results,Tryz.results76],rfl,rfl,ρ',f,⟨b.kept,b.inj,b.notIm,b.bnd,b.own,b.imb,b.im0,b.blk,b.fresh,b.one⟩⟩
end Go.Proofs.YtkmnngahjnkdmaaGreat
