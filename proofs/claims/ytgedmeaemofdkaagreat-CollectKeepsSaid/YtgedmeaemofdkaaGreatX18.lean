/-
 The statement CollectKeeps: part 18.
 Conditions: none.
-/
import Derived.Test.YtgedmeaemofdkaaGreatX17
set_option maxRecDepth 100000
set_option maxHeartbeats 2000000
set_option linter.all false
open Inhabited renaming default->M
open Bool renaming true->La,false->Le
open Nat renaming le_refl->Lb,not_lt_zero->Lk,zero_le->Lq
open List renaming getD_eq_getElem?_getD->Lc,length_map->Ld,getElem?_eq_getElem->Lf,length_take->Lg,mem_append_right->Lh,range->Li,getElem_map->Lj,ext_getElem->Ll,getElem?_take->Lm,find?_range_eq_some->Ln,getElem?_map->Lo,mem_range->Lp
open Option renaming getD_some->Lr,map_some->Ls
open Go.Proofs.Tryz
namespace Go.Proofs.YtgedmeaemofdkaaGreat
open Go.Sx
def Tr(w:Z7)(v x:Int):Prop:=(v=0/\x=0)\/(v∈w.old/\CX w v≠0/\x=CX w v)
def FT(h:Heap)(w:Z7)(a q m:Int):Prop:=if Ba (ZY h.W a) m=La then Tr w (Z1 h.W (a+1+m)).1 (Z1 w.j.W (q+1+m)).1 else(Z1 w.j.W (q+1+m)).1=(Z1 h.W (a+1+m)).1
def FT.mono{h}{w w':Z7}{a q m:Int}(hl:Z1 w'.j.W (q+1+m)=Z1 w.j.W (q+1+m))(ht:∀v x,Tr w v x->Tr w' v x)(f:FT h w a q m):FT h w' a q m:=by grind[FT]
structure RT (h:Heap) (w:Z7) (out:List Int) (n:Nat):Prop where
 f:∀i,i<n->i<out.length->ZY w.j.W (w.Q.getD i M)=ZY h.W (out.getD i M)/\∀m,0<=m->m<Zl h.W (out.getD i M)->FT h w (out.getD i M) (w.Q.getD i M) m
section
variable{h:Heap}{T:Nat->List Int}{w:Z7}{out:List Int}{n:Nat}(o:RO h T w out n)(g:Gd h T)(d:MV h)
include o g d
theorem RO.trOld{r v x:Int}(a:r=0\/r∈w.old)(t:Tr w v x):Tr (w.fwd r).1 v x:=by rcases t with t|⟨t1,t2,c⟩;exact .inl t;rcases a with rfl|a;rw[Z7.fwd,if_pos (.inl rfl)];exact .inr ⟨t1,t2,c⟩;by_cases b:CX w r=0;obtain⟨s1,s2,s3,s4,s5⟩:=o.b.o.seen g d a;have ne:v≠r:=λq=>t2 (q▸b);exact .inr ⟨by grind,by grind,by grind⟩;rw[o.b.o.same g d a b];exact .inr ⟨t1,t2,c⟩
theorem RO.trNew{r:Int}(a:r=0\/r∈w.old):Tr (w.fwd r).1 r (w.fwd r).2.1:=by rcases a with rfl|a;rw[Z7.fwd,if_pos (.inl rfl)];exact .inl ⟨rfl,rfl⟩;obtain⟨s1,b,s3,s4,s5⟩:=o.b.o.seen g d a;exact .inr ⟨by grind,by omega,b.symm⟩
theorem RT.fwd{p}(t:RT h w out p)(hn:p<=out.length){r:Int}(c:r=0\/r∈w.old):RT h (w.fwd r).1 (C7 out r) p:=by
 obtain⟨e,f,_⟩:=o.fwd g d c;have b:=Nt o.b.o.c.ok o.b.o.c.inv r e;obtain⟨qm,s⟩:=b.1;have ol:=o.l;refine⟨λi l q=>?_⟩;obtain⟨a1,j⟩:=Z5c out r (k:=i) oq;have z:(w.fwd r).1.Q.getD i M=w.Q.getD i M:=by grind
 rw[j,z];obtain⟨t1,t2⟩:=t.f i l oq;have mem:w.Q.getD i M∈w.Q:=ZT.2 ⟨i,by omega,rfl⟩;have hl:Zl w.j.W (w.Q.getD i M)=Zl h.W (out.getD i M):=congrArg Zz.length t1;have a:=b.2.2 _ (Lh _ mem) (.inl mem);refine⟨?_,λm u y=>?_⟩;have:=a 0 oq (Bq _ _).1;grind[ZY];refine FT.mono ?_ (λv x=>o.trOld g d c) (t2 m u y);have:=a (1+m) oq oq;grind
theorem RO.in1f{a:Nat}(hn:a<out.length){j:Int}(hj:0<=j/\j<Zl h.W (out.getD a M))(hq:ZY w.j.W (w.Q.getD a M)=ZY h.W (out.getD a M))(hv:(Z1 w.j.W (w.Q.getD a M+1+j)).1=0\/(Z1 w.j.W (w.Q.getD a M+1+j)).1∈w.old) :(∀z,z≠w.Q.getD a M+1+j->Z1 (w.in1 (w.Q.getD a M+1+j)).j.W z=Z1 (w.fwd (Z1 w.j.W (w.Q.getD a M+1+j)).1).1.j.W z) /\ (Z1 (w.in1 (w.Q.getD a M+1+j)).j.W (w.Q.getD a M+1+j)).1=(w.fwd (Z1 w.j.W (w.Q.getD a M+1+j)).1).2.1 /\ (∀v x,Tr (w.fwd (Z1 w.j.W (w.Q.getD a M+1+j)).1).1 v x->Tr (w.in1 (w.Q.getD a M+1+j)) v x)/\(w.in1 (w.Q.getD a M+1+j)).Q=(w.fwd (Z1 w.j.W (w.Q.getD a M+1+j)).1).1.Q /\
  ∀x∈(w.fwd (Z1 w.j.W (w.Q.getD a M+1+j)).1).1.Q,∀i,0<=i->i<=Zl (w.fwd (Z1 w.j.W (w.Q.getD a M+1+j)).1).1.j.W x->x+i=w.Q.getD a M+1+j->x=w.Q.getD a M:=by
 obtain⟨e,f,_⟩:=o.fwd g d hv;have p:w.Q.getD a M∈w.Q:=ZT.2 ⟨a,by have:=o.l;omega,rfl⟩;generalize a3:w.Q.getD a M=q at *;have hl:Zl w.j.W q=Zl h.W (out.getD a M):=congrArg Zz.length hq;have hw:=o.b.o.c.ok;have iv:=o.b.o.c.inv;obtain⟨s,x1⟩:=NE hw iv _ e;have k:=x1.q q p;have a2:=x1.l q p;have hr:=s.r q (Lh _ k);generalize a4:(Z1 w.j.W (q+1+j)).1=v at *;have a1:4096<=q+1+j/\q+1+j<4096+(w.fwd v).1.j.W.length:=by omega
 have m:∀x∈(w.fwd v).1.old++(w.fwd v).1.Q,∀i,0<=i->i<=Zl (w.fwd v).1.j.W x->x+i=q+1+j->x=q:=by(intro x l i y0 b c;have l1:=s.s q (Lh _ k) x l;have l2:=s.s x l q (Lh _ k);omega)
 have wd:∀z,z≠q+1+j->Z1 (w.in1 (q+1+j)).j.W z=Z1 (w.fwd v).1.j.W z:=λz hz=>by(grind[Z7.in1,Gj])
 have hh:∀x∈(w.fwd v).1.old++(w.fwd v).1.Q,Z1 (w.in1 (q+1+j)).j.W x=Z1 (w.fwd v).1.j.W x:=λx l=>wd x λc=>by(have:=m x l 0 oq (Bq _ _).1 oq;omega)
 have r:(w.in1 (q+1+j)).Q=(w.fwd v).1.Q:=by grind[Z7.in1]
 have a0:(w.in1 (q+1+j)).old=(w.fwd v).1.old:=by grind[Z7.in1]
 have se:∀y∈(w.fwd v).1.old,CX (w.in1 (q+1+j)) y=CX (w.fwd v).1 y:=λy hy=>by(grind[CX])
 refine⟨wd, ?_,λu x t=>?_,r,λx l=>m x (Lh _ l)⟩;grind[Z7.in1,RH];rcases t with t|⟨t1,t2,t3⟩;exact .inl t;exact .inr ⟨by grind,by grind,by grind⟩
theorem RT.in1{p}(t:RT h w out p){a:Nat}(ha:p<=a)(hn:a<out.length){j:Int}(hj:0<=j/\j<Zl h.W (out.getD a M))(hq:ZY w.j.W (w.Q.getD a M)=ZY h.W (out.getD a M))(l:(Z1 w.j.W (w.Q.getD a M+1+j)).1=0\/(Z1 w.j.W (w.Q.getD a M+1+j)).1∈w.old) :RT h (w.in1 (w.Q.getD a M+1+j)) (C7 out (Z1 w.j.W (w.Q.getD a M+1+j)).1) p:=by
 have t1:=RT.fwd o g d t oq l;obtain⟨v,_,tr,eq,b⟩:=o.in1f g d hn hj hq l;obtain⟨e,f,_⟩:=o.fwd g d l;have fl:=f.l;have x:=Nt o.b.o.c.ok o.b.o.c.inv _ e;obtain⟨qm,a0⟩:=x.1;have ol:=o.l;have y:∀i,i<out.length->(w.fwd (Z1 w.j.W (w.Q.getD a M+1+j)).1).1.Q.getD i M=w.Q.getD i M:=λi s=>by(grind)
 refine⟨λi s k=>?_⟩;obtain⟨u1,u2⟩:=t1.f i s k;rw[eq];have mem:(w.fwd (Z1 w.j.W (w.Q.getD a M+1+j)).1).1.Q.getD i M∈(w.fwd (Z1 w.j.W (w.Q.getD a M+1+j)).1).1.Q:=ZT.2 ⟨i,by omega,rfl⟩;have u:∀m,0<=m->m<=Zl (w.fwd (Z1 w.j.W (w.Q.getD a M+1+j)).1).1.j.W ((w.fwd (Z1 w.j.W (w.Q.getD a M+1+j)).1).1.Q.getD i M)->(w.fwd (Z1 w.j.W (w.Q.getD a M+1+j)).1).1.Q.getD i M+m≠w.Q.getD a M+1+j:=by
  intro m q r c;have z:=b _ mem m q r c;rw[y i oq]at z;have h1:w.Q[i]?=some (w.Q.getD a M):=by grind
  have h2:w.Q[a]?=some (w.Q.getD a M):=by grind
  have:=(List.getElem?_inj oq o.nd).1 (h1.trans h2.symm);omega
 have hl:Zl (w.fwd (Z1 w.j.W (w.Q.getD a M+1+j)).1).1.j.W ((w.fwd (Z1 w.j.W (w.Q.getD a M+1+j)).1).1.Q.getD i M)=Zl h.W ((C7 out (Z1 w.j.W (w.Q.getD a M+1+j)).1).getD i M):=congrArg Zz.length u1;have r0:=(Bq (w.fwd (Z1 w.j.W (w.Q.getD a M+1+j)).1).1.j.W ((w.fwd (Z1 w.j.W (w.Q.getD a M+1+j)).1).1.Q.getD i M)).1;refine⟨?_,λm q r=>FT.mono (v _ ?_) tr (u2 m q r)⟩;have:=v _ (λc=>u 0 oq r0 oq);grind[ZY];have:=u (1+m) oq oq;omega
theorem RT.inn(t:RT h w out n){q x:Int}{l:List Int}(hn:n<out.length)(hq:w.Q.getD n M=q)(hx:out.getD n M=x)(hl:Zk (ZY h.W x)=l):∀k,k<=l.length->RT h (Bg w q l k) (addN out (l.map λj=>(Z1 h.W (x+1+j)).1) k) n/\(∀i,i<k->Tr (Bg w q l k) (Z1 h.W (x+1+l.getD i M)).1 (Z1 (Bg w q l k).j.W (q+1+l.getD i M)).1)/\∀v y,Tr w v y->Tr (Bg w q l k) v y
 |0,_=>⟨t,λi hi=>absurd hi (Lk i),λ_ _ t=>t⟩
 |k+1,hk=>by
  obtain⟨t1,t2,t3⟩:=RT.inn t hn hq hx hl k oq;obtain⟨b,i2,i3,i4,i5,i6,i7⟩:=o.inn g d hn hq hx hl k oq;have hj:l.getD k M∈Zk (ZY h.W x):=by rw[hl];exact ZT.2 ⟨k,by omega,rfl⟩
  have jb:=NZ _ _ hj;have nd:=Z97 (ZY h.W x);rw[hl]at nd;have u:∀i,i<k->l.getD i M≠l.getD k M:=λi hi c=>by
   simp only[Lc]at c;rw[Lf oq,Lf oq]at c;have:=(List.getElem_inj nd).1 c;omega
  have ev:=i7 (l.getD k M) jb.1 jb.2 u;have xo:x∈(Bg w q l k).old:=by
   have:=(b.i n i6).1;rw[i5]at this;exact this
  have ov:=b.old g xo hj;have em:(l.map λj=>(Z1 h.W (x+1+j)).1).getD k M=(Z1 h.W (x+1+l.getD k M)).1:=by
   simp only[Lc,Lo,Lf (show k<l.length by omega),Ls,Lr]
  have e2:addN out (l.map λj=>(Z1 h.W (x+1+j)).1) (k+1)=C7 (addN out (l.map λj=>(Z1 h.W (x+1+j)).1) k) (Z1 h.W (x+1+l.getD k M)).1:=by rw[addN,em]
  have z:(Z1 (Bg w q l k).j.W ((Bg w q l k).Q.getD n M+1+l.getD k M)).1=0\/(Z1 (Bg w q l k).j.W ((Bg w q l k).Q.getD n M+1+l.getD k M)).1∈(Bg w q l k).old:=by
   rw[i3,ev];exact ov
  have s:0<=l.getD k M/\l.getD k M<Zl h.W ((addN out (l.map λj=>(Z1 h.W (x+1+j)).1) k).getD n M):=by rw[i5];exact jb
  have r:ZY (Bg w q l k).j.W ((Bg w q l k).Q.getD n M)=ZY h.W ((addN out (l.map λj=>(Z1 h.W (x+1+j)).1) k).getD n M):=by rw[i3,i5];exact i4
  have r1:=RT.in1 b g d t1 (a:=n) (Lb n) i6 s r z;obtain⟨wd,wq,tr,eq,a0⟩:=b.in1f g d i6 s r z;have m:=λv y=>b.trOld g d (v:=v) (x:=y) z;have p:=b.trNew g d z;obtain⟨e,f,_⟩:=b.fwd g d z;have fs:=(Nt b.b.o.c.ok b.b.o.c.inv _ e).2.2;rw[i3]at r1 wd wq tr m p fs;rw[ev]at r1 p tr m;rw[e2];refine⟨r1,λi hi=>?_,λv y t=>tr v y (m v y (t3 v y t))⟩;show Tr ((Bg w q l k).in1 (q+1+l.getD k M)) _ (Z1 ((Bg w q l k).in1 (q+1+l.getD k M)).j.W (q+1+l.getD i M)).1;by_cases c:i=k
  .rw[c,wq,ev];exact tr _ _ p
  .have lb:=NZ _ _ (show l.getD i M∈Zk (ZY h.W x) by rw[hl];exact ZT.2 ⟨i,by omega,rfl⟩);have qm:q∈(Bg w q l k).Q:=by have e0:=b.l;exact ZT.2 ⟨n,by omega,i3⟩
   have a1:Zl (Bg w q l k).j.W q=Zl h.W x:=congrArg Zz.length i4;have a2:l.getD i M<Zl h.W x:=lb.2;rw[wd _ (by have:=u i oq;omega),show q+1+l.getD i M=q+(1+l.getD i M) by omega,fs q (Lh _ qm) (.inl qm) (1+l.getD i M) oq oq,<-Int.add_assoc];exact tr _ _ (m _ _ (t2 i oq))
theorem RT.step(t:RT h w out n)(a:n<out.length)(hs:w.D=n):RT h (B1 w).1 (addN out (HX h (out.getD n M)) (HX h (out.getD n M)).length) (n+1)/\∀v y,Tr w v y->Tr (B1 w).1 v y:=by
 have x:=(o.i n a).1;obtain⟨tq,k⟩:=o.b.o.c.k;obtain⟨i0,f,e⟩:=(k.old _).1 x;have p:=g.refs f e;have r:ZY w.j.W (w.Q.getD n M)=ZY h.W (out.getD n M):=by(have:=o.uq n (Lb _) a 0 oq (Bq _ _).1;simp only[Int.add_zero]at this;grind[ZY])
 have l:C4 w=w.Q.getD n M:=by grind[C4]
 have u:Bj w=Zk (ZY h.W (out.getD n M)):=by unfold Bj ZB;rw[l];exact congrArg Zk r
 obtain⟨i1,i2,z,i4,i5,i6,i7⟩:=o.inn g d a rfl rfl rfl (Zk (ZY h.W (out.getD n M))).length (Lb _);obtain⟨t1,t2,t3⟩:=RT.inn o g d t a rfl rfl rfl (Zk (ZY h.W (out.getD n M))).length (Lb _);have s:w.D<w.Q.length:=by rw[hs,o.l];omega
 have hb:(Li (Bj w).length).find? (λk=>decide (CL w (C4 w) (Bj w) k≠0))=none:=List.find?_eq_none.2 λj hj=>by(grind)
 have q:B1 w=(HC (Bg w (C4 w) (Bj w) (Bj w).length) (Bj w).length,La,0):=by grind[B1]
 rw[q,l,u,p,Ld];refine⟨⟨λi hi b=>?_⟩,λv y t=>t3 v y t⟩;by_cases c:i=n;subst c;show ZY (Bg w _ _ _).j.W ((Bg w _ _ _).Q.getD i M)=_/\_;rw[i5];refine⟨by grind,λm m0 m1=>?_⟩;show FT h (Bg w _ _ _) _ ((Bg w _ _ _).Q.getD i M) m;rw[z];unfold FT;grind[Ba,ZT,Z3S,TH];exact t1.f i oq b
end
section
variable{h:Heap}{T:Nat->List Int}(g:Gd h T)(a:MV h){s:List Int}(hs:∀r∈s,r=0\/Ob h T r)(b:Zx h.W)
include g a hs b
theorem RT.roots:∀k,k<=s.length->RT h (rootsN (Zr h) s k).1 (addN [] s k) 0/\∀i,i<k->Tr (rootsN (Zr h) s k).1 (s.getD i M) ((rootsN (Zr h) s k).2.getD i M)
 |0,_=>⟨⟨λi d=>absurd d (Lk i)⟩,λi d=>absurd d (Lk i)⟩
 |k+1,hk=>by
  obtain⟨t1,t2⟩:=RT.roots k oq;obtain⟨e,i2⟩:=RO.roots g a hs b k oq;obtain⟨tq,j⟩:=e.b.o.c.k;have f:=(hs _ (ZT.2 ⟨k,by omega,rfl⟩)).imp id λq=>(j.old _).2 q;have l:=N0 (Zr h) s k;refine⟨⟨λi d=>absurd d (Lk i)⟩,λi d=>?_⟩;show Tr ((rootsN (Zr h) s k).1.fwd _).1 _ (((rootsN (Zr h) s k).2++[_]).getD i M);rw[Mh,l];by_cases c:i<k
  .rw[if_pos c];exact e.trOld g a f (t2 i c)
  .have c:i=k:=by omega
   rw[if_neg oq,if_pos c,c];exact e.trNew g a f
theorem RT.it:∀k,(∀j,j<k->j<(GA h s j).length)->RT h (Cc (rootsF (Zr h) s).1 k) (GA h s k) k/\∀i,i<s.length->Tr (Cc (rootsF (Zr h) s).1 k) (s.getD i M) ((rootsF (Zr h) s).2.1.getD i M)
 |0,_=>by
  obtain⟨t1,t2⟩:=RT.roots g a hs b s.length (Lb _);obtain⟨e,_⟩:=SW.roots g a hs b;rw[e];exact⟨t1,t2⟩
 |k+1,hk=>by
  obtain⟨t1,t2⟩:=RT.it k (λj d=>hk j oq);obtain⟨f,l⟩:=RO.it g a hs b k (λj d=>hk j oq);obtain⟨m,n⟩:=RT.step f g a t1 (hk k oq) l;exact⟨m,λi c=>n _ _ (t2 i c)⟩
theorem ZlY:∃k,Z36 h s k/\RO h T (ZF h s) (GA h s k) k/\(GA h s k).length=k/\RT h (ZF h s) (GA h s k) k/\∀i,i<s.length->Tr (ZF h s) (s.getD i M) ((rootsF (Zr h) s).2.1.getD i M):=by obtain⟨k,E,ro,sc,ln,e7⟩:=Zb9 g a hs b;obtain⟨t1,t2⟩:=RT.it g a hs b k (λj c=>(E.o j c).1);grind
end
def Z4f(h:Zz):∀n:Nat,∀x∈BQ h n,Ba h x=La
 |0,x,hx=>by cases hx
 |n+1,x,hx=>by
  unfold BQ at hx;split at hx
  .rename_i c;rcases List.mem_append.1 hx with q|q
   .exact Z4f h n x q
   .rw[List.mem_singleton.1 q];exact c
  .exact Z4f h n x hx
section
variable{h:Heap}{T:Nat->List Int}(g:Gd h T)
include g
theorem Gd.refsOb{a:Int}(m:a∈(Zb h).1):∀v∈ZK h a,v=0\/v∈(Zb h).1:=by
 intro v c;obtain⟨i,d,n⟩:=(g.objs.2 a).1 m;unfold ZK at c;rw[g.at' d]at c;obtain⟨p,b,rfl⟩:=List.mem_map.1 c;simp only at b;have pq:0<=p/\p<Zl h.W a/\Ba (ZY h.W a) p=La:=by(unfold Zk at b;split at b;have r:=Ac _ _ _ b;have l:(ZY h.W a).length=Zl h.W a:=rfl;exact⟨r.1,by omega,Z4f _ _ _ b⟩;simp at b)
 rcases g.q i a p d n pq.1 pq.2.1 pq.2.2 with e|⟨j,f,k⟩;exact .inl e;exact .inr ((g.objs.2 _).2 ⟨j,f,k⟩)
theorem Gd.order{s:List Int}(hs:∀r∈s,r=0\/Ob h T r):(BW h s).2=0:=by
 have no:∀{l:List Int},(∀r∈l,r=0\/r∈(Zb h).1)->((Li l.length).find? (Cj l (Zb h).1)).isSome=Le:=by
  intro l i;cases e:(Li l.length).find? (Cj l (Zb h).1)with|none=>rfl|some j =>obtain⟨d,f,_⟩:=Ln.1 e;have q:=of_decide_eq_true d;rcases i _ (ZT.2 ⟨j,Lp.1 f,rfl⟩)with c|c;exact absurd c q.1;exact absurd c q.2
 have b:GH h s=Le:=no λr k=>(hs r k).imp id (g.objs.2 r).2;obtain⟨I,e⟩:=Z1u b;unfold BW;rw[if_pos g.p,if_pos g.objs.1,if_neg];rintro(q|⟨m,a⟩);rw[b]at q;cases q;have:=no (g.refsOb ((I.el _ (Lb _)).2 _ (ZT.2 ⟨Hx h s,m,rfl⟩)));unfold H0 at a;rw[this]at a;cases a
end
def Z6u{h roots k}(I:GM h roots k)(e:(Zp h roots k).length<=k):∀f i,i<=k->k<i+f->R7 h roots f i=k
 |0,i,h1,h2=>by omega
 |f+1,i,h1,h2=>by
  unfold R7;by_cases q:i=k
  .rw[q,if_pos (.inl e)]
  .obtain⟨l1,a⟩:=I.lo i oq;rw[if_neg (by rw[a];intro c;rcases c with c|c;omega;cases c)];exact Z6u I e f (i+1) oq oq
def GM.le{h roots k}(I:GM h roots k):k<=(Zp h roots k).length:=by
 cases k with|zero=>omega|succ k =>obtain⟨a,_⟩:=I.lo k oq;have:=(TN h roots k 1).2 k a;omega
def Z7y{h:Heap}{roots:List Int}{k}(c:Z9 h=La)(b:(Zb h).2=0)(a:GH h roots=Le)(I:GM h roots k)(e:(Zp h roots k).length<=k):BW h roots=(Zp h roots k,0):=by have l1:=I.len (Lb k);have l2:=I.le;have z:Hx h roots=k:=Z6u I e _ _ (Lq k) oq;unfold BW;rw[if_pos c,if_pos b,z,if_neg];rintro(q|q);rw[a]at q;cases q;omega
section
variable{h:Heap}{T:Nat->List Int}(g:Gd h T)
include g
theorem Gd.noBad{l:List Int}(hl:∀r∈l,r=0\/r∈(Zb h).1):((Li l.length).find? (Cj l (Zb h).1)).isSome=Le:=by
 cases e:(Li l.length).find? (Cj l (Zb h).1)with|none=>rfl|some j =>obtain⟨a,b,_⟩:=Ln.1 e;have q:=of_decide_eq_true a;rcases hl _ (ZT.2 ⟨j,Lp.1 b,rfl⟩)with c|c;exact absurd c q.1;exact absurd c q.2
theorem Gd.ordI{s:List Int}(hs:∀r∈s,r=0\/r∈(Zb h).1):∀k,(∀j,j<k->j<(Zp h s j).length)->GM h s k
 |0,_=>GM.zero (g.noBad hs)
 |k+1,a=>by
  have I:=Gd.ordI hs k (λj hj=>a j oq);exact I.succ (a k oq) (g.noBad (g.refsOb ((I.el k (Lb k)).2 _ (ZT.2 ⟨k,a k oq,rfl⟩))))
end
def Tq(l m:List Int)(v x:Int):Prop:=(v=0/\x=0)\/∃i,i<l.length/\i<m.length/\v=l.getD i M/\x=m.getD i M
def Z1K{l:List Int}(h:l.Nodup){i j:Nat}(a:i<l.length)(b:j<l.length)(e:l.getD i M=l.getD j M):i=j:=by rw[Lc,Lc,Lf a,Lf b]at e;exact(List.getElem_inj h).1 e
def Z8k{l:List Int}(h:l.Nodup){i:Nat}(a:i<l.length):l.idxOf (l.getD i M)=i:=by have m:=ZT.2 ⟨i,a,(rfl:l.getD i M=_)⟩;obtain⟨b,c,_⟩:=Z5C m;exact Z1K h b a c
def Z6H{l m:List Int}(hl:l.Nodup)(c:m.Nodup)(l0:(0:Int)∉l)(d:(0:Int)∉m){v x}(t:Tq l m v x):E3 m x=E3 l v:=by rcases t with⟨rfl,rfl⟩|⟨i,a,b,rfl,rfl⟩;rw[E3,E3,if_neg l0,if_neg d];rw[E3,E3,if_pos (ZT.2 ⟨i,a,rfl⟩),if_pos (ZT.2 ⟨i,b,rfl⟩),Z8k hl a,Z8k c b]
def PW{l:List Int}(hl:l.Nodup){i n:Nat}(a:i<l.length):l.getD i M∈l.take n↔i<n:=by
 constructor;intro q;obtain⟨j,b,e⟩:=ZT.1 q;rw[Lg]at b;have:(l.take n).getD j M=l.getD j M:=by(simp only[Lc,Lm];rw[if_pos oq])
 rw[this]at e;have:=Z1K hl oq a e;omega;intro q;refine ZT.2 ⟨i,by rw[Lg];omega, ?_⟩;simp only[Lc,Lm];rw[if_pos q]
section
variable{l m:List Int}(hl:l.Nodup)(hm:m.Nodup)(le:l.length=m.length)(l0:(0:Int)∉l)(m0:(0:Int)∉m)
include hl hm le l0 m0
theorem Zgp{n:Nat}(hn:n<=l.length){v x:Int}(t:Tq l m v x)(p:C7 (l.take n) v <+: l):∃n',n'<=l.length/\C7 (l.take n) v=l.take n'/\C7 (m.take n) x=m.take n':=by
 rcases t with⟨rfl,rfl⟩|⟨i,h1,h2,rfl,rfl⟩
 .exact⟨n,hn,by rw[C7,if_pos (.inl rfl)],by rw[C7,if_pos (.inl rfl)]⟩
 .have v0:l.getD i M≠0:=λq=>l0 (q▸ZT.2 ⟨i,h1,rfl⟩);have x0:m.getD i M≠0:=λq=>m0 (q▸ZT.2 ⟨i,h2,rfl⟩);by_cases c:i<n
  .exact⟨n,hn,by rw[C7,if_pos (.inr ((PW hl h1).2 c))],by rw[C7,if_pos (.inr ((PW hm h2).2 c))]⟩
  .have e1:C7 (l.take n) (l.getD i M)=l.take n++[l.getD i M]:=by rw[C7,if_neg (λq=>q.elim v0 λq=>c ((PW hl h1).1 q))]
   have e2:C7 (m.take n) (m.getD i M)=m.take n++[m.getD i M]:=by rw[C7,if_neg (λq=>q.elim x0 λq=>c ((PW hm h2).1 q))]
   rw[e1]at p⊢;rw[e2];have tl:(l.take n).length=n:=by rw[Lg];omega
   have pl:=p.length_le;rw[List.length_append,tl,List.length_singleton]at pl;obtain⟨r,hr⟩:=p;have at':l.getD n M=l.getD i M:=by
    have:l[n]?=some (l.getD i M):=by
     conv=>lhs;rw[<-hr]
     rw[List.append_assoc,List.getElem?_append_right oq,tl,Nat.sub_self];rfl
    rw[Lc,this];rfl
   have en:=Z1K hl oq h1 at';subst en;exact⟨n+1,by omega,by rw[<-Ae h1],by rw[<-Ae h2]⟩
theorem Z3g{A A' rf rf':List Int}(f:rf.length=rf'.length)(b:∀i,i<rf.length->Tq l m (rf.getD i M) (rf'.getD i M))(a:∃n,n<=l.length/\A=l.take n/\A'=m.take n):∀k,k<=rf.length->addN A rf k <+: l->∃n,n<=l.length/\addN A rf k=l.take n/\addN A' rf' k=m.take n
 |0,_,_=>a
 |k+1,hk,p=>by
  have g:addN A rf k <+: addN A rf (k+1):=by
   rw[addN,C7];split
   .exact List.prefix_refl _
   .exact List.prefix_append _ _
  obtain⟨n,c,d,e⟩:=Z3g f b a k oq (g.trans p);rw[addN,addN,e];rw[addN]at p;rw[d]at p⊢;exact Zgp hl hm le l0 m0 c (b k oq) p
end
def Z78(A rf:List Int):∀n,A <+: addN A rf n
 |0=>List.prefix_refl _
 |n+1=>by
  refine(Z78 A rf n).trans ?_;rw[addN,C7];split
  .exact List.prefix_refl _
  .exact List.prefix_append _ _
def Z2V(h:Heap) s(i:Nat):∀d,Zp h s i <+: Zp h s (i+d)|0=>List.prefix_refl _|d+1=>(Z2V h s i d).trans (Z78 _ _ _)
def Z4k{l b a:List Int}(j:a.Nodup)(f:∀p∈a,0<=p/\p<b.length){i:Nat}(g:i<b.length):∀n,n<=a.length->(HR l b a n).getD i M=if(i:Int)∈a.take n then E3 l (b.getD i M)else b.getD i M
 |0,_=>by rw[if_neg pq];rfl
 |n+1,h=>by
  have k:=Z4k (l:=l) j f g n oq;have ll:=DW l b a n;have m:=f _ (ZT.2 ⟨n,by omega,rfl⟩);have d:(i:Int)∈a.take (n+1)↔(i:Int)∈a.take n\/(i:Int)=a.getD n M:=by
   rw[Ae oq];simp
  rw[HR];by_cases c:(i:Int)=a.getD n M
  .rw[if_pos (d.2 (.inr c)),<-c,Int.toNat_natCast,Lc,List.getElem?_set_self oq];rfl
  .have e:((HR l b a n).set (a.getD n M).toNat (E3 l (b.getD (a.getD n M).toNat M))).getD i M=(HR l b a n).getD i M:=by
    simp only[Lc];rw[List.getElem?_set_ne (by simp only[Lc]at c m;omega)]
   rw[e,k];by_cases q:(i:Int)∈a.take n
   .rw[if_pos q,if_pos (d.2 (.inl q))]
   .rw[if_neg q,if_neg (λz=>(d.1 z).elim q c)]
def getD_lt{l:List Int}{i:Nat}(h:i<l.length):l.getD i M=l[i]:=by rw[Lc,Lf h];rfl
def getD_take{l:List Int}{i n:Nat}(h:i<n):(l.take n).getD i M=l.getD i M:=by simp only[Lc,Lm];rw[if_pos h]
def Z8B(f:Int->Int){l:List Int}{j:Nat}(h:j<l.length):(l.map f).getD j M=f (l.getD j M):=by simp only[Lc,Lo,Lf h,Ls,Lr]
def Z7o{h:Heap}(d:Z9 h=La){a:Int}(c:a∈(Zb h).1){j:Nat}(hj:(j:Int)<(Z6 h a).1.length):(BN h a).getD j M=(Z1 h.W (a+1+j)).1:=by obtain⟨f1,_,_,_,f5,_,_,b,_,_⟩:=Ru d c;rw[b];rw[Z1,if_pos oq,getD_take oq];simp only[Lc,List.getElem?_drop];rw[show(a+1-4096).toNat+j=(a+1+(j:Int)-4096).toNat by omega];rfl
structure Tm (h h':Heap) (s s' l m:List Int):Prop where
 o:BW h s=(l,0)
 o':BW h' s'=(m,0)
 L:AL h s l
 L':AL h' s' m
 len:l.length=m.length
 sl:s'.length=s.length
 st:∀i,i<s.length->Tq l m (s.getD i M) (s'.getD i M)
 hd:∀i,i<l.length->(Z6 h' (m.getD i M)).1=(Z6 h (l.getD i M)).1
 fd:∀i,i<l.length->∀j:Nat,(j:Int)<(Z6 h (l.getD i M)).1.length->if Ba (Z6 h (l.getD i M)).1 j=La then Tq l m ((BN h (l.getD i M)).getD j M) ((BN h' (m.getD i M)).getD j M)else(BN h' (m.getD i M)).getD j M=(BN h (l.getD i M)).getD j M
section
variable{h h':Heap}{s b l m:List Int}(K:Tm h h' s b l m)
include K
theorem Tm.node{i:Nat}(n:i<l.length):CU h' m (m.getD i M)=CU h l (l.getD i M):=by
 have le:=K.len;have u:=K.L.el _ (ZT.2 ⟨i,n,rfl⟩);have om:=K.L'.el _ (ZT.2 ⟨i,by omega,rfl⟩);obtain⟨_,_,_,_,_,_,f7,_,t,d⟩:=Ru K.L.p u;obtain⟨_,_,_,_,_,_,v,_,w,r⟩:=Ru K.L'.p om;have hd:=K.hd i n;have fd:=K.fd i n;unfold CU;rw[hd]at v w r⊢;generalize l.getD i M=a at *;generalize m.getD i M=q at *;have f:∀p∈Zk (Z6 h a).1,0<=p/\p<(BN h a).length:=λp f=>by have:=d p f;omega
 have o:∀p∈Zk (Z6 h a).1,0<=p/\p<(BN h' q).length:=λp f=>by have:=d p f;omega
 have e:HR m (BN h' q) (Zk (Z6 h a).1) (Zk (Z6 h a).1).length=HR l (BN h a) (Zk (Z6 h a).1) (Zk (Z6 h a).1).length:=by(refine Ll (by rw[DW,DW];omega) λj g k=>?_;rw[<-getD_lt g,<-getD_lt k];rw[DW]at g k;rw[Z4k t o g _ (Lb _),Z4k t f k _ (Lb _),List.take_length];have:=fd j oq;by_cases c:(j:Int)∈Zk (Z6 h a).1;rw[if_pos c,if_pos c];rw[if_pos (TH _ _ c)]at this;exact Z6H K.L.nd K.L'.nd K.L.n0 K.L'.n0 this;rw[if_neg c,if_neg c];rw[if_neg (λp=>c (Z3S oq oq p))]at this;exact this)
 rw[e]
theorem Tm.graph:E0 h' b=E0 h s:=by
 have le:=K.len;have sl:=K.sl;unfold E0;rw[K.o,K.o',if_pos rfl,if_pos rfl];unfold Z2O;have d:b.map (ET m)=s.map (ET l):=by(refine Ll (by rw[Ld,Ld];exact sl) λi c a=>?_;rw[Ld]at c a;rw[Lj,Lj,<-getD_lt c,<-getD_lt a];unfold ET;rw[Z6H K.L.nd K.L'.nd K.L.n0 K.L'.n0 (K.st i a)])
 have e:m.map (CU h' m)=l.map (CU h l):=by(refine Ll (by rw[Ld,Ld];exact le.symm) λi c a=>?_;rw[Ld]at c a;rw[Lj,Lj,<-getD_lt c,<-getD_lt a];exact K.node a)
 rw[d,e]
end
def ZaZ{h T}(g:Gd h T){s}(hs:H7 h T s){k}(E:Z36 h s k):∀i,i<=k->GA h s i=Zp h s i/\GM h s i:=by
 have a:∀r∈s,r=0\/r∈(Zb h).1:=λr d=>(hs r d).imp id (g.objs.2 r).2;intro i;induction i with|zero=>intro _;exact⟨rfl,GM.zero (g.noBad a)⟩|succ i e =>intro hi;obtain⟨c,I⟩:=e oq;have b:=(E.o i oq).1;rw[c]at b;have mem:=(I.el i (Lb i)).2 _ (ZT.2 ⟨i,b,rfl⟩);refine⟨?_,I.succ b (g.noBad (g.refsOb mem))⟩;show addN (GA h s i) (HX h ((GA h s i).getD i M)) (HX h ((GA h s i).getD i M)).length=_;rw[c,Z7z g.p mem];rfl
def Zmr{B:Int}(hB:0<=B){h T}(g:Gd h T)(mv:MV h){s b}(hw:Zx h.W)(hb:∀p∈h.P,p.N<=B)(hs:H7 h T s)(hk:H7 h T b)(e:(collectF h s b).2.2.2.2=0) :Tm h (collectF h s b).1 s (collectF h s b).2.1 (BW h s).1 (ZF h s).Q:=by
 obtain⟨er,sw⟩:=SW.roots g mv hs hw;have e1:(rootsF (Zr h) s).2.2=0:=by rw[er]
 have e2:=(sw.all g mv).1;have m:=(Z4g hB hw hb e).p1;obtain⟨tq,ce,eh⟩:=PK hB g hw hb e1 e2 (k:=b);have e7:collectF h s b=(Eo (BB h s b),(rootsF (Zr h) s).2.1,EC (ZF h s) b b.length,(BB h s b).rep,0):=by rw[collectF,if_pos g.p,if_pos ⟨g.refers hs,g.refers hk⟩,if_pos e1,if_pos e2]
 rw[e7]at m⊢;simp only at m⊢;rw[eh]at m⊢;have gd:=ce.good m;generalize hH:(⟨(ZF h s).j.C,(GZ (Cz h s b)).j.W,(ZF h s).j.P.map (BU (ZF h s).j.S),1-(ZF h s).j.S,(Eo (BB h s b)).B⟩:Heap)=H' at *;have a4:H'.W=(GZ (Cz h s b)).j.W:=by rw[<-hH]
 obtain⟨k,E,ro,ln,rt,a3⟩:=ZlY g mv hs hw;have sl:(rootsF (Zr h) s).2.1.length=s.length:=by rw[er];exact N0 _ _ _
 generalize (rootsF (Zr h) s).2.1=s' at *;have a8:∀r∈s,r=0\/r∈(Zb h).1:=λr hr=>(hs r hr).imp id (g.objs.2 r).2;have b0:=ZaZ g hs E;obtain⟨kN,I⟩:=b0 k (Lb k);rw[kN]at ro ln rt;have ol:BW h s=(Zp h s k,0):=Z7y g.p g.objs.1 (g.noBad a8) I oq;have O:=Z1U I g.p oq;rw[ol];simp only;have qn:=ro.nd;have ql:=ro.l;have q0:(0:Int)∉(ZF h s).Q:=λc=>by(have:=ce.i.r 0 (Lh _ c);omega)
 have o:∀v x,Tr (ZF h s) v x->Tq (Zp h s k) (ZF h s).Q v x:=by(intro v x t;rcases t with t|⟨t1,t2,t3⟩;exact .inl t;obtain⟨i,a,rfl⟩:=ZT.1 (ro.s v t1 t2);exact .inr ⟨i,a,by omega,rfl,t3.trans (ro.i i a).2⟩)
 have ob:∀i,i<k->(Zp h s k).getD i M∈(Zb h).1/\(ZF h s).Q.getD i M∈(Zb H').1/\(Z6 H' ((ZF h s).Q.getD i M)).1=(Z6 h ((Zp h s k).getD i M)).1 /\
   ∀j:Int,0<=j->j<(Z6 h ((Zp h s k).getD i M)).1.length->if Ba (Z6 h ((Zp h s k).getD i M)).1 j=La then Tq (Zp h s k) (ZF h s).Q (Z1 h.W ((Zp h s k).getD i M+1+j)).1 (Z1 H'.W ((ZF h s).Q.getD i M+1+j)).1 else(Z1 H'.W ((ZF h s).Q.getD i M+1+j)).1=(Z1 h.W ((Zp h s k).getD i M+1+j)).1:=by
  intro i a;have mo:=O.el _ (ZT.2 ⟨i,by omega,(rfl:(Zp h s k).getD i M=_)⟩);obtain⟨i0,a9,b1⟩:=(g.objs.2 _).1 mo;have mq:(ZF h s).Q.getD i M∈(ZF h s).Q:=ZT.2 ⟨i,by omega,rfl⟩;obtain⟨t1,t2⟩:=rt.f i a oq;obtain⟨j0,a0⟩:=ce.where' mq;have w:∀z,(ZF h s).Q.getD i M<=z->z<=(ZF h s).Q.getD i M+Zl (ZF h s).j.W ((ZF h s).Q.getD i M)->Z1 H'.W z=Z1 (ZF h s).j.W z:=λz z1 z2=>by rw[a4];exact ce.seen mq z1 z2
  have hl:Zl (ZF h s).j.W ((ZF h s).Q.getD i M)=Zl h.W ((Zp h s k).getD i M):=congrArg Zz.length t1;have r0:=Bq h.W ((Zp h s k).getD i M);have a7:ZY H'.W ((ZF h s).Q.getD i M)=ZY h.W ((Zp h s k).getD i M):=by rw[ZY,w _ (Int.le_refl _) oq];exact t1
  have a1:=gd.at' a0;have a2:=g.at' a9;refine⟨mo,(gd.objs.2 _).2 ⟨j0,a0, ?_⟩,by rw[a1,a2];exact a7,λj j0 j1=>?_⟩
  .rw[a4];exact(ce.start a0).2.2 mq
  .rw[a2]at j1⊢;have j1:j<Zl h.W ((Zp h s k).getD i M):=j1;have f:=t2 j j0 j1;rw[w _ oq oq];unfold FT at f;by_cases c:Ba (ZY h.W ((Zp h s k).getD i M)) j=La
   .rw[if_pos c]at f⊢;exact o _ _ f
   .rw[if_neg c]at f⊢;exact f
 have rf:∀i,i<k->(ZK h ((Zp h s k).getD i M)).length=(ZK H' ((ZF h s).Q.getD i M)).length/\∀j,j<(ZK h ((Zp h s k).getD i M)).length->Tq (Zp h s k) (ZF h s).Q ((ZK h ((Zp h s k).getD i M)).getD j M) ((ZK H' ((ZF h s).Q.getD i M)).getD j M):=by(intro i a;obtain⟨o1,o2,o3,o4⟩:=ob i a;unfold ZK;rw[o3];refine⟨by rw[Ld,Ld],λj d=>?_⟩;rw[Ld]at d;rw[Z8B _ d,Z8B _ d];have pm:=ZT.2 ⟨j,d,(rfl:(Zk (Z6 h ((Zp h s k).getD i M)).1).getD j M=_)⟩;obtain⟨_,_,_,_,_,_,_,_,_,a6⟩:=Ru g.p o1;have pr:=a6 _ pm;have:=o4 _ pr.1 pr.2.1;rw[if_pos (TH _ _ pm)]at this;exact this)
 have y:∀j,j<=k->∃n,n<=(Zp h s k).length/\Zp h s j=(Zp h s k).take n/\Zp H' s' j=(ZF h s).Q.take n:=by
  intro j;induction j with
  |zero =>intro _;have p:=Z2V h s 0 k;rw[Nat.zero_add]at p;have:=Z3g O.nd qn ql.symm O.n0 q0 (A:=[]) (A':=[]) (rf:=s) (rf':=s') sl.symm (λi a=>o _ _ (a3 i a)) ⟨0,Lq _,by simp,by simp⟩ s.length (Lb _) p;obtain⟨n,n1,l,u⟩:=this;exact⟨n,n1,l,by rw[<-u,<-sl];rfl⟩
  |succ j ih =>
   intro d;obtain⟨n,n1,l,u⟩:=ih oq;obtain⟨lo,_⟩:=I.lo j oq;rw[l,Lg]at lo;obtain⟨r1,r2⟩:=rf j oq;have p:=Z2V h s (j+1) (k-(j+1));rw[show j+1+(k-(j+1))=k by omega]at p;have e3:(Zp h s j).getD j M=(Zp h s k).getD j M:=by rw[l,getD_take oq]
   have e4:(Zp H' s' j).getD j M=(ZF h s).Q.getD j M:=by rw[u,getD_take oq]
   have e5:Zp h s (j+1)=addN (Zp h s j) (ZK h ((Zp h s k).getD j M)) (ZK h ((Zp h s k).getD j M)).length:=by rw[<-e3];rfl
   have e6:Zp H' s' (j+1)=addN (Zp H' s' j) (ZK H' ((ZF h s).Q.getD j M)) (ZK H' ((ZF h s).Q.getD j M)).length:=by rw[<-e4];rfl
   rw[e5]at p⊢;rw[e6,<-r1];exact Z3g O.nd qn ql.symm O.n0 q0 r1 r2 ⟨n,n1,l,u⟩ _ (Lb _) p
 obtain⟨n,n1,l,u⟩:=y k (Lb k);have nk:n=k:=by have:=congrArg List.length l;rw[Lg]at this;omega
 have eq:Zp H' s' k=(ZF h s).Q:=by rw[u,nk,List.take_of_length_le oq]
 have q:∀r∈s',r=0\/r∈(Zb H').1:=by(intro r hr;obtain⟨i,a,rfl⟩:=ZT.1 hr;rcases o _ _ (a3 i oq)with⟨_,c⟩|⟨j,j1,j2,_,c⟩;exact .inl c;rw[c];exact .inr (ob j oq).2.1)
 have I':=gd.ordI q k (λj d=>by
  obtain⟨n,n1,l,u⟩:=y j oq;obtain⟨lo,_⟩:=I.lo j oq;rw[l,Lg]at lo;rw[u,Lg];omega)
 have a5:BW H' s'=(Zp H' s' k,0):=Z7y gd.p gd.objs.1 (gd.noBad q) I' (by rw[eq];omega);have O':=Z1U I' gd.p (by rw[eq];omega);rw[eq]at a5 O';refine⟨ol,a5,O,O',ql.symm,sl,λi a=>o _ _ (a3 i a),λi a=>(ob i oq).2.2.1,λi a j d=>?_⟩;obtain⟨o1,o2,o3,o4⟩:=ob i oq;rw[Z7o g.p o1 d,Z7o gd.p o2 (by rw[o3];exact d)];exact o4 j oq d
def Zmv a:Tm (Zu a).j (Zu a).collect.j (Zu a).G (Zu a).collect.G (BW (Zu a).j (Zu a).G).1 (ZF (Zu a).j (Zu a).G).Q:=by have b:=Av a;obtain⟨T,g,d,f⟩:=OR a;obtain⟨e,c,_⟩:=P7 a;rw[c];exact Zmr (B:=1000) oq g (Z6j a) b.W (λp h=>(b.pin_mem p h).2) d f e
def ZlT(tape:List Int)(h1:tape.length<=140737488355328):GP 8 [ZC tape] La (bL La) []:=by
 have hm:=Av tape;have hv:=C6.collect hm;have hw:=hm.W;have sl:=hm.sl;have su:=hm.G;have K:=Zmv tape;have v1:=hv.W;have v3:=hv.G;have v5:=hv.E;have l1:=(P7 tape).2.2.1;have l2:=(P7 tape).2.2.2.1;have wl:=hm.wl;have gr:=congrArg (λx=>x.1) K.graph;have ey:=congrArg (λx=>x.2) K.graph;obtain⟨T,g,g1,g2⟩:=OR tape;have e:=g.order g1;obtain⟨n1,n2⟩:=ZlQ _ _ hw sl su;have ex:(E0 (Zu tape).j (Zu tape).G).2=0:=by rw[E0,if_pos e]
 rw[ex]at ey;have n3:=n1.1;have gx:Gp8 (E0 (Zu tape).j (Zu tape).G).1:=⟨by omega,by omega,λn hn=>by have:=(n1.2 n hn).2;omega⟩
 obtain⟨T2,g',g1',g2'⟩:=WG.collect (OR tape) hm;have good:=g'.good;have refs:=g'.refers g2';exact gF [] func8 (fO 15) (Fh 7 [.gh 3 1,.int 0,.gh 120 4,.int 1] (Fh 9 [.gh 3 1,.int 0,.gh 120 4,.int 1] (Fc 13 (@Zbi tape aa) (Fc 25 (@Z82 ((Zu tape).j) ((Zu tape).G) aa aa aa) (Fc 33 (@Z82 ((Zu tape).collect.j) ((Zu tape).collect.G) aa oq aa) (Fc 36 (@Zhb) (FcG 48 (La&&(E0 (Zu tape).j (Zu tape).G).2==0&&(E0 (Zu tape).collect.j (Zu tape).collect.G).2==0) (λhg=>by(try simp only[bs]at hg);exact@Zcm ((E0 (Zu tape).j (Zu tape).G).1) ((E0 (Zu tape).collect.j (Zu tape).collect.G).1) aa aa) (FcG 53 (La&&(E0 (Zu tape).j (Zu tape).G).2==0&&(E0 (Zu tape).collect.j (Zu tape).collect.G).2==0&&La) (λhg=>by(try simp only[bs]at hg);exact@Pu ((Zu tape).collect.j) aa) (FcG 60 (La&&(E0 (Zu tape).j (Zu tape).G).2==0&&(E0 (Zu tape).collect.j (Zu tape).collect.G).2==0&&La&&decide (Bn (Zu tape).collect.j=C8.mk 0 0 0)) (λhg=>by(try simp only[bs]at hg);exact@N4 ((Zu tape).collect.j) ((Zu tape).collect.E) aa oq) (Fbs (((E0 (Zu tape).j (Zu tape).G).2==0&&(E0 (Zu tape).collect.j (Zu tape).collect.G).2==0&&La&&decide (Bn (Zu tape).collect.j=C8.mk 0 0 0)&&Bw (Zu tape).collect.j (Zu tape).collect.E)=La) Fz))))))))))
end Go.Proofs.YtgedmeaemofdkaaGreat
namespace Go.Proofs.YtgedmeaemofdkaaGreat
open Go.Sx Go.RowKit
def ZcS(os:Os)(a:os.Started)(H:Type)(enc:TypeId×Value->H) :ReturnsInHanded {} Tryz.checked os 8 .any (Rows.collectKeepsSpec.pre6 enc prog f8 Rows.collectKeepsRow.domain Le) (Rows.collectKeepsSpec.post enc prog f8 Le La Le Le):=by
 refine ZfX (C:=Tryz.checked) (tb:=4) 5 ZgH a kr func8
  (ChangeSpec.witness6 (enc:=enc) (C:=Tryz.checked) Le ⟨#[],#[.slice none 0 0],[]⟩ 8 kr kr kr kr)
  ZlD kr kr kr kr rfl (λd hd=>?_) (λg f h=>?_)
 .match d,hd with
  |[a0],_=>rfl
 .match g,f with
  |[l0],_ =>
   obtain⟨b,rfl,c⟩:=Zdk (n:=3) (h 0 22 l0 kr rfl);have e:Rx prog Tryz.f8.params.toList [[.sl 1 (b.map iD)]]=[ZC b]:=by kernel_rfl
   exact⟨La,e▸ZlT b c⟩
def Zcf:(Rows.collectKeepsRow.inPlace==Tryz.prog.inPlace 8)=La:=by kernel_rfl
def ZeF:(Rows.collectKeepsRow.unfollowed==Tryz.prog.unfollowed 8)=La:=by kernel_rfl
def ZgP:(Rows.collectKeepsRow.recurses==Tryz.prog.recurses 8)=La:=by kernel_rfl
def Zhu:(Rows.collectKeepsRow.named==Tryz.prog.varsNamed 8)=La:=by kernel_rfl
def ZgF:joinedFacts prog 8 f8 Rows.collectKeepsSpec Rows.collectKeepsRow=La:=by
 unfold joinedFacts;rw[Zcf,ZeF,ZgP,Zhu];kernel_rfl
theorem collectKeeps_holds:Rows.CollectKeepsSaid:=
 OpenClaim.holds_of_wide 8 f8 rfl rfl rfl rfl rfl rfl rfl ⟨rfl,rfl,rfl,rfl,rfl⟩ rfl rfl rfl rfl rfl kr func8 ZgF
  (of_decide_eq_true kr) (by unfold Func.isWrapper;first|(rw[if_pos (by decide+kernel)];kernel_rfl)|(rw[if_neg (by decide+kernel)];exact⟨rfl,rfl⟩))
  (λos a H b _=>ZcS os a H b)
end Go.Proofs.YtgedmeaemofdkaaGreat
