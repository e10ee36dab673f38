/-
 The statement CollectReclaims: part 17.
 Conditions: none.
-/
import Derived.Test.YtgedmeaemofdkaaGreatZ16
set_option maxRecDepth 100000
set_option maxHeartbeats 2000000
set_option linter.all false
open Inhabited renaming default->La
open Bool renaming true->Lb,false->Lc
open Nat renaming le_refl->Ld,not_lt_zero->Ll,zero_le->Lo,le_trans->LY,zero_add->LZ,sub_self->Xc
open List renaming range->Le,map->Lf,getD_eq_getElem?_getD->Lg,mem_append_right->Lh,replicate->Li,mem_range->Lj,getElem?_eq_getElem->Lm,mem_cons_of_mem->Ln,length_take->Lp,map_cons->Lq,mem_append->Lr,mem_singleton->Ls,sum_cons->Lt,length_append->Lv,mem_append_left->Lw,find?_eq_none->Lx,length_singleton->Ly,length_map->LB,getElem?_take->LF,mem_map->LG,nodup_nil->LH,find?_range_eq_some->LN,getElem?_drop->LO,getElem?_map->LS,getElem_of_mem->LU,nodup_append->LV,range_succ->LW,append_assoc->L3,ext_getElem->L4,getElem?_append_left->L5,getElem?_append_right->L6,length_cons->L7,length_drop->L8,mem_cons->L9,nodup_cons->Xa,take_of_length_le->Xb
open Option renaming none->Lk,some->LC,getD_some->LI,map_some->L0
open Int renaming add_zero->Lu,add_assoc->LA,mul_le_mul_of_nonneg_right->LL,toNat_natCast->LM,le_refl->LQ,mul_nonneg->LR,mul_comm->L1,tmod_eq_emod_of_nonneg->L2
open Decidable renaming decide->Lz,not_not->LD
open Go.Proofs.Tryz
namespace Go.Proofs.YtgedmeaemofdkaaGreat
open Go.Sx
section
variable{B:Int}(hB:0<=B){h:Heap}{T:Nat->List Int}(g:Gd h T){s k:List Int}(hw:Zz h.W)(hb:∀p∈h.P,p.N<=B)(e1:(rootsF (Zp h) s).2.2=0)(e2:(Bv (rootsF (Zp h) s).1).2=0)(gs:Gx h T s)(gk:Gx h T k)(sl:s.length<=1000)(kl:k.length<=1000)(ks:Ec k)(rt:Z3H (Zp h) s)(ln:Sl (Zp h))(al:Z23 (rootsF (Zp h) s).1)
include hB g hw hb e1 e2 gs gk sl kl ks rt ln al
theorem ZhP:Z4h h s k (Zp h) (rootsF (Zp h) s).1 (ZB h s) (Cq h s k) (Cs h s k) (Bq h s k) (rootsF (Zp h) s).2.1 (Em (ZB h s) k k.length):=by
 have ck:=cOk h s k hw g.p e1 e2;obtain⟨q1,q2,q3,q4,q5⟩:=Z3L h s k hw g.p e1 e2;obtain⟨tq,ce,_⟩:=M1 hB g hw hb e1 e2 (k:=k);have ok1:=(Sd (roots:=s) (Nw hw g.p) (Rv g.p) e1).1;have f2:=ck.w2.fok;refine⟨Zlc h hw g.p g.good, ?_, ?_, ?_,ZgL _ k ⟨f2.W,f2.wl,by have:=f2.ql;omega,ck.i2.L,kl,ks,ck.w2.r0.2.2,λx hx=>(gk x hx).imp id λ⟨i,hi,_⟩=>?_⟩, ?_,ZjB _ q1 ⟨q2,q3⟩ q4 q5 ck.h4.2.2.2.2 (Ziq hB g k hw hb e1 e2),sl,kl,ck.f4.tl, ?_⟩
 .have:=Zje h (s++k) hw qo;rw[g.refers (λx hx=>(Lr.1 hx).elim (gs x) (gk x))]at this;exact this
 .have:=Zdk (Zp h) s rt oq ln;rw[e1]at this;exact this
 .exact ZcI _ ok1 al
 .have:=ZjC (Cq h s k) (Z4G hB g k hw hb e1 e2).fiOk;rw[Zib hB g k hw hb e1 e2]at this;exact this
 .have sp:=ck.w2.sp;rw[<-ck.h4.2.2.1]at sp;exact sp
 .rw[ce.k.c,g.ofx hi]
theorem ZdJ:GP 35 [h.av,Z2 s,Z2 k] Lc (.tu [(collectF h s k).1.av,Z2 (collectF h s k).2.1,Z2 (collectF h s k).2.2.1,.ag (collectF h s k).2.2.2.1.cells,nI (collectF h s k).2.2.2.2]) []:=by
 have a:collectF h s k=(Eg (Bq h s k),(rootsF (Zp h) s).2.1,Em (ZB h s) k k.length,(Bq h s k).rep,0):=by rw[collectF,if_pos g.p,if_pos ⟨g.refers gs,g.refers gk⟩,if_pos e1,if_pos e2]
 rw[a];exact ZeN (ZhP hB g hw hb e1 e2 gs gk sl kl ks rt ln al)
end
def Bo(f:Z0->Int)(l:List Z0):Int:=(l.map f).sum
def C7(p:Z0):Int:=if p.K=0 then 0 else 1
def Cd(p:Z0):Int:=if p.K=1 then p.U else 0
def unP(p:Z0):Int:=if p.K=1/\¬ 0<p.N then p.U else 0
def GB(p:Z0):Int:=if p.K=2\/p.K=3 then 1 else 0
def Dz f(p:Z0):∀(l:List Z0) (i:Nat),i<l.length->Bo f (l.set i p)+f (l.getD i La)=Bo f l+f p
 |[],i,h=>by simp at h
 |x::l,0,_=>by grind[Bo]
 |x::l,i+1,h=>by
  have:=Dz f p l i (by simpa using h);grind[Bo]
def Si(f:Z0->Int){l a:List Z0}(hl:a.length=l.length)(h:∀i,i<l.length->f (a.getD i La)=f (l.getD i La)):Bo f a=Bo f l:=by unfold Bo;congr 1;refine L4 (by simpa using hl) λi h1 h2=>?_;grind
theorem IC f(l:List Z0):Bo f l=((Le l.length).map λi=>f (l.getD i La)).sum:=by unfold Bo;congr 1;refine L4 pq λi h1 h2=>?_;grind
def IX{α:Type}{f g:α->Int}:∀{l:List α},(∀x∈l,f x<=g x)->(l.map f).sum<=(l.map g).sum
 |[],_=>by simp
 |x::l,h=>by
  have:=IX (l:=l) λy a=>h y (Ln _ a);grind
def Z31{α:Type}{f g:α->Int}{n:Int}{r:α}:∀{l:List α},(∀x∈l,f x<=g x)->r∈l->f r+n<=g r->(l.map f).sum+n<=(l.map g).sum
 |[],_,hr,_=>by simp at hr
 |x::l,h,hr,hn=>by
  have h0:=h x pq;have a:∀y∈l,f y<=g y:=λy b=>h y (Ln _ b);simp only[Lq,Lt];rcases L9.1 hr with rfl|hr
  .have:=IX a;omega
  .have:=Z31 a hr hn;omega
def SJ{α:Type}{f:α->Int}:∀{l:List α},(∀x∈l,0<=f x)->0<=(l.map f).sum
 |[],_=>by simp
 |x::l,h=>by
  have:=SJ (l:=l) λy a=>h y (Ln _ a);grind
def Z5P{ws}:∀{l:List Int} {a b:Int},EH ws a b l->(l.map λx=>Zk ws x+1).sum=b-a
 |[],a,b,h=>by grind[EH]
 |x::l,a,b,h=>by
  have:=Z5P h.2.2;simp only[Lq,Lt,this,h.1];omega
def Z9T(l:List Z0):∀i,i<=l.length->(∃j,j<i/\(l.getD j La).K=0)->Zf l i≠[]
 |0,_,⟨j,b,_⟩=>by omega
 |i+1,hi,⟨j,b,d⟩=>by
  have a:E0 l i=l.getD i La:=by grind[Pb]
  simp only[Zf,NM];split
  .split<;>simp
  .rename_i c;rw[a]at c;exact Z9T l i oq ⟨j,by
    grind,d⟩
def Zav{l}(h:¬ 0<=first l 1):∀j,j<l.length->(l.getD j La).K≠0:=by
 intro j a b;have hn:=Z9T l l.length (Ld _) ⟨j,a,b⟩;unfold first at h
 rw[if_neg oq]at h;have ok:=(Nn l l.length).2;cases hr:Zf l l.length<;>grind[Zf,runs,HV]
def ZaD{l:List Z0}(h:∀j,j<l.length->(l.getD j La).K≠0):Bo C7 l=l.length:=by
 rw[IC];have:∀n,n<=l.length->((Le n).map λi=>C7 (l.getD i La)).sum=n:=by
  intro n;induction n with|zero=>simp|succ n ih =>grind[LW,C7]
 grind
def wtW(h:Heap)(w:Z6)(x:Int):Int:=if(ZE (Z1 w.j.W x).1).2=Lb then 0 else Zk h.W x+1
def Nq(h:Heap)(T:Nat->List Int)(w:Z6)(i:Nat):Int:=if(h.P.getD i La).K=1/\¬ 0<(h.P.getD i La).N then((T i).map (wtW h w)).sum else 0
def HK(h:Heap)(T:Nat->List Int)(w:Z6):Int:=((Le h.P.length).map (Nq h T w)).sum
structure MI (h:Heap) (T:Nat->List Int) (w:Z6):Prop where
 m0:w.j.P.length=h.P.length/\w.j.C=h.C
 m1:Bo Cd h.P<=Bo Cd w.j.P
 m2:0<w.T.length->((w.T.length:Int)-1)*(h.C.pw/4*3+1)+(w.j.P.getD (ZH w).toNat La).U<=Bo Cd w.j.P-Bo Cd h.P
 m3:Bo Cd w.j.P+HK h T w<=Bo Cd h.P+Bo unP h.P
 m4:Bo C7 w.j.P=Bo C7 h.P+w.T.length
 m5:∀i,i<h.P.length->(h.P.getD i La).K=1->((w.j.P.getD i La).S=w.j.S↔¬ 0<(h.P.getD i La).N)
def Pp(h:Heap) w(x:Int):0<=wtW h w x/\wtW h w x<=Zk h.W x+1:=by have:=Bn h.W x;grind[wtW]
def ZgA{h T}{w w':Z6}(e:w'.j.W=w.j.W):HK h T w'=HK h T w:=by unfold HK Nq wtW;rw[e]
def ZkV{h T}(g:Gd h T)(w:Z6):HK h T w<=Bo unP h.P:=by rw[IC];refine IX λi a=>?_;have a:=Lj.1 a;unfold Nq unP;split;rename_i k;have t:=Z5P (g.t1 i a k.1).1;have:=IX (l:=T i) (f:=wtW h w) (g:=λx=>Zk h.W x+1) λx _=>(Pp h w x).2;omega;omega
def Zka(h:Heap) T w:0<=HK h T w:=by refine SJ λi _=>?_;unfold Nq;split;exact SJ λx _=>(Pp h w x).1;omega
def Zjy{h:Heap}{T:Nat->List Int}{w w'}{n r:Int}{a:Nat}(hi:a<h.P.length)(d:(h.P.getD a La).K=1/\¬ 0<(h.P.getD a La).N)(f:r∈T a)(c:∀i x,x∈T i->wtW h w' x<=wtW h w x)(e:wtW h w' r+n<=wtW h w r):HK h T w'+n<=HK h T w:=by refine Z31 (r:=a) (λi hi=>?_) (Lj.2 hi) ?_;unfold Nq;split;exact IX λx b=>c i x b;omega;unfold Nq;rw[if_pos d,if_pos d];exact Z31 (λx b=>c a x b) f e
def MI.begin{h T}(g:Gd h T):MI h T (Zp h):=by
 have e:∀i,i<h.P.length->(((Zp h).j.P.getD i La).K=(h.P.getD i La).K/\((Zp h).j.P.getD i La).U=(h.P.getD i La).U):=by grind[Zp,Zr]
 have l:(Zp h).j.P.length=h.P.length:=by simp[Zp]
 have e1:Bo Cd (Zp h).j.P=Bo Cd h.P:=Si Cd l λi a=>by grind[Cd]
 have e2:Bo C7 (Zp h).j.P=Bo C7 h.P:=Si C7 l λi a=>by grind[C7]
 have r:=ZkV g (Zp h);refine⟨⟨l,rfl⟩,by omega,by simp[Zp],by omega,by grind[Zp],λi a hk=>?_⟩;have sp:=g.sp i a oq;grind[Zp,Zr]
def MI.keep{h T w}(m:MI h T w) r:MI h T (w.keep r):=⟨m.m0,m.m1,m.m2,m.m3,m.m4,m.m5⟩
def MI.flip{h T r w}(m:MI h T w)(k:KI h T r w){i:Nat}(h2:(w.j.P.getD i La).K=2):MI h T (w.flip i):=by
 have e:∀j,((w.flip i).j.P.getD j La).K=(w.j.P.getD j La).K/\((w.flip i).j.P.getD j La).U=(w.j.P.getD j La).U:=by(intro j;simp only[Z6.flip];by_cases b:j<w.j.P.length;rw[HB b];split<;>exact⟨rfl,rfl⟩;grind[H3])
 have l:(w.flip i).j.P.length=w.j.P.length:=by simp[Z6.flip,H3]
 have a:Bo Cd (w.flip i).j.P=Bo Cd w.j.P:=Si Cd l λj _=>by grind[Cd]
 have f:Bo C7 (w.flip i).j.P=Bo C7 w.j.P:=Si C7 l λj _=>by grind[C7]
 have g:HK h T (w.flip i)=HK h T w:=ZgA rfl;have c:(w.flip i).T=w.T:=rfl;have el:ZH (w.flip i)=ZH w:=rfl;refine⟨⟨by rw[l];exact m.m0.1,m.m0.2⟩,by rw[a];exact m.m1, ?_,by rw[a,g];exact m.m3,by rw[f,c];exact m.m4,λj b d=>?_⟩;rotate_left;have n:=m.m0.1;have o:(j:Int)∉w.T:=λq=>by have:=(k.tk j q).2.1;omega
 have p:=(k.pg j o).1;rw[d]at p;have:(w.flip i).j.P.getD j La=w.j.P.getD j La:=by(simp only[Z6.flip];rw[HB oq,if_neg];rintro⟨q1,q2⟩;by_cases q:j=i;subst q;omega;have:=(Rx (l:=w.j.P) (i:=i) (m:=j-i-1) oq).2;grind)
 rw[this];exact m.m5 j b d;intro q;rw[c,el,(e _).2,a];exact m.m2 q
def MI.copy{h T tq w}(g:Gd h T)(m:MI h T w)(k:KI h T tq w)(hw:B9 w){r n:Int}{s}(o:r∈T s)(h1:(h.P.getD s La).K=1)(a3:¬ 0<(h.P.getD s La).N)(ht:(ZE (Z1 w.j.W r).1).2=Lc)(hn:n=Zk w.j.W r+1)(hc:(w.place n).2.2=Lb):MI h T ((w.place n).1.copy r (w.place n).2.1 n):=by
 have he:(Z1 w.j.W r).1=(Z1 h.W r).1:=by(rcases k.hd s r o with q|q;exact q;grind)
 have a8:=Bn w.j.W r;have a5:Zk w.j.W r=Zk h.W r:=(Eh he).2.1;have y:=(g.t0 s r o).1;have b2:=(g.t1 s y h1).2 r o;have po:=B4 g.p;have sw:=Ru po.1;have hv:=BG.1 po.1;have a1:n<=w.j.C.pw:=by rw[k.c];omega
 obtain⟨i,p,t,p1,p2,p3,p4,p5,p6,p7,e⟩:=T8 hw ⟨by omega,a1⟩ hc;have v:=k.c;have a7:=g.inw o;have d:(h.P.getD i La).K=0:=by(rcases p2 with q|q;by_cases c:(i:Int)∈w.T;exact(k.tk i c).2.1;rw[<-(k.pg i c).1];exact q.1;exact(k.tk i q.1).2.1)
 have b0:=k.pl;have b3:=k.wl;have a0:=EK (i:=i) (j:=h.C.pg) (pw:=h.C.pw) oq oq;rw[L1 h.C.pg]at a0;have a6:0<=(i:Int)*h.C.pw:=LR oq oq;have hx:∀j x,x∈T j->x≠r->(Z1 (BL (moveA w.j.W (w.place n).2.1 r n).1 r (4*(w.place n).2.1+2)).1 x).1=(Z1 w.j.W x).1:=by(intro j x hx a9;have u:=g.free (show i<h.P.length by omega) (Or.inl d) hx;rw[BZ,if_pos d]at u;have r1:=Bn h.W x;unfold ZC at u;rw[p7,v];rw[v]at p5;have f:=g.free (show i<h.P.length by omega) (Or.inl d) o;rw[BZ,if_pos d]at f;unfold ZC at f;obtain⟨m1,m2,m3⟩:=Sy (ws:=w.j.W) (a:=4+4092+(i:Int)*h.C.pw+BZ (w.j.P.getD i La)) (b:=r) (n:=n) oq oq oq;rw[show(4:Int)+4092+(i:Int)*h.C.pw=4096+(i:Int)*h.C.pw by omega]at m1 m2 m3;grind[Gb])
 have b1:(ZE (Z1 (BL (moveA w.j.W (w.place n).2.1 r n).1 r (4*(w.place n).2.1+2)).1 r).1).2=Lb:=by grind[Sy,Rn,OE]
 have ew:((w.place n).1.copy r (w.place n).2.1 n).j.W=(BL (moveA w.j.W (w.place n).2.1 r n).1 r (4*(w.place n).2.1+2)).1:=by(rw[e];rfl)
 have a2:HK h T ((w.place n).1.copy r (w.place n).2.1 n)+n<=HK h T w:=by(refine Zjy y ⟨h1,a3⟩ o (λj x b4=>?_) ?_;grind[wtW];grind[wtW])
 have l:((w.place n).1.copy r (w.place n).2.1 n).j.P=w.j.P.set i p:=by rw[e];rfl
 have eT:((w.place n).1.copy r (w.place n).2.1 n).T=t:=by rw[e];rfl
 have eL:ZH ((w.place n).1.copy r (w.place n).2.1 n)=t.getD ((t.length:Int)-1).toNat La:=by grind[ZH]
 have s1:=Dz Cd p w.j.P i p1;have s2:=Dz C7 p w.j.P i p1;have u1:Cd p=p.U:=by grind[Cd]
 have z1:C7 p=1:=by rw[C7,if_neg oq]
 have m1:=m.m1;have m3:=m.m3;have m4:=m.m4;have a4:0<=((w.T.length:Int))*(h.C.pw/4*3+1):=LR oq oq;have h5:∀j,j<h.P.length->(h.P.getD j La).K=1->((((w.place n).1.copy r (w.place n).2.1 n).j.P.getD j La).S=((w.place n).1.copy r (w.place n).2.1 n).j.S↔¬ 0<(h.P.getD j La).N):=by
  intro j hj hk;have eS:((w.place n).1.copy r (w.place n).2.1 n).j.S=w.j.S:=by rw[e];rfl
  rw[l,eS,Ck p1,if_neg (by grind)];exact m.m5 j hj hk
 rcases p2 with⟨q1,q2,q3⟩|⟨q1,q2,q3,q4⟩;have u2:Cd (w.j.P.getD i La)=0:=by rw[Cd,if_neg oq]
 have z2:C7 (w.j.P.getD i La)=0:=by grind[C7]
 have oc:BZ (w.j.P.getD i La)=0:=by grind[BZ]
 rw[oc]at p4;have hu:Bo Cd (w.j.P.set i p)=Bo Cd w.j.P+n:=by omega
 refine⟨⟨by grind,by rw[e];exact m.m0.2⟩,by rw[l];omega, ?_,by rw[l];omega,by grind[Ly],h5⟩;intro _;rw[eL,l,eT,hu,q2];have el:(w.T++[(i:Int)]).getD ((((w.T++[(i:Int)]).length:Nat):Int)-1).toNat La=i:=by simp_all
 rw[el,LM,Ck p1,if_pos rfl,Lv,Ly];rw[show(((w.T.length+1:Nat):Int)-1)=w.T.length by omega];by_cases z:0<w.T.length;have m2:=m.m2 z;have nf:¬ Ef w n:=by grind[Z6.place]
 grind[Ef];grind
 .have u2:Cd (w.j.P.getD i La)=(w.j.P.getD i La).U:=by grind[Cd]
  have z2:C7 (w.j.P.getD i La)=1:=by rw[C7,if_neg oq]
  have oc:BZ (w.j.P.getD i La)=(w.j.P.getD i La).U:=by rw[BZ,if_neg oq]
  rw[oc]at p4;have hu:Bo Cd (w.j.P.set i p)=Bo Cd w.j.P+n:=by omega
  refine⟨⟨by grind,by rw[e];exact m.m0.2⟩,by rw[l];omega, ?_,by rw[l];omega,by grind,h5⟩;intro z;rw[eT,q3]at z;have m2:=m.m2 z;rw[eL,l,eT,hu,q3];rw[Ck p1];show((w.T.length:Int)-1)*_+Z0.U (if i=(ZH w).toNat then p else w.j.P.getD (ZH w).toNat La)<=_;split;all_goals grind
structure MV (h:Heap):Prop where
 v:Bo Cd h.P+Bo GB h.P*h.C.pw<=h.C.pg/4*h.C.pw
 n:∃t:Int,Bo C7 h.P<=h.C.pg/4+Bo GB h.P+t/\(t-1)*(h.C.pw/4*3+1)<=Bo Cd h.P
def Z1F{α:Type}{f:α->Int}{r:α}:∀{l:List α},(∀x∈l,0<=f x)->r∈l->f r<=(l.map f).sum
 |[],_,hr=>by simp at hr
 |x::l,h,hr=>by
  have h0:=h x pq;have a:∀y∈l,0<=f y:=λy b=>h y (Ln _ b);simp only[Lq,Lt];rcases L9.1 hr with rfl|hr
  .have:=SJ a;omega
  .have:=Z1F a hr;omega
def Zhy{t t' s q L U nz pg:Int}(hs:4<=s)(hq:2<=q)(a:4*q<=pg)(hL:0<=L)(ht:0<=t)(h1:pg=nz+t)(h2:t*(s*3+1)<=U-1)(h3:nz<=q+L+t')(h4:(t'-1)*(s*3+1)<=U)(h5:U+L*(s*4)<=q*(s*4)):False:=by
 have e2:t*(s*3+1)=3*t*s+t:=by grind
 have e4:(t'-1)*(s*3+1)=3*(t'-1)*s+(t'-1):=by grind
 have e5:q*(s*4)-L*(s*4)=4*(q-L)*s:=by grind
 have a1:3*t<4*(q-L):=by(by_cases c:3*t<4*(q-L);exact c;have:=LL (show 4*(q-L)<=3*t by omega) (show 0<=s by omega);omega)
 have a2:3*(t'-1)<4*(q-L):=by(by_cases c:3*(t'-1)<4*(q-L);exact c;have:=LL (show 4*(q-L)<=3*(t'-1) by omega) (show 0<=s by omega);omega)
 omega
def MI.unp{h T g w}(m:MI h T w)(k:KI h T g w){r o:Int}{a:Nat}(b:Z3 w.j.C r=((a:Int),o,0))(d:(a:Int)∉w.T)(hi:a<h.P.length)(k1:(h.P.getD a La).K=1)(c4:¬ ZJ w (Z3 w.j.C r).1=Lb):¬ 0<(h.P.getD a La).N:=by intro e;apply c4;have f:=m.m0.1;have q:=(m.m5 a hi k1);have kk:=(k.pg a d).1;simp only[ZJ,decide_eq_true_eq];rw[b];simp only[LM];exact⟨by omega,by omega,by omega,λc=>(q.1 c) e,d⟩
section
variable{h:Heap}{T tq:Nat->List Int}{w:Z6}(g:Gd h T)(m:MI h T w)(k:KI h T tq w)(d:B9 w)(f:MV h)
include g m k d f
theorem MI.room{r n:Int}{e}(y:r∈T e)(h1:(h.P.getD e La).K=1)(a3:¬ 0<(h.P.getD e La).N)(ht:(ZE (Z1 w.j.W r).1).2=Lc)(hn:n=Zk w.j.W r+1):(w.place n).2.2=Lb:=by
 have he:(Z1 w.j.W r).1=(Z1 h.W r).1:=by(rcases k.hd e r y with q|q;exact q;rw[q.1]at ht;cases ht)
 have a5:=Bn w.j.W r;have a4:Zk w.j.W r=Zk h.W r:=(Eh he).2.1;have o:=(g.t0 e r y).1;have a6:=(g.t1 e o h1).2 r y;have po:=B4 g.p;have sw:=Ru po.1;have hv:=BG.1 po.1;have a1:h.C.pw=h.C.pw/4*4:=by(have:=hv.2.2.1;rw[L2 oq]at this;omega)
 by_cases u:Ef w n;rw[Z6.place,if_pos u];by_cases hg:0<=ZR w;rw[Z6.place,if_neg u,if_pos hg];exfalso;have nz:=ZaD (Zav (l:=w.j.P) hg);have m0:=m.m0;have m1:=m.m1;have m3:=m.m3;have m4:=m.m4;have a0:=d.pl;rw[m0.2]at a0;have a2:n<=HK h T w:=by
  have a:Nq h T w e<=HK h T w:=Z1F (λi _=>by
   unfold Nq;split;exact SJ λx _=>(Pp h w x).1;exact LQ _) (Lj.2 o)
  have b:wtW h w r<=Nq h T w e:=by(unfold Nq;rw[if_pos ⟨h1,a3⟩];exact Z1F (λx _=>(Pp h w x).1) y)
  unfold wtW at b;rw[if_neg (by rw[ht];simp)]at b;omega
 have a7:Bo unP h.P<=Bo Cd h.P:=IX λp hp=>by(obtain⟨j,hj,rfl⟩:=LU hp;have pp:=En g.p hj;rw[Lg,Lm hj,LI]at pp;unfold unP Cd;split;rename_i c;rw[if_pos c.1];omega;split<;>omega)
 have hL:0<=Bo GB h.P:=SJ λp _=>by unfold GB;split<;>omega
 have h2:(w.T.length:Int)*(h.C.pw/4*3+1)<=Bo Cd h.P-1:=by
  by_cases z:0<w.T.length;have m2:=m.m2 z;unfold Ef at u;rw[m0.2]at u;have hq:h.C.pw/4*3+1<=(w.j.P.getD (ZH w).toNat La).U:=by omega
  rw[show(w.T.length:Int)*(h.C.pw/4*3+1)=((w.T.length:Int)-1)*(h.C.pw/4*3+1)+(h.C.pw/4*3+1) by rw[Int.sub_mul];omega];omega;have:w.T.length=0:=by omega
  rw[this];simp;omega
 obtain⟨t',n1,n2⟩:=f.n;have v:=f.v;exact Zhy (s:=h.C.pw/4) (q:=h.C.pg/4) (pg:=h.C.pg) (nz:=Bo C7 h.P) (L:=Bo GB h.P) (U:=Bo Cd h.P) (t:=w.T.length) (t':=t') oq oq oq hL oq oq h2 n1 n2 (by rw[<-a1];exact v)
theorem MI.fwd_ok(hi:Bw w){r:Int}(n:r=0\/r∈w.Q\/r∈w.old):(w.fwd r).2.2=0:=by
 unfold Z6.fwd;by_cases c1:r=0\/r∈w.Q;rw[if_pos c1];rw[if_neg c1];have c2:r∈w.old:=by(rcases n with q|q|q;exact absurd (Or.inl q) c1;exact absurd (Or.inr q) c1;exact q)
 rw[if_neg (by simpa using c2)];obtain⟨a,c,l⟩:=(k.old r).1 c2;have b:Z3 w.j.C r=((a:Int),r-ZC h a,0):=by rw[k.c];exact g.ofx c
 by_cases c3:(ZE (Z1 w.j.W r).1).2=Lb;rw[if_pos c3];rw[if_neg c3,if_neg (by rw[b];simp)];by_cases c4:ZJ w (Z3 w.j.C r).1=Lb;rw[if_pos c4];rw[if_neg c4];by_cases e:(w.j.P.getD (CH w r) La).K=2;rw[if_pos e];rw[if_neg e];have i:CH w r=a:=by rw[CH,b];simp
 rw[i]at e;have j:=k.nt g c;have k1:(h.P.getD a La).K=1:=by(have:=(g.t0 a r c).2;rw[<-(k.pg a j).1]at this⊢;omega)
 have:=m.room g k d f c k1 (m.unp k b j (g.t0 a r c).1 k1 c4) (by simpa using c3) rfl;rw[<-GI w r]at this;rw[if_neg (by rw[this];simp)]
theorem MI.fwd(hi:Bw w){r}(e:(w.fwd r).2.2=0):MI h T (w.fwd r).1:=by
 unfold Z6.fwd at e⊢;by_cases c1:r=0\/r∈w.Q;rw[if_pos c1];exact m;rw[if_neg c1]at e⊢;by_cases c2:r∈w.old;rw[if_neg (by simpa using c2)]at e⊢;obtain⟨a,c,p⟩:=(k.old r).1 c2;have b:Z3 w.j.C r=((a:Int),r-ZC h a,0):=by rw[k.c];exact g.ofx c
 by_cases c3:(ZE (Z1 w.j.W r).1).2=Lb;rw[if_pos c3];exact m;rw[if_neg c3,if_neg (by rw[b];simp)]at e⊢;by_cases c4:ZJ w (Z3 w.j.C r).1=Lb;rw[if_pos c4];exact m.keep r;rw[if_neg c4]at e⊢;by_cases j:(w.j.P.getD (CH w r) La).K=2;rw[if_pos j];exact(m.flip k j).keep r;rw[if_neg j]at e⊢;have n:CH w r=a:=by rw[CH,b];simp
 rw[n]at j;have o:=k.nt g c;have k1:(h.P.getD a La).K=1:=by(have:=(g.t0 a r c).2;rw[<-(k.pg a o).1]at this⊢;omega)
 have i:=m.unp k b o (g.t0 a r c).1 k1 c4;have l:=m.room g k d f c k1 i (by simpa using c3) rfl;rw[<-GI w r]at l;rw[if_neg (by rw[l];simp)];exact m.copy g k d c k1 i (by simpa using c3) (GI w r) l;rw[if_pos c2]at e;simp at e
end
def ZeU{ws:List Int}{a b n k:Int}(ha:4096<=a/\a-4096+n<=ws.length)(e:4096<=b/\b-4096+n<=ws.length)(hk:0<=k/\k<n):Z1 (moveA ws a b n).1 (a+k)=((Z1 ws (b+k)).1,0):=by
 have c:BN ws b n=((ws.drop (b-4096).toNat).take n.toNat,0):=by rw[BN,if_neg oq,if_pos e]
 have d:moveA ws a b n=ZU ws a ((ws.drop (b-4096).toNat).take n.toNat):=by rw[moveA,c];simp
 have hl:((ws.drop (b-4096).toNat).take n.toNat).length=n.toNat:=by simp;omega
 rw[d,Sj oq oq];congr 1;unfold Z1;rw[if_pos oq];simp only[Lg];rw[show a+k-a=k by omega,List.getElem?_take_of_lt oq,LO];rw[show(b-4096).toNat+k.toNat=(b+k-4096).toNat by omega]
def CS(w:Z6)(y:Int):Int:=if y∈w.Q then y else if(ZE (Z1 w.j.W y).1).2=Lb then(ZE (Z1 w.j.W y).1).1 else 0
structure Tl (h:Heap) (T:Nat->List Int) (w:Z6) (r:Int) (i0:Nat) (w':Z6) (a:Int):Prop where
 b:4096<=a
 q:w'.Q=w.Q++[a]
 n:w'.rep.copied+w'.rep.kept=w.rep.copied+w.rep.kept+1
 o:w'.old=w.old
 l:w'.j.W.length=w.j.W.length
 s:((h.P.getD i0 La).K=2\/0<(h.P.getD i0 La).N)↔a=r
 e:a-4096+Zk h.W r<w.j.W.length
 f:a=r->w'.j.W=w.j.W
 c:a≠r->ZE (Z1 w'.j.W r).1=(a,Lb)
 t:∀j x,x∈T j->x≠r->a≠x/\Z1 w'.j.W x=Z1 w.j.W x
 x:∀k,0<=k->k<=Zk h.W r->(Z1 w'.j.W (a+k)).1=(Z1 w.j.W (r+k)).1
section
variable{h:Heap}{T tq:Nat->List Int}{w:Z6}(g:Gd h T)(m:MI h T w)(k:KI h T tq w)(d:B9 w)(f:MV h)
include g m k d f
theorem Zb5{r:Int}{l}(y:r∈T l)(a7:CG h.W r≠0)(hq:r∉w.Q)(ht:(ZE (Z1 w.j.W r).1).2=Lc) :(w.fwd r).2.2=0/\Tl h T w r l (w.fwd r).1 (w.fwd r).2.1:=by
 have ho:r∈w.old:=(k.old r).2 ⟨l,y,a7⟩;have b6:=g.inw y;have on:=g.on y;have b7:=Bn h.W r;have he:(Z1 w.j.W r).1=(Z1 h.W r).1:=by(rcases k.hd l r y with q|q;exact q;rw[q.1]at ht;cases ht)
 have b2:Zk w.j.W r=Zk h.W r:=(Eh he).2.1;have nt:=k.nt g y;have pg:=k.pg l nt;have wl:=k.wl;have c1:¬ (r=0\/r∈w.Q):=by(rintro(q|q);omega;exact hq q)
 have s:Z3 w.j.C r=((l:Int),r-ZC h l,0):=by rw[k.c];exact g.ofx y
 have a0:CH w r=l:=by rw[CH,s];simp
 by_cases c4:ZJ w (Z3 w.j.C r).1=Lb;have ef:w.fwd r=(w.keep r,r,0):=by rw[Z6.fwd,if_neg c1,if_neg (by simpa using ho),if_neg (by rw[ht];simp),if_neg (by rw[s];simp),if_pos c4]
 rw[ef];show(0:Int)=0/\Tl h T w r l (w.keep r) r;have hs:(h.P.getD l La).K=2\/0<(h.P.getD l La).N:=by
  rw[s]at c4;simp only[ZJ,decide_eq_true_eq,LM]at c4;have k1:(h.P.getD l La).K=1:=by rw[<-pg.1];exact c4.2.2.1
  have:=m.m5 l on.1 k1;by_cases q:0<(h.P.getD l La).N;exact .inr q;exact absurd (this.2 q) c4.2.2.2.1
 exact⟨rfl,by omega,rfl,by simp only[Z6.keep];omega,rfl,rfl,⟨λ_=>rfl,λ_=>hs⟩,by omega,λ_=>rfl,λq=>absurd rfl q,λj x _ o=>⟨λq=>o q.symm,rfl⟩,λ_ _ _=>rfl⟩;by_cases c5:(w.j.P.getD (CH w r) La).K=2;have ef:w.fwd r=((w.flip (CH w r)).keep r,r,0):=by rw[Z6.fwd,if_neg c1,if_neg (by simpa using ho),if_neg (by rw[ht];simp),if_neg (by rw[s];simp),if_neg c4,if_pos c5]
 rw[ef];show(0:Int)=0/\Tl h T w r l ((w.flip (CH w r)).keep r) r;have hs:(h.P.getD l La).K=2\/0<(h.P.getD l La).N:=by(rw[a0,pg.1]at c5;exact .inl c5)
 exact⟨rfl,by omega,rfl,by simp only[Z6.keep,Z6.flip];omega,rfl,rfl,⟨λ_=>rfl,λ_=>hs⟩,by omega,λ_=>rfl,λq=>absurd rfl q,λj x _ o=>⟨λq=>o q.symm,rfl⟩,λ_ _ _=>rfl⟩;have k1:(h.P.getD l La).K=1:=by(have:=on.2.1;rw[a0]at c5;rw[<-pg.1]at this⊢;omega)
 have a3:=m.unp k s nt on.1 k1 c4;have v:=m.room g k d f y k1 a3 ht rfl;have a8:=GI w r;have ef:w.fwd r=((w.place (Zk w.j.W r+1)).1.copy r (w.place (Zk w.j.W r+1)).2.1 (Zk w.j.W r+1),(w.place (Zk w.j.W r+1)).2.1,0):=by(rw[Z6.fwd,if_neg c1,if_neg (by simpa using ho),if_neg (by rw[ht];simp),if_neg (by rw[s];simp),if_neg c4,if_neg c5,a8,if_neg (by rw[v];simp)])
 rw[ef];show(0:Int)=0/\Tl h T w r l ((w.place (Zk w.j.W r+1)).1.copy r (w.place (Zk w.j.W r+1)).2.1 (Zk w.j.W r+1)) (w.place (Zk w.j.W r+1)).2.1;have po:=B4 g.p;have b9:=(g.t1 l on.1 k1).2 r y;have c0:=Ru po.1;have b4:=BG.1 po.1;obtain⟨i,p,t,p1,p2,p3,p4,p5,p6,p7,e⟩:=T8 d ⟨by omega,by rw[k.c];omega⟩ v;have a5:=k.c;have b8:=k.pl;have a2:(h.P.getD i La).K=0:=by(rcases p2 with q|q;by_cases c:(i:Int)∈w.T;exact(k.tk i c).2.1;rw[<-(k.pg i c).1];exact q.1;exact(k.tk i q.1).2.1)
 have a6:=EK (i:=i) (j:=h.C.pg) (pw:=h.C.pw) oq oq;rw[L1 h.C.pg]at a6;have b5:0<=(i:Int)*h.C.pw:=LR oq oq;rw[a5]at p5 p7;have a4:4096+(i:Int)*h.C.pw=ZC h i:=rfl;rw[e,p7,a4];generalize hu:BZ (w.j.P.getD i La)=u at *;generalize ha:ZC h i+u=a;have b3:4096<=a/\a+(Zk w.j.W r+1)<=4096+w.j.W.length:=by omega
 have a1:∀j x,x∈T j->x+Zk h.W x<ZC h i\/ZC h i+h.C.pw<=x:=by(intro j x y;have:=g.free (show i<h.P.length by omega) (Or.inl a2) y;rw[BZ,if_pos a2]at this;omega)
 have b1:=a1 l r y;obtain⟨m1,m2,m3⟩:=Sy (ws:=w.j.W) (a:=a) (b:=r) (n:=Zk w.j.W r+1) oq oq oq;have z:4096<=r/\r<4096+(moveA w.j.W a r (Zk w.j.W r+1)).1.length:=by omega
 have o:a≠r:=by omega
 refine⟨rfl,by omega,rfl,by simp only[Z6.copy];omega,rfl, ?_,⟨λq=>?_,λq=>absurd q o⟩,by omega,λq=>absurd q o,λ_=>?_,λj x a9 b0=>?_,λj j0 j1=>?_⟩;simp only[Z6.copy];rw[AA z,m1];rcases q with q|q;omega;exact absurd q a3;simp only[Z6.copy];rw[Rn z,OE oq oq];have fx:=a1 j x a9;have rx:=Bn h.W x;simp only[Z6.copy];exact⟨by omega,by rw[Gb z b0,m3 x oq]⟩;simp only[Z6.copy];rw[Gb z oq,ZeU oq oq oq]
end
theorem SF(l:List Z0):Bo C7 l=Cl l:=by
 rw[IC];unfold Cl;have:∀n,((Le n).map λi=>C7 (l.getD i La)).sum=Ez l n:=by
  intro n;induction n with|zero=>simp[Ez]|succ n ih =>grind[Pb,LW,Ez,C7]
 exact this _
def Z6b{pw:Int}:∀{l:List Z0},(∀p∈l,Cd p+GB p*pw<=C7 p*pw)->Bo Cd l+Bo GB l*pw<=Bo C7 l*pw
 |[],_=>by simp[Bo]
 |x::l,h=>by
  have a:=Z6b (l:=l) λp c=>h p (Ln _ c);have b:=h x pq;simp only[Bo,Lq,Lt,Int.add_mul]at a b⊢;omega
def Z9m{h:Heap}(b:Z8 h=Lb):0<=Bo Cd h.P:=SJ λp c=>by
 obtain⟨j,a,rfl⟩:=LU c;have pp:=En b a;grind[Cd]
def Zkz l:0<=Bo GB l:=SJ λp _=>by grind[GB]
def MV.few{h:Heap}(a:Z8 h=Lb)(b:(Cl h.P:Int)<=h.C.pg/4):MV h:=by
 have po:=B4 a;rw[<-SF]at b;have u0:=Z9m a;have l0:=Zkz h.P;refine⟨?_,0,by omega,by omega⟩;have:=Z6b (pw:=h.C.pw) (l:=h.P) λp d=>by(obtain⟨j,c,rfl⟩:=LU d;have pp:=En a c;grind[Cd,GB,C7])
 have:=LL b (show 0<=h.C.pw by omega);omega
def MV.same{h h':Heap}(m:MV h)(c:h'.C=h.C)(hl:h'.P.length=h.P.length)(hk:∀i,i<h.P.length->(h'.P.getD i La).K=(h.P.getD i La).K/\(h'.P.getD i La).U=(h.P.getD i La).U):MV h':=by
 have a:Bo Cd h'.P=Bo Cd h.P:=Si Cd hl λi d=>by grind[Cd]
 have e:Bo C7 h'.P=Bo C7 h.P:=Si C7 hl λi d=>by grind[C7]
 have b:Bo GB h'.P=Bo GB h.P:=Si GB hl λi d=>by grind[GB]
 refine⟨by rw[a,b,c];exact m.v, ?_⟩;rw[a,e,b,c];exact m.n
def Z9G{l m:List Z0}{i:Nat}(h:i+m.length<=l.length):∀k,k<=m.length->Bo C7 (wr l m i k)<=Bo C7 l+k
 |0,_=>by rw[Dh];simp
 |k+1,hk=>by
  have ih:=Z9G h k oq;have e:=MH h oq (La:Z0) (k:=k);rw[<-e];have s:=Dz C7 (m.getD k La) (wr l m i k) (i+k) (by grind[IG]);grind[C7]
def Zcb{l:List Z0}{i k:Nat}{p q:Z0}(hk:1<=k)(h:i+k<=l.length)(hq:q.K≠0):Bo C7 (ZM l i k p q)<=Bo C7 l+k:=by
 have a:i+(Li k q).length<=l.length:=by grind
 have w:=Z9G a k pq;have s:=Dz C7 p (wr l (Li k q) i k) i (by grind[IG]);grind[Ai,C7,ZM]
def ZgB{h:Heap}{hd:Zv}(hp:Z8 h=Lb)(hc:(Co h hd).2.2=Lb):(Cl (Co h hd).1.P:Int)<=h.C.pg/4:=by
 have po:=B4 hp;have hv:=BG.1 po.1;have li:E6 h.C=h.C.pg/4:=by grind[E6]
 unfold Co at hc⊢;split at hc
 .rename_i c;rw[if_pos c];unfold BE at hc⊢;split at hc
  .rename_i c2;rw[if_pos c2];have ff:=HN c2.1;rw[<-SF];simp only;have e:(GJ h.C h.P (first h.P (need h.C (Z5 hd))) h.S (Z5 hd)).1=ZM h.P (first h.P (need h.C (Z5 hd))).toNat (need h.C (Z5 hd)).toNat ⟨2,h.S,Z5 hd,0⟩ ⟨3,h.S,0,0⟩:=by grind[GJ,EP]
   rw[e];have:=Zcb (l:=h.P) (i:=(first h.P (need h.C (Z5 hd))).toNat) (k:=(need h.C (Z5 hd)).toNat) (p:=⟨2,h.S,Z5 hd,0⟩) (q:=⟨3,h.S,0,0⟩) oq oq pq;grind[SF]
  .simp at hc
 .rename_i c;rw[if_neg c];unfold Bl at hc⊢;split at hc
  .rename_i c2;rw[if_pos c2];rw[<-SF];simp only;have e:Bo C7 (Ct h.P h.B.toNat (Z5 hd))=Bo C7 h.P:=Si C7 (by simp[Ct]) λi hi=>by
    rw[Sr];by_cases hb:h.B.toNat<h.P.length
    .rw[Ck hb];split
     .rename_i q;rw[<-q];rfl
     .rfl
    grind
   rw[e,SF];have:=c2.2.2.2;omega
  .rename_i c2;rw[if_neg c2];split at hc
   .rename_i c3;rw[if_pos c3];obtain⟨g1,g2,g3⟩:=Af po.2.2.2.2.2.2.2.2 c3.1 (Z5 hd);rw[<-SF];simp only;rw[g1];have s:=Dz C7 ⟨1,h.S,Z5 hd,0⟩ h.P (first h.P 1).toNat g3;grind[C7,SF]
   .simp at hc
def MV.put{w:Zl}(m:MV w.j)(b:Zz w.j.W){hd:Zv}(a:0<=hd.map/\hd.map<=4294967295):MV (w.put hd).j:=by unfold Zl.put;split;rename_i e;obtain⟨k1,k2,c,d,k5,g,h,k8⟩:=Z37 b a e;have f:=ZgB k1 d;refine MV.few h ?_;rw[g];simp only;rw[c.c];exact f;exact m
def MV.setf{h}{a i v:Int}(m:MV h)(c:Zz h.W)(b:0<=v/\v<=18446744073709551615)(e:(Zt h a).2=0)(hi:0<=i/\i<(Zt h a).1.length):MV (E3 h a i v).1:=by obtain⟨s1,s2,s3⟩:=Z2L c b (a:=a) (i:=i) e hi;rw[s1];exact m.same rfl rfl λ_ _=>⟨rfl,rfl⟩
def MV.link{w:Zl}{n}(m:MV w.j)(b:C2 w n)(d:n<=1000000) t:MV (w.link t).j:=by
 unfold Zl.link;split;rename_i a;have f:=b.wm d;have g:=GE (w.pickT (w.pickT t)) (n:=8) dd;have gg:=N6 a.1;have c:0<=Hr w t/\Hr w t<(Zt w.j (w.pick t)).1.length:=by(unfold Hr;rw[L2 g.1];exact⟨Int.emod_nonneg _ oq,Int.emod_lt_of_pos _ oq⟩)
 have e:0<=Hz w t/\Hz w t<=18446744073709551615:=by(unfold Hz;split;exact Ay f _;have:=GE ((w.pickT (w.pickT t)).step 8) (n:=1048576) dd;omega)
 exact m.setf b.W e a.1 c;exact m
def MV.pinB{w:Zl}(m:MV w.j) i d:MV (Go.Proofs.YtgedmeaemofdkaaGreat.pinB w i d).j:=by refine m.same rfl (by simp[Go.Proofs.YtgedmeaemofdkaaGreat.pinB]) λj hj=>?_;simp only[Go.Proofs.YtgedmeaemofdkaaGreat.pinB];by_cases a:i<w.j.P.length;rw[Ck a];split;rename_i q;subst q;exact⟨rfl,rfl⟩;exact⟨rfl,rfl⟩;rw[List.set_eq_of_length_le oq];exact⟨rfl,rfl⟩
def MV.pin{w:Zl}(m:MV w.j) t:MV (w.pin t).j:=by
 unfold Zl.pin;repeat' split
 exact m.pinB _ _;exact m.pinB _ _;all_goals omega
def MV.drop{w:Zl}(m:MV w.j) t:MV (w.drop t).j:=by grind[Zl.drop]
def MI.in1{h T u}(g:Gd h T){w}(m:MI h T w)(k:KI h T u w)(t:MV h)(d:B9 w)(hi:Bw w){q j:Int}(f:q∈w.Q)(hj:0<=j/\j<Zk w.j.W q)(e:(w.fwd (Z1 w.j.W (q+1+j)).1).2.2=0):MI h T (w.in1 (q+1+j)):=by
 obtain⟨v,s⟩:=k.fwd g d hi _ e;have a:=m.fwd g k d t hi e;obtain⟨r,l⟩:=Nm d hi _ e;have b:=l.q q f;have o:=l.l q f;have hr:=r.r q (Lh _ b);have c:4096<=q+1+j/\q+1+j<4096+(w.fwd (Z1 w.j.W (q+1+j)).1).1.j.W.length:=by omega
 obtain⟨n,f2,f3⟩:=s.field g b (j:=j) oq;have er:HK h T (w.in1 (q+1+j))<=HK h T (w.fwd (Z1 w.j.W (q+1+j)).1).1:=by(refine IX λi _=>?_;unfold Nq;split;refine IX λx p=>?_;unfold wtW;rw[show(w.in1 (q+1+j)).j.W=(BL (w.fwd (Z1 w.j.W (q+1+j)).1).1.j.W (q+1+j) (w.fwd (Z1 w.j.W (q+1+j)).1).2.1).1 from rfl,Gb c (n i x p)];omega;omega)
 have m3:=a.m3;exact⟨a.m0,a.m1,a.m2,by show Bo Cd (w.fwd (Z1 w.j.W (q+1+j)).1).1.j.P+_<=_;omega,a.m4,a.m5⟩
def Zfx{h T}(g:Gd h T)(l:MV h){s}(a:Zz h.W)(e:(rootsF (Zp h) s).2.2=0)(o:(Bv (rootsF (Zp h) s).1).2=0):(∃c,KI h T c (ZB h s))/\MI h T (ZB h s):=
 Mu (λw=>(∃c,KI h T c w)/\MI h T w) (λw r a b ⟨⟨_,k⟩,m⟩ e=>⟨k.fwd g a b r e,m.fwd g k a l b e⟩) (λw q j a b ⟨⟨_,k⟩,m⟩ i d f e=>⟨k.in1 g a b i ⟨d,f⟩ e,m.in1 g k l a b i ⟨d,f⟩ e⟩)
  (λw n ⟨⟨c,k⟩,m⟩=>⟨⟨c,k.c,k.sp,k.old,k.pl,k.wl,k.pg,k.tk,k.tk0,k.q,k.hd,k.dt,k.lg⟩,⟨m.m0,m.m1,m.m2,m.m3,m.m4,m.m5⟩⟩) a g.p ⟨⟨_,KI.begin g⟩,MI.begin g⟩ e o
def DL{α:Type}{f g:α->Int}:∀l:List α,(l.map λx=>f x+g x).sum=(l.map f).sum+(l.map g).sum
 |[]=>by simp
 |x::l=>by
  simp only[Lq,Lt,DL l];omega
def crP(p:Z0):Int:=if p.K=1/\0<p.N then 1 else 0
def Zb9(l:List Z0):Bo crP l=crowd l:=by
 rw[IC];unfold crowd;have:∀n,((Le n).map λi=>crP (l.getD i La)).sum=Br l n:=by
  intro n;induction n with|zero=>simp[Br]|succ n ih =>grind[LW,Br,crP]
 exact this _
def Mr{f}{q:Z0->Z0}(l:List Z0):Bo f (l.map q)=((Le l.length).map λi=>f (q (l.getD i La))).sum:=by grind[IC,List.map_congr_left]
def MI.end{h T tq}(g:Gd h T){w}(m:MI h T w)(k:KI h T tq w)(mv:MV h)(o:B9 w)(ts:∀x∈w.T,(w.j.P.getD x.toNat La).S=1-w.j.S){h':Heap}(s:h'.C=h.C)(j:h'.P=w.j.P.map (BM w.j.S)):MV h':=by
 have n:=m.m0.1;have sp:=o.sp;have po:=B4 g.p;have e:∀i,i<h.P.length->((i:Int)∈w.T/\(h.P.getD i La).K=0/\(w.j.P.getD i La).K=1/\(w.j.P.getD i La).S=1-w.j.S)\/((w.j.P.getD i La).K=(h.P.getD i La).K/\(w.j.P.getD i La).U=(h.P.getD i La).U/\((h.P.getD i La).K=1->((w.j.P.getD i La).S=w.j.S↔¬ 0<(h.P.getD i La).N))):=by(intro i d;by_cases c:(i:Int)∈w.T;have t:=k.tk i c;grind;have q:=k.pg i c;exact Or.inr ⟨q.1,q.2.1,m.m5 i d⟩)
 have l:∀i,i<h.P.length->0<=(w.j.P.getD i La).U/\0<=(h.P.getD i La).U:=λi d=>by(have a:=o.us i oq;have b:=En g.p d;omega)
 have q0:(⟨0,0,0,0⟩:Z0).K=0:=rfl;have e1:Bo Cd h'.P+Bo unP h.P<=Bo Cd w.j.P:=by(rw[j,Mr,IC unP,IC Cd,<-n,<-DL];refine IX λi d=>?_;have d:=Lj.1 d;have p:=e i oq;have u:=l i oq;by_cases f:Cw w.j.S (w.j.P.getD i La);grind[BM,Cw,Cd,unP];grind[BM,Cw,unP])
 have e2:Bo Cd w.j.P<=Bo Cd h'.P+Bo Cd h.P:=by(rw[j,Mr,IC Cd h.P,IC Cd,<-n,<-DL];refine IX λi d=>?_;have d:=Lj.1 d;have p:=e i oq;have u:=l i oq;by_cases f:Cw w.j.S (w.j.P.getD i La);grind[BM,Cw,Cd];grind[BM,Cd])
 have e3:Bo GB h'.P<=Bo GB h.P:=by(rw[j,Mr,IC GB h.P,<-n];refine IX λi d=>?_;have d:=Lj.1 d;have p:=e i oq;by_cases f:Cw w.j.S (w.j.P.getD i La);rw[BM,if_pos f];unfold Cw at f;unfold GB;omega;rw[BM,if_neg f];unfold Cw at f;grind[GB])
 have e4:Bo C7 h'.P+Bo C7 h.P<=Bo C7 w.j.P+(Bo GB h'.P+Bo crP h.P):=by
  rw[j,Mr,Mr,IC C7 h.P,IC C7,IC crP,<-n,<-DL,<-DL,<-DL];refine IX λi d=>?_;have d:=Lj.1 d;have p:=e i oq;have kr:0<=(h.P.getD i La).K/\(h.P.getD i La).K<=3:=by(have:=En g.p (show i<h.P.length by omega);omega)
  by_cases f:Cw w.j.S (w.j.P.getD i La);rw[BM,if_pos f];grind[Cw,C7,GB,crP];rw[BM,if_neg f];unfold Cw at f;unfold C7 GB crP;omega
 have cr:=g.cr;rw[<-Zb9]at cr;have m1:=m.m1;have m3:=m.m3;have m4:=m.m4;have r:=Zka h T w;have v:=mv.v;have u0:=Z9m g.p;have y:0<=h.C.pw:=by omega
 refine⟨?_,w.T.length,by rw[s];omega, ?_⟩;rw[s];have:=LL e3 y;omega;rw[s];by_cases z:0<w.T.length;have m2:=m.m2 z;have:=o.us (ZH w).toNat (by have:=o.tk _ (GZ z);omega);omega;grind
def MV.collectF{B:Int}(hB:0<=B){h:Heap}{T:Nat->List Int}(g:Gd h T)(mv:MV h){s k:List Int}(hw:Zz h.W)(hb:∀p∈h.P,p.N<=B)(hs:Gx h T s)(hk:Gx h T k)(e:(Go.Proofs.YtgedmeaemofdkaaGreat.collectF h s k).2.2.2.2=0):MV (Go.Proofs.YtgedmeaemofdkaaGreat.collectF h s k).1:=by
 have hp:=g.p;have hr:=g.refers hs;have hr':=g.refers hk;by_cases e1:(rootsF (Zp h) s).2.2=0
 .by_cases e2:(Bv (rootsF (Zp h) s).1).2=0
  .have e7:Go.Proofs.YtgedmeaemofdkaaGreat.collectF h s k=(Eg (Bq h s k),(rootsF (Zp h) s).2.1,Em (ZB h s) k k.length,(Bq h s k).rep,0):=by rw[Go.Proofs.YtgedmeaemofdkaaGreat.collectF,if_pos hp,if_pos ⟨hr,hr'⟩,if_pos e1,if_pos e2]
   rw[e7];have ck:=cOk h s k hw hp e1 e2;obtain⟨g1,g2,g3,g4,g5⟩:=ck.h4;have pr:=Z3x hB hw hp hb e1 e2;obtain⟨⟨tq,ki⟩,mi⟩:=Zfx g mv hw e1 e2;refine mi.end g ki mv ck.w2 pr.tab.tk (h':=Eg (Bq h s k)) ?_ ?_;all_goals grind[Eg,Bq,GK]
  .rw[Go.Proofs.YtgedmeaemofdkaaGreat.collectF,if_pos hp,if_pos ⟨hr,hr'⟩,if_pos e1,if_neg e2]at e;exact absurd e e2
 .rw[Go.Proofs.YtgedmeaemofdkaaGreat.collectF,if_pos hp,if_pos ⟨hr,hr'⟩,if_neg e1]at e;exact absurd e e1
def MV.collect{w:Zl}{n}(m:MV w.j)(h:WG w)(a:C2 w n):MV w.collect.j:=by unfold Zl.collect;split;rename_i e;obtain⟨T,g,b,c⟩:=h;exact MV.collectF (B:=n) oq g m a.W (λp d=>(a.pin_mem p d).2) b c e;exact m
def MV.step{w:Zl}{n}(m:MV w.j)(h:WG w)(a:C2 w n)(b:n<=1000000) t:MV (w.step t).j:=by
 unfold Zl.step;repeat' split
 exact m.put a.W (PW _ _);exact m.link a b _;exact m.pin _;exact m.drop _;exact m.collect h a;exact m
def Z9a{w:Zl}{n}(m:MV w.j)(h:WG w)(a:C2 w n) t:∀k,n+k<=1000000->MV (G5 w t k).1.j|0,_=>m|k+1,hk=>(Z9a m h a t k oq).step (Z18 h a t k oq) (D3 a t k oq) oq _
def Zah l:MV (Zm l).j:=by
 have e:=Z08 l;have hl:(((EJ l).step 4).step 5).l.length<=300:=by grind
 have hk:=P2 (EJ l).empty (((EJ l).step 4).step 5) oq;obtain⟨_,ge,_⟩:=Z1T (EJ l);have a:=ge.p;refine Z9a (MV.few a ?_) (Z1T (EJ l)) (Z06 (EJ l)) _ _ oq;have hv:=BG.1 (B4 a).1;have z:Bo C7 (EJ l).empty.j.P=0:=by simp[Bo,Tape.empty,Ii,C7]
 grind[SF]
def Z8a{w}(h:(Z7 w).2=Lb):(ZE w).2=Lc:=by unfold Z7 at h;split at h;rename_i c;unfold Zu at c;split at c;simp only at c;unfold ZE;rw[if_neg oq];simp at c;cases h
structure OnW (h:Heap) (T:Nat->List Int) (w:Z6):Prop where
 c:G9 h T w
 m:MI h T w
 q:∀y∈w.old,CS w y≠0->CS w y∈w.Q
 z:∀y∈w.old,CS w y=0->y∉w.Q/\(ZE (Z1 w.j.W y).1).2=Lc
 n:w.rep.copied+w.rep.kept=w.Q.length
def Z2o{h T}(g:Gd h T){y:Int}(b:y∈(Zp h).old):CS (Zp h) y=0/\(ZE (Z1 h.W y).1).2=Lc:=by obtain⟨i,a,hk⟩:=((KI.begin g).old y).1 b;have t:=Z8a (g.on a).2.2.2.2.2.1;refine⟨?_,t⟩;unfold CS;rw[if_neg (by simp[Zp]),if_neg (by show¬ (ZE (Z1 h.W y).1).2=Lb;rw[t];simp)]
def OnW.begin{h T}(g:Gd h T)(b:Zz h.W):OnW h T (Zp h):=
 ⟨G9.begin g b,MI.begin g,λy a q=>absurd (Z2o g a).1 q,λy a _=>⟨by simp[Zp],(Z2o g a).2⟩,rfl⟩
section
variable{h:Heap}{T:Nat->List Int}{w:Z6}(o:OnW h T w)(g:Gd h T)(mv:MV h){r:Int}(hr:r∈w.old)
include o g mv hr
theorem OnW.new(hs:CS w r=0):∃i0,r∈T i0/\(w.fwd r).2.2=0/\Tl h T w r i0 (w.fwd r).1 (w.fwd r).2.1:=by
 obtain⟨tq,k⟩:=o.c.k;obtain⟨i0,hx,hk⟩:=(k.old r).1 hr;have z:=o.z r hr hs;exact⟨i0,hx,Zb5 g o.m k o.c.ok mv hx hk z.1 z.2⟩
theorem OnW.same(hs:CS w r≠0):w.fwd r=(w,CS w r,0):=by
 unfold Z6.fwd CS at *;split at hs;rename_i q;rw[if_pos (.inr q),if_pos q];rename_i q;split at hs;rename_i a;obtain⟨tq,k⟩:=o.c.k;obtain⟨i0,b,hk⟩:=(k.old r).1 hr;have:=g.inw b;have c:¬ (r=0\/r∈w.Q):=by(rintro(c|c);omega;exact q c)
 rw[if_neg c,if_neg (by simpa using hr),if_pos a,if_neg q,if_pos a];exact absurd rfl hs
theorem OnW.seen:(w.fwd r).2.1≠0/\CS (w.fwd r).1 r=(w.fwd r).2.1/\(∀y∈w.old,y≠r->CS (w.fwd r).1 y=CS w y)/\(w.fwd r).1.old=w.old /\ ((w.fwd r).1.Q.length:Int)=w.Q.length+(if CS w r=0 then 1 else 0):=by
 by_cases a:CS w r=0;obtain⟨i0,hx,e,N⟩:=o.new g mv hr a;have z:=o.z r hr a;have b:=N.b;obtain⟨tq,k⟩:=o.c.k;refine⟨by omega, ?_,λy i d=>?_,N.o,by rw[if_pos a,N.q];simp⟩;unfold CS;rw[N.q];by_cases q:(w.fwd r).2.1=r;rw[if_pos (by rw[q];simp)];exact q.symm;rw[if_neg (by simp only[Lr,Ls];rintro(c|c);exact z.1 c;exact q c.symm),N.c q];simp;obtain⟨j,f,_⟩:=(k.old y).1 i;have t:=N.t j y f d;unfold CS;rw[N.q,t.2];have:(y∈w.Q++[(w.fwd r).2.1])↔y∈w.Q:=by(simp only[Lr,Ls];exact⟨λc=>c.elim id λc=>absurd c.symm t.1,.inl⟩)
 simp only[this];rw[o.same g mv hr a];exact⟨a,rfl,λ_ _ _=>rfl,rfl,by rw[if_neg a];simp⟩
theorem OnW.fwd:OnW h T (w.fwd r).1:=by by_cases f:CS w r=0;obtain⟨i0,hx,e,N⟩:=o.new g mv hr f;obtain⟨s1,s2,i,l,s5⟩:=o.seen g mv hr;obtain⟨tq,k⟩:=o.c.k;refine⟨o.c.fwd g e,o.m.fwd g k o.c.ok mv o.c.inv e,λy a b=>?_,λy a d=>?_,by rw[N.n,o.n,N.q];simp⟩;rw[l]at a;rw[N.q];by_cases q:y=r;subst q;rw[s2];simp;rw[i y a q]at b⊢;exact Lw _ (o.q y a b);rw[l]at a;by_cases q:y=r;subst q;rw[s2]at d;exact absurd d s1;rw[i y a q]at d;have z:=o.z y a d;obtain⟨j,m,_⟩:=(k.old y).1 a;have t:=N.t j y m q;rw[N.q,t.2];refine⟨?_,z.2⟩;simp only[Lr,Ls];rintro(c|c);exact z.1 c;exact t.1 c.symm;rw[o.same g mv hr f];exact o
end
def AF(w:Z6):Prop:=∀x∈w.old++w.Q,(ZE (Z1 w.j.W x).1).2=Lc->∀j,0<=j->j<Zk w.j.W x->Bg (ZQ w.j.W x) j=Lb->(Z1 w.j.W (x+1+j)).1=0\/(Z1 w.j.W (x+1+j)).1∈w.old++w.Q
structure SW (h:Heap) (T:Nat->List Int) (w:Z6):Prop where
 o:OnW h T w
 a:AF w
def SW.begin{h T}(g:Gd h T)(n:Zz h.W):SW h T (Zp h):=by
 refine⟨OnW.begin g n,λx o ht j b c m=>?_⟩;have a:x∈(Zp h).old:=by simpa[Zp]using o
 obtain⟨i,f,l⟩:=((KI.begin g).old x).1 a;refine(g.q i x j f l b c m).imp id λ⟨k,d,e⟩=>?_;exact Lw _ (((KI.begin g).old _).2 ⟨k,d,e⟩)
section
variable{h:Heap}{T:Nat->List Int}{w:Z6}(s:SW h T w)(g:Gd h T)(d:MV h)
include s g d
theorem SW.fwd{r:Int}(a:r=0\/r∈w.Q\/r∈w.old):(w.fwd r).2.2=0/\SW h T (w.fwd r).1/\Rf (w.fwd r).1 (w.fwd r).2.1:=by
 by_cases c1:r=0\/r∈w.Q;rw[Z6.fwd,if_pos c1];exact⟨rfl,s,c1⟩;have a:r∈w.old:=(a.resolve_left λq=>c1 (.inl q)).resolve_left λq=>c1 (.inr q);by_cases o:CS w r=0;obtain⟨i0,hx,e,N⟩:=s.o.new g d a o;refine⟨e,⟨s.o.fwd g d a, ?_⟩,Or.inr (by rw[N.q];simp)⟩;obtain⟨tq,k⟩:=s.o.c.k;have z:=s.o.z r a o;have b:=(Nx s.o.c.ok s.o.c.inv r e).2.2;have he:(Z1 w.j.W r).1=(Z1 h.W r).1:=by(rcases k.hd i0 r hx with q|q;exact q;rw[q.1]at z;cases z.2)
 have a0:Zk w.j.W r=Zk h.W r:=(Eh he).2.1;intro x y p j h0 m n;rw[N.o,N.q]at y⊢;have more:∀v,v∈w.old++w.Q->v∈w.old++(w.Q++[(w.fwd r).2.1]):=λv hv=>by(rw[<-L3];exact Lw _ hv)
 by_cases t:x=(w.fwd r).2.1;have f:=N.x 0 oq (Bn _ _).1;simp only[Lu]at f;have l:ZQ (w.fwd r).1.j.W x=ZQ w.j.W r:=by rw[ZQ,t,f];rfl
 have el:Zk (w.fwd r).1.j.W x=Zk w.j.W r:=congrArg Zv.length l;rw[l]at n;rw[el]at m;have i:=N.x (1+j) oq oq;rw[<-LA,<-LA,<-t]at i;rw[i];exact(s.a r (Lw _ a) z.2 j h0 m n).imp id (more _);have c:x∈w.old++w.Q:=by(simp only[Lr,Ls]at y⊢;rcases y with q|q|q;exact .inl q;exact .inr q;exact absurd q t)
 by_cases u:x=r;exfalso;have:=N.c λq=>t (u.trans q.symm);rw[u,this]at p;cases p;have f:=b x c (.inr u) 0 oq (Bn _ _).1;rw[Lu]at f;have l:ZQ (w.fwd r).1.j.W x=ZQ w.j.W x:=by rw[ZQ,ZQ,f]
 have el:Zk (w.fwd r).1.j.W x=Zk w.j.W x:=congrArg Zv.length l;rw[l]at n;rw[el]at m;rw[f]at p;have i:=b x c (.inr u) (1+j) oq oq;rw[<-LA]at i;rw[i];exact(s.a x c p j h0 m n).imp id (more _);rw[s.o.same g d a o];exact⟨rfl,s,Or.inr (s.o.q r a o)⟩
omit g d in
theorem SW.dec(g:Gd h T){q:Int}(a:q∈w.Q):(ZE (Z1 w.j.W q).1).2=Lc:=Z8a (s.o.c.dec g a)
omit s g d in
theorem ZeP{w:Z6}{r}(e:(w.fwd r).2.2=0):r=0\/r∈w.Q\/r∈w.old:=by unfold Z6.fwd at e;split at e;rename_i c;exact c.imp id .inl;split at e;simp at e;rename_i c;exact .inr (.inr (LD.1 c))
theorem SW.in1{q j:Int}(t:q∈w.Q)(h0:0<=j)(h1:j<Zk w.j.W q)(e:(w.fwd (Z1 w.j.W (q+1+j)).1).2.2=0):SW h T (w.in1 (q+1+j))/\∀x∈w.Q,x∈(w.in1 (q+1+j)).Q/\ZQ (w.in1 (q+1+j)).j.W x=ZQ w.j.W x:=by
 obtain⟨_,s1,to⟩:=s.fwd g d (ZeP e);have z:=s.o.c.ok;have iv:=s.o.c.inv;obtain⟨tq,k⟩:=s.o.c.k;obtain⟨i1,x1⟩:=Nm z iv _ e;have m:=P5 z iv _ e;have n:=x1.q q t;have a0:=x1.l q t;have hr:=i1.r q (Lh _ n);have l:4096<=q+1+j/\q+1+j<4096+(w.fwd (Z1 w.j.W (q+1+j)).1).1.j.W.length:=by omega
 have v:∀x∈(w.fwd (Z1 w.j.W (q+1+j)).1).1.old++(w.fwd (Z1 w.j.W (q+1+j)).1).1.Q,∀i,0<=i->i<=Zk (w.fwd (Z1 w.j.W (q+1+j)).1).1.j.W x->x+i=q+1+j->x=q:=by(intro x f i a b c;have l1:=i1.s q (Lh _ n) x f;have l2:=i1.s x f q (Lh _ n);omega)
 have p:∀x∈(w.fwd (Z1 w.j.W (q+1+j)).1).1.old++(w.fwd (Z1 w.j.W (q+1+j)).1).1.Q,Z1 (w.in1 (q+1+j)).j.W x=Z1 (w.fwd (Z1 w.j.W (q+1+j)).1).1.j.W x:=by(intro x f;simp only[Z6.in1];rw[Gb l λc=>?_];have:=v x f 0 oq (Bn _ _).1 oq;omega)
 refine⟨⟨⟨s.o.c.in1 g t h0 h1 e,s.o.m.in1 g k d z iv t ⟨h0,h1⟩ e,λy o r=>?_,λy o hz=>?_,s1.o.n⟩, ?_⟩,λx f=>⟨m.mem f, ?_⟩⟩;have u:CS (w.in1 (q+1+j)) y=CS (w.fwd (Z1 w.j.W (q+1+j)).1).1 y:=by(unfold CS;rw[p y (Lw _ o)];rfl)
 rw[u]at r⊢;exact s1.o.q y o r;have u:CS (w.in1 (q+1+j)) y=CS (w.fwd (Z1 w.j.W (q+1+j)).1).1 y:=by(unfold CS;rw[p y (Lw _ o)];rfl)
 rw[u]at hz;rw[p y (Lw _ o)];exact s1.o.z y o hz;intro x f ht i a b hp;have f:x∈(w.fwd (Z1 w.j.W (q+1+j)).1).1.old++(w.fwd (Z1 w.j.W (q+1+j)).1).1.Q:=f;show _\/_∈(w.fwd (Z1 w.j.W (q+1+j)).1).1.old++(w.fwd (Z1 w.j.W (q+1+j)).1).1.Q;have e0:=p x f;have eh:ZQ (w.in1 (q+1+j)).j.W x=ZQ (w.fwd (Z1 w.j.W (q+1+j)).1).1.j.W x:=by rw[ZQ,ZQ,e0]
 have el:Zk (w.in1 (q+1+j)).j.W x=Zk (w.fwd (Z1 w.j.W (q+1+j)).1).1.j.W x:=congrArg Zv.length eh;rw[eh]at hp;rw[el]at b;rw[e0]at ht;by_cases c:x+1+i=q+1+j;have:(Z1 (w.in1 (q+1+j)).j.W (x+1+i)).1=(w.fwd (Z1 w.j.W (q+1+j)).1).2.1:=by(rw[c];simp only[Z6.in1];rw[Rn l])
 rw[this];exact to.imp id (Lh _);have:Z1 (w.in1 (q+1+j)).j.W (x+1+i)=Z1 (w.fwd (Z1 w.j.W (q+1+j)).1).1.j.W (x+1+i):=by(simp only[Z6.in1];rw[Gb l c])
 rw[this];exact s1.a x f ht i a b hp;rw[ZQ,p x (Lh _ (m.mem f))];exact m.h x f
omit s g d in
theorem Z19(h:Zv):∀n:Nat,∀x∈BQ h n,Bg h x=Lb
 |0,x,hx=>by cases hx
 |n+1,x,hx=>by
  unfold BQ at hx;split at hx
  .rename_i c;rcases Lr.1 hx with q|q
   .exact Z19 h n x q
   .rw[Ls.1 q];exact c
  .exact Z19 h n x hx
omit s g d in
theorem OI(h:Zv):∀x∈Zw h,Bg h x=Lb:=by unfold Zw;split;exact Z19 h _;intro x a;cases a
theorem SW.inn{q:Int}(o:q∈w.Q){l:List Int}(hl:∀x∈l,(0<=x/\x<Zk w.j.W q)/\Bg (ZQ w.j.W q) x=Lb):∀k,k<=l.length->(∀j,j<k->CI w q l j=0)/\SW h T (Be w q l k)/\q∈(Be w q l k).Q/\ZQ (Be w q l k).j.W q=ZQ w.j.W q
 |0,_=>⟨λj m=>absurd m (Ll j),s,o,rfl⟩
 |k+1,hk=>by
  obtain⟨r,f,b,i⟩:=SW.inn o hl k oq;have a:=hl _ (B7.2 ⟨k,by omega,rfl⟩);have el:Zk (Be w q l k).j.W q=Zk w.j.W q:=congrArg Zv.length i;have p:=f.a q (Lh _ b) (f.dec g b) (l.getD k La) a.1.1 (by rw[el];exact a.1.2) (by rw[i];exact a.2);have e:CI w q l k=0:=(f.fwd g d (p.imp id λc=>(Lr.1 c).symm)).1;have n:=f.in1 g d b a.1.1 (by rw[el];exact a.1.2) e;refine⟨λj m=>?_,n.1,(n.2 q b).1,(n.2 q b).2.trans i⟩;by_cases c:j=k
  .rw[c];exact e
  .exact r j oq
theorem SW.step:(ZV w).2.2=0/\SW h T (ZV w).1:=by
 by_cases e:w.D<w.Q.length;have o:=s.o.c.ok.sc;have n:C0 w∈w.Q:=B7.2 ⟨w.D.toNat,by omega,rfl⟩;obtain⟨p,a,_,_⟩:=s.inn g d n (l:=Bf w) (λx f=>⟨R5 (Zx w (C0 w)) x f,OI (Zx w (C0 w)) x f⟩) (Bf w).length (Ld _);have i:(Le (Bf w).length).find? (λk=>Lz (CI w (C0 w) (Bf w) k≠0))=Lk:=Lx.2 λj m=>by simp[p j (Lj.1 m)]
 have b:ZV w=(Ha (Be w (C0 w) (Bf w) (Bf w).length) (Bf w).length,Lb,0):=by unfold ZV;rw[if_pos e,i]
 have c:=s.o.c.step g (by rw[b]);rw[b]at c⊢;exact⟨rfl,⟨c,⟨a.o.m.m0,a.o.m.m1,a.o.m.m2,a.o.m.m3,a.o.m.m4,a.o.m.m5⟩,a.o.q,a.o.z,a.o.n⟩,a.a⟩;have b:ZV w=(w,Lc,0):=by rw[ZV,if_neg e]
 rw[b];exact⟨rfl,s⟩
theorem SW.it:∀k,SW h T (BY w k)|0=>s|k+1=>(SW.step (SW.it k) g d).2
theorem SW.all:(Bv w).2=0/\SW h T (Bv w).1:=by
 obtain⟨k,b⟩:=Sb s.o.c.ok;have e:=(s.it g d k).step g d;have a:Bv w=((ZV (BY w k)).1,0):=by rw[Bv,b];simp only[if_pos e.1]
 rw[a];exact⟨rfl,e.2⟩
end
section
variable{h:Heap}{T:Nat->List Int}(g:Gd h T)(a:MV h){s:List Int}(hs:∀r∈s,r=0\/Ob h T r)
include g a hs
theorem SW.rootsN(o:Zz h.W):∀k,k<=s.length->(∀j,j<k->E5 (Zp h) s j=0)/\SW h T (Go.Proofs.YtgedmeaemofdkaaGreat.rootsN (Zp h) s k).1/\∀i,i<k->Rf (Go.Proofs.YtgedmeaemofdkaaGreat.rootsN (Zp h) s k).1 ((Go.Proofs.YtgedmeaemofdkaaGreat.rootsN (Zp h) s k).2.getD i La)/\((Go.Proofs.YtgedmeaemofdkaaGreat.rootsN (Zp h) s k).2.getD i La=0↔s.getD i La=0)
 |0,_=>⟨λj n=>absurd n (Ll j),SW.begin g o,λi m=>absurd m (Ll i)⟩
 |k+1,hk=>by
  obtain⟨u,d,v⟩:=SW.rootsN o k oq;have f:=hs _ (B7.2 ⟨k,by omega,rfl⟩);obtain⟨tq,p⟩:=d.o.c.k;have b:s.getD k La=0\/s.getD k La∈(Go.Proofs.YtgedmeaemofdkaaGreat.rootsN (Zp h) s k).1.Q\/s.getD k La∈(Go.Proofs.YtgedmeaemofdkaaGreat.rootsN (Zp h) s k).1.old:=f.imp id λq=>.inr ((p.old _).2 q);obtain⟨e,r,l⟩:=d.fwd g a b;have w:=P5 d.o.c.ok d.o.c.inv _ e;have t:=IL (Zp h) s k;refine⟨λj n=>?_,r,λi m=>?_⟩
  .by_cases q:j=k
   .rw[q];exact e
   .exact u j oq
  .simp only[Go.Proofs.YtgedmeaemofdkaaGreat.rootsN,Lg];by_cases q:i=k
   .subst q;rw[L6 oq,t];simp only[Xc,List.getElem?_cons_zero,LI];simp only[Lg]at f b l;refine⟨l,λc=>?_,λc=>?_⟩
    .rcases f with q|q
     .exact q
     .have:=(d.o.seen g a ((p.old _).2 q)).1;exact absurd c this
    .rw[c,Z6.fwd,if_pos (.inl rfl)]
   .rw[L5 oq];have:=v i oq;simp only[Lg]at this;exact⟨w.to this.1,this.2⟩
theorem SW.roots(c:Zz h.W):rootsF (Zp h) s=((Go.Proofs.YtgedmeaemofdkaaGreat.rootsN (Zp h) s s.length).1,(Go.Proofs.YtgedmeaemofdkaaGreat.rootsN (Zp h) s s.length).2,0)/\SW h T (rootsF (Zp h) s).1:=by
 obtain⟨d,f,i3⟩:=SW.rootsN g a hs c s.length (Ld _);have e:rootsF (Zp h) s=((Go.Proofs.YtgedmeaemofdkaaGreat.rootsN (Zp h) s s.length).1,(Go.Proofs.YtgedmeaemofdkaaGreat.rootsN (Zp h) s s.length).2,0):=by(unfold rootsF;rw[Lx.2 λj b=>by simp[d j (Lj.1 b)]])
 rw[e];exact⟨rfl,f⟩
end
def P6{ρ w Im v}(s:Nat)(h:Zi ρ w Im (.d (.sl 0 [])) v):Zi ρ w Im (.d (.sl s [])) v:=by
 cases h with
 |d h =>
  cases h with|slNil=>exact .d (.slNil _ _ _)|sl _ _ p n c f a=>cases a;exact .d (.slNil _ _ _)
def Z2I:Heap:=⟨⟨32,8⟩,Li 256 0,Li 8 ⟨0,0,0,0⟩,0,-1⟩
def R8:Heap:=⟨⟨32,8⟩,(Li 256 0).set 0 29,[⟨1,0,2,0⟩,⟨0,0,0,0⟩,⟨0,0,0,0⟩,⟨0,0,0,0⟩,⟨0,0,0,0⟩,⟨0,0,0,0⟩,⟨0,0,0,0⟩,⟨0,0,0,0⟩],0,0⟩
def Z6e:Zm []=⟨Z2I,[],[]⟩:=by kernel_rfl
def Zb4:(⟨Z2I,[],[]⟩:Zl).put ⟨3,1,0⟩=⟨R8,[4096],[]⟩:=by kernel_rfl
def Zao:Z8 R8=Lb:=by decide+kernel
def Zhn:Bm R8=⟨0,0,0⟩:=by decide+kernel
def Ze1:Zz R8.W:=by unfold Zz;decide+kernel
def wB0:Z6:=(⟨⟨⟨32,8⟩,(Li 256 0).set 0 29,[⟨1,0,2,0⟩,⟨0,0,0,0⟩,⟨0,0,0,0⟩,⟨0,0,0,0⟩,⟨0,0,0,0⟩,⟨0,0,0,0⟩,⟨0,0,0,0⟩,⟨0,0,0,0⟩],0,0⟩,[4096],[],[],0,⟨0,0,0,0,0,0⟩⟩:Z6)
def ZgG:Zp R8=wB0:=by kernel_rfl
def Zfi:GP 15 [.d (.sl 0 [])] Lc (⟨(⟨⟨32,8⟩,Li 256 0,Li 8 ⟨0,0,0,0⟩,0,-1⟩:Heap),[],[]⟩:Zl).av []:=by have k:=Z5u [] pq;rw[Z6e]at k;intro w d f a b h;refine k w d f a b λi x v c e=>?_;rcases i with _|i;cases c;exact P6 1 (h 0 _ v rfl e);simp at c
def Ze0:GP 58 [.ag [nI 32,nI 8,.d (.sl 1 ((Li 256 0).map wD)),.d (.sl 4 ((Li 8 (⟨0,0,0,0⟩:Z0)).map Z0.dv)),nI 0,nI (-1),.d (.sl 0 []),.d (.sl 0 [])],.ag [nI 3,nI 1,.d (.sc (.int .u32 0))]] Lc (⟨(⟨⟨32,8⟩,(Li 256 0).set 0 29,[⟨1,0,2,0⟩,⟨0,0,0,0⟩,⟨0,0,0,0⟩,⟨0,0,0,0⟩,⟨0,0,0,0⟩,⟨0,0,0,0⟩,⟨0,0,0,0⟩,⟨0,0,0,0⟩],0,0⟩:Heap),[4096],[]⟩:Zl).av []:=by have j:=SU [];rw[Z6e]at j;have k:=Tk ⟨Z2I,[],[]⟩ ⟨3,1,0⟩ (j.wm dd) dd;rw[Zb4]at k;intro w m p e f h;refine k w m p e f λi x v g l=>?_;rcases i with _|_|i;cases g;obtain⟨cs,rfl,n,o,c⟩:=Hx (h 0 _ v rfl l);refine .ag _ _ n o (λi a u b d=>?_);rcases i with _|_|_|_|_|_|_|_|i;cases b;exact c 0 _ u rfl d;cases b;exact c 1 _ u rfl d;cases b;exact c 2 _ u rfl d;cases b;exact c 3 _ u rfl d;cases b;exact c 4 _ u rfl d;cases b;exact c 5 _ u rfl d;cases b;exact P6 1 (c 6 _ u rfl d);cases b;exact P6 1 (c 7 _ u rfl d);cases (show(Lk:Option AV)=LC a from b);cases g;exact h 1 _ v rfl l;simp at g
def Z5z{B:Int}(hB:0<=B){h:Heap}{T:Nat->List Int}(g:Gd h T)(mv:MV h){s k:List Int}(hw:Zz h.W)(hb:∀p∈h.P,p.N<=B)(gs:Gx h T s)(gk:Gx h T k)(sl:s.length<=1000)(kl:k.length<=1000)(su:Ec s)(ku:Ec k) :(collectF h s k).2.2.2.2=0/\(collectF h s k).2.1.length=s.length/\(collectF h s k).2.2.1.length=k.length/\GP 35 [h.av,Z2 s,Z2 k] Lc (.tu [(collectF h s k).1.av,Z2 (collectF h s k).2.1,Z2 (collectF h s k).2.2.1,.ag (collectF h s k).2.2.2.1.cells,nI (collectF h s k).2.2.2.2]) []:=by
 obtain⟨er,sw⟩:=SW.roots g mv gs hw;have e1:(rootsF (Zp h) s).2.2=0:=by rw[er]
 have e2:=(sw.all g mv).1;have c0:=G9.begin g hw;have cd:=ZdJ hB g hw hb e1 e2 gs gk sl kl ku (c0.rts g su) c0.ck.ln λk _=>⟨(sw.it g mv k).o.c.stp g,((sw.it g mv k).step g mv).1⟩
 have e7:collectF h s k=(Eg (Bq h s k),(rootsF (Zp h) s).2.1,Em (ZB h s) k k.length,(Bq h s k).rep,0):=by rw[collectF,if_pos g.p,if_pos ⟨g.refers gs,g.refers gk⟩,if_pos e1,if_pos e2]
 refine⟨by rw[e7], ?_,by rw[e7];exact TN _ _ _,cd⟩;rw[e7,er];exact IL _ _ _
def Z6R:Bv wB0=(wB0,0):=by have a:(Le (Rh wB0)).find? (El wB0)=LC 0:=LN.2 ⟨by kernel_rfl,Lj.2 (by unfold Rh;omega),λj b=>absurd b (Ll j)⟩;unfold Bv;rw[a];show _=_;kernel_rfl
def ZiN:Heap:=⟨⟨32,8⟩,Li 256 0,Li 8 ⟨0,0,0,0⟩,1,-1⟩
def Zi2:collectF R8 [] []=(ZiN,[],[],⟨0,0,0,1,0,0⟩,0):=by
 have a:rootsF (Zp R8) []=(wB0,[],0):=by rw[ZgG];kernel_rfl
 have c2:ZB R8 []=wB0:=by rw[ZB,a,Z6R]
 have b:Bq R8 [] []=⟨⟨⟨32,8⟩,Li 256 0,Li 8 ⟨0,0,0,0⟩,0,0⟩,[4096],[],[],0,⟨0,0,0,1,0,0⟩⟩:=by(unfold Bq Cs Cq;rw[c2];kernel_rfl)
 rw[collectF,if_pos Zao,if_pos ⟨by decide+kernel,by decide+kernel⟩,if_pos (by rw[a]),if_pos (by rw[a,Z6R]),b,c2,a];show _=_;kernel_rfl
def Zjz:MV R8:=⟨by decide+kernel,1,by decide+kernel⟩
def Zg5:GP 35 [(⟨⟨32,8⟩,(Li 256 0).set 0 29,[⟨1,0,2,0⟩,⟨0,0,0,0⟩,⟨0,0,0,0⟩,⟨0,0,0,0⟩,⟨0,0,0,0⟩,⟨0,0,0,0⟩,⟨0,0,0,0⟩,⟨0,0,0,0⟩],0,0⟩:Heap).av,.d (.sl 0 []),.d (.sl 0 [])] Lc (.tu [(⟨⟨32,8⟩,Li 256 0,Li 8 ⟨0,0,0,0⟩,1,-1⟩:Heap).av,Z2 [],Z2 [],.ag (⟨0,0,0,1,0,0⟩:Rep).cells,nI 0]) []:=by have k:=(Z5z (B:=0) (LQ 0) (Zd1 Zhn) Zjz Ze1 (by decide+kernel) (s:=[]) (k:=[]) (λ_ q=>by cases q) (λ_ q=>by cases q) (Lo _) (Lo _) (λ_ q=>by cases q) (λ_ q=>by cases q)).2.2.2;rw[Zi2]at k;intro w e f b c h;refine k w e f b c λi x v a d=>?_;rcases i with _|_|_|i;cases a;exact h 0 _ v rfl d;cases a;exact P6 1 (h 1 _ v rfl d);cases a;exact P6 1 (h 2 _ v rfl d);simp at a
def ZlT:GP 38 [] Lb (bL Lb) []:=by exact gF [] func38 []<|Fc 7 (@Zfi)<|Fc 11 (@Ze0)<|Fc 15 (@Zg5) Fz
def CV(w:Zl):Rep:=(collectF w.j w.G w.E).2.2.2.1
def Zj1{w n}(G:WG w)(a:C2 w n)(k:MV w.j)(sl:w.G.length<=1000)(wl:w.E.length<=1000):(collectF w.j w.G w.E).2.2.2.2=0/\w.collect=⟨(collectF w.j w.G w.E).1,(collectF w.j w.G w.E).2.1,(collectF w.j w.G w.E).2.2.1⟩/\w.collect.G.length=w.G.length/\w.collect.E.length=w.E.length /\
  GP 35 [w.j.av,Z2 w.G,Z2 w.E] Lc (.tu [w.collect.j.av,Z2 w.collect.G,Z2 w.collect.E,.ag (CV w).cells,nI 0]) []:=by
 obtain⟨T,g,d,f⟩:=G;obtain⟨e,i,j,c⟩:=Z5z (B:=n) oq g k a.W (λp h=>(a.pin_mem p h).2) d f sl wl a.G a.E;have b:w.collect=⟨(collectF w.j w.G w.E).1,(collectF w.j w.G w.E).2.1,(collectF w.j w.G w.E).2.2.1⟩:=by rw[Zl.collect,if_pos e]
 rw[e]at c;rw[b];exact⟨e,rfl,i,j,c⟩
def OV a:(collectF (Zm a).j (Zm a).G (Zm a).E).2.2.2.2=0/\(Zm a).collect=⟨(collectF (Zm a).j (Zm a).G (Zm a).E).1,(collectF (Zm a).j (Zm a).G (Zm a).E).2.1,(collectF (Zm a).j (Zm a).G (Zm a).E).2.2.1⟩/\(Zm a).collect.G.length=(Zm a).G.length/\(Zm a).collect.E.length=(Zm a).E.length /\
  GP 35 [(Zm a).j.av,Z2 (Zm a).G,Z2 (Zm a).E] Lc (.tu [(Zm a).collect.j.av,Z2 (Zm a).collect.G,Z2 (Zm a).collect.E,.ag (CV (Zm a)).cells,nI 0]) []:=Zj1 (Z4I a) (SU a) (Zah a) (SU a).sl (SU a).wl
def Zku a:GP 35 [(Zm a).j.av,Z2 (Zm a).G,Z2 (Zm a).E] Lc (.tu [(Zm a).collect.j.av,Z2 (Zm a).collect.G,Z2 (Zm a).collect.E,.ag (CV (Zm a)).cells,nI 0]) []:=(OV a).2.2.2.2
def ZfB(a:List Int)(h1:a.length<=140737488355328):GP 39 [ZF a] Lc (.tu [(Zm a).av,(Zm a).collect.av,.ag (CV (Zm a)).cells,bL Lb]) []:=by have b:=SU a;have sl:=b.sl;have wl:=b.wl;obtain⟨_,_,l1,l2,_⟩:=OV a;let c:=(0:Int)==0&&(↑(Zm a).collect.G.length:Int)==(↑(Zm a).G.length:Int);exact gF [] func39 (fO 12)<|Fc 13 (@Z5u a aa)<|Fc 21 (@Zku a)<|FlG 37 ((0:Int)==0) wD (Zm a).collect.G<|FlG 40 ((0:Int)==0) wD (Zm a).G<|FlG 45 c wD (Zm a).collect.E<|FlG 48 c wD (Zm a).E<|Fr ((Zm a).j.C.pw)<|Fr ((Zm a).j.C.pg)<|Fr (Lf wD (Zm a).j.W)<|Fr (Lf Z0.dv (Zm a).j.P)<|Fr ((Zm a).j.S)<|Fr ((Zm a).j.B)<|Fr (Lf wD (Zm a).G)<|Fr (Lf wD (Zm a).E)<|Fr ((Zm a).collect.j.C.pw)<|Fr ((Zm a).collect.j.C.pg)<|Fr (Lf wD (Zm a).collect.j.W)<|Fr (Lf Z0.dv (Zm a).collect.j.P)<|Fr ((Zm a).collect.j.S)<|Fr ((Zm a).collect.j.B)<|Fr (Lf wD (Zm a).collect.G)<|Fr (Lf wD (Zm a).collect.E)<|Fr ((CV (Zm a)).copied)<|Fr ((CV (Zm a)).kept)<|Fr ((CV (Zm a)).filled)<|Fr ((CV (Zm a)).freed)<|Fr ((CV (Zm a)).cleared)<|Fr ((CV (Zm a)).steps)<|Fb (((↑(Zm a).collect.G.length:Int)==(↑(Zm a).G.length:Int)&&(↑(Zm a).collect.E.length:Int)==(↑(Zm a).E.length:Int))=Lb) Fz
def Gr(hd:Zv)(fs:List Int):Nat->List Int|0=>[]|i+1=>if Bg hd (i:Int)=Lb then Gr hd fs i++[fs.getD i La]else Gr hd fs i
def Z63(hd:Zv) fs:∀i,(Gr hd fs i).length<=i
 |0=>Ld _
 |i+1=>by
  have:=Z63 hd fs i;unfold Gr;split
  .rw[Lv,Ly];omega
  .omega
def HJ(h:Heap)(a:Int):List Int:=Gr (Zt h a).1 (BV h a).1 (BV h a).1.length
def Cp(out:List Int)(r:Int):List Int:=if r=0\/r∈out then out else out++[r]
def addN(out refs:List Int):Nat->List Int|0=>out|i+1=>Cp (addN out refs i) (refs.getD i La)
def Z9N out refs:∀i,(addN out refs i).length<=out.length+i
 |0=>Ld _
 |i+1=>by
  have:=Z9N out refs i;unfold addN Cp;split
  .omega
  .rw[Lv,Ly];omega
def Z2A out refs{i}:∀k,(addN out refs i).length<=(addN out refs (i+k)).length
 |0=>Ld _
 |k+1=>by
  refine LY (Z2A out refs k) ?_;show _<=(Cp _ _).length;unfold Cp;split
  .exact Ld _
  .rw[Lv];exact Nat.le_add_right _ _
def a8L(a out refs:List Int)(i:Nat):Tg:=⟨tm 42 [(0,Z2 a),(1,.ow 8000),(2,Z2 refs),(6,.d (.sl 0 [])),(7,bL Lc),(8,nI i)],[(8000,.arr 35 1 ((addN out refs i).map wD))],4⟩
section
variable(a out refs:List Int)(hl:refs.length<=1048576)(e:a.length<=1048576)(b:(addN out refs refs.length).length<=1048576)(d:Ec refs)
include hl e b d
theorem Z6X(i:Nat)(hi:i<refs.length)(g:CZ refs a i=Lc):CP (Zn f66 0) (a8L a out refs i).st .nrm (a8L a out refs (i+1)).st:=by
 have ln:=LY (Z2A out refs (i:=i) (refs.length-i)) (by rw[show i+(refs.length-i)=refs.length by omega];exact b);have r:=d _ (B7.2 ⟨i,hi,rfl⟩);unfold CZ at g;have g:=of_decide_eq_false g;by_cases h:refs.getD i La=0;have f:addN out refs (i+1)=addN out refs i:=by rw[addN,Cp,if_pos (.inl h)]
 unfold a8L;rw[f];exact sF [] []<|FN 11 12 17 wD refs i<|Ftb 19 (refs.getD i La==0)<|Fx 14 i Fz;have g:refs.getD i La∈a:=LD.1 λc=>g ⟨h,c⟩;by_cases j:refs.getD i La∈addN out refs i;have f:addN out refs (i+1)=addN out refs i:=by rw[addN,Cp,if_pos (.inr j)]
 unfold a8L;rw[f];exact sF [] []<|FN 11 12 17 wD refs i<|Ffb 19 (refs.getD i La==0)<|Fek 23 wD refs (↑i) i<|Fc 25 (@CQ a (refs.getD i La) aa)<|Ffb 26 (!decide (refs.getD i La∈a))<|Fek 30 wD refs (↑i) i<|Fc 32 (@CQ (addN out refs i) (refs.getD i La) aa)<|Ffb 33 (!decide (refs.getD i La∈addN out refs i))<|Fx 14 i Fz;have f:addN out refs (i+1)=addN out refs i++[refs.getD i La]:=by rw[addN,Cp,if_neg (λc=>c.elim h j)]
 unfold a8L;rw[f];exact sF [(64040,8000)] []<|Fh 40 [.els (Lf wD (addN out refs i++[refs.getD i La]))]<|FN 11 12 17 wD refs i<|Ffb 19 (refs.getD i La==0)<|Fek 23 wD refs (↑i) i<|Fc 25 (@CQ a (refs.getD i La) aa)<|Ffb 26 (!decide (refs.getD i La∈a))<|Fek 30 wD refs (↑i) i<|Fc 32 (@CQ (addN out refs i) (refs.getD i La) aa)<|Ftb 33 (!decide (refs.getD i La∈addN out refs i))<|Fek 37 wD refs (↑i) i<|Fs 39 (Lf wD [refs.getD i La])<|Fa (by(simp[*];omega):(Lf wD (addN out refs i)).length+(Lf wD [refs.getD i La]).length<=2^30)<|Fa (ms:Lf wD (addN out refs i)++Lf wD [refs.getD i La]=Lf wD (addN out refs i++[refs.getD i La]))<|Fx 14 i Fz
omit hl e b d in
theorem ZgK:CP (Zn f66 0) (a8L a out refs refs.length).st (.ext 0) (Tg.st ⟨tm 42 [(1,.ow 8000),(6,.d (.sl 0 [])),(7,bL Lc)],[(8000,.arr 35 1 ((addN out refs refs.length).map wD))],4⟩):=by exact sF [] []<|FO 11 12 wD refs Fz
def ZaF(f:(Le refs.length).find? (CZ refs a)=Lk)  := Bt (S:=λk=>(a8L a out refs k).st) refs.length (by kernel_rfl) (λk c=>Z6X a out refs hl e b d k c (by
  have:=Lx.1 f k (Lj.2 c);simpa using this)) (ZgK a out refs)
theorem Z7j(hb:(Le refs.length).find? (CZ refs a)=Lk):BP 66 [Z2 a,.ow 0,Z2 refs] [.arr 35 1 (out.map wD)] (.tu [.ow 1,bL Lb]) [.dead,.arr 35 1 ((addN out refs refs.length).map wD)]:=by have c:=Z2A out refs (i:=0) refs.length;rw[LZ]at c;exact borF [8000] [8000] func66 []<|Fu (@ZaF a out refs aa aa aa aa aa) Fz
end
def rfL(hd:Zv)(fs:List Int)(i:Nat):Tg:=⟨tm 40 [(4,.d (.sl 0 [])),(5,.pt 16005 0 0),(7,Z2 fs),(9,.ow 32009),(10,nI i)],[(32009,.arr 35 1 ((Gr hd fs i).map wD)),(16005,.box 52 [nI hd.K,nI hd.length,u32 hd.map])],6⟩
section
variable(hd:Zv)(fs:List Int)(b:0<=hd.map/\hd.map<=4294967295)(a:fs.length<=1048576)
include b a
theorem ZkZ(i:Nat)(hi:i<fs.length):CP (Zn f18 0) (rfL hd fs i).st .nrm (rfL hd fs (i+1)).st:=by
 have ln:=Z63 hd fs i;by_cases c:Bg hd (i:Int)=Lb;have d:Gr hd fs (i+1)=Gr hd fs i++[fs.getD i La]:=by rw[Gr,if_pos c]
 unfold rfL;rw[d];exact sF [(64038,32009)] []<|Fh 31 [.call Lb (bL (Bg hd (i:Int))) [],.br Lb]<|Fh 38 [.els (Lf wD (Gr hd fs i++[fs.getD i La]))]<|FM 25 26 wD fs i<|Fa (@NA hd ((i:Int)) aa)<|Fa ‹Bg hd (i:Int)=Lb›<|Fek 35 wD fs (↑i) i<|Fs 37 (Lf wD [fs.getD i La])<|Fa (by(simp[*];omega):(Lf wD (Gr hd fs i)).length+(Lf wD [fs.getD i La]).length<=2^30)<|Fa (ms:Lf wD (Gr hd fs i)++Lf wD [fs.getD i La]=Lf wD (Gr hd fs i++[fs.getD i La]))<|Fx 28 i Fz;have d:Gr hd fs (i+1)=Gr hd fs i:=by rw[Gr,if_neg c]
 unfold rfL;rw[d];exact sF [] []<|Fh 31 [.call Lb (bL (Bg hd (i:Int))) [],.br Lc]<|FM 25 26 wD fs i<|Fa (@NA hd ((i:Int)) aa)<|Fbs (Bg hd (i:Int)=Lc)<|Fx 28 i Fz
theorem Zim:CP (Zn f18 0) (rfL hd fs fs.length).st (.ext 0) (Tg.st ⟨tm 40 [(4,.d (.sl 0 [])),(9,.ow 32009)],[(32009,.arr 35 1 ((Gr hd fs fs.length).map wD))],6⟩):=by exact sF [] []<|FO 25 26 wD fs Fz
def ZbS  := Bt (S:=λk=>(rfL hd fs k).st) fs.length (by kernel_rfl) (λk c=>ZkZ hd fs b a k c) (Zim hd fs b a)
end
def ZiS(h:Heap)(a:Int)(b:Zz h.W)(h0:0<=a/\a<=18446744073709551615):GP 18 [h.av,uU a] Lc (Z2 (HJ h a)) []:=by have hm:=OM b a;have hf:=Z2d h a;exact gF [] func18 []<|Fh 9 [.own]<|Fc 14 (@Na h a aa aa)<|Fc 20 (@Z2M h a aa aa)<|Fu (@ZbS ((Zt h a).1) ((BV h a).1) aa oq) Fz
theorem Z8S(hd:Zv):∀n:Nat,(BQ hd n).Nodup
 |0=>LH
 |n+1=>by
  have c:=Z8S hd n;unfold BQ;split
  .rw[LV];refine⟨c,by simp,λa d b hb=>?_⟩;have:=(AM hd n a d).2;grind
  .exact c
def Z5J(hd:Zv):(Zw hd).Nodup:=by grind[Zw,Z8S]
def Z5l(hd:Zv)(fs:List Int)(f:Int->Int):∀n:Nat,(∀k:Nat,k<n->fs.getD k La=f k)->Gr hd fs n=(BQ hd n).map f
 |0,_=>rfl
 |n+1,h=>by
  unfold Gr BQ;rw[Z5l hd fs f n (λk hk=>h k oq),h n oq];grind
def Gd.refs{h T}(g:Gd h T){i}{x:Int}(b:x∈T i)(a:CG h.W x≠0):HJ h x=(Zw (ZQ h.W x)).map λj=>(Z1 h.W (x+1+j)).1:=by obtain⟨e,l,f⟩:=g.fields b a;unfold HJ;rw[e,Z5l _ _ (λj=>(Z1 h.W (x+1+j)).1) _ (λk a=>f k oq),show(BV h x).1.length=(Zk h.W x).toNat by omega];unfold Zw;rw[if_pos (show ZT (ZQ h.W x)=Lb from Ac _)];rfl
theorem Zkr{w}(j:B9 w)(h:Bw w){n:Int}(f:1<=n)(g:n<=w.j.C.pw)(b:(w.place n).2.2=Lb):(w.place n).2.1∉w.Q:=by obtain⟨i,p,t,a,h2,h3,h4,h5,h6,h7,h8,e⟩:=MU j ⟨f,g⟩ b;have d:=h.f i a (by grind);intro c;have q:=d _ (Lh _ c);have:=Bn w.j.W (w.place n).2.1;omega
def Z4n{l:List Int}{a:Int}(h:l.Nodup)(ha:a∉l):(l++[a]).Nodup:=by grind
def Zfz{w}(n:B9 w)(h:Bw w){r}(e:(w.fwd r).2.2=0)(nd:w.Q.Nodup):(w.fwd r).1.Q.Nodup:=by
 unfold Z6.fwd at e⊢;split at e;grind;rename_i c1;rw[if_neg c1];have a:r∉w.Q:=λq=>c1 (.inr q);split at e;simp at e;rename_i c2;rw[if_neg c2];have d:r∈w.old:=LD.1 c2;split at e;grind;rename_i c3;rw[if_neg c3];split at e;simp at e;rename_i c4;rw[if_neg c4];split at e;rename_i f;rw[if_pos f];exact Z4n nd a;rename_i f;rw[if_neg f];split at e;rename_i b;rw[if_pos b];exact Z4n nd a;rename_i b;rw[if_neg b];split at e;simp at e;rename_i j;rw[if_neg j];have g:(w.place (Z5 (Zx w r))).2.2=Lb:=by grind
 have c:=h.z r d;have l:=Bn w.j.W r;have hd:=GI w r;have m:Z5 (Zx w r)<=w.j.C.pw:=by(rcases c with c|c;exact absurd c b;omega)
 obtain⟨i,p,t,p1,p2,p3,p4,p5,p6,p7,k⟩:=T8 n ⟨by omega,m⟩ g;have hq:(w.place (Z5 (Zx w r))).1.Q=w.Q:=by rw[k]
 show((w.place (Z5 (Zx w r))).1.Q++[_]).Nodup;grind[Zkr]
structure RO (h:Heap) (T:Nat->List Int) (w:Z6) (out:List Int) (n:Nat):Prop where
 b:SW h T w
 nd:w.Q.Nodup
 l:w.Q.length=out.length
 i:∀i,i<out.length->out.getD i La∈w.old/\CS w (out.getD i La)=w.Q.getD i La
 s:∀y∈w.old,CS w y≠0->y∈out
 un:∀y∈w.old,CS w y=0->∀m,0<=m->m<=Zk h.W y->(Z1 w.j.W (y+m)).1=(Z1 h.W (y+m)).1
 uq:∀i,n<=i->i<out.length->∀m,0<=m->m<=Zk h.W (out.getD i La)->(Z1 w.j.W (w.Q.getD i La+m)).1=(Z1 h.W (out.getD i La+m)).1
def RO.begin{h T}(g:Gd h T)(c:Zz h.W):RO h T (Zp h) [] 0:=
 ⟨SW.begin g c,LH,rfl,λi a=>absurd a (Ll i),λy b q=>absurd (Z2o g b).1 q,λy b _ m _ _=>rfl,λi _ a=>absurd a (Ll i)⟩
def Mh{l:List Int}{a:Int}{k:Nat}:(l++[a]).getD k La=if k<l.length then l.getD k La else if k=l.length then a else La:=by grind
section
variable{h:Heap}{T:Nat->List Int}{w:Z6}{out:List Int}{n:Nat}(o:RO h T w out n)(g:Gd h T)(d:MV h)
include o g d
theorem RO.fwd{r:Int}(b:r=0\/r∈w.old):(w.fwd r).2.2=0/\RO h T (w.fwd r).1 (Cp out r) n/\(w.fwd r).2.1=(if r=0 then 0 else CS (w.fwd r).1 r):=by
 rcases b with rfl|b;grind[Z6.fwd,Cp];obtain⟨tq,k⟩:=o.b.o.c.k;obtain⟨i0,s,a0⟩:=(k.old r).1 b;have r0:r≠0:=by have:=g.inw s;omega
 rw[if_neg r0];by_cases l:CS w r=0;obtain⟨i0,hx,e,N⟩:=o.b.o.new g d b l;obtain⟨s1,s2,v,x,s5⟩:=o.b.o.seen g d b;have z:=(Nx o.b.o.c.ok o.b.o.c.inv r e).2.2;have no:r∉out:=λc=>by(obtain⟨j,i,ej⟩:=B7.1 c;have q:=(o.i j i).2;rw[ej,l]at q;have:=o.b.o.c.inv.r 0 (Lh _ (B7.2 ⟨j,by rw[o.l];exact i,q.symm⟩));omega)
 have ea:Cp out r=out++[r]:=by grind[Cp]
 rw[ea];have t:=o.l;refine⟨e,⟨(o.b.fwd g d (.inr (.inr b))).2.1,Zfz o.b.o.c.ok o.b.o.c.inv e o.nd,by grind,λj i=>?_,λy f a=>?_,λy f a m m0 m1=>?_,λj i p m m0 m1=>?_⟩,s2.symm⟩;rw[N.o,N.q,Mh,Mh,t];rw[Lv,Ly]at i;by_cases q:j<out.length;rw[if_pos q,if_pos q];have:=o.i j q;grind;grind;rw[x]at f;by_cases q:y=r;rw[q];simp;rw[v y f q]at a;exact Lw _ (o.s y f a);rw[x]at f;have q:y≠r:=λq=>s1 (s2.symm.trans (q▸a));rw[v y f q]at a;have u:=o.un y f a;have ey:=(Eh (by have:=u 0 oq (Bn _ _).1;omega)).2.1;grind;rw[Lv,Ly]at p;rw[Mh]at m1⊢;rw[N.q,Mh,t];by_cases q:j<out.length;rw[if_pos q]at m1⊢;rw[if_pos q];have u:=o.uq j i q;have hq:w.Q.getD j La∈w.Q:=B7.2 ⟨j,by omega,rfl⟩;have ey:Zk w.j.W (w.Q.getD j La)=Zk h.W (out.getD j La):=by(have:=u 0 oq (Bn _ _).1;simp only[Lu]at this;grind[Zk])
 grind;have:j=out.length:=by omega
 rw[if_neg q,if_pos this]at m1⊢;rw[if_neg q,if_pos this];rw[N.x m m0 m1];exact o.un r b l m m0 m1;rw[o.b.o.same g d b l,Cp,if_pos (.inr (o.s r b l))];grind
omit d in
theorem RO.old{x j:Int}(m:x∈w.old)(f:j∈Zw (ZQ h.W x)):(Z1 h.W (x+1+j)).1=0\/(Z1 h.W (x+1+j)).1∈w.old:=by obtain⟨tq,k⟩:=o.b.o.c.k;obtain⟨p,e,c⟩:=(k.old x).1 m;have b:=R5 _ j f;refine(g.q p x j e c b.1 b.2 (OI _ j f)).imp id λ⟨a,i,l⟩=>(k.old _).2 ⟨a,i,l⟩
theorem RO.in1{a:Nat}(ha:a<n)(hn:a<out.length){j:Int}(hj:0<=j/\j<Zk h.W (out.getD a La))(hq:ZQ w.j.W (w.Q.getD a La)=ZQ h.W (out.getD a La))(hv:(Z1 w.j.W (w.Q.getD a La+1+j)).1=0\/(Z1 w.j.W (w.Q.getD a La+1+j)).1∈w.old) :(w.fwd (Z1 w.j.W (w.Q.getD a La+1+j)).1).2.2=0/\RO h T (w.in1 (w.Q.getD a La+1+j)) (Cp out (Z1 w.j.W (w.Q.getD a La+1+j)).1) n/\(w.in1 (w.Q.getD a La+1+j)).Q.getD a La=w.Q.getD a La /\
  ZQ (w.in1 (w.Q.getD a La+1+j)).j.W (w.Q.getD a La)=ZQ h.W (out.getD a La)/\(∀m,0<=m->m<Zk h.W (out.getD a La)->m≠j->Z1 (w.in1 (w.Q.getD a La+1+j)).j.W (w.Q.getD a La+1+m)=Z1 w.j.W (w.Q.getD a La+1+m)):=by
 obtain⟨e,f,_⟩:=o.fwd g d hv;have l:w.Q.getD a La∈w.Q:=B7.2 ⟨a,by have:=o.l;omega,rfl⟩;generalize a3:w.Q.getD a La=q at *;have hl:Zk w.j.W q=Zk h.W (out.getD a La):=congrArg Zv.length hq;have hw:=o.b.o.c.ok;have iv:=o.b.o.c.inv;have S:=o.b.in1 g d l hj.1 oq e;obtain⟨tq,k⟩:=o.b.o.c.k;obtain⟨i1,x1⟩:=Nm hw iv _ e;have sm:=P5 hw iv _ e;have fs:=(Nx hw iv _ e).2.2;have s:=x1.q q l;have a5:=x1.l q l;have hr:=i1.r q (Lh _ s);generalize a7:(Z1 w.j.W (q+1+j)).1=v at *;have a4:4096<=q+1+j/\q+1+j<4096+(w.fwd v).1.j.W.length:=by omega
 have a1:∀x∈(w.fwd v).1.old++(w.fwd v).1.Q,∀i,0<=i->i<=Zk (w.fwd v).1.j.W x->x+i=q+1+j->x=q:=by(intro x hx i y0 b c;have l1:=i1.s q (Lh _ s) x hx;have l2:=i1.s x hx q (Lh _ s);omega)
 have wd:∀z,z≠q+1+j->Z1 (w.in1 (q+1+j)).j.W z=Z1 (w.fwd v).1.j.W z:=λz hz=>by(grind[Z6.in1,Gb])
 have hh:∀x∈(w.fwd v).1.old++(w.fwd v).1.Q,Z1 (w.in1 (q+1+j)).j.W x=Z1 (w.fwd v).1.j.W x:=λx hx=>wd x λc=>by(have:=a1 x hx 0 oq (Bn _ _).1 oq;omega)
 have a0:(w.in1 (q+1+j)).Q=(w.fwd v).1.Q:=by grind[Z6.in1]
 have t:(w.in1 (q+1+j)).old=(w.fwd v).1.old:=by grind[Z6.in1]
 have se:∀y∈(w.fwd v).1.old,CS (w.in1 (q+1+j)) y=CS (w.fwd v).1 y:=λy r=>by(grind[CS])
 have fl:=f.l;have ln:=o.l;have gq:(w.fwd v).1.Q.getD a La=q:=by rw[sm.get oq];exact a3
 have ao:a<(Cp out v).length:=by grind[Cp]
 refine⟨e,⟨S.1,by rw[a0];exact f.nd,by grind,λi hi=>?_,λy r p=>?_,λy r p m m0 m1=>?_,λi hi a2 m m0 m1=>?_⟩,by grind,(S.2 q l).2.trans hq,λm m0 m1 hm=>?_⟩;grind[i];rw[t]at r;rw[se y r]at p;exact f.s y r p;rw[t]at r;rw[se y r]at p;have u:=f.un y r p;have ey:=(Eh (by have:=u 0 oq (Bn _ _).1;omega)).2.1;grind[CS];rw[a0];have u:=f.uq i hi a2;have a6:(w.fwd v).1.Q.getD i La∈(w.fwd v).1.Q:=B7.2 ⟨i,by omega,rfl⟩;have ey:Zk (w.fwd v).1.j.W ((w.fwd v).1.Q.getD i La)=Zk h.W ((Cp out v).getD i La):=by(have:=u 0 oq (Bn _ _).1;simp only[Lu]at this;grind[Zk])
 grind[nd,List.getElem?_inj];rw[wd _ oq,show q+1+m=q+(1+m) by omega,fs q (Lh _ l) (.inl l) (1+m) oq oq]
theorem RO.inn{q x:Int}{l:List Int}(r:n<out.length)(hq:w.Q.getD n La=q)(hx:out.getD n La=x)(hl:Zw (ZQ h.W x)=l):∀k,k<=l.length->RO h T (Be w q l k) (addN out (l.map λj=>(Z1 h.W (x+1+j)).1) k) (n+1)/\(∀j,j<k->CI w q l j=0)/\(Be w q l k).Q.getD n La=q/\ZQ (Be w q l k).j.W q=ZQ h.W x /\ (addN out (l.map λj=>(Z1 h.W (x+1+j)).1) k).getD n La=x/\n<(addN out (l.map λj=>(Z1 h.W (x+1+j)).1) k).length/\∀m,0<=m->m<Zk h.W x->(∀i,i<k->l.getD i La≠m)->(Z1 (Be w q l k).j.W (q+1+m)).1=(Z1 h.W (x+1+m)).1
 |0,_=>by
  subst hq;subst hx;have u:=o.uq n (Ld _) r;refine⟨⟨o.b,o.nd,o.l,o.i,o.s,o.un,λi z=>o.uq i oq⟩,λj e=>absurd e (Ll j),rfl, ?_,rfl,r,λm m0 m1 _=>?_⟩
  .have:=u 0 oq (Bn _ _).1;simp only[Lu]at this;show ZQ w.j.W _=_;rw[ZQ,ZQ,this]
  .have:=u (1+m) oq oq;rw[<-LA,<-LA]at this;exact this
 |k+1,hk=>by
  obtain⟨t,i2,v,i4,b,f,i7⟩:=RO.inn r hq hx hl k oq;have e:l.getD k La∈Zw (ZQ h.W x):=by rw[hl];exact B7.2 ⟨k,by omega,rfl⟩
  have y:=R5 _ _ e;have nd:=Z5J (ZQ h.W x);rw[hl]at nd;have s:∀i,i<k->l.getD i La≠l.getD k La:=λi z c=>by
   simp only[Lg]at c;rw[Lm oq,Lm oq]at c;have:=(List.getElem_inj nd).1 c;omega
  have ev:=i7 (l.getD k La) y.1 y.2 s;have xo:x∈(Be w q l k).old:=by
   have:=(t.i n f).1;rw[b]at this;exact this
  have ov:=t.old g xo e;rw[<-ev]at ov;obtain⟨c1,c2,c3,c4,p⟩:=t.in1 g d (a:=n) oq f (j:=l.getD k La) (by rw[b];exact y) (by rw[v,b];exact i4) (by rw[v];exact ov);rw[v]at c1 c2 c3 c4 p;rw[b]at c4 p;rw[ev]at c2;have em:(l.map λj=>(Z1 h.W (x+1+j)).1).getD k La=(Z1 h.W (x+1+l.getD k La)).1:=by
   simp only[Lg,LS,Lm (show k<l.length by omega),L0,LI]
  have e2:addN out (l.map λj=>(Z1 h.W (x+1+j)).1) (k+1)=Cp (addN out (l.map λj=>(Z1 h.W (x+1+j)).1) k) (Z1 h.W (x+1+l.getD k La)).1:=by rw[addN,em]
  rw[e2];refine⟨c2,λj e=>?_,c3,c4, ?_, ?_,λm m0 m1 hm=>?_⟩
  .by_cases c:j=k
   .rw[c];exact c1
   .exact i2 j oq
  .unfold Cp;split
   .exact b
   .rw[Mh,if_pos f];exact b
  .unfold Cp;split
   .exact f
   .rw[Lv];omega
  .show(Z1 ((Be w q l k).in1 (q+1+l.getD k La)).j.W (q+1+m)).1=_;rw[p m m0 m1 (λc=>hm k oq c.symm)];exact i7 m m0 m1 λi z=>hm i oq
theorem RO.step(f:n<out.length)(hs:w.D=n):RO h T (ZV w).1 (addN out (HJ h (out.getD n La)) (HJ h (out.getD n La)).length) (n+1)/\(ZV w).2.1=Lb/\(ZV w).1.D=(n+1:Nat):=by
 have s:=(o.i n f).1;obtain⟨tq,k⟩:=o.b.o.c.k;obtain⟨i0,i,e⟩:=(k.old _).1 s;have m:=g.refs i e;have p:ZQ w.j.W (w.Q.getD n La)=ZQ h.W (out.getD n La):=by(have:=o.uq n (Ld _) f 0 oq (Bn _ _).1;simp only[Lu]at this;grind[ZQ])
 have l:C0 w=w.Q.getD n La:=by grind[C0]
 have r:Bf w=Zw (ZQ h.W (out.getD n La)):=by unfold Bf Zx;rw[l];exact congrArg Zw p
 obtain⟨a,i2,_⟩:=o.inn g d f rfl rfl rfl _ (Ld _);have q:w.D<w.Q.length:=by rw[hs,o.l];omega
 have hb:(Le (Bf w).length).find? (λk=>Lz (CI w (C0 w) (Bf w) k≠0))=Lk:=Lx.2 λj hj=>by(grind)
 have c:ZV w=(Ha (Be w (C0 w) (Bf w) (Bf w).length) (Bf w).length,Lb,0):=by grind[ZV]
 have b:=o.b.step g d;have so:=(O7 o.b.o.c.ok b.1).2 (by rw[c]);refine⟨?_,by rw[c],by omega⟩;have b:=b.2;rw[c]at b⊢;rw[l,r]at b⊢;rw[m,LB];exact⟨b,a.nd,a.l,a.i,a.s,a.un,a.uq⟩
end
def Cz(h:Heap)(roots:List Int):Nat->List Int|0=>addN [] roots roots.length|i+1=>addN (Cz h roots i) (HJ h ((Cz h roots i).getD i La)) (HJ h ((Cz h roots i).getD i La)).length
structure AZ (h:Heap) (roots:List Int) (k:Nat):Prop where
 r:(Le roots.length).find? (CZ roots (Zh h).1)=Lk
 o:∀i,i<k->i<(Cz h roots i).length/\Ec (HJ h ((Cz h roots i).getD i La))/\(Le (HJ h ((Cz h roots i).getD i La)).length).find? (CZ (HJ h ((Cz h roots i).getD i La)) (Zh h).1)=Lk
 e:(Cz h roots k).length<=k
 u:∀i,i<=k->(Cz h roots i).length<=1048576/\Ec (Cz h roots i)
def TW(h:Heap)(roots:List Int):Nat->Nat->Nat|0,i=>i|f+1,i=>if(Cz h roots i).length<=i then i else TW h roots f (i+1)
def Rc(h:Heap)(roots:List Int):Nat:=TW h roots (1048577+roots.length) 0
def Z6m{h roots k}(E:AZ h roots k):∀f i,i<=k->k<=i+f->TW h roots f i=k
 |0,i,h1,h2=>by unfold TW;omega
 |f+1,i,h1,h2=>by
  unfold TW;by_cases q:i=k
  .rw[q,if_pos E.e]
  .have:=(E.o i oq).1;rw[if_neg oq];exact Z6m E f (i+1) oq oq
def Zin{h roots k}(E:AZ h roots k):Rc h roots=k:=by refine Z6m E _ 0 (Lo _) ?_;by_cases q:k=0;omega;have h1:=(E.o (k-1) oq).1;have h2:=(E.u (k-1) oq).1;omega
def Za8{refs a:List Int}(h:∀r∈refs,r=0\/r∈a):(Le refs.length).find? (CZ refs a)=Lk:=
 Lx.2 λj b=>by
  have:=h _ (B7.2 ⟨j,Lj.1 b,rfl⟩);unfold CZ;simp only[decide_eq_true_eq,not_and,LD];exactλc=>this.resolve_left c
section
variable{h:Heap}{T:Nat->List Int}(g:Gd h T)(a:MV h){s:List Int}(hs:∀r∈s,r=0\/Ob h T r)(b:Zz h.W)
include g a hs b
theorem RO.roots:∀k,k<=s.length->RO h T (rootsN (Zp h) s k).1 (addN [] s k) 0/\(rootsN (Zp h) s k).1.D=0
 |0,_=>⟨RO.begin g b,rfl⟩
 |k+1,hk=>by
  obtain⟨c,e⟩:=RO.roots k oq;obtain⟨tq,i⟩:=c.b.o.c.k;have d:=(hs _ (B7.2 ⟨k,by omega,rfl⟩)).imp id λq=>(i.old _).2 q;have f:=c.fwd g a d;exact⟨f.2.1,(Nx c.b.o.c.ok c.b.o.c.inv _ f.1).2.1.trans e⟩
theorem RO.it:∀k,(∀j,j<k->j<(Cz h s j).length)->RO h T (BY (rootsF (Zp h) s).1 k) (Cz h s k) k/\(BY (rootsF (Zp h) s).1 k).D=k
 |0,_=>by
  obtain⟨c,d⟩:=RO.roots g a hs b s.length (Ld _);obtain⟨e,_⟩:=SW.roots g a hs b;rw[e];exact⟨c,d⟩
 |k+1,hk=>by
  obtain⟨c,d⟩:=RO.it k (λj hj=>hk j oq);obtain⟨f,_,i⟩:=c.step g a (hk k oq) d;exact⟨f,i⟩
theorem Z1p:∃k,AZ h s k/\RO h T (ZB h s) (Cz h s k) k/\(ZB h s).D=k/\(Cz h s k).length=k/\ZB h s=BY (rootsF (Zp h) s).1 k:=by
 obtain⟨e,sw⟩:=SW.roots g a hs b;obtain⟨k,hk⟩:=Sb sw.o.c.ok;obtain⟨h1,h2,h3⟩:=LN.1 hk;have w:=λj=>((sw.it g a j).step g a).1;have d:∀j,j<=k->∀i,i<j->i<(Cz h s i).length:=by
  intro j;induction j with
  |zero=>intro _ i f;omega
  |succ j ih =>
   intro o i f;by_cases q:i=j;subst q;obtain⟨l,u⟩:=RO.it g a hs b i (ih oq);have m:El (rootsF (Zp h) s).1 i=Lc:=by simpa using h3 i oq
   have:=(Z2k (Z6H m)).1;rw[u,l.l]at this;omega;exact ih oq i oq
 obtain⟨l,u⟩:=RO.it g a hs b k (d k (Ld _));have m:(ZV (BY (rootsF (Zp h) s).1 k)).2.1=Lc:=by(simp only[El,decide_eq_true_eq,w k]at h1;simpa using h1)
 obtain⟨n1,n2⟩:=step_end (w k) m;have v:ZB h s=BY (rootsF (Zp h) s).1 k:=by rw[ZB,Bv,hk];simp only[if_pos (w k)];exact n2
 have sc:=l.b.o.c.ok.sc;have il:=l.l;rw[u,l.l]at n1;rw[u,l.l]at sc;have t:∀{i:Nat},i<=k->∀x∈(BY (rootsF (Zp h) s).1 i).old,x∈(Zh h).1:=λ{i} f x z=>by(obtain⟨tq,ki⟩:=(sw.it g a i).o.c.k;exact((KI.begin g).old x).2 ((ki.old x).1 z))
 refine⟨k,⟨Za8 λr p=>(hs r p).imp id λq=>((KI.begin g).old r).2 q,λi f=>(λq=>⟨d k (Ld _) i f,λr p=>(q r p).elim (λc=>by omega) (λc=>by have:=RU h r c;omega),Za8 q⟩) λr p=>?_,by omega,λi f=>?_⟩,by rw[v];exact l,by rw[v];exact u,by omega,v⟩;obtain⟨n,j2⟩:=RO.it g a hs b i (λj o=>d k (Ld _) j oq);have xo:=(n.i i (d k (Ld _) i f)).1;obtain⟨tq,ki⟩:=n.b.o.c.k;obtain⟨i0,a0,y⟩:=(ki.old _).1 xo;rw[g.refs a0 y]at p;obtain⟨j,o,rfl⟩:=LG.1 p;exact(n.old g xo o).imp id (t oq _);obtain⟨n,j2⟩:=RO.it g a hs b i (λj o=>d k (Ld _) j oq);have ln:=n.b.o.c.ck.ln;refine⟨by rw[<-n.l];exact ln.ql,λx z=>?_⟩;obtain⟨j,o,rfl⟩:=B7.1 z;have:=RU h _ (t f _ (n.i j o).1);omega
theorem Zce:∃k,AZ h s k/\RO h T (ZB h s) (Cz h s k) k/\(ZB h s).D=k/\(Cz h s k).length=k:=by obtain⟨k,c,d,e,f,_⟩:=Z1p g a hs b;exact⟨k,c,d,e,f⟩
end
section
variable{B:Int}(hB:0<=B){h:Heap}{T:Nat->List Int}(g:Gd h T)(mv:MV h){s k0:List Int}(hw:Zz h.W)(hb:∀p∈h.P,p.N<=B)(gs:Gx h T s)(gk:Gx h T k0)(e:(collectF h s k0).2.2.2.2=0)
include hB g mv hw hb gs gk e
theorem Zhe:∃tq l5,CE h T tq (ZB h s) (Cs h s k0).j.W l5/\OnW h T (ZB h s)/\(collectF h s k0).1=⟨(ZB h s).j.C,l5,(ZB h s).j.P.map (BM (ZB h s).j.S),1-(ZB h s).j.S,(collectF h s k0).1.B⟩/\Gd (collectF h s k0).1 (tE T tq (ZB h s))/\(collectF h s k0).2.1=(rootsF (Zp h) s).2.1/\(collectF h s k0).2.2.1=Em (ZB h s) k0 k0.length/\(collectF h s k0).2.2.2.1=(Bq h s k0).rep:=by
 obtain⟨er,sw⟩:=SW.roots g mv gs hw;have e1:(rootsF (Zp h) s).2.2=0:=by rw[er]
 have e2:=(sw.all g mv).1;have pr1:=(PG hB hw hb e).p1;obtain⟨tq,ce,eh⟩:=M1 hB g hw hb e1 e2 (k:=k0);have e7:collectF h s k0=(Eg (Bq h s k0),(rootsF (Zp h) s).2.1,Em (ZB h s) k0 k0.length,(Bq h s k0).rep,0):=by rw[collectF,if_pos g.p,if_pos ⟨g.refers gs,g.refers gk⟩,if_pos e1,if_pos e2]
 rw[e7]at pr1⊢;refine⟨tq,_,ce,(sw.all g mv).2.o,eh, ?_,rfl,rfl,rfl⟩;simp only at pr1⊢;rw[eh]at pr1⊢;exact ce.good pr1
end
def Z4t(hd:Zv)(fs:List Int)(f:Int->Int):∀n:Nat,(∀k:Nat,k<n->fs.getD k La=f k)->Gr hd fs n=(BQ hd n).map f
 |0,_=>rfl
 |n+1,h=>by
  unfold Gr BQ;rw[Z4t hd fs f n (λk hk=>h k oq),h n oq];split
  .simp
  .rfl
def Z2W{h:Heap}(g:Z8 h=Lb){a:Int}(f:a∈(Zh h).1):(Zt h a).2=0/\(Z9 h a).2=0/\(Z9 h a).1.K≠0:=by
 obtain⟨d,b⟩:=List.mem_filter.1 f;have b:(Z9 h a).1.K≠0:=by simpa[CU]using b
 rw[Od]at d;obtain⟨x,i,rfl⟩:=LG.1 d;have c:=(Z2x x i).2;refine⟨?_,c,b⟩;unfold Zt;have z:x.addr≠0:=λe=>Z2y h (by have:=c;rw[e]at this;exact this);rw[if_pos g,if_neg z,if_neg (λe=>b e.2)];exact c
def CB(h:Heap)(a:Int):List Int:=(Zw (Z9 h a).1).map λj=>(Z1 h.W (a+1+j)).1
def Z9H{h:Heap}{a:Int}(l:Z8 h=Lb)(f:a∈(Zh h).1):HJ h a=CB h a:=by
 have g:=(Z2W l f).1;obtain⟨e,c,_,_,k1,k2,v,_,_,l1,l2⟩:=N6 g;have r:=MZ c;rw[<-e]at r;have d:(BV h a)=BN h.W (a+1) (Zt h a).1.length:=by rw[BV,if_pos g]
 have m:BN h.W (a+1) (Zt h a).1.length=((h.W.drop (a+1-4096).toNat).take (Zt h a).1.length.toNat,0):=by(rw[BN,if_neg oq,if_pos oq])
 unfold HJ CB;rw[d,m];have b:((h.W.drop (a+1-4096).toNat).take (Zt h a).1.length.toNat).length=(Zt h a).1.length.toNat:=by(rw[Lp,L8];omega)
 rw[Z4t _ _ (λj=>(Z1 h.W (a+1+j)).1) _ (λk i=>?_),b];unfold Zw;rw[<-e,if_pos v];rw[b]at i;show((h.W.drop (a+1-4096).toNat).take (Zt h a).1.length.toNat).getD k La=_;rw[Z1,if_pos oq];simp only[Lg,LF,LO];rw[if_pos oq,show(a+1-4096).toNat+k=(a+1+(k:Int)-4096).toNat by omega];rfl
def ZdM{l:List Int}{a:Int}(h:l.Nodup)(e:a∉l):(l++[a]).Nodup:=by rw[LV];refine⟨h,by simp,λb f c d=>?_⟩;rw[Ls]at d;rintro rfl;exact e (d▸f)
def Zf9{a out:List Int}{r:Int}(h:out.Nodup/\∀x∈out,x∈a)(d:r=0\/r∈a):(Cp out r).Nodup/\∀x∈Cp out r,x∈a:=by unfold Cp;split;exact h;rename_i c;refine⟨ZdM h.1 (λq=>c (.inr q)),λx b=>?_⟩;rcases Lr.1 b with b|b;exact h.2 x b;rw[Ls.1 b];exact d.resolve_left λq=>c (.inl q)
def Zj2{refs a}{i:Nat}(h:CZ refs a i=Lc):refs.getD i La=0\/refs.getD i La∈a:=by have:=of_decide_eq_false h;by_cases c:refs.getD i La=0;exact .inl c;exact .inr (LD.1 λq=>this ⟨c,q⟩)
def Z2F{a out refs:List Int}(h:out.Nodup/\∀x∈out,x∈a):∀n,(∀j,j<n->CZ refs a j=Lc)->(addN out refs n).Nodup/\∀x∈addN out refs n,x∈a|0,_=>h|n+1,hb=>Zf9 (Z2F h n λj hj=>hb j oq) (Zj2 (hb n oq))
def Z9u{refs a:List Int}(h:(Le refs.length).find? (CZ refs a)=Lk):∀j,j<refs.length->CZ refs a j=Lc:=λj b=>by
 simpa using Lx.1 h j (Lj.2 b)
def Z8K:∀{l m:List Int},l.Nodup->(∀x∈l,x∈m)->l.length<=m.length
 |[],_,_,_=>Lo _
 |a::l,m,hn,h=>by
  obtain⟨d,f⟩:=Xa.1 hn;have b:=h a pq;have:=Z8K (l:=l) (m:=m.erase a) f (λx c=>(List.mem_erase_of_ne (by rintro rfl;exact d c)).2 (h x (by simp[c])));have e:=List.length_erase_of_mem b;have:=List.length_pos_of_mem b;simp only[L7];omega
def ZG(h:Heap)(roots:List Int):Nat->List Int|0=>addN [] roots roots.length|i+1=>addN (ZG h roots i) (CB h ((ZG h roots i).getD i La)) (CB h ((ZG h roots i).getD i La)).length
def Ie(h:Heap)(roots:List Int)(i:Nat):Bool:=((Le (CB h ((ZG h roots i).getD i La)).length).find? (CZ (CB h ((ZG h roots i).getD i La)) (Zh h).1)).isSome
def R2(h:Heap)(roots:List Int):Nat->Nat->Nat|0,i=>i|f+1,i=>if(ZG h roots i).length<=i\/Ie h roots i=Lb then i else R2 h roots f (i+1)
def N3(h:Heap)(roots:List Int):Nat:=R2 h roots 16385 0
def Iu(h:Heap)(roots:List Int):Bool:=((Le roots.length).find? (CZ roots (Zh h).1)).isSome
structure GM (h:Heap) (roots:List Int) (k:Nat):Prop where
 lo:∀i,i<k->i<(ZG h roots i).length/\Ie h roots i=Lc
 el:∀i,i<=k->(ZG h roots i).Nodup/\∀x∈ZG h roots i,x∈(Zh h).1
def GM.len{h roots k}(I:GM h roots k){i:Nat}(hi:i<=k):(ZG h roots i).length<=16384:=
 LY (Z8K (I.el i hi).1 (I.el i hi).2) (Ic h)
def GM.zero{h}{roots:List Int}(b:Iu h roots=Lc):GM h roots 0:=by
 refine⟨λi a=>by omega,λi a=>?_⟩;obtain rfl:i=0:=by omega
 exact Z2F ⟨LH,by simp⟩ _ (Z9u (by simpa[Iu]using b))
def GM.succ{h roots k}(I:GM h roots k)(b:k<(ZG h roots k).length)(a:Ie h roots k=Lc):GM h roots (k+1):=by refine⟨λi c=>?_,λi c=>?_⟩;by_cases q:i=k;rw[q];exact⟨b,a⟩;exact I.lo i oq;by_cases q:i=k+1;rw[q];exact Z2F (I.el k (Ld _)) _ (Z9u (by simpa[Ie]using a));exact I.el i oq
def Z5i{h roots}:∀f i,GM h roots i->16385<=f+i->GM h roots (R2 h roots f i)/\((ZG h roots (R2 h roots f i)).length<=R2 h roots f i\/Ie h roots (R2 h roots f i)=Lb)
 |0,i,I,hf=>by
  have:=I.len (Ld i);exact⟨I,.inl (by unfold R2;omega)⟩
 |f+1,i,I,hf=>by
  unfold R2;by_cases q:(ZG h roots i).length<=i\/Ie h roots i=Lb
  .rw[if_pos q];exact⟨I,q⟩
  .rw[if_neg q];exact Z5i f (i+1) (I.succ oq (by simpa using λe=>q (.inr e))) oq
def Zil{h}{roots:List Int}(a:Iu h roots=Lc):GM h roots (N3 h roots)/\((ZG h roots (N3 h roots)).length<=N3 h roots\/Ie h roots (N3 h roots)=Lb):=
 Z5i _ _ (GM.zero a) oq
def Cx(h:Heap)(roots:List Int):List Int×Int:=
 if Z8 h=Lb then
  if(Zh h).2=0 then
   if Iu h roots=Lb\/((N3 h roots)<(ZG h roots (N3 h roots)).length/\Ie h roots (N3 h roots)=Lb)then([],19)else(ZG h roots (N3 h roots),0)
  else([],(Zh h).2)
 else([],1)
section
variable(a out refs:List Int)(hl:refs.length<=1000000)(c:a.length<=1048576)(d:out.length<=16384)(b:Ec refs)
include hl c d b
theorem Zk8(i:Nat)(hi:i<refs.length)(e:CZ refs a i=Lb):CP (Zn f66 0) (a8L a out refs i).st .ret (Tg.st ⟨tm 42 [(6,.d (.sl 0 [])),(7,bL Lc)],[],60⟩):=by have r:=b _ (B7.2 ⟨i,hi,rfl⟩);obtain⟨b1,b2⟩:=of_decide_eq_true e;exact sF [] []<|FN 11 12 17 wD refs i<|Ffb 19 (refs.getD i La==0)<|Fek 23 wD refs (↑i) i<|Fc 25 (@CQ a (refs.getD i La) aa)<|Ftb 26 (!decide (refs.getD i La∈a)) Fz
theorem Zgi k(h:(Le refs.length).find? (CZ refs a)=LC k):CP (Zj f66 0) (Tg.st ⟨tm 42 [(0,Z2 a),(1,.ow 8000),(2,Z2 refs),(6,.d (.sl 0 [])),(7,bL Lc),(8,nI 0)],[(8000,.arr 35 1 (out.map wD))],4⟩) .ret (Tg.st ⟨tm 42 [(6,.d (.sl 0 [])),(7,bL Lc)],[],60⟩):=by obtain⟨f,e,g⟩:=LN.1 h;have e:=Lj.1 e;have j:∀m,(addN out refs m).length<=out.length+m:=Z9N out refs;exact G0 (S:=λk=>(a8L a out refs k).st) k kr (λm i=>Z6X a out refs oq c (by have:=j refs.length;omega) b m oq (by simpa using g m i)) (Zk8 a out refs hl c d b k e f)
theorem Z4N(e:((Le refs.length).find? (CZ refs a)).isSome=Lb):BP 66 [Z2 a,.ow 0,Z2 refs] [.arr 35 1 (out.map wD)] (.tu [.d (.sl 0 []),bL Lc]) [.dead]:=by obtain⟨k,e⟩:=Option.isSome_iff_exists.1 e;exact borF [8000] [] func66 []<|Fu (@Zgi a out refs aa aa aa aa k e)<|Fnl Fz
end
def Z9V(h:Heap)(a:Int)(d:Zz h.W)(c:Z8 h=Lb)(b:a∈(Zh h).1):GP 18 [h.av,uU a] Lc (Z2 (CB h a)) []:=by rw[<-Z9H c b];have:=RU h a b;exact ZiS h a d oq
def Za9(h:Heap) a:(CB h a).length<=255:=by rw[CB,LB];exact(Z0K _).1
def Z4u{h:Heap}(b:Zz h.W) a:Ec (CB h a):=by intro x c;obtain⟨j,_,rfl⟩:=LG.1 c;exact EW b _
def Z5Y(a refs:List Int)(hl:refs.length<=1048576)(b:a.length<=1048576)(d:(addN [] refs refs.length).length<=1048576)(e:Ec refs)(c:(Le refs.length).find? (CZ refs a)=Lk):BP 66 [Z2 a,.ow 0,Z2 refs] [.arr 35 1 []] (.tu [.ow 1,bL Lb]) [.dead,.arr 35 1 ((addN [] refs refs.length).map wD)]:=
 Z7j a [] refs hl b d e c
def Zg1(a refs:List Int)(hl:refs.length<=1000000)(b:a.length<=1048576)(d:Ec refs)(c:((Le refs.length).find? (CZ refs a)).isSome=Lb):BP 66 [Z2 a,.ow 0,Z2 refs] [.arr 35 1 []] (.tu [.d (.sl 0 []),bL Lc]) [.dead]:=
 Z4N a [] refs hl b (Lo _) d c
def orG(h:Heap)(roots:List Int)(i:Nat):Tg:=⟨tm 52 [(2,.pt 8002 0 0),(4,.d (.sl 0 [])),(5,nI 0),(6,Z2 (Zh h).1),(8,.ow 41025),(9,bL Lb),(10,nI i)],[(41025,.arr 35 1 ((ZG h roots i).map wD)),(8002,.box 28 [nI h.C.pw,nI h.C.pg,.d (.sl 1 (h.W.map wD)),.d (.sl 4 (h.P.map Z0.dv)),nI h.S,nI h.B])],7⟩
def orX(i:Nat):Tg:=⟨tm 52 [(4,.d (.sl 0 [])),(5,nI 0),(8,.d (.sl 0 [])),(9,bL Lc),(10,nI i)],[],7⟩
section
variable(h:Heap)(roots:List Int)(k:Nat)(I:GM h roots k)(a:Zz h.W)(c:Z8 h=Lb)
include I a c
theorem Z4m(i:Nat)(hi:i<k):CP (Zn f25 0) (orG h roots i).st .nrm (orG h roots (i+1)).st:=by
 have ol:=Ic h;obtain⟨f,d⟩:=I.lo i hi;have o3:=I.len (i:=i) oq;have g:=I.len (i:=i+1) oq;have om:=(I.el i oq).2 _ (B7.2 ⟨i,f,rfl⟩);have ox:=RU h _ om;have rl:=Za9 h ((ZG h roots i).getD i La);have ru:=Z4u a ((ZG h roots i).getD i La);have d:(Le (CB h ((ZG h roots i).getD i La)).length).find? (CZ (CB h ((ZG h roots i).getD i La)) (Zh h).1)=Lk:=by simpa[Ie]using d
 have b:ZG h roots (i+1)=addN (ZG h roots i) (CB h ((ZG h roots i).getD i La)) (CB h ((ZG h roots i).getD i La)).length:=rfl;rw[b]at g;unfold orG;rw[b];let e:=(ZG h roots i).getD (i:Int).toNat La;exact sF [(65046,41025)] []<|FlG 32 Lb wD (ZG h roots i)<|Ftb 34 (Lz ((i:Int)<(↑(ZG h roots i).length:Int)))<|Fmq 44 wD (ZG h roots i) (↑i)<|Fc 45 (@Z9V h e aa aa aa)<|Fbr 46 [41025] (@Z7j ((Zh h).1) (ZG h roots i) (CB h e) (by grind[]) oq (by grind[]) aa aa)<|Fx 36 i Fz
theorem Zck(hi:k<(ZG h roots k).length)(d:Ie h roots k=Lb):CP (Zn f25 0) (orG h roots k).st .nrm (orX (k+1)).st:=by have ol:=Ic h;have o3:=I.len (Ld k);have om:=(I.el k (Ld k)).2 _ (B7.2 ⟨k,hi,rfl⟩);have ox:=RU h _ om;have rl:=Za9 h ((ZG h roots k).getD k La);have ru:=Z4u a ((ZG h roots k).getD k La);unfold Ie at d;unfold orG;let b:=(ZG h roots k).getD (k:Int).toNat La;exact sF [] []<|FlG 32 Lb wD (ZG h roots k)<|Ftb 34 (Lz ((k:Int)<(↑(ZG h roots k).length:Int)))<|Fmq 44 wD (ZG h roots k) (↑k)<|Fc 45 (@Z9V h b aa aa aa)<|Fbr 46 [41025] (@Z4N ((Zh h).1) (ZG h roots k) (CB h b) (by grind[]) oq aa aa aa)<|Fx 36 k Fz
omit I a c in
theorem Z5k:CP (Zn f25 0) (orX k).st (.ext 0) (Tg.st ⟨tm 52 [(4,.d (.sl 0 [])),(5,nI 0),(8,.d (.sl 0 [])),(9,bL Lc)],[],7⟩):=by exact sF [] [] Fz
omit I a c in
theorem ZbT(e:(ZG h roots k).length<=k):CP (Zn f25 0) (orG h roots k).st (.ext 0) (Tg.st ⟨tm 52 [(4,.d (.sl 0 [])),(5,nI 0),(8,.ow 41025),(9,bL Lb)],[(41025,.arr 35 1 ((ZG h roots k).map wD))],7⟩):=by exact sF [] []<|FlG 32 Lb wD (ZG h roots k)<|Ffb 34 (Lz ((k:Int)<(↑(ZG h roots k).length:Int))) Fz
def ZiB(e:(ZG h roots k).length<=k)  := Bt (S:=λi=>(orG h roots i).st) k (by kernel_rfl) (λi b=>Z4m h roots k I a c i b) (ZbT h roots k e)
theorem Zaq(hi:k<(ZG h roots k).length)(d:Ie h roots k=Lb):CP (Zj f25 0) (Tg.st ⟨tm 52 [(2,.pt 8002 0 0),(4,.d (.sl 0 [])),(5,nI 0),(6,Z2 (Zh h).1),(8,.ow 41025),(9,bL Lb),(10,nI 0)],[(41025,.arr 35 1 ((addN [] roots roots.length).map wD)),(8002,.box 28 [nI h.C.pw,nI h.C.pg,.d (.sl 1 (h.W.map wD)),.d (.sl 4 (h.P.map Z0.dv)),nI h.S,nI h.B])],7⟩) .nrm (Tg.st ⟨tm 52 [(4,.d (.sl 0 [])),(5,nI 0),(8,.d (.sl 0 [])),(9,bL Lc)],[],7⟩):=by
 have:=Bt (P:=prog) (fn:=f25) (b:=0) (S:=λi=>if i<=k then(orG h roots i).st else(orX i).st) (k+1) kr (λi e=>by
  rw[if_pos oq];by_cases q:i=k;rw[q,if_neg oq];exact Zck h roots k I a c hi d;rw[if_pos oq];exact Z4m h roots k I a c i oq) (by rw[if_neg oq];exact Z5k (k+1))
 rw[if_pos (Lo _)]at this;exact this
theorem Zjo(hl:roots.length<=1000)(hr:Ec roots)(ho:(Zh h).2=0)(b:Iu h roots=Lc)(e:(ZG h roots k).length<=k):GP 25 [h.av,Z2 roots] Lc (.tu [Z2 (ZG h roots k),nI 0]) []:=by
 have ol:=Ic h;have Er:(Le roots.length).find? (CZ roots (Zh h).1)=Lk:=by simpa[Iu]using b
 have u0:(addN [] roots roots.length).length<=16384:=I.len (Lo k);exact gF [] func25 []<|Fh 25 [.gh 35 1,.bor [47025] (AV.tu [AV.ow 1,bL Lb]) [Z4.dead,Z4.arr 35 1 (Lf wD (addN [] roots roots.length))]]<|Fc 12 (@Cy h)<|Ffb 13 (!Z8 h)<|Fc 16 (@NT h aa)<|Ffb 20 ((Zh h).2 != 0)<|Fa (@Z5Y ((Zh h).1) roots oq oq oq aa aa)<|Fu (@ZiB h roots k aa aa aa aa) Fz
theorem Zjv(hl:roots.length<=1000)(hr:Ec roots)(ho:(Zh h).2=0)(b:Iu h roots=Lc)(hi:k<(ZG h roots k).length)(d:Ie h roots k=Lb):GP 25 [h.av,Z2 roots] Lc (.tu [Z2 [],nI 19]) []:=by
 have ol:=Ic h;have Er:(Le roots.length).find? (CZ roots (Zh h).1)=Lk:=by simpa[Iu]using b
 have u0:(addN [] roots roots.length).length<=16384:=I.len (Lo k);exact gF [] func25 []<|Fh 25 [.gh 35 1,.bor [47025] (AV.tu [AV.ow 1,bL Lb]) [Z4.dead,Z4.arr 35 1 (Lf wD (addN [] roots roots.length))]]<|Fc 12 (@Cy h)<|Ffb 13 (!Z8 h)<|Fc 16 (@NT h aa)<|Ffb 20 ((Zh h).2 != 0)<|Fa (@Z5Y ((Zh h).1) roots oq oq oq aa aa)<|Fu (@Zaq h roots k I aa aa aa aa)<|Fnl Fz
end
def ZiX(h:Heap) roots(hw:Zz h.W)(hp:Z8 h=Lc):GP 25 [h.av,Z2 roots] Lc (.tu [Z2 [],nI 1]) []:=by exact gF [] func25 []<|Fc 12 (@Cy h)<|Ftb 13 (!Z8 h)<|Fnl Fz
def Zio(h:Heap) roots(hw:Zz h.W)(hp:Z8 h=Lb)(ho:(Zh h).2≠0):GP 25 [h.av,Z2 roots] Lc (.tu [Z2 [],nI (Zh h).2]) []:=by exact gF [] func25 []<|Fc 12 (@Cy h)<|Ffb 13 (!Z8 h)<|Fc 16 (@NT h aa)<|Ftb 20 ((Zh h).2 != 0)<|Fnl Fz
def Z6K  := Bt (S:=λi=>(orX i).st) 0 (by kernel_rfl) (λi a=>absurd a (Ll _)) (Z5k 0)
def Zhh(h:Heap)(roots:List Int)(hw:Zz h.W)(hp:Z8 h=Lb)(hl:roots.length<=1000)(hr:Ec roots)(ho:(Zh h).2=0)(a:Iu h roots=Lb):GP 25 [h.av,Z2 roots] Lc (.tu [Z2 [],nI 19]) []:=by have ol:=Ic h;unfold Iu at a;have b:=Z6K;unfold orX at b;exact gF [] func25 []<|Fh 25 [.gh 35 1,.bor [47025] (AV.tu [AV.d (DV.sl 0 []),bL Lc]) [Z4.dead]]<|Fc 12 (@Cy h)<|Ffb 13 (!Z8 h)<|Fc 16 (@NT h aa)<|Ffb 20 ((Zh h).2 != 0)<|Fa (@Zg1 ((Zh h).1) roots oq oq aa aa)<|Fu (@Z6K)<|Fnl Fz
def ZlU(h:Heap)(roots:List Int)(f:Zz h.W)(hl:roots.length<=1000)(i:Ec roots):GP 25 [h.av,Z2 roots] Lc (.tu [Z2 (Cx h roots).1,nI (Cx h roots).2]) []:=by
 unfold Cx;by_cases b:Z8 h=Lb;rw[if_pos b];by_cases d:(Zh h).2=0;rw[if_pos d];by_cases g:Iu h roots=Lb;rw[if_pos (.inl g)];exact Zhh h roots f b hl i d g;have a:Iu h roots=Lc:=by simpa using g
 obtain⟨I,e⟩:=Zil a;by_cases c:(N3 h roots)<(ZG h roots (N3 h roots)).length/\Ie h roots (N3 h roots)=Lb;rw[if_pos (.inr c)];exact Zjv h roots _ I f b hl i d a c.1 c.2;rw[if_neg (λq=>q.elim g c)];refine Zjo h roots _ I f b hl i d a ?_;rcases e with e|e;exact e;exact Nat.not_lt.1 λq=>c ⟨q,e⟩;rw[if_neg d];exact Zio h roots f b d;rw[if_neg b];exact ZiX h roots f (by simpa using b)
def Z5h(out:List Int) r{k:Nat}(a:k<out.length):k<(Cp out r).length/\(Cp out r).getD k La=out.getD k La:=by unfold Cp;split;exact⟨a,rfl⟩;refine⟨by simp;omega, ?_⟩;simp only[Lg];rw[L5 a]
def Z61(out refs:List Int){k:Nat}(a:k<out.length):∀n,k<(addN out refs n).length/\(addN out refs n).getD k La=out.getD k La
 |0=>⟨a,rfl⟩
 |n+1=>by
  obtain⟨b,c⟩:=Z61 out refs a n;obtain⟨d,e⟩:=Z5h (addN out refs n) (refs.getD n La) b;exact⟨d,e.trans c⟩
def Tr(w:Z6)(v x:Int):Prop:=(v=0/\x=0)\/(v∈w.old/\CS w v≠0/\x=CS w v)
def FT(h:Heap)(w:Z6)(a q m:Int):Prop:=if Bg (ZQ h.W a) m=Lb then Tr w (Z1 h.W (a+1+m)).1 (Z1 w.j.W (q+1+m)).1 else(Z1 w.j.W (q+1+m)).1=(Z1 h.W (a+1+m)).1
def FT.mono{h}{w w':Z6}{a q m:Int}(hl:Z1 w'.j.W (q+1+m)=Z1 w.j.W (q+1+m))(ht:∀v x,Tr w v x->Tr w' v x)(f:FT h w a q m):FT h w' a q m:=by grind[FT]
structure RT (h:Heap) (w:Z6) (out:List Int) (n:Nat):Prop where
 f:∀i,i<n->i<out.length->ZQ w.j.W (w.Q.getD i La)=ZQ h.W (out.getD i La)/\∀m,0<=m->m<Zk h.W (out.getD i La)->FT h w (out.getD i La) (w.Q.getD i La) m
section
variable{h:Heap}{T:Nat->List Int}{w:Z6}{out:List Int}{n:Nat}(o:RO h T w out n)(g:Gd h T)(d:MV h)
include o g d
theorem RO.trOld{r v x:Int}(a:r=0\/r∈w.old)(t:Tr w v x):Tr (w.fwd r).1 v x:=by rcases t with t|⟨t1,t2,c⟩;exact .inl t;rcases a with rfl|a;rw[Z6.fwd,if_pos (.inl rfl)];exact .inr ⟨t1,t2,c⟩;by_cases b:CS w r=0;obtain⟨s1,s2,s3,s4,s5⟩:=o.b.o.seen g d a;have ne:v≠r:=λq=>t2 (q▸b);exact .inr ⟨by grind,by grind,by grind⟩;rw[o.b.o.same g d a b];exact .inr ⟨t1,t2,c⟩
theorem RO.trNew{r:Int}(a:r=0\/r∈w.old):Tr (w.fwd r).1 r (w.fwd r).2.1:=by rcases a with rfl|a;rw[Z6.fwd,if_pos (.inl rfl)];exact .inl ⟨rfl,rfl⟩;obtain⟨s1,s2,s3,s4,s5⟩:=o.b.o.seen g d a;exact .inr ⟨by grind,by omega,s2.symm⟩
theorem RT.fwd{p}(t:RT h w out p)(hn:p<=out.length){r:Int}(b:r=0\/r∈w.old):RT h (w.fwd r).1 (Cp out r) p:=by
 obtain⟨e,f,_⟩:=o.fwd g d b;have fs:=Nx o.b.o.c.ok o.b.o.c.inv r e;obtain⟨qm,q⟩:=fs.1;have ol:=o.l;refine⟨λi j l=>?_⟩;obtain⟨a1,c⟩:=Z5h out r (k:=i) oq;have s:(w.fwd r).1.Q.getD i La=w.Q.getD i La:=by grind
 rw[c,s];obtain⟨t1,t2⟩:=t.f i j oq;have mem:w.Q.getD i La∈w.Q:=B7.2 ⟨i,by omega,rfl⟩;have hl:Zk w.j.W (w.Q.getD i La)=Zk h.W (out.getD i La):=congrArg Zv.length t1;have a:=fs.2.2 _ (Lh _ mem) (.inl mem);refine⟨?_,λm m0 m1=>?_⟩;have:=a 0 oq (Bn _ _).1;grind[ZQ];refine FT.mono ?_ (λv x=>o.trOld g d b) (t2 m m0 m1);have:=a (1+m) oq oq;grind
theorem RO.in1f{a:Nat}(hn:a<out.length){j:Int}(hj:0<=j/\j<Zk h.W (out.getD a La))(hq:ZQ w.j.W (w.Q.getD a La)=ZQ h.W (out.getD a La))(hv:(Z1 w.j.W (w.Q.getD a La+1+j)).1=0\/(Z1 w.j.W (w.Q.getD a La+1+j)).1∈w.old) :(∀z,z≠w.Q.getD a La+1+j->Z1 (w.in1 (w.Q.getD a La+1+j)).j.W z=Z1 (w.fwd (Z1 w.j.W (w.Q.getD a La+1+j)).1).1.j.W z) /\ (Z1 (w.in1 (w.Q.getD a La+1+j)).j.W (w.Q.getD a La+1+j)).1=(w.fwd (Z1 w.j.W (w.Q.getD a La+1+j)).1).2.1 /\ (∀v x,Tr (w.fwd (Z1 w.j.W (w.Q.getD a La+1+j)).1).1 v x->Tr (w.in1 (w.Q.getD a La+1+j)) v x)/\(w.in1 (w.Q.getD a La+1+j)).Q=(w.fwd (Z1 w.j.W (w.Q.getD a La+1+j)).1).1.Q /\
  ∀x∈(w.fwd (Z1 w.j.W (w.Q.getD a La+1+j)).1).1.Q,∀i,0<=i->i<=Zk (w.fwd (Z1 w.j.W (w.Q.getD a La+1+j)).1).1.j.W x->x+i=w.Q.getD a La+1+j->x=w.Q.getD a La:=by
 obtain⟨e,f,_⟩:=o.fwd g d hv;have p:w.Q.getD a La∈w.Q:=B7.2 ⟨a,by have:=o.l;omega,rfl⟩;generalize a3:w.Q.getD a La=q at *;have hl:Zk w.j.W q=Zk h.W (out.getD a La):=congrArg Zv.length hq;have hw:=o.b.o.c.ok;have iv:=o.b.o.c.inv;obtain⟨s,x1⟩:=Nm hw iv _ e;have k:=x1.q q p;have a2:=x1.l q p;have hr:=s.r q (Lh _ k);generalize a4:(Z1 w.j.W (q+1+j)).1=v at *;have a1:4096<=q+1+j/\q+1+j<4096+(w.fwd v).1.j.W.length:=by omega
 have m:∀x∈(w.fwd v).1.old++(w.fwd v).1.Q,∀i,0<=i->i<=Zk (w.fwd v).1.j.W x->x+i=q+1+j->x=q:=by(intro x l i y0 b c;have l1:=s.s q (Lh _ k) x l;have l2:=s.s x l q (Lh _ k);omega)
 have wd:∀z,z≠q+1+j->Z1 (w.in1 (q+1+j)).j.W z=Z1 (w.fwd v).1.j.W z:=λz hz=>by(grind[Z6.in1,Gb])
 have hh:∀x∈(w.fwd v).1.old++(w.fwd v).1.Q,Z1 (w.in1 (q+1+j)).j.W x=Z1 (w.fwd v).1.j.W x:=λx l=>wd x λc=>by(have:=m x l 0 oq (Bn _ _).1 oq;omega)
 have r:(w.in1 (q+1+j)).Q=(w.fwd v).1.Q:=by grind[Z6.in1]
 have a0:(w.in1 (q+1+j)).old=(w.fwd v).1.old:=by grind[Z6.in1]
 have se:∀y∈(w.fwd v).1.old,CS (w.in1 (q+1+j)) y=CS (w.fwd v).1 y:=λy hy=>by(grind[CS])
 refine⟨wd, ?_,λu x t=>?_,r,λx l=>m x (Lh _ l)⟩;grind[Z6.in1,Rn];rcases t with t|⟨t1,t2,t3⟩;exact .inl t;exact .inr ⟨by grind,by grind,by grind⟩
theorem RT.in1{p}(t:RT h w out p){a:Nat}(ha:p<=a)(hn:a<out.length){j:Int}(y:0<=j/\j<Zk h.W (out.getD a La))(hq:ZQ w.j.W (w.Q.getD a La)=ZQ h.W (out.getD a La))(l:(Z1 w.j.W (w.Q.getD a La+1+j)).1=0\/(Z1 w.j.W (w.Q.getD a La+1+j)).1∈w.old) :RT h (w.in1 (w.Q.getD a La+1+j)) (Cp out (Z1 w.j.W (w.Q.getD a La+1+j)).1) p:=by
 have t1:=RT.fwd o g d t oq l;obtain⟨s,_,tr,eq,b⟩:=o.in1f g d hn y hq l;obtain⟨e,f,_⟩:=o.fwd g d l;have fl:=f.l;have fs:=Nx o.b.o.c.ok o.b.o.c.inv _ e;obtain⟨qm,a0⟩:=fs.1;have ol:=o.l;have u:∀i,i<out.length->(w.fwd (Z1 w.j.W (w.Q.getD a La+1+j)).1).1.Q.getD i La=w.Q.getD i La:=λi q=>by(grind)
 refine⟨λi q k=>?_⟩;obtain⟨u1,u2⟩:=t1.f i q k;rw[eq];have mem:(w.fwd (Z1 w.j.W (w.Q.getD a La+1+j)).1).1.Q.getD i La∈(w.fwd (Z1 w.j.W (w.Q.getD a La+1+j)).1).1.Q:=B7.2 ⟨i,by omega,rfl⟩;have r:∀m,0<=m->m<=Zk (w.fwd (Z1 w.j.W (w.Q.getD a La+1+j)).1).1.j.W ((w.fwd (Z1 w.j.W (w.Q.getD a La+1+j)).1).1.Q.getD i La)->(w.fwd (Z1 w.j.W (w.Q.getD a La+1+j)).1).1.Q.getD i La+m≠w.Q.getD a La+1+j:=by
  intro m m0 m1 c;have z:=b _ mem m m0 m1 c;rw[u i oq]at z;have v:w.Q[i]?=LC (w.Q.getD a La):=by grind
  have x:w.Q[a]?=LC (w.Q.getD a La):=by grind
  have:=(List.getElem?_inj oq o.nd).1 (v.trans x.symm);omega
 have hl:Zk (w.fwd (Z1 w.j.W (w.Q.getD a La+1+j)).1).1.j.W ((w.fwd (Z1 w.j.W (w.Q.getD a La+1+j)).1).1.Q.getD i La)=Zk h.W ((Cp out (Z1 w.j.W (w.Q.getD a La+1+j)).1).getD i La):=congrArg Zv.length u1;have r0:=(Bn (w.fwd (Z1 w.j.W (w.Q.getD a La+1+j)).1).1.j.W ((w.fwd (Z1 w.j.W (w.Q.getD a La+1+j)).1).1.Q.getD i La)).1;refine⟨?_,λm m0 m1=>FT.mono (s _ ?_) tr (u2 m m0 m1)⟩;have:=s _ (λc=>r 0 oq r0 oq);grind[ZQ];have:=r (1+m) oq oq;omega
theorem RT.inn(t:RT h w out n){q x:Int}{l:List Int}(hn:n<out.length)(hq:w.Q.getD n La=q)(hx:out.getD n La=x)(hl:Zw (ZQ h.W x)=l):∀k,k<=l.length->RT h (Be w q l k) (addN out (l.map λj=>(Z1 h.W (x+1+j)).1) k) n/\(∀i,i<k->Tr (Be w q l k) (Z1 h.W (x+1+l.getD i La)).1 (Z1 (Be w q l k).j.W (q+1+l.getD i La)).1)/\∀v y,Tr w v y->Tr (Be w q l k) v y
 |0,_=>⟨t,λi hi=>absurd hi (Ll i),λ_ _ t=>t⟩
 |k+1,hk=>by
  obtain⟨t1,t2,t3⟩:=RT.inn t hn hq hx hl k oq;obtain⟨b,i2,i3,i4,i5,i6,i7⟩:=o.inn g d hn hq hx hl k oq;have hj:l.getD k La∈Zw (ZQ h.W x):=by rw[hl];exact B7.2 ⟨k,by omega,rfl⟩
  have jb:=R5 _ _ hj;have nd:=Z5J (ZQ h.W x);rw[hl]at nd;have u:∀i,i<k->l.getD i La≠l.getD k La:=λi hi c=>by
   simp only[Lg]at c;rw[Lm oq,Lm oq]at c;have:=(List.getElem_inj nd).1 c;omega
  have ev:=i7 (l.getD k La) jb.1 jb.2 u;have xo:x∈(Be w q l k).old:=by
   have:=(b.i n i6).1;rw[i5]at this;exact this
  have ov:=b.old g xo hj;have em:(l.map λj=>(Z1 h.W (x+1+j)).1).getD k La=(Z1 h.W (x+1+l.getD k La)).1:=by
   simp only[Lg,LS,Lm (show k<l.length by omega),L0,LI]
  have e2:addN out (l.map λj=>(Z1 h.W (x+1+j)).1) (k+1)=Cp (addN out (l.map λj=>(Z1 h.W (x+1+j)).1) k) (Z1 h.W (x+1+l.getD k La)).1:=by rw[addN,em]
  have z:(Z1 (Be w q l k).j.W ((Be w q l k).Q.getD n La+1+l.getD k La)).1=0\/(Z1 (Be w q l k).j.W ((Be w q l k).Q.getD n La+1+l.getD k La)).1∈(Be w q l k).old:=by
   rw[i3,ev];exact ov
  have s:0<=l.getD k La/\l.getD k La<Zk h.W ((addN out (l.map λj=>(Z1 h.W (x+1+j)).1) k).getD n La):=by rw[i5];exact jb
  have r:ZQ (Be w q l k).j.W ((Be w q l k).Q.getD n La)=ZQ h.W ((addN out (l.map λj=>(Z1 h.W (x+1+j)).1) k).getD n La):=by rw[i3,i5];exact i4
  have r1:=RT.in1 b g d t1 (a:=n) (Ld n) i6 s r z;obtain⟨wd,wq,tr,eq,a0⟩:=b.in1f g d i6 s r z;have m:=λv y=>b.trOld g d (v:=v) (x:=y) z;have p:=b.trNew g d z;obtain⟨e,f,_⟩:=b.fwd g d z;have fs:=(Nx b.b.o.c.ok b.b.o.c.inv _ e).2.2;rw[i3]at r1 wd wq tr m p fs;rw[ev]at r1 p tr m;rw[e2];refine⟨r1,λi hi=>?_,λv y t=>tr v y (m v y (t3 v y t))⟩;show Tr ((Be w q l k).in1 (q+1+l.getD k La)) _ (Z1 ((Be w q l k).in1 (q+1+l.getD k La)).j.W (q+1+l.getD i La)).1;by_cases c:i=k
  .rw[c,wq,ev];exact tr _ _ p
  .have lb:=R5 _ _ (show l.getD i La∈Zw (ZQ h.W x) by rw[hl];exact B7.2 ⟨i,by omega,rfl⟩);have qm:q∈(Be w q l k).Q:=by have e0:=b.l;exact B7.2 ⟨n,by omega,i3⟩
   have a1:Zk (Be w q l k).j.W q=Zk h.W x:=congrArg Zv.length i4;have a2:l.getD i La<Zk h.W x:=lb.2;rw[wd _ (by have:=u i oq;omega),show q+1+l.getD i La=q+(1+l.getD i La) by omega,fs q (Lh _ qm) (.inl qm) (1+l.getD i La) oq oq,<-LA];exact tr _ _ (m _ _ (t2 i oq))
theorem RT.step(t:RT h w out n)(a:n<out.length)(hs:w.D=n):RT h (ZV w).1 (addN out (HJ h (out.getD n La)) (HJ h (out.getD n La)).length) (n+1)/\∀v y,Tr w v y->Tr (ZV w).1 v y:=by
 have x:=(o.i n a).1;obtain⟨tq,k⟩:=o.b.o.c.k;obtain⟨i0,f,e⟩:=(k.old _).1 x;have p:=g.refs f e;have r:ZQ w.j.W (w.Q.getD n La)=ZQ h.W (out.getD n La):=by(have:=o.uq n (Ld _) a 0 oq (Bn _ _).1;simp only[Lu]at this;grind[ZQ])
 have l:C0 w=w.Q.getD n La:=by grind[C0]
 have u:Bf w=Zw (ZQ h.W (out.getD n La)):=by unfold Bf Zx;rw[l];exact congrArg Zw r
 obtain⟨i1,i2,z,i4,i5,i6,i7⟩:=o.inn g d a rfl rfl rfl (Zw (ZQ h.W (out.getD n La))).length (Ld _);obtain⟨t1,t2,t3⟩:=RT.inn o g d t a rfl rfl rfl (Zw (ZQ h.W (out.getD n La))).length (Ld _);have s:w.D<w.Q.length:=by rw[hs,o.l];omega
 have hb:(Le (Bf w).length).find? (λk=>Lz (CI w (C0 w) (Bf w) k≠0))=Lk:=Lx.2 λj hj=>by(grind)
 have q:ZV w=(Ha (Be w (C0 w) (Bf w) (Bf w).length) (Bf w).length,Lb,0):=by grind[ZV]
 rw[q,l,u,p,LB];refine⟨⟨λi hi b=>?_⟩,λv y t=>t3 v y t⟩;by_cases c:i=n;subst c;show ZQ (Be w _ _ _).j.W ((Be w _ _ _).Q.getD i La)=_/\_;rw[i5];refine⟨by grind,λm m0 m1=>?_⟩;show FT h (Be w _ _ _) _ ((Be w _ _ _).Q.getD i La) m;rw[z];unfold FT;grind[Bg,B7,Z8t,OI];exact t1.f i oq b
end
section
variable{h:Heap}{T:Nat->List Int}(g:Gd h T)(a:MV h){s:List Int}(hs:∀r∈s,r=0\/Ob h T r)(b:Zz h.W)
include g a hs b
theorem RT.roots:∀k,k<=s.length->RT h (rootsN (Zp h) s k).1 (addN [] s k) 0/\∀i,i<k->Tr (rootsN (Zp h) s k).1 (s.getD i La) ((rootsN (Zp h) s k).2.getD i La)
 |0,_=>⟨⟨λi d=>absurd d (Ll i)⟩,λi d=>absurd d (Ll i)⟩
 |k+1,hk=>by
  obtain⟨t1,t2⟩:=RT.roots k oq;obtain⟨e,i2⟩:=RO.roots g a hs b k oq;obtain⟨tq,j⟩:=e.b.o.c.k;have f:=(hs _ (B7.2 ⟨k,by omega,rfl⟩)).imp id λq=>(j.old _).2 q;have l:=IL (Zp h) s k;refine⟨⟨λi d=>absurd d (Ll i)⟩,λi d=>?_⟩;show Tr ((rootsN (Zp h) s k).1.fwd _).1 _ (((rootsN (Zp h) s k).2++[_]).getD i La);rw[Mh,l];by_cases c:i<k
  .rw[if_pos c];exact e.trOld g a f (t2 i c)
  .have c:i=k:=by omega
   rw[if_neg oq,if_pos c,c];exact e.trNew g a f
theorem RT.it:∀k,(∀j,j<k->j<(Cz h s j).length)->RT h (BY (rootsF (Zp h) s).1 k) (Cz h s k) k/\∀i,i<s.length->Tr (BY (rootsF (Zp h) s).1 k) (s.getD i La) ((rootsF (Zp h) s).2.1.getD i La)
 |0,_=>by
  obtain⟨t1,t2⟩:=RT.roots g a hs b s.length (Ld _);obtain⟨e,_⟩:=SW.roots g a hs b;rw[e];exact⟨t1,t2⟩
 |k+1,hk=>by
  obtain⟨t1,t2⟩:=RT.it k (λj d=>hk j oq);obtain⟨f,l⟩:=RO.it g a hs b k (λj d=>hk j oq);obtain⟨m,n⟩:=RT.step f g a t1 (hk k oq) l;exact⟨m,λi c=>n _ _ (t2 i c)⟩
theorem Zbl:∃k,AZ h s k/\RO h T (ZB h s) (Cz h s k) k/\(Cz h s k).length=k/\RT h (ZB h s) (Cz h s k) k/\∀i,i<s.length->Tr (ZB h s) (s.getD i La) ((rootsF (Zp h) s).2.1.getD i La):=by obtain⟨k,E,ro,sc,ln,e7⟩:=Z1p g a hs b;obtain⟨t1,t2⟩:=RT.it g a hs b k (λj c=>(E.o j c).1);grind
end
def ZgE out(r:Int):(r=0\/r∈Cp out r)/\∀x∈out,x∈Cp out r:=by unfold Cp;split;rename_i c;exact⟨c,λ_ h=>h⟩;exact⟨.inr pq,λx h=>by simp[h]⟩
def PD(out refs:List Int):∀n,(∀x∈out,x∈addN out refs n)/\∀j,j<n->refs.getD j La=0\/refs.getD j La∈addN out refs n
 |0=>⟨λ_ h=>h,λj h=>by omega⟩
 |n+1=>by
  obtain⟨b,c⟩:=PD out refs n;obtain⟨d,a⟩:=ZgE (addN out refs n) (refs.getD n La);refine⟨λx e=>a x (b x e),λj hj=>?_⟩;by_cases q:j=n
  .rw[q];exact d
  .exact(c j oq).imp id λh=>a _ h
def MK(h:Heap) roots i:∀d,(∀x∈ZG h roots i,x∈ZG h roots (i+d))/\∀j,j<(ZG h roots i).length->j<(ZG h roots (i+d)).length/\(ZG h roots (i+d)).getD j La=(ZG h roots i).getD j La
 |0=>⟨λ_ h=>h,λ_ h=>⟨h,rfl⟩⟩
 |d+1=>by
  obtain⟨a,b⟩:=MK h roots i d;refine⟨λx l=>(PD _ _ _).1 x (a x l),λj k=>?_⟩;obtain⟨c,e⟩:=b j k;obtain⟨f,g⟩:=Z61 (ZG h roots (i+d)) (CB h ((ZG h roots (i+d)).getD (i+d) La)) c (CB h ((ZG h roots (i+d)).getD (i+d) La)).length;exact⟨f,g.trans e⟩
structure Z0U (h:Heap) (roots l:List Int):Prop where
 p:Z8 h=Lb
 nd:l.Nodup
 el:∀x∈l,x∈(Zh h).1
 n0:(0:Int)∉l
 rt:∀r∈roots,r=0\/r∈l
 cl:∀a∈l,∀v∈CB h a,v=0\/v∈l
 len:l.length<=16384
def Z4a{h roots k}(I:GM h roots k)(c:Z8 h=Lb)(e:(ZG h roots k).length<=k):Z0U h roots (ZG h roots k):=by
 refine⟨c,(I.el k (Ld k)).1,(I.el k (Ld k)).2,λq=>?_,λr g=>?_,λa f v l=>?_,I.len (Ld k)⟩;exact Z2y h (Z2W c ((I.el k (Ld k)).2 _ q)).2.1;obtain⟨j,b,rfl⟩:=B7.1 g;exact((PD [] roots roots.length).2 j b).imp id λq=>by(have:=(MK h roots 0 k).1 _ q;rwa [LZ]at this)
 obtain⟨i,hi,rfl⟩:=B7.1 f;obtain⟨j,b,rfl⟩:=B7.1 l;obtain⟨n,_⟩:=I.lo i oq;have d:=MK h roots i (k-i);rw[show i+(k-i)=k from by omega]at d;rw[(d.2 i n).2]at b⊢;have m:=(PD (ZG h roots i) (CB h ((ZG h roots i).getD i La)) (CB h ((ZG h roots i).getD i La)).length).2 j b;refine m.imp id λq=>?_;have p2:=MK h roots (i+1) (k-(i+1));rw[show i+1+(k-(i+1))=k from by omega]at p2;exact p2.1 _ q
def Z3F(h:Zv):∀n:Nat,∀x∈BQ h n,Bg h x=Lb
 |0,x,hx=>by cases hx
 |n+1,x,hx=>by
  unfold BQ at hx;split at hx
  .rename_i c;rcases Lr.1 hx with q|q
   .exact Z3F h n x q
   .rw[Ls.1 q];exact c
  .exact Z3F h n x hx
section
variable{h:Heap}{T:Nat->List Int}(g:Gd h T)
include g
theorem Gd.refsOb{a:Int}(m:a∈(Zh h).1):∀v∈CB h a,v=0\/v∈(Zh h).1:=by
 intro v c;obtain⟨i,d,n⟩:=(g.objs.2 a).1 m;unfold CB at c;rw[g.at' d]at c;obtain⟨p,b,rfl⟩:=LG.1 c;simp only at b;have pq:0<=p/\p<Zk h.W a/\Bg (ZQ h.W a) p=Lb:=by(unfold Zw at b;split at b;have r:=AM _ _ _ b;have l:(ZQ h.W a).length=Zk h.W a:=rfl;exact⟨r.1,by omega,Z3F _ _ _ b⟩;simp at b)
 rcases g.q i a p d n pq.1 pq.2.1 pq.2.2 with e|⟨j,f,k⟩;exact .inl e;exact .inr ((g.objs.2 _).2 ⟨j,f,k⟩)
end
def ZgN(l:List Int)(v:Int):Int:=if v∈l then(l.idxOf v:Int)+1 else 0
def Z3s(l fs a:List Int):Nat->List Int|0=>fs|j+1=>(Z3s l fs a j).set (a.getD j La).toNat (ZgN l (fs.getD (a.getD j La).toNat La))
def Zel l fs a:∀j,(Z3s l fs a j).length=fs.length|0=>rfl|j+1=>by rw[Z3s,List.length_set,Zel l fs a j]
structure Z0Z where
 hd:Zv
 fs:List Int
instance:Inhabited Z0Z:=⟨⟨default,[]⟩⟩
def Z0Z.cells(n:Z0Z):List AV:=[nI n.hd.K,nI n.hd.length,u32 n.hd.map,Z2 n.fs]
def Zal(hd:Zv):∀n:Nat,(BQ hd n).Nodup
 |0=>LH
 |n+1=>by
  have c:=Zal hd n;unfold BQ;split
  .rw[LV];refine⟨c,by simp,λa d b e=>?_⟩;have:=(AM hd n a d).2;rw[Ls]at e;omega
  .exact c
def Nt(h:Heap)(a:Int):List Int:=(BN h.W (a+1) (Z9 h a).1.length).1
def Z6q{h:Heap}{a:Int}(b:Z8 h=Lb)(e:a∈(Zh h).1):4096<=a/\a<=8192/\0<=(Z9 h a).1.length/\(Z9 h a).1.length<=255/\a+(Z9 h a).1.length<4096+h.W.length/\(Z9 h a).2=0/\((Nt h a).length:Int)=(Z9 h a).1.length/\Nt h a=(h.W.drop (a+1-4096).toNat).take (Z9 h a).1.length.toNat /\ (Zw (Z9 h a).1).Nodup/\(∀p∈Zw (Z9 h a).1,0<=p/\p<(Z9 h a).1.length/\(Nt h a).getD p.toNat La∈CB h a):=by
 have l:=RU h a e;obtain⟨k,d,g3⟩:=Z2W b e;have f:=MZ d;have v:=N6 k;have i:Zt h a=Z9 h a:=v.1;rw[i]at v;have c:Nt h a=(h.W.drop (a+1-4096).toNat).take (Z9 h a).1.length.toNat:=by rw[Nt,BN,if_neg oq,if_pos oq]
 have j:((Nt h a).length:Int)=(Z9 h a).1.length:=by rw[c,Lp,L8];omega
 refine⟨f.1,l.2,by omega,by omega,f.2,d,j,c, ?_,λp b=>?_⟩;unfold Zw;split;exact Zal _ _;exact LH;have g:0<=p/\p<(Z9 h a).1.length:=by(have:=b;unfold Zw at this;split at this;have:=AM _ _ _ this;omega;simp at this)
 refine⟨g.1,g.2,LG.2 ⟨p,b, ?_⟩⟩;rw[c,Z1,if_pos oq];simp only[Lg,LF,LO];rw[if_pos oq,show(a+1-4096).toNat+p.toNat=(a+1+p-4096).toNat by omega];rfl
def Z6c{h roots k}(I:GM h roots k)(e:(ZG h roots k).length<=k):∀f i,i<=k->k<i+f->R2 h roots f i=k
 |0,i,h1,h2=>by omega
 |f+1,i,h1,h2=>by
  unfold R2;by_cases q:i=k
  .rw[q,if_pos (.inl e)]
  .obtain⟨l1,a⟩:=I.lo i oq;rw[if_neg (by rw[a];intro c;rcases c with c|c;omega;cases c)];exact Z6c I e f (i+1) oq oq
def GM.le{h roots k}(I:GM h roots k):k<=(ZG h roots k).length:=by
 cases k with|zero=>omega|succ k =>obtain⟨a,_⟩:=I.lo k oq;have:=(MK h roots k 1).2 k a;omega
def Z5y{h:Heap}{roots:List Int}{k}(c:Z8 h=Lb)(b:(Zh h).2=0)(a:Iu h roots=Lc)(I:GM h roots k)(e:(ZG h roots k).length<=k):Cx h roots=(ZG h roots k,0):=by have l1:=I.len (Ld k);have l2:=I.le;have z:N3 h roots=k:=Z6c I e _ _ (Lo k) oq;unfold Cx;rw[if_pos c,if_pos b,z,if_neg];rintro(q|q);rw[a]at q;cases q;omega
section
variable{h:Heap}{T:Nat->List Int}(g:Gd h T)
include g
theorem Gd.noBad{l:List Int}(hl:∀r∈l,r=0\/r∈(Zh h).1):((Le l.length).find? (CZ l (Zh h).1)).isSome=Lc:=by
 cases e:(Le l.length).find? (CZ l (Zh h).1)with|none=>rfl|some j =>obtain⟨a,b,_⟩:=LN.1 e;have q:=of_decide_eq_true a;rcases hl _ (B7.2 ⟨j,Lj.1 b,rfl⟩)with c|c;exact absurd c q.1;exact absurd c q.2
theorem Gd.ordI{s:List Int}(hs:∀r∈s,r=0\/r∈(Zh h).1):∀k,(∀j,j<k->j<(ZG h s j).length)->GM h s k
 |0,_=>GM.zero (g.noBad hs)
 |k+1,a=>by
  have I:=Gd.ordI hs k (λj hj=>a j oq);exact I.succ (a k oq) (g.noBad (g.refsOb ((I.el k (Ld k)).2 _ (B7.2 ⟨k,a k oq,rfl⟩))))
end
def Tq(l m:List Int)(v x:Int):Prop:=(v=0/\x=0)\/∃i,i<l.length/\i<m.length/\v=l.getD i La/\x=m.getD i La
def Zac{l:List Int}(h:l.Nodup){i j:Nat}(hi:i<l.length)(a:j<l.length)(e:l.getD i La=l.getD j La):i=j:=by rw[Lg,Lg,Lm hi,Lm a]at e;exact(List.getElem_inj h).1 e
def OF{l:List Int}(hl:l.Nodup){i n:Nat}(hi:i<l.length):l.getD i La∈l.take n↔i<n:=by
 constructor;intro q;obtain⟨j,a,e⟩:=B7.1 q;rw[Lp]at a;have:(l.take n).getD j La=l.getD j La:=by(simp only[Lg,LF];rw[if_pos oq])
 rw[this]at e;have:=Zac hl oq hi e;omega;intro q;refine B7.2 ⟨i,by rw[Lp];omega, ?_⟩;simp only[Lg,LF];rw[if_pos q]
section
variable{l m:List Int}(hl:l.Nodup)(hm:m.Nodup)(le:l.length=m.length)(l0:(0:Int)∉l)(m0:(0:Int)∉m)
include hl hm le l0 m0
theorem Zea{n:Nat}(hn:n<=l.length){v x:Int}(t:Tq l m v x)(p:Cp (l.take n) v <+: l):∃n',n'<=l.length/\Cp (l.take n) v=l.take n'/\Cp (m.take n) x=m.take n':=by
 rcases t with⟨rfl,rfl⟩|⟨i,h1,h2,rfl,rfl⟩
 .exact⟨n,hn,by rw[Cp,if_pos (.inl rfl)],by rw[Cp,if_pos (.inl rfl)]⟩
 .have v0:l.getD i La≠0:=λq=>l0 (q▸B7.2 ⟨i,h1,rfl⟩);have x0:m.getD i La≠0:=λq=>m0 (q▸B7.2 ⟨i,h2,rfl⟩);by_cases c:i<n
  .exact⟨n,hn,by rw[Cp,if_pos (.inr ((OF hl h1).2 c))],by rw[Cp,if_pos (.inr ((OF hm h2).2 c))]⟩
  .have e1:Cp (l.take n) (l.getD i La)=l.take n++[l.getD i La]:=by rw[Cp,if_neg (λq=>q.elim v0 λq=>c ((OF hl h1).1 q))]
   have e2:Cp (m.take n) (m.getD i La)=m.take n++[m.getD i La]:=by rw[Cp,if_neg (λq=>q.elim x0 λq=>c ((OF hm h2).1 q))]
   rw[e1]at p⊢;rw[e2];have tl:(l.take n).length=n:=by rw[Lp];omega
   have pl:=p.length_le;rw[Lv,tl,Ly]at pl;obtain⟨r,hr⟩:=p;have at':l.getD n La=l.getD i La:=by
    have:l[n]?=LC (l.getD i La):=by
     conv=>lhs;rw[<-hr]
     rw[L3,L6 oq,tl,Xc];rfl
    rw[Lg,this];rfl
   have en:=Zac hl oq h1 at';subst en;exact⟨n+1,by omega,by rw[<-Sn h1],by rw[<-Sn h2]⟩
theorem Z2z{A A' rf rf':List Int}(f:rf.length=rf'.length)(b:∀i,i<rf.length->Tq l m (rf.getD i La) (rf'.getD i La))(a:∃n,n<=l.length/\A=l.take n/\A'=m.take n):∀k,k<=rf.length->addN A rf k <+: l->∃n,n<=l.length/\addN A rf k=l.take n/\addN A' rf' k=m.take n
 |0,_,_=>a
 |k+1,hk,p=>by
  have g:addN A rf k <+: addN A rf (k+1):=by
   rw[addN,Cp];split
   .exact List.prefix_refl _
   .exact List.prefix_append _ _
  obtain⟨n,c,d,e⟩:=Z2z f b a k oq (g.trans p);rw[addN,addN,e];rw[addN]at p;rw[d]at p⊢;exact Zea hl hm le l0 m0 c (b k oq) p
end
def Z11(A rf:List Int):∀n,A <+: addN A rf n
 |0=>List.prefix_refl _
 |n+1=>by
  refine(Z11 A rf n).trans ?_;rw[addN,Cp];split
  .exact List.prefix_refl _
  .exact List.prefix_append _ _
def Z1O(h:Heap) s(i:Nat):∀d,ZG h s i <+: ZG h s (i+d)|0=>List.prefix_refl _|d+1=>(Z1O h s i d).trans (Z11 _ _ _)
def getD_lt{l:List Int}{i:Nat}(h:i<l.length):l.getD i La=l[i]:=by rw[Lg,Lm h];rfl
def getD_take{l:List Int}{i n:Nat}(h:i<n):(l.take n).getD i La=l.getD i La:=by simp only[Lg,LF];rw[if_pos h]
def Z9r(f:Int->Int){l:List Int}{j:Nat}(h:j<l.length):(l.map f).getD j La=f (l.getD j La):=by simp only[Lg,LS,Lm h,L0,LI]
def Z7i{h:Heap}(d:Z8 h=Lb){a:Int}(c:a∈(Zh h).1){j:Nat}(hj:(j:Int)<(Z9 h a).1.length):(Nt h a).getD j La=(Z1 h.W (a+1+j)).1:=by obtain⟨f1,_,_,_,f5,_,_,b,_,_⟩:=Z6q d c;rw[b];rw[Z1,if_pos oq,getD_take oq];simp only[Lg,LO];rw[show(a+1-4096).toNat+j=(a+1+(j:Int)-4096).toNat by omega];rfl
structure ZeE (h h':Heap) (s s' l m:List Int):Prop where
 o:Cx h s=(l,0)
 o':Cx h' s'=(m,0)
 L:Z0U h s l
 L':Z0U h' s' m
 len:l.length=m.length
 sl:s'.length=s.length
 st:∀i,i<s.length->Tq l m (s.getD i La) (s'.getD i La)
 hd:∀i,i<l.length->(Z9 h' (m.getD i La)).1=(Z9 h (l.getD i La)).1
 fd:∀i,i<l.length->∀j:Nat,(j:Int)<(Z9 h (l.getD i La)).1.length->if Bg (Z9 h (l.getD i La)).1 j=Lb then Tq l m ((Nt h (l.getD i La)).getD j La) ((Nt h' (m.getD i La)).getD j La)else(Nt h' (m.getD i La)).getD j La=(Nt h (l.getD i La)).getD j La
def Zf3{h T}(g:Gd h T){s}(hs:Gx h T s){k}(E:AZ h s k):∀i,i<=k->Cz h s i=ZG h s i/\GM h s i:=by
 have a:∀r∈s,r=0\/r∈(Zh h).1:=λr c=>(hs r c).imp id (g.objs.2 r).2;intro i;induction i with|zero=>intro _;exact⟨rfl,GM.zero (g.noBad a)⟩|succ i d =>intro hi;obtain⟨b,I⟩:=d oq;have lo:=(E.o i oq).1;rw[b]at lo;have mem:=(I.el i (Ld i)).2 _ (B7.2 ⟨i,lo,rfl⟩);refine⟨?_,I.succ lo (g.noBad (g.refsOb mem))⟩;show addN (Cz h s i) (HJ h ((Cz h s i).getD i La)) (HJ h ((Cz h s i).getD i La)).length=_;rw[b,Z9H g.p mem];rfl
def ZdQ{B:Int}(hB:0<=B){h T}(g:Gd h T)(mv:MV h){s k0}(hw:Zz h.W)(hb:∀p∈h.P,p.N<=B)(hs:Gx h T s)(hk:Gx h T k0)(e:(collectF h s k0).2.2.2.2=0) :ZeE h (collectF h s k0).1 s (collectF h s k0).2.1 (Cx h s).1 (ZB h s).Q:=by
 obtain⟨er,sw⟩:=SW.roots g mv hs hw;have e1:(rootsF (Zp h) s).2.2=0:=by rw[er]
 have e2:=(sw.all g mv).1;have l:=(PG hB hw hb e).p1;obtain⟨tq,ce,eh⟩:=M1 hB g hw hb e1 e2 (k:=k0);have e7:collectF h s k0=(Eg (Bq h s k0),(rootsF (Zp h) s).2.1,Em (ZB h s) k0 k0.length,(Bq h s k0).rep,0):=by rw[collectF,if_pos g.p,if_pos ⟨g.refers hs,g.refers hk⟩,if_pos e1,if_pos e2]
 rw[e7]at l⊢;simp only at l⊢;rw[eh]at l⊢;have gd:=ce.good l;generalize hH:(⟨(ZB h s).j.C,(GK (Cs h s k0)).j.W,(ZB h s).j.P.map (BM (ZB h s).j.S),1-(ZB h s).j.S,(Eg (Bq h s k0)).B⟩:Heap)=H' at *;have a3:H'.W=(GK (Cs h s k0)).j.W:=by rw[<-hH]
 obtain⟨k,E,ro,ln,rt,a0⟩:=Zbl g mv hs hw;have sl:(rootsF (Zp h) s).2.1.length=s.length:=by rw[er];exact IL _ _ _
 generalize (rootsF (Zp h) s).2.1=s' at *;have a7:∀r∈s,r=0\/r∈(Zh h).1:=λr hr=>(hs r hr).imp id (g.objs.2 r).2;have a9:=Zf3 g hs E;obtain⟨kN,I⟩:=a9 k (Ld k);rw[kN]at ro ln rt;have ol:Cx h s=(ZG h s k,0):=Z5y g.p g.objs.1 (g.noBad a7) I oq;have O:=Z4a I g.p oq;rw[ol];simp only;have qn:=ro.nd;have ql:=ro.l;have q0:(0:Int)∉(ZB h s).Q:=λc=>by(have:=ce.i.r 0 (Lh _ c);omega)
 have m:∀v x,Tr (ZB h s) v x->Tq (ZG h s k) (ZB h s).Q v x:=by(intro v x t;rcases t with t|⟨t1,t2,t3⟩;exact .inl t;obtain⟨i,a,rfl⟩:=B7.1 (ro.s v t1 t2);exact .inr ⟨i,a,by omega,rfl,t3.trans (ro.i i a).2⟩)
 have ob:∀i,i<k->(ZG h s k).getD i La∈(Zh h).1/\(ZB h s).Q.getD i La∈(Zh H').1/\(Z9 H' ((ZB h s).Q.getD i La)).1=(Z9 h ((ZG h s k).getD i La)).1 /\
   ∀j:Int,0<=j->j<(Z9 h ((ZG h s k).getD i La)).1.length->if Bg (Z9 h ((ZG h s k).getD i La)).1 j=Lb then Tq (ZG h s k) (ZB h s).Q (Z1 h.W ((ZG h s k).getD i La+1+j)).1 (Z1 H'.W ((ZB h s).Q.getD i La+1+j)).1 else(Z1 H'.W ((ZB h s).Q.getD i La+1+j)).1=(Z1 h.W ((ZG h s k).getD i La+1+j)).1:=by
  intro i a;have mo:=O.el _ (B7.2 ⟨i,by omega,(rfl:(ZG h s k).getD i La=_)⟩);obtain⟨i0,a8,b0⟩:=(g.objs.2 _).1 mo;have mq:(ZB h s).Q.getD i La∈(ZB h s).Q:=B7.2 ⟨i,by omega,rfl⟩;obtain⟨t1,t2⟩:=rt.f i a oq;obtain⟨j0,y⟩:=ce.where' mq;have u:∀z,(ZB h s).Q.getD i La<=z->z<=(ZB h s).Q.getD i La+Zk (ZB h s).j.W ((ZB h s).Q.getD i La)->Z1 H'.W z=Z1 (ZB h s).j.W z:=λz z1 z2=>by rw[a3];exact ce.seen mq z1 z2
  have hl:Zk (ZB h s).j.W ((ZB h s).Q.getD i La)=Zk h.W ((ZG h s k).getD i La):=congrArg Zv.length t1;have r0:=Bn h.W ((ZG h s k).getD i La);have a6:ZQ H'.W ((ZB h s).Q.getD i La)=ZQ h.W ((ZG h s k).getD i La):=by rw[ZQ,u _ (LQ _) oq];exact t1
  have a1:=gd.at' y;have a2:=g.at' a8;refine⟨mo,(gd.objs.2 _).2 ⟨j0,y, ?_⟩,by rw[a1,a2];exact a6,λj j0 j1=>?_⟩
  .rw[a3];exact(ce.start y).2.2 mq
  .rw[a2]at j1⊢;have j1:j<Zk h.W ((ZG h s k).getD i La):=j1;have f:=t2 j j0 j1;rw[u _ oq oq];unfold FT at f;by_cases c:Bg (ZQ h.W ((ZG h s k).getD i La)) j=Lb
   .rw[if_pos c]at f⊢;exact m _ _ f
   .rw[if_neg c]at f⊢;exact f
 have rf:∀i,i<k->(CB h ((ZG h s k).getD i La)).length=(CB H' ((ZB h s).Q.getD i La)).length/\∀j,j<(CB h ((ZG h s k).getD i La)).length->Tq (ZG h s k) (ZB h s).Q ((CB h ((ZG h s k).getD i La)).getD j La) ((CB H' ((ZB h s).Q.getD i La)).getD j La):=by(intro i a;obtain⟨o1,o2,o3,o4⟩:=ob i a;unfold CB;rw[o3];refine⟨by rw[LB,LB],λj b=>?_⟩;rw[LB]at b;rw[Z9r _ b,Z9r _ b];have pm:=B7.2 ⟨j,b,(rfl:(Zw (Z9 h ((ZG h s k).getD i La)).1).getD j La=_)⟩;obtain⟨_,_,_,_,_,_,_,_,_,a5⟩:=Z6q g.p o1;have pr:=a5 _ pm;have:=o4 _ pr.1 pr.2.1;rw[if_pos (OI _ _ pm)]at this;exact this)
 have w:∀j,j<=k->∃n,n<=(ZG h s k).length/\ZG h s j=(ZG h s k).take n/\ZG H' s' j=(ZB h s).Q.take n:=by
  intro j;induction j with
  |zero =>intro _;have p:=Z1O h s 0 k;rw[LZ]at p;have:=Z2z O.nd qn ql.symm O.n0 q0 (A:=[]) (A':=[]) (rf:=s) (rf':=s') sl.symm (λi a=>m _ _ (a0 i a)) ⟨0,Lo _,by simp,by simp⟩ s.length (Ld _) p;obtain⟨n,n1,d,q⟩:=this;exact⟨n,n1,d,by rw[<-q,<-sl];rfl⟩
  |succ j ih =>
   intro b;obtain⟨n,n1,d,q⟩:=ih oq;obtain⟨lo,_⟩:=I.lo j oq;rw[d,Lp]at lo;obtain⟨r1,r2⟩:=rf j oq;have p:=Z1O h s (j+1) (k-(j+1));rw[show j+1+(k-(j+1))=k by omega]at p;have e3:(ZG h s j).getD j La=(ZG h s k).getD j La:=by rw[d,getD_take oq]
   have e4:(ZG H' s' j).getD j La=(ZB h s).Q.getD j La:=by rw[q,getD_take oq]
   have e5:ZG h s (j+1)=addN (ZG h s j) (CB h ((ZG h s k).getD j La)) (CB h ((ZG h s k).getD j La)).length:=by rw[<-e3];rfl
   have e6:ZG H' s' (j+1)=addN (ZG H' s' j) (CB H' ((ZB h s).Q.getD j La)) (CB H' ((ZB h s).Q.getD j La)).length:=by rw[<-e4];rfl
   rw[e5]at p⊢;rw[e6,<-r1];exact Z2z O.nd qn ql.symm O.n0 q0 r1 r2 ⟨n,n1,d,q⟩ _ (Ld _) p
 obtain⟨n,n1,d,q⟩:=w k (Ld k);have nk:n=k:=by have:=congrArg List.length d;rw[Lp]at this;omega
 have eq:ZG H' s' k=(ZB h s).Q:=by rw[q,nk,Xb oq]
 have o:∀r∈s',r=0\/r∈(Zh H').1:=by(intro r hr;obtain⟨i,a,rfl⟩:=B7.1 hr;rcases m _ _ (a0 i oq)with⟨_,c⟩|⟨j,j1,j2,_,c⟩;exact .inl c;rw[c];exact .inr (ob j oq).2.1)
 have I':=gd.ordI o k (λj b=>by
  obtain⟨n,n1,d,q⟩:=w j oq;obtain⟨lo,_⟩:=I.lo j oq;rw[d,Lp]at lo;rw[q,Lp];omega)
 have a4:Cx H' s'=(ZG H' s' k,0):=Z5y gd.p gd.objs.1 (gd.noBad o) I' (by rw[eq];omega);have O':=Z4a I' gd.p (by rw[eq];omega);rw[eq]at a4 O';refine⟨ol,a4,O,O',ql.symm,sl,λi a=>m _ _ (a0 i a),λi a=>(ob i oq).2.2.1,λi a j b=>?_⟩;obtain⟨o1,o2,o3,o4⟩:=ob i oq;rw[Z7i g.p o1 b,Z7i gd.p o2 (by rw[o3];exact b)];exact o4 j oq b
def ON{f:Int->Nat}:∀{L M:List Int},L.Nodup->(∀x∈L,x∈M)->(L.map f).sum<=(M.map f).sum
 |[],_,_,_=>by simp
 |a::L,M,nd,hm=>by
  obtain⟨c,d⟩:=Xa.1 nd;have p:=(List.perm_cons_erase (hm a pq)).map f;have ih:=ON (f:=f) (L:=L) (M:=M.erase a) d λx b=>(List.mem_erase_of_ne (show x≠a fromλq=>c (by rw[<-q];exact b))).2 (hm x (Ln _ b));have:=p.sum_nat
  simp only[Lq,Lt]at this⊢;omega
def Z89{f:Int->Nat}{hi:Int}:∀{M:List Int} {lo:Int},M.Pairwise (· < ·)->(∀x∈M,lo<=x/\x+f x<=hi)->(∀x∈M,∀y∈M,x<y->x+f x<=y)->lo<=hi->((M.map f).sum:Int)<=hi-lo
 |[],lo,_,_,_,h=>by simp;omega
 |x::M,lo,p,r,s,h=>by
  obtain⟨c,p2⟩:=List.pairwise_cons.1 p;have d:=r x pq;have ih:=Z89 (f:=f) (hi:=hi) (M:=M) (lo:=x+f x) p2 (λy a=>⟨s x pq y (Ln _ a) (c y a),(r y (Ln _ a)).2⟩) (λy a z b=>s y (Ln _ a) z (Ln _ b)) d.2;simp only[Lq,Lt];omega
def stA(h:Heap)(a:Int):Nat:=1+(Zw (ZQ h.W a)).length
def ZlF(hd:Zv):(Zw hd).length<=hd.length.toNat:=by
 have a:∀n:Nat,(BQ hd n).length<=n:=λn=>by
  induction n with|zero=>simp[BQ]|succ n ih =>unfold BQ;split;simp;omega;omega
 unfold Zw;split;exact a _;simp
section
variable{h:Heap}{T:Nat->List Int}(g:Gd h T)(d:MV h){s:List Int}(t:Gx h T s)(b:Zz h.W)
include g d t b
theorem Zae:∀k,(∀j,j<k->j<(Cz h s j).length)->(BY (rootsF (Zp h) s).1 k).rep.steps=(((Cz h s k).take k).map (stA h)).sum
 |0,_=>by
  obtain⟨e,_⟩:=SW.roots g d t b;obtain⟨q,_,_⟩:=SW.rootsN g d t b s.length (Ld _);have f:∀n,n<=s.length->(rootsN (Zp h) s n).1.rep.steps=0:=by
   intro n;induction n with
   |zero=>intro _;rfl
   |succ n c =>
    intro a;exact(DD (RF (Nw b g.p) n λj i=>q j oq).1 _ (q n oq)).2.2.2.2.2.trans (c oq)
  show(rootsF (Zp h) s).1.rep.steps=_;rw[e];simpa using f s.length (Ld _)
 |k+1,hk=>by
  have c:=Zae k λj i=>hk j oq;obtain⟨o,l⟩:=RO.it g d t b k λj i=>hk j oq;have a:=hk k oq;obtain⟨_,m,_⟩:=o.step g d a l;obtain⟨m1,m2,m3⟩:=Z2k m;have hx:=(o.i k a).1;obtain⟨tq,ki⟩:=o.b.o.c.k;have v:ZQ (BY (rootsF (Zp h) s).1 k).j.W ((BY (rootsF (Zp h) s).1 k).Q.getD k La)=ZQ h.W ((Cz h s k).getD k La):=by
   have:=o.uq k (Ld _) a 0 oq (Bn _ _).1;simp only[Lu]at this;rw[ZQ,ZQ,this]
  have w:Bf (BY (rootsF (Zp h) s).1 k)=Zw (ZQ h.W ((Cz h s k).getD k La)):=by unfold Bf Zx C0;rw[l,LM];exact congrArg Zw v
  have x:=(IW o.b.o.c.ok (C0 (BY (rootsF (Zp h) s).1 k)) (Bf (BY (rootsF (Zp h) s).1 k)) _ m2).2.2.2;have u:(Cz h s (k+1)).take (k+1)=(Cz h s k).take k++[(Cz h s k).getD k La]:=by
   have p:Cz h s k <+: Cz h s (k+1):=Z11 _ _ _;obtain⟨r,p⟩:=p;rw[<-p,List.take_append_of_le_length oq,Sn a]
  show((ZV (BY (rootsF (Zp h) s).1 k)).1).rep.steps=_;rw[m3,u];simp only[Ha,List.map_append,Lq,List.map_nil,List.sum_append,Lt,List.sum_nil];rw[x,c,w];unfold stA;omega
theorem Z4R:(ZB h s).rep.steps=((Cz h s (Rc h s)).map (stA h)).sum/\(ZB h s).rep.copied+(ZB h s).rep.kept=(Cz h s (Rc h s)).length/\(Cz h s (Rc h s)).Nodup/\(∀a∈Cz h s (Rc h s),Ob h T a)/\(Cz h s (Rc h s)).length=(ZB h s).Q.length:=by obtain⟨k,E,e,sc,ln,p⟩:=Z1p g d t b;rw[Zin E];have st:=Zae g d t b k λj m=>(E.o j m).1;rw[<-p,Xb oq]at st;have l:=e.l;obtain⟨tq,u⟩:=e.b.o.c.k;refine⟨st,by rw[e.b.o.n,l], ?_,λa q=>?_,l.symm⟩;refine List.pairwise_iff_getElem.2 λi j f m r c=>?_;have o:=(e.i i f).2;have n:=(e.i j m).2;rw[getD_lt f]at o;rw[getD_lt m,<-c,o]at n;rw[getD_lt oq,getD_lt oq]at n;have:=(List.getElem_inj e.nd).1 n;omega;obtain⟨i,f,rfl⟩:=B7.1 q;exact(u.old _).1 (e.i i f).1
theorem ZaB:((Cz h s (Rc h s)).length:Int)<=(ZB h s).rep.steps/\(ZB h s).rep.steps<=h.W.length:=by
 obtain⟨e,_,nd,u,_⟩:=Z4R g d t b;have c:∀a∈(Zh h).1,Ob h T a:=λa n=>(g.objs.2 a).1 n;have s1:=ON (f:=stA h) (M:=(Zh h).1) nd λx k=>(g.objs.2 x).2 (u x k);have s0:(Cz h s (Rc h s)).length<=((Cz h s (Rc h s)).map (stA h)).sum:=by
  generalize Cz h s (Rc h s)=L;induction L with
  |nil=>simp
  |cons a L ih =>
   have:1<=stA h a:=by unfold stA;omega
   simp only[Lq,Lt,L7];omega
 have m:∀a,(stA h a:Int)<=1+Zk h.W a:=λa=>by(have:=ZlF (ZQ h.W a);have r:=Bn h.W a;have:(ZQ h.W a).length=Zk h.W a:=rfl;unfold stA;omega)
 have po:=B4 g.p;have s2:=Z89 (f:=stA h) (hi:=4096+h.W.length) (lo:=4096) (PK h) (λx k=>by
  obtain⟨i,l,_⟩:=c x k;have:=g.inw l;have:=m x;omega) (λx k y p q=>by
  obtain⟨i,l,_⟩:=c x k;obtain⟨j,o,_⟩:=c y p;have:=g.sep l o q;have:=m x;omega) oq
 rw[e];omega
end
def Zf6(h:Heap) s k:(Bq h s k).rep.copied=(ZB h s).rep.copied/\(Bq h s k).rep.kept=(ZB h s).rep.kept/\(Bq h s k).rep.steps=(ZB h s).rep.steps:=by
 have f:∀(w:Z6) n,(C4 w n).rep.copied=w.rep.copied/\(C4 w n).rep.kept=w.rep.kept/\(C4 w n).rep.steps=w.rep.steps:=λw n=>by
  induction n with|zero=>exact⟨rfl,rfl,rfl⟩|succ n c =>obtain⟨l,m,e,_⟩:=Z6N (C4 w n) (w.old.getD n La);rw[C4,e];exact c
 have g:∀n,(Ej (ZB h s) k n).rep.copied=(ZB h s).rep.copied/\(Ej (ZB h s) k n).rep.kept=(ZB h s).rep.kept/\(Ej (ZB h s) k n).rep.steps=(ZB h s).rep.steps:=λn=>by
  induction n with|zero=>exact⟨rfl,rfl,rfl⟩|succ n c =>rw[Ej,Hk];split;exact c;exact c
 have a:=f (Cq h s k) (Cq h s k).old.length;have b:=g k.length;exact⟨a.1.trans b.1,a.2.1.trans b.2.1,a.2.2.trans b.2.2⟩
def Zln{L M:List Int}(nl:L.Nodup)(d:M.Nodup)(h:∀x,x∈L↔x∈M):L.length=M.length:=by have a:=ON (f:=λ_=>1) nl λx c=>(h x).1 c;have b:=ON (f:=λ_=>1) d λx c=>(h x).2 c;simp only[List.map_const',List.sum_replicate_nat,Nat.mul_one]at a b;omega
structure Zcz (w x:Zl) (r:Rep):Prop where
 o:(Cx x.j x.G).2=0
 n:(Zh x.j).2=0
 l:(Zh x.j).1.length=(Cx x.j x.G).1.length
 m:∀a∈(Zh x.j).1,a∈(Cx x.j x.G).1
 c:r.copied+r.kept=(Cx x.j x.G).1.length
 s1:((Cx x.j x.G).1.length:Int)<=r.steps
 s2:r.steps<=w.j.W.length
 wl:w.j.W.length<=1048576
 k0:0<=r.copied/\0<=r.kept
def ZcY b:Zcz (Zm b) (Zm b).collect (CV (Zm b)):=by
 have c:=SU b;obtain⟨T,g,f,r⟩:=Z4I b;have i:=Zah b;obtain⟨e,n,_⟩:=OV b;have s:∀p∈(Zm b).j.P,p.N<=1000:=λp y=>(c.pin_mem p y).2;have K:=ZdQ (B:=1000) oq g i c.W s f r e;obtain⟨tq,z,m,on,v,gd,es,ew,w⟩:=Zhe (B:=1000) oq g i c.W s f r e;obtain⟨c1,c2,c3,c4,o⟩:=Z4R g i f c.W;obtain⟨t1,t2⟩:=ZaB g i f c.W;obtain⟨r1,r2,r3⟩:=Zf6 (Zm b).j (Zm b).G (Zm b).E;have k:CV (Zm b)=(Bq (Zm b).j (Zm b).G (Zm b).E).rep:=w;have d:Cx (Zm b).collect.j (Zm b).collect.G=((ZB (Zm b).j (Zm b).G).Q,0):=by rw[n];exact K.o'
 have mem:∀a,a∈(Zh (Zm b).collect.j).1↔a∈(ZB (Zm b).j (Zm b).G).Q:=λa=>by
  rw[n,gd.objs.2];have u:(collectF (Zm b).j (Zm b).G (Zm b).E).1.W=z:=by rw[v]
  refine⟨λ⟨j,l,t⟩=>?_,λq=>?_⟩;rw[u]at t;exact(m.start l).2.1 t;obtain⟨j,l⟩:=m.where' q;exact⟨j,l,by rw[u];exact(m.start l).2.2 q⟩
 have qn:(ZB (Zm b).j (Zm b).G).Q.Nodup:=(Zce g i f c.W).choose_spec.2.1.nd;have wk:=on.c.ok;refine⟨by rw[d],by rw[n];exact gd.objs.1, ?_,λa x=>?_, ?_, ?_, ?_, ?_, ?_⟩;rw[d];exact Zln ((PK _).imp λh=>by omega) qn mem;rw[d];exact(mem a).1 x;rw[d,k,r1,r2,c2,o];rw[d,k,r3,<-o];exact t1;rw[k,r3];exact t2;have:=HE c.hv;have:=c.L;omega;rw[k,r1,r2];have:=wk.rk;omega
def rcL(w:Zl)(r:Rep)(a l:List Int)(i:Nat):Tg:=⟨tm 88 [(2,bL Lc),(3,.pt 16003 0 0),(5,.pt 16005 0 0),(7,Z2 a),(9,Z2 l),(11,nI i)],[(16005,.box 73 r.cells),(16003,.box 30 w.cells)],8⟩
section
variable(w:Zl)(r:Rep)(a l:List Int)(b:a.length<=1048576)(hl:l.length<=1048576)
include b hl
theorem Zkp(i:Nat)(hi:i<a.length)(m:a.getD i La∈l):CP (Zn f9 0) (rcL w r a l i).st .nrm (rcL w r a l (i+1)).st:=by exact sF [] []<|FN 60 61 67 wD a i<|Fc 69 (@CQ l (a.getD i La) aa)<|Ffb 70 (!decide (a.getD i La∈l))<|Fx 63 i Fz
omit b hl in
theorem ZbE:CP (Zn f9 0) (rcL w r a l a.length).st (.ext 0) (Tg.st ⟨tm 88 [(2,bL Lc),(3,.pt 16003 0 0),(5,.pt 16005 0 0),(9,Z2 l)],[(16005,.box 73 r.cells),(16003,.box 30 w.cells)],8⟩):=by exact sF [] []<|FO 60 61 wD a Fz
def Zls(m:∀x∈a,x∈l)  := Bt (S:=λi=>(rcL w r a l i).st) a.length (by kernel_rfl) (λi c=>Zkp w r a l b hl i c (m _ (B7.2 ⟨i,c,rfl⟩))) (ZbE w r a l)
end
def Zgg(a:List Int)(h1:a.length<=140737488355328):GP 9 [ZF a] Lb (bL Lb) []:=by obtain⟨o,n,l,m,c,s1,s2,wl,k0⟩:=ZcY a;have e:=C2.collect (SU a);have v1:=e.W;have v3:=e.G;have sl:=(SU a).sl;have l1:=(OV a).2.2.1;have ol:=Ic (Zm a).collect.j;let b:=Cx (Zm a).collect.j (Zm a).collect.G;let d:=Zh (Zm a).collect.j;let f:=(b.1.length:Int)<=(CV (Zm a)).steps;exact gF [] func9 (fO 35)<|Fc 14 (@ZfB a aa)<|Fc 24 (@NT ((Zm a).collect.j) aa)<|Fc 32 (@ZlU ((Zm a).collect.j) ((Zm a).collect.G) aa oq aa)<|FlG 43 (!(d.2 != 0||b.2 != 0)) wD d.1<|FlG 45 (!(d.2 != 0||b.2 != 0)) wD b.1<|FiG 53 (!(d.2 != 0||b.2 != 0||(d.1.length:Int) != (b.1.length:Int))) ((CV (Zm a)).copied+(CV (Zm a)).kept)<|FlG 55 (!(d.2 != 0||b.2 != 0||(d.1.length:Int) != (b.1.length:Int))) wD b.1<|Ffb 57 (d.2 != 0||b.2 != 0||(d.1.length:Int) != (b.1.length:Int)||(CV (Zm a)).copied+(CV (Zm a)).kept != (b.1.length:Int))<|Fu (@Zls (Zm a) (CV (Zm a)) (d.1) (b.1) oq oq aa)<|Fc 71 (@ZlT)<|FlG 76 Lb wD b.1<|FlG 85 (Lb&&decide f) wD (Zm a).j.W<|Fb ((decide f&&Lz ((CV (Zm a)).steps<=(↑(Zm a).j.W.length:Int)))=Lb) Fz
end Go.Proofs.YtgedmeaemofdkaaGreat
namespace Go.Proofs.YtgedmeaemofdkaaGreat
open Go.Sx Go.RowKit
def ZiJ(os:Os)(a:os.Started)(H:Type)(enc:TypeId×Value->H) :ReturnsInHanded {} Tryz.checked os 9 .any (Rows.collectReclaimsSpec.pre6 enc prog f9 Rows.collectReclaimsRow.domain Lc) (Rows.collectReclaimsSpec.post enc prog f9 Lc Lb Lc Lc):=by
 refine Zd9 (C:=Tryz.checked) (tb:=4) 5 Zfe a kr func9
  (ChangeSpec.witness6 (enc:=enc) (C:=Tryz.checked) Lc ⟨#[],#[.slice Lk 0 0],[]⟩ 8 kr kr kr kr)
  ZjO kr kr kr kr rfl (λd hd=>?_) (λg f h=>?_)
 .match d,hd with
  |[a0],_=>rfl
 .match g,f with
  |[l0],_ =>
   obtain⟨b,rfl,c⟩:=ZjN (n:=3) (h 0 22 l0 kr rfl);have e:RQ prog Tryz.f9.params.toList [[.sl 1 (b.map iD)]]=[ZF b]:=by kernel_rfl
   exact⟨Lb,e▸Zgg b c⟩
def Zd3:(Rows.collectReclaimsRow.inPlace==Tryz.prog.inPlace 9)=Lb:=by kernel_rfl
def ZeG:(Rows.collectReclaimsRow.unfollowed==Tryz.prog.unfollowed 9)=Lb:=by kernel_rfl
def ZdI:(Rows.collectReclaimsRow.recurses==Tryz.prog.recurses 9)=Lb:=by kernel_rfl
def ZkF:(Rows.collectReclaimsRow.named==Tryz.prog.varsNamed 9)=Lb:=by kernel_rfl
def Zbv:joinedFacts prog 9 f9 Rows.collectReclaimsSpec Rows.collectReclaimsRow=Lb:=by
 unfold joinedFacts;rw[Zd3,ZeG,ZdI,ZkF];kernel_rfl
theorem collectReclaims_holds:Rows.CollectReclaimsSaid:=
 OpenClaim.holds_of_wide 9 f9 rfl rfl rfl rfl rfl rfl rfl ⟨rfl,rfl,rfl,rfl,rfl⟩ rfl rfl rfl rfl rfl kr func9 Zbv
  (of_decide_eq_true kr) (by unfold Func.isWrapper;first|(rw[if_pos (by decide+kernel)];kernel_rfl)|(rw[if_neg (by decide+kernel)];exact⟨rfl,rfl⟩))
  (λos a H b _=>ZiJ os a H b)
end Go.Proofs.YtgedmeaemofdkaaGreat
