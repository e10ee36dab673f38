/-
 The statement CollectAgain: part 17.
 Conditions: none.
-/
import Derived.Test.YtgedmeaemofdkaaGreatY16
set_option maxRecDepth 100000
set_option maxHeartbeats 2000000
set_option linter.all false
open Inhabited renaming default->La
open Bool renaming true->Lb,false->Lc
open Nat renaming le_refl->Ld,not_lt_zero->Lo,zero_le->Lq,le_trans->LG,zero_add->L3,sub_self->Xf
open Option renaming none->Le,getD_some->Lz,some->LH,map_some->LV,isSome_iff_exists->L4
open List renaming range->Lf,map->Lg,getD_eq_getElem?_getD->Lh,mem_append_right->Li,mem_range->Lj,replicate->Lk,getElem?_eq_getElem->Ll,length_map->Lm,mem_cons_of_mem->Lp,length_take->Lr,map_cons->Ls,mem_append->Lt,mem_singleton->Lu,sum_cons->Lv,length_append->Lx,mem_append_left->Ly,find?_eq_none->LA,find?_range_eq_some->LB,length_singleton->LC,nodup_nil->LD,ext_getElem->LM,getElem?_take->LN,mem_map->LO,getElem?_drop->LR,getElem?_map->LS,getElem_map->LU,getElem_of_mem->LZ,map_append->L0,nodup_append->L1,range_succ->L2,append_assoc->L7,getElem?_append_left->L8,getElem?_append_right->L9,length_cons->Xa,length_drop->Xb,mem_cons->Xc,nodup_cons->Xd,take_of_length_le->Xe
open Decidable renaming decide->Ln,not_not->LI
open Int renaming add_zero->Lw,add_assoc->LF,toNat_natCast->LL,mul_le_mul_of_nonneg_right->LQ,le_refl->LW,mul_nonneg->LY,mul_comm->L5,tmod_eq_emod_of_nonneg->L6
open Go.Proofs.Tryz
namespace Go.Proofs.YtgedmeaemofdkaaGreat
open Go.Sx
section
variable{B:Int}(hB:0<=B){h:Heap}{T:Nat->List Int}(g:Gd h T){s k:List Int}(hw:Zw h.W)(hb:∀p∈h.P,p.N<=B)(e1:(rootsF (Zr h) s).2.2=0)(e2:(Bz (rootsF (Zr h) s).1).2=0)(gs:Gr h T s)(gk:Gr h T k)(sl:s.length<=1000)(kl:k.length<=1000)(ks:CJ k)(rt:Z4b (Zr h) s)(ln:Aj (Zr h))(al:Z2w (rootsF (Zr h) s).1)
include hB g hw hb e1 e2 gs gk sl kl ks rt ln al
theorem ZhR:Z9r h s k (Zr h) (rootsF (Zr h) s).1 (ZA h s) (Ca h s k) (Cy h s k) (Bs h s k) (rootsF (Zr h) s).2.1 (Ev (ZA h s) k k.length):=by
 have ck:=cOk h s k hw g.p e1 e2;obtain⟨q1,q2,q3,q4,q5⟩:=Z1k h s k hw g.p e1 e2;obtain⟨tq,ce,_⟩:=Dc hB g hw hb e1 e2 (k:=k);have ok1:=(SX (roots:=s) (Nx hw g.p) (RJ g.p) e1).1;have f2:=ck.w2.fok;refine⟨Zmx h hw g.p g.good, ?_, ?_, ?_,Zn0 _ k ⟨f2.W,f2.wl,by have:=f2.ql;omega,ck.i2.L,kl,ks,ck.w2.r0.2.2,λx hx=>(gk x hx).imp id λ⟨i,hi,_⟩=>?_⟩, ?_,Zja _ q1 ⟨q2,q3⟩ q4 q5 ck.h4.2.2.2.2 (Zk5 hB g k hw hb e1 e2),sl,kl,ck.f4.tl, ?_⟩
 .have:=ZeL h (s++k) hw qo;rw[g.refers (λx hx=>(Lt.1 hx).elim (gs x) (gk x))]at this;exact this
 .have:=ZgU (Zr h) s rt oq ln;rw[e1]at this;exact this
 .exact ZdQ _ ok1 al
 .have:=Zjd (Ca h s k) (Z9H hB g k hw hb e1 e2).fiOk;rw[Zf6 hB g k hw hb e1 e2]at this;exact this
 .have sp:=ck.w2.sp;rw[<-ck.h4.2.2.1]at sp;exact sp
 .rw[ce.k.c,g.ofx hi]
theorem ZfP:GP 35 [h.av,Z2 s,Z2 k] Lc (.tu [(collectF h s k).1.av,Z2 (collectF h s k).2.1,Z2 (collectF h s k).2.2.1,.ag (collectF h s k).2.2.2.1.cells,nI (collectF h s k).2.2.2.2]) []:=by
 have a:collectF h s k=(Em (Bs h s k),(rootsF (Zr h) s).2.1,Ev (ZA h s) k k.length,(Bs h s k).rep,0):=by rw[collectF,if_pos g.p,if_pos ⟨g.refers gs,g.refers gk⟩,if_pos e1,if_pos e2]
 rw[a];exact Zbh (ZhR hB g hw hb e1 e2 gs gk sl kl ks rt ln al)
end
def Br(f:Z0->Int)(l:List Z0):Int:=(l.map f).sum
def Cd(p:Z0):Int:=if p.K=0 then 0 else 1
def Cl(p:Z0):Int:=if p.K=1 then p.U else 0
def unP(p:Z0):Int:=if p.K=1/\¬ 0<p.N then p.U else 0
def GL(p:Z0):Int:=if p.K=2\/p.K=3 then 1 else 0
def M4 f(p:Z0):∀(l:List Z0) (i:Nat),i<l.length->Br f (l.set i p)+f (l.getD i La)=Br f l+f p
 |[],i,h=>by simp at h
 |x::l,0,_=>by grind[Br]
 |x::l,i+1,h=>by
  have:=M4 f p l i (by simpa using h);grind[Br]
def Su(f:Z0->Int){l a:List Z0}(hl:a.length=l.length)(h:∀i,i<l.length->f (a.getD i La)=f (l.getD i La)):Br f a=Br f l:=by unfold Br;congr 1;refine LM (by simpa using hl) λi h1 h2=>?_;grind
theorem IX f(l:List Z0):Br f l=((Lf l.length).map λi=>f (l.getD i La)).sum:=by unfold Br;congr 1;refine LM pq λi h1 h2=>?_;grind
def N5{α:Type}{f g:α->Int}:∀{l:List α},(∀x∈l,f x<=g x)->(l.map f).sum<=(l.map g).sum
 |[],_=>by simp
 |x::l,h=>by
  have:=N5 (l:=l) λy a=>h y (Lp _ a);grind
def Z4n{α:Type}{f g:α->Int}{n:Int}{r:α}:∀{l:List α},(∀x∈l,f x<=g x)->r∈l->f r+n<=g r->(l.map f).sum+n<=(l.map g).sum
 |[],_,hr,_=>by simp at hr
 |x::l,h,hr,hn=>by
  have h0:=h x pq;have a:∀y∈l,f y<=g y:=λy b=>h y (Lp _ b);simp only[Ls,Lv];rcases Xc.1 hr with rfl|hr
  .have:=N5 a;omega
  .have:=Z4n a hr hn;omega
def A7{α:Type}{f:α->Int}:∀{l:List α},(∀x∈l,0<=f x)->0<=(l.map f).sum
 |[],_=>by simp
 |x::l,h=>by
  have:=A7 (l:=l) λy a=>h y (Lp _ a);grind
def Z5n{ws}:∀{l:List Int} {a b:Int},EN ws a b l->(l.map λx=>Zl ws x+1).sum=b-a
 |[],a,b,h=>by grind[EN]
 |x::l,a,b,h=>by
  have:=Z5n h.2.2;simp only[Ls,Lv,this,h.1];omega
def Z8S(l:List Z0):∀i,i<=l.length->(∃j,j<i/\(l.getD j La).K=0)->Zh l i≠[]
 |0,_,⟨j,b,_⟩=>by omega
 |i+1,hi,⟨j,b,d⟩=>by
  have a:E8 l i=l.getD i La:=by grind[MM]
  simp only[Zh,Rb];split
  .split<;>simp
  .rename_i c;rw[a]at c;exact Z8S l i oq ⟨j,by
    grind,d⟩
def Zda{l}(h:¬ 0<=first l 1):∀j,j<l.length->(l.getD j La).K≠0:=by
 intro j a b;have hn:=Z8S l l.length (Ld _) ⟨j,a,b⟩;unfold first at h
 rw[if_neg oq]at h;have ok:=(NE l l.length).2;cases hr:Zh l l.length<;>grind[Zh,runs,Ij]
def Zks{l:List Z0}(h:∀j,j<l.length->(l.getD j La).K≠0):Br Cd l=l.length:=by
 rw[IX];have:∀n,n<=l.length->((Lf n).map λi=>Cd (l.getD i La)).sum=n:=by
  intro n;induction n with|zero=>simp|succ n ih =>grind[L2,Cd]
 grind
def wtW(h:Heap)(w:Z7)(x:Int):Int:=if(ZG (Z1 w.j.W x).1).2=Lb then 0 else Zl h.W x+1
def Nr(h:Heap)(T:Nat->List Int)(w:Z7)(i:Nat):Int:=if(h.P.getD i La).K=1/\¬ 0<(h.P.getD i La).N then((T i).map (wtW h w)).sum else 0
def HW(h:Heap)(T:Nat->List Int)(w:Z7):Int:=((Lf h.P.length).map (Nr h T w)).sum
structure MI (h:Heap) (T:Nat->List Int) (w:Z7):Prop where
 m0:w.j.P.length=h.P.length/\w.j.C=h.C
 m1:Br Cl h.P<=Br Cl w.j.P
 m2:0<w.T.length->((w.T.length:Int)-1)*(h.C.pw/4*3+1)+(w.j.P.getD (ZH w).toNat La).U<=Br Cl w.j.P-Br Cl h.P
 m3:Br Cl w.j.P+HW h T w<=Br Cl h.P+Br unP h.P
 m4:Br Cd w.j.P=Br Cd h.P+w.T.length
 m5:∀i,i<h.P.length->(h.P.getD i La).K=1->((w.j.P.getD i La).S=w.j.S↔¬ 0<(h.P.getD i La).N)
def Ox(h:Heap) w(x:Int):0<=wtW h w x/\wtW h w x<=Zl h.W x+1:=by have:=Bq h.W x;grind[wtW]
def ZbX{h T}{w w':Z7}(e:w'.j.W=w.j.W):HW h T w'=HW h T w:=by unfold HW Nr wtW;rw[e]
def Ze4{h T}(g:Gd h T)(w:Z7):HW h T w<=Br unP h.P:=by rw[IX];refine N5 λi a=>?_;have a:=Lj.1 a;unfold Nr unP;split;rename_i k;have t:=Z5n (g.t1 i a k.1).1;have:=N5 (l:=T i) (f:=wtW h w) (g:=λx=>Zl h.W x+1) λx _=>(Ox h w x).2;omega;omega
def ZfA(h:Heap) T w:0<=HW h T w:=by refine A7 λi _=>?_;unfold Nr;split;exact A7 λx _=>(Ox h w x).1;omega
def Zio{h:Heap}{T:Nat->List Int}{w w'}{n r:Int}{a:Nat}(hi:a<h.P.length)(d:(h.P.getD a La).K=1/\¬ 0<(h.P.getD a La).N)(f:r∈T a)(c:∀i x,x∈T i->wtW h w' x<=wtW h w x)(e:wtW h w' r+n<=wtW h w r):HW h T w'+n<=HW h T w:=by refine Z4n (r:=a) (λi hi=>?_) (Lj.2 hi) ?_;unfold Nr;split;exact N5 λx b=>c i x b;omega;unfold Nr;rw[if_pos d,if_pos d];exact Z4n (λx b=>c a x b) f e
def MI.begin{h T}(g:Gd h T):MI h T (Zr h):=by
 have e:∀i,i<h.P.length->(((Zr h).j.P.getD i La).K=(h.P.getD i La).K/\((Zr h).j.P.getD i La).U=(h.P.getD i La).U):=by grind[Zr,Zs]
 have l:(Zr h).j.P.length=h.P.length:=by simp[Zr]
 have e1:Br Cl (Zr h).j.P=Br Cl h.P:=Su Cl l λi a=>by grind[Cl]
 have e2:Br Cd (Zr h).j.P=Br Cd h.P:=Su Cd l λi a=>by grind[Cd]
 have r:=Ze4 g (Zr h);refine⟨⟨l,rfl⟩,by omega,by simp[Zr],by omega,by grind[Zr],λi a hk=>?_⟩;have sp:=g.sp i a oq;grind[Zr,Zs]
def MI.keep{h T w}(m:MI h T w) r:MI h T (w.keep r):=⟨m.m0,m.m1,m.m2,m.m3,m.m4,m.m5⟩
def MI.flip{h T r w}(m:MI h T w)(k:KI h T r w){i:Nat}(h2:(w.j.P.getD i La).K=2):MI h T (w.flip i):=by
 have e:∀j,((w.flip i).j.P.getD j La).K=(w.j.P.getD j La).K/\((w.flip i).j.P.getD j La).U=(w.j.P.getD j La).U:=by(intro j;simp only[Z7.flip];by_cases b:j<w.j.P.length;rw[HQ b];split<;>exact⟨rfl,rfl⟩;grind[Hr])
 have l:(w.flip i).j.P.length=w.j.P.length:=by simp[Z7.flip,Hr]
 have a:Br Cl (w.flip i).j.P=Br Cl w.j.P:=Su Cl l λj _=>by grind[Cl]
 have f:Br Cd (w.flip i).j.P=Br Cd w.j.P:=Su Cd l λj _=>by grind[Cd]
 have g:HW h T (w.flip i)=HW h T w:=ZbX rfl;have c:(w.flip i).T=w.T:=rfl;have el:ZH (w.flip i)=ZH w:=rfl;refine⟨⟨by rw[l];exact m.m0.1,m.m0.2⟩,by rw[a];exact m.m1, ?_,by rw[a,g];exact m.m3,by rw[f,c];exact m.m4,λj b d=>?_⟩;rotate_left;have n:=m.m0.1;have o:(j:Int)∉w.T:=λq=>by have:=(k.tk j q).2.1;omega
 have p:=(k.pg j o).1;rw[d]at p;have:(w.flip i).j.P.getD j La=w.j.P.getD j La:=by(simp only[Z7.flip];rw[HQ oq,if_neg];rintro⟨q1,q2⟩;by_cases q:j=i;subst q;omega;have:=(Ru (l:=w.j.P) (i:=i) (m:=j-i-1) oq).2;grind)
 rw[this];exact m.m5 j b d;intro q;rw[c,el,(e _).2,a];exact m.m2 q
def MI.copy{h T tq w}(g:Gd h T)(m:MI h T w)(k:KI h T tq w)(hw:Bb w){r n:Int}{s}(o:r∈T s)(h1:(h.P.getD s La).K=1)(a3:¬ 0<(h.P.getD s La).N)(ht:(ZG (Z1 w.j.W r).1).2=Lc)(hn:n=Zl w.j.W r+1)(hc:(w.place n).2.2=Lb):MI h T ((w.place n).1.copy r (w.place n).2.1 n):=by
 have he:(Z1 w.j.W r).1=(Z1 h.W r).1:=by(rcases k.hd s r o with q|q;exact q;grind)
 have a8:=Bq w.j.W r;have a5:Zl w.j.W r=Zl h.W r:=(El he).2.1;have y:=(g.t0 s r o).1;have b2:=(g.t1 s y h1).2 r o;have po:=B5 g.p;have sw:=Sj po.1;have hv:=BJ.1 po.1;have a1:n<=w.j.C.pw:=by rw[k.c];omega
 obtain⟨i,p,t,p1,p2,p3,p4,p5,p6,p7,e⟩:=TC hw ⟨by omega,a1⟩ hc;have v:=k.c;have a7:=g.inw o;have d:(h.P.getD i La).K=0:=by(rcases p2 with q|q;by_cases c:(i:Int)∈w.T;exact(k.tk i c).2.1;rw[<-(k.pg i c).1];exact q.1;exact(k.tk i q.1).2.1)
 have b0:=k.pl;have b3:=k.wl;have a0:=EY (i:=i) (j:=h.C.pg) (pw:=h.C.pw) oq oq;rw[L5 h.C.pg]at a0;have a6:0<=(i:Int)*h.C.pw:=LY oq oq;have hx:∀j x,x∈T j->x≠r->(Z1 (BS (moveA w.j.W (w.place n).2.1 r n).1 r (4*(w.place n).2.1+2)).1 x).1=(Z1 w.j.W x).1:=by(intro j x hx a9;have u:=g.free (show i<h.P.length by omega) (Or.inl d) hx;rw[C5,if_pos d]at u;have r1:=Bq h.W x;unfold ZE at u;rw[p7,v];rw[v]at p5;have f:=g.free (show i<h.P.length by omega) (Or.inl d) o;rw[C5,if_pos d]at f;unfold ZE at f;obtain⟨m1,m2,m3⟩:=So (ws:=w.j.W) (a:=4+4092+(i:Int)*h.C.pw+C5 (w.j.P.getD i La)) (b:=r) (n:=n) oq oq oq;rw[show(4:Int)+4092+(i:Int)*h.C.pw=4096+(i:Int)*h.C.pw by omega]at m1 m2 m3;grind[Gv])
 have b1:(ZG (Z1 (BS (moveA w.j.W (w.place n).2.1 r n).1 r (4*(w.place n).2.1+2)).1 r).1).2=Lb:=by grind[So,Rz,ON]
 have ew:((w.place n).1.copy r (w.place n).2.1 n).j.W=(BS (moveA w.j.W (w.place n).2.1 r n).1 r (4*(w.place n).2.1+2)).1:=by(rw[e];rfl)
 have a2:HW h T ((w.place n).1.copy r (w.place n).2.1 n)+n<=HW h T w:=by(refine Zio y ⟨h1,a3⟩ o (λj x b4=>?_) ?_;grind[wtW];grind[wtW])
 have l:((w.place n).1.copy r (w.place n).2.1 n).j.P=w.j.P.set i p:=by rw[e];rfl
 have eT:((w.place n).1.copy r (w.place n).2.1 n).T=t:=by rw[e];rfl
 have eL:ZH ((w.place n).1.copy r (w.place n).2.1 n)=t.getD ((t.length:Int)-1).toNat La:=by grind[ZH]
 have s1:=M4 Cl p w.j.P i p1;have s2:=M4 Cd p w.j.P i p1;have u1:Cl p=p.U:=by grind[Cl]
 have z1:Cd p=1:=by rw[Cd,if_neg oq]
 have m1:=m.m1;have m3:=m.m3;have m4:=m.m4;have a4:0<=((w.T.length:Int))*(h.C.pw/4*3+1):=LY oq oq;have h5:∀j,j<h.P.length->(h.P.getD j La).K=1->((((w.place n).1.copy r (w.place n).2.1 n).j.P.getD j La).S=((w.place n).1.copy r (w.place n).2.1 n).j.S↔¬ 0<(h.P.getD j La).N):=by
  intro j hj hk;have eS:((w.place n).1.copy r (w.place n).2.1 n).j.S=w.j.S:=by rw[e];rfl
  rw[l,eS,Cr p1,if_neg (by grind)];exact m.m5 j hj hk
 rcases p2 with⟨q1,q2,q3⟩|⟨q1,q2,q3,q4⟩;have u2:Cl (w.j.P.getD i La)=0:=by rw[Cl,if_neg oq]
 have z2:Cd (w.j.P.getD i La)=0:=by grind[Cd]
 have oc:C5 (w.j.P.getD i La)=0:=by grind[C5]
 rw[oc]at p4;have hu:Br Cl (w.j.P.set i p)=Br Cl w.j.P+n:=by omega
 refine⟨⟨by grind,by rw[e];exact m.m0.2⟩,by rw[l];omega, ?_,by rw[l];omega,by grind[LC],h5⟩;intro _;rw[eL,l,eT,hu,q2];have el:(w.T++[(i:Int)]).getD ((((w.T++[(i:Int)]).length:Nat):Int)-1).toNat La=i:=by simp_all
 rw[el,LL,Cr p1,if_pos rfl,Lx,LC];rw[show(((w.T.length+1:Nat):Int)-1)=w.T.length by omega];by_cases z:0<w.T.length;have m2:=m.m2 z;have nf:¬ Ep w n:=by grind[Z7.place]
 grind[Ep];grind
 .have u2:Cl (w.j.P.getD i La)=(w.j.P.getD i La).U:=by grind[Cl]
  have z2:Cd (w.j.P.getD i La)=1:=by rw[Cd,if_neg oq]
  have oc:C5 (w.j.P.getD i La)=(w.j.P.getD i La).U:=by rw[C5,if_neg oq]
  rw[oc]at p4;have hu:Br Cl (w.j.P.set i p)=Br Cl w.j.P+n:=by omega
  refine⟨⟨by grind,by rw[e];exact m.m0.2⟩,by rw[l];omega, ?_,by rw[l];omega,by grind,h5⟩;intro z;rw[eT,q3]at z;have m2:=m.m2 z;rw[eL,l,eT,hu,q3];rw[Cr p1];show((w.T.length:Int)-1)*_+Z0.U (if i=(ZH w).toNat then p else w.j.P.getD (ZH w).toNat La)<=_;split;all_goals grind
structure MV (h:Heap):Prop where
 v:Br Cl h.P+Br GL h.P*h.C.pw<=h.C.pg/4*h.C.pw
 n:∃t:Int,Br Cd h.P<=h.C.pg/4+Br GL h.P+t/\(t-1)*(h.C.pw/4*3+1)<=Br Cl h.P
def Z3D{α:Type}{f:α->Int}{r:α}:∀{l:List α},(∀x∈l,0<=f x)->r∈l->f r<=(l.map f).sum
 |[],_,hr=>by simp at hr
 |x::l,h,hr=>by
  have h0:=h x pq;have a:∀y∈l,0<=f y:=λy b=>h y (Lp _ b);simp only[Ls,Lv];rcases Xc.1 hr with rfl|hr
  .have:=A7 a;omega
  .have:=Z3D a hr;omega
def Zld{t t' s q L U nz pg:Int}(hs:4<=s)(hq:2<=q)(a:4*q<=pg)(hL:0<=L)(ht:0<=t)(h1:pg=nz+t)(h2:t*(s*3+1)<=U-1)(h3:nz<=q+L+t')(h4:(t'-1)*(s*3+1)<=U)(h5:U+L*(s*4)<=q*(s*4)):False:=by
 have e2:t*(s*3+1)=3*t*s+t:=by grind
 have e4:(t'-1)*(s*3+1)=3*(t'-1)*s+(t'-1):=by grind
 have e5:q*(s*4)-L*(s*4)=4*(q-L)*s:=by grind
 have a1:3*t<4*(q-L):=by(by_cases c:3*t<4*(q-L);exact c;have:=LQ (show 4*(q-L)<=3*t by omega) (show 0<=s by omega);omega)
 have a2:3*(t'-1)<4*(q-L):=by(by_cases c:3*(t'-1)<4*(q-L);exact c;have:=LQ (show 4*(q-L)<=3*(t'-1) by omega) (show 0<=s by omega);omega)
 omega
def MI.unp{h T g w}(m:MI h T w)(k:KI h T g w){r o:Int}{a:Nat}(b:Z4 w.j.C r=((a:Int),o,0))(d:(a:Int)∉w.T)(hi:a<h.P.length)(k1:(h.P.getD a La).K=1)(c4:¬ ZJ w (Z4 w.j.C r).1=Lb):¬ 0<(h.P.getD a La).N:=by intro e;apply c4;have f:=m.m0.1;have q:=(m.m5 a hi k1);have kk:=(k.pg a d).1;simp only[ZJ,decide_eq_true_eq];rw[b];simp only[LL];exact⟨by omega,by omega,by omega,λc=>(q.1 c) e,d⟩
section
variable{h:Heap}{T tq:Nat->List Int}{w:Z7}(g:Gd h T)(m:MI h T w)(k:KI h T tq w)(d:Bb w)(f:MV h)
include g m k d f
theorem MI.room{r n:Int}{e}(y:r∈T e)(h1:(h.P.getD e La).K=1)(a3:¬ 0<(h.P.getD e La).N)(ht:(ZG (Z1 w.j.W r).1).2=Lc)(hn:n=Zl w.j.W r+1):(w.place n).2.2=Lb:=by
 have he:(Z1 w.j.W r).1=(Z1 h.W r).1:=by(rcases k.hd e r y with q|q;exact q;rw[q.1]at ht;cases ht)
 have a5:=Bq w.j.W r;have a4:Zl w.j.W r=Zl h.W r:=(El he).2.1;have o:=(g.t0 e r y).1;have a6:=(g.t1 e o h1).2 r y;have po:=B5 g.p;have sw:=Sj po.1;have hv:=BJ.1 po.1;have a1:h.C.pw=h.C.pw/4*4:=by(have:=hv.2.2.1;rw[L6 oq]at this;omega)
 by_cases u:Ep w n;rw[Z7.place,if_pos u];by_cases hg:0<=ZS w;rw[Z7.place,if_neg u,if_pos hg];exfalso;have nz:=Zks (Zda (l:=w.j.P) hg);have m0:=m.m0;have m1:=m.m1;have m3:=m.m3;have m4:=m.m4;have a0:=d.pl;rw[m0.2]at a0;have a2:n<=HW h T w:=by
  have a:Nr h T w e<=HW h T w:=Z3D (λi _=>by
   unfold Nr;split;exact A7 λx _=>(Ox h w x).1;exact LW _) (Lj.2 o)
  have b:wtW h w r<=Nr h T w e:=by(unfold Nr;rw[if_pos ⟨h1,a3⟩];exact Z3D (λx _=>(Ox h w x).1) y)
  unfold wtW at b;rw[if_neg (by rw[ht];simp)]at b;omega
 have a7:Br unP h.P<=Br Cl h.P:=N5 λp hp=>by(obtain⟨j,hj,rfl⟩:=LZ hp;have pp:=Ew g.p hj;rw[Lh,Ll hj,Lz]at pp;unfold unP Cl;split;rename_i c;rw[if_pos c.1];omega;split<;>omega)
 have hL:0<=Br GL h.P:=A7 λp _=>by unfold GL;split<;>omega
 have h2:(w.T.length:Int)*(h.C.pw/4*3+1)<=Br Cl h.P-1:=by
  by_cases z:0<w.T.length;have m2:=m.m2 z;unfold Ep at u;rw[m0.2]at u;have hq:h.C.pw/4*3+1<=(w.j.P.getD (ZH w).toNat La).U:=by omega
  rw[show(w.T.length:Int)*(h.C.pw/4*3+1)=((w.T.length:Int)-1)*(h.C.pw/4*3+1)+(h.C.pw/4*3+1) by rw[Int.sub_mul];omega];omega;have:w.T.length=0:=by omega
  rw[this];simp;omega
 obtain⟨t',n1,n2⟩:=f.n;have v:=f.v;exact Zld (s:=h.C.pw/4) (q:=h.C.pg/4) (pg:=h.C.pg) (nz:=Br Cd h.P) (L:=Br GL h.P) (U:=Br Cl h.P) (t:=w.T.length) (t':=t') oq oq oq hL oq oq h2 n1 n2 (by rw[<-a1];exact v)
theorem MI.fwd_ok(hi:BA w){r:Int}(n:r=0\/r∈w.Q\/r∈w.old):(w.fwd r).2.2=0:=by
 unfold Z7.fwd;by_cases c1:r=0\/r∈w.Q;rw[if_pos c1];rw[if_neg c1];have c2:r∈w.old:=by(rcases n with q|q|q;exact absurd (Or.inl q) c1;exact absurd (Or.inr q) c1;exact q)
 rw[if_neg (by simpa using c2)];obtain⟨a,c,l⟩:=(k.old r).1 c2;have b:Z4 w.j.C r=((a:Int),r-ZE h a,0):=by rw[k.c];exact g.ofx c
 by_cases c3:(ZG (Z1 w.j.W r).1).2=Lb;rw[if_pos c3];rw[if_neg c3,if_neg (by rw[b];simp)];by_cases c4:ZJ w (Z4 w.j.C r).1=Lb;rw[if_pos c4];rw[if_neg c4];by_cases e:(w.j.P.getD (CN w r) La).K=2;rw[if_pos e];rw[if_neg e];have i:CN w r=a:=by rw[CN,b];simp
 rw[i]at e;have j:=k.nt g c;have k1:(h.P.getD a La).K=1:=by(have:=(g.t0 a r c).2;rw[<-(k.pg a j).1]at this⊢;omega)
 have:=m.room g k d f c k1 (m.unp k b j (g.t0 a r c).1 k1 c4) (by simpa using c3) rfl;rw[<-H7 w r]at this;rw[if_neg (by rw[this];simp)]
theorem MI.fwd(hi:BA w){r}(e:(w.fwd r).2.2=0):MI h T (w.fwd r).1:=by
 unfold Z7.fwd at e⊢;by_cases c1:r=0\/r∈w.Q;rw[if_pos c1];exact m;rw[if_neg c1]at e⊢;by_cases c2:r∈w.old;rw[if_neg (by simpa using c2)]at e⊢;obtain⟨a,c,p⟩:=(k.old r).1 c2;have b:Z4 w.j.C r=((a:Int),r-ZE h a,0):=by rw[k.c];exact g.ofx c
 by_cases c3:(ZG (Z1 w.j.W r).1).2=Lb;rw[if_pos c3];exact m;rw[if_neg c3,if_neg (by rw[b];simp)]at e⊢;by_cases c4:ZJ w (Z4 w.j.C r).1=Lb;rw[if_pos c4];exact m.keep r;rw[if_neg c4]at e⊢;by_cases j:(w.j.P.getD (CN w r) La).K=2;rw[if_pos j];exact(m.flip k j).keep r;rw[if_neg j]at e⊢;have n:CN w r=a:=by rw[CN,b];simp
 rw[n]at j;have o:=k.nt g c;have k1:(h.P.getD a La).K=1:=by(have:=(g.t0 a r c).2;rw[<-(k.pg a o).1]at this⊢;omega)
 have i:=m.unp k b o (g.t0 a r c).1 k1 c4;have l:=m.room g k d f c k1 i (by simpa using c3) rfl;rw[<-H7 w r]at l;rw[if_neg (by rw[l];simp)];exact m.copy g k d c k1 i (by simpa using c3) (H7 w r) l;rw[if_pos c2]at e;simp at e
end
def Zeu{ws:List Int}{a b n k:Int}(ha:4096<=a/\a-4096+n<=ws.length)(e:4096<=b/\b-4096+n<=ws.length)(hk:0<=k/\k<n):Z1 (moveA ws a b n).1 (a+k)=((Z1 ws (b+k)).1,0):=by
 have c:BV ws b n=((ws.drop (b-4096).toNat).take n.toNat,0):=by rw[BV,if_neg oq,if_pos e]
 have d:moveA ws a b n=ZY ws a ((ws.drop (b-4096).toNat).take n.toNat):=by rw[moveA,c];simp
 have hl:((ws.drop (b-4096).toNat).take n.toNat).length=n.toNat:=by simp;omega
 rw[d,A5 oq oq];congr 1;unfold Z1;rw[if_pos oq];simp only[Lh];rw[show a+k-a=k by omega,List.getElem?_take_of_lt oq,LR];rw[show(b-4096).toNat+k.toNat=(b+k-4096).toNat by omega]
def CY(w:Z7)(y:Int):Int:=if y∈w.Q then y else if(ZG (Z1 w.j.W y).1).2=Lb then(ZG (Z1 w.j.W y).1).1 else 0
structure PL (h:Heap) (T:Nat->List Int) (w:Z7) (r:Int) (i0:Nat) (w':Z7) (a:Int):Prop where
 b:4096<=a
 q:w'.Q=w.Q++[a]
 n:w'.rep.copied+w'.rep.kept=w.rep.copied+w.rep.kept+1
 o:w'.old=w.old
 l:w'.j.W.length=w.j.W.length
 s:((h.P.getD i0 La).K=2\/0<(h.P.getD i0 La).N)↔a=r
 e:a-4096+Zl h.W r<w.j.W.length
 f:a=r->w'.j.W=w.j.W
 c:a≠r->ZG (Z1 w'.j.W r).1=(a,Lb)
 t:∀j x,x∈T j->x≠r->a≠x/\Z1 w'.j.W x=Z1 w.j.W x
 x:∀k,0<=k->k<=Zl h.W r->(Z1 w'.j.W (a+k)).1=(Z1 w.j.W (r+k)).1
section
variable{h:Heap}{T tq:Nat->List Int}{w:Z7}(g:Gd h T)(m:MI h T w)(k:KI h T tq w)(d:Bb w)(f:MV h)
include g m k d f
theorem ZdE{r:Int}{l}(y:r∈T l)(a7:CM h.W r≠0)(hq:r∉w.Q)(ht:(ZG (Z1 w.j.W r).1).2=Lc) :(w.fwd r).2.2=0/\PL h T w r l (w.fwd r).1 (w.fwd r).2.1:=by
 have ho:r∈w.old:=(k.old r).2 ⟨l,y,a7⟩;have b6:=g.inw y;have on:=g.on y;have b7:=Bq h.W r;have he:(Z1 w.j.W r).1=(Z1 h.W r).1:=by(rcases k.hd l r y with q|q;exact q;rw[q.1]at ht;cases ht)
 have b2:Zl w.j.W r=Zl h.W r:=(El he).2.1;have nt:=k.nt g y;have pg:=k.pg l nt;have wl:=k.wl;have c1:¬ (r=0\/r∈w.Q):=by(rintro(q|q);omega;exact hq q)
 have s:Z4 w.j.C r=((l:Int),r-ZE h l,0):=by rw[k.c];exact g.ofx y
 have a0:CN w r=l:=by rw[CN,s];simp
 by_cases c4:ZJ w (Z4 w.j.C r).1=Lb;have ef:w.fwd r=(w.keep r,r,0):=by rw[Z7.fwd,if_neg c1,if_neg (by simpa using ho),if_neg (by rw[ht];simp),if_neg (by rw[s];simp),if_pos c4]
 rw[ef];show(0:Int)=0/\PL h T w r l (w.keep r) r;have hs:(h.P.getD l La).K=2\/0<(h.P.getD l La).N:=by
  rw[s]at c4;simp only[ZJ,decide_eq_true_eq,LL]at c4;have k1:(h.P.getD l La).K=1:=by rw[<-pg.1];exact c4.2.2.1
  have:=m.m5 l on.1 k1;by_cases q:0<(h.P.getD l La).N;exact .inr q;exact absurd (this.2 q) c4.2.2.2.1
 exact⟨rfl,by omega,rfl,by simp only[Z7.keep];omega,rfl,rfl,⟨λ_=>rfl,λ_=>hs⟩,by omega,λ_=>rfl,λq=>absurd rfl q,λj x _ o=>⟨λq=>o q.symm,rfl⟩,λ_ _ _=>rfl⟩;by_cases c5:(w.j.P.getD (CN w r) La).K=2;have ef:w.fwd r=((w.flip (CN w r)).keep r,r,0):=by rw[Z7.fwd,if_neg c1,if_neg (by simpa using ho),if_neg (by rw[ht];simp),if_neg (by rw[s];simp),if_neg c4,if_pos c5]
 rw[ef];show(0:Int)=0/\PL h T w r l ((w.flip (CN w r)).keep r) r;have hs:(h.P.getD l La).K=2\/0<(h.P.getD l La).N:=by(rw[a0,pg.1]at c5;exact .inl c5)
 exact⟨rfl,by omega,rfl,by simp only[Z7.keep,Z7.flip];omega,rfl,rfl,⟨λ_=>rfl,λ_=>hs⟩,by omega,λ_=>rfl,λq=>absurd rfl q,λj x _ o=>⟨λq=>o q.symm,rfl⟩,λ_ _ _=>rfl⟩;have k1:(h.P.getD l La).K=1:=by(have:=on.2.1;rw[a0]at c5;rw[<-pg.1]at this⊢;omega)
 have a3:=m.unp k s nt on.1 k1 c4;have v:=m.room g k d f y k1 a3 ht rfl;have a8:=H7 w r;have ef:w.fwd r=((w.place (Zl w.j.W r+1)).1.copy r (w.place (Zl w.j.W r+1)).2.1 (Zl w.j.W r+1),(w.place (Zl w.j.W r+1)).2.1,0):=by(rw[Z7.fwd,if_neg c1,if_neg (by simpa using ho),if_neg (by rw[ht];simp),if_neg (by rw[s];simp),if_neg c4,if_neg c5,a8,if_neg (by rw[v];simp)])
 rw[ef];show(0:Int)=0/\PL h T w r l ((w.place (Zl w.j.W r+1)).1.copy r (w.place (Zl w.j.W r+1)).2.1 (Zl w.j.W r+1)) (w.place (Zl w.j.W r+1)).2.1;have po:=B5 g.p;have b9:=(g.t1 l on.1 k1).2 r y;have c0:=Sj po.1;have b4:=BJ.1 po.1;obtain⟨i,p,t,p1,p2,p3,p4,p5,p6,p7,e⟩:=TC d ⟨by omega,by rw[k.c];omega⟩ v;have a5:=k.c;have b8:=k.pl;have a2:(h.P.getD i La).K=0:=by(rcases p2 with q|q;by_cases c:(i:Int)∈w.T;exact(k.tk i c).2.1;rw[<-(k.pg i c).1];exact q.1;exact(k.tk i q.1).2.1)
 have a6:=EY (i:=i) (j:=h.C.pg) (pw:=h.C.pw) oq oq;rw[L5 h.C.pg]at a6;have b5:0<=(i:Int)*h.C.pw:=LY oq oq;rw[a5]at p5 p7;have a4:4096+(i:Int)*h.C.pw=ZE h i:=rfl;rw[e,p7,a4];generalize hu:C5 (w.j.P.getD i La)=u at *;generalize ha:ZE h i+u=a;have b3:4096<=a/\a+(Zl w.j.W r+1)<=4096+w.j.W.length:=by omega
 have a1:∀j x,x∈T j->x+Zl h.W x<ZE h i\/ZE h i+h.C.pw<=x:=by(intro j x y;have:=g.free (show i<h.P.length by omega) (Or.inl a2) y;rw[C5,if_pos a2]at this;omega)
 have b1:=a1 l r y;obtain⟨m1,m2,m3⟩:=So (ws:=w.j.W) (a:=a) (b:=r) (n:=Zl w.j.W r+1) oq oq oq;have z:4096<=r/\r<4096+(moveA w.j.W a r (Zl w.j.W r+1)).1.length:=by omega
 have o:a≠r:=by omega
 refine⟨rfl,by omega,rfl,by simp only[Z7.copy];omega,rfl, ?_,⟨λq=>?_,λq=>absurd q o⟩,by omega,λq=>absurd q o,λ_=>?_,λj x a9 b0=>?_,λj j0 j1=>?_⟩;simp only[Z7.copy];rw[AA z,m1];rcases q with q|q;omega;exact absurd q a3;simp only[Z7.copy];rw[Rz z,ON oq oq];have fx:=a1 j x a9;have rx:=Bq h.W x;simp only[Z7.copy];exact⟨by omega,by rw[Gv z b0,m3 x oq]⟩;simp only[Z7.copy];rw[Gv z oq,Zeu oq oq oq]
end
theorem SZ(l:List Z0):Br Cd l=Cq l:=by
 rw[IX];unfold Cq;have:∀n,((Lf n).map λi=>Cd (l.getD i La)).sum=EI l n:=by
  intro n;induction n with|zero=>simp[EI]|succ n ih =>grind[MM,L2,EI,Cd]
 exact this _
def ZaM{pw:Int}:∀{l:List Z0},(∀p∈l,Cl p+GL p*pw<=Cd p*pw)->Br Cl l+Br GL l*pw<=Br Cd l*pw
 |[],_=>by simp[Br]
 |x::l,h=>by
  have a:=ZaM (l:=l) λp c=>h p (Lp _ c);have b:=h x pq;simp only[Br,Ls,Lv,Int.add_mul]at a b⊢;omega
def Z69{h:Heap}(b:Z9 h=Lb):0<=Br Cl h.P:=A7 λp c=>by
 obtain⟨j,a,rfl⟩:=LZ c;have pp:=Ew b a;grind[Cl]
def ZfE l:0<=Br GL l:=A7 λp _=>by grind[GL]
def MV.few{h:Heap}(a:Z9 h=Lb)(b:(Cq h.P:Int)<=h.C.pg/4):MV h:=by
 have po:=B5 a;rw[<-SZ]at b;have u0:=Z69 a;have l0:=ZfE h.P;refine⟨?_,0,by omega,by omega⟩;have:=ZaM (pw:=h.C.pw) (l:=h.P) λp d=>by(obtain⟨j,c,rfl⟩:=LZ d;have pp:=Ew a c;grind[Cl,GL,Cd])
 have:=LQ b (show 0<=h.C.pw by omega);omega
def MV.same{h h':Heap}(m:MV h)(c:h'.C=h.C)(hl:h'.P.length=h.P.length)(hk:∀i,i<h.P.length->(h'.P.getD i La).K=(h.P.getD i La).K/\(h'.P.getD i La).U=(h.P.getD i La).U):MV h':=by
 have a:Br Cl h'.P=Br Cl h.P:=Su Cl hl λi d=>by grind[Cl]
 have e:Br Cd h'.P=Br Cd h.P:=Su Cd hl λi d=>by grind[Cd]
 have b:Br GL h'.P=Br GL h.P:=Su GL hl λi d=>by grind[GL]
 refine⟨by rw[a,b,c];exact m.v, ?_⟩;rw[a,e,b,c];exact m.n
def Z6D{l m:List Z0}{i:Nat}(h:i+m.length<=l.length):∀k,k<=m.length->Br Cd (wr l m i k)<=Br Cd l+k
 |0,_=>by rw[Du];simp
 |k+1,hk=>by
  have ih:=Z6D h k oq;have e:=TU h oq (La:Z0) (k:=k);rw[<-e];have s:=M4 Cd (m.getD k La) (wr l m i k) (i+k) (by grind[IZ]);grind[Cd]
def Zng{l:List Z0}{i k:Nat}{p q:Z0}(hk:1<=k)(h:i+k<=l.length)(hq:q.K≠0):Br Cd (ZN l i k p q)<=Br Cd l+k:=by
 have a:i+(Lk k q).length<=l.length:=by grind
 have w:=Z6D a k pq;have s:=M4 Cd p (wr l (Lk k q) i k) i (by grind[IZ]);grind[D2,Cd,ZN]
def Zkg{h:Heap}{hd:Zy}(hp:Z9 h=Lb)(hc:(Cw h hd).2.2=Lb):(Cq (Cw h hd).1.P:Int)<=h.C.pg/4:=by
 have po:=B5 hp;have hv:=BJ.1 po.1;have li:E9 h.C=h.C.pg/4:=by grind[E9]
 unfold Cw at hc⊢;split at hc
 .rename_i c;rw[if_pos c];unfold BG at hc⊢;split at hc
  .rename_i c2;rw[if_pos c2];have ff:=Io c2.1;rw[<-SZ];simp only;have e:(GZ h.C h.P (first h.P (need h.C (Z5 hd))) h.S (Z5 hd)).1=ZN h.P (first h.P (need h.C (Z5 hd))).toNat (need h.C (Z5 hd)).toNat ⟨2,h.S,Z5 hd,0⟩ ⟨3,h.S,0,0⟩:=by grind[GZ,EQ]
   rw[e];have:=Zng (l:=h.P) (i:=(first h.P (need h.C (Z5 hd))).toNat) (k:=(need h.C (Z5 hd)).toNat) (p:=⟨2,h.S,Z5 hd,0⟩) (q:=⟨3,h.S,0,0⟩) oq oq pq;grind[SZ]
  .simp at hc
 .rename_i c;rw[if_neg c];unfold Bm at hc⊢;split at hc
  .rename_i c2;rw[if_pos c2];rw[<-SZ];simp only;have e:Br Cd (Cx h.P h.B.toNat (Z5 hd))=Br Cd h.P:=Su Cd (by simp[Cx]) λi hi=>by
    rw[Sy];by_cases hb:h.B.toNat<h.P.length
    .rw[Cr hb];split
     .rename_i q;rw[<-q];rfl
     .rfl
    grind
   rw[e,SZ];have:=c2.2.2.2;omega
  .rename_i c2;rw[if_neg c2];split at hc
   .rename_i c3;rw[if_pos c3];obtain⟨g1,g2,g3⟩:=Aw po.2.2.2.2.2.2.2.2 c3.1 (Z5 hd);rw[<-SZ];simp only;rw[g1];have s:=M4 Cd ⟨1,h.S,Z5 hd,0⟩ h.P (first h.P 1).toNat g3;grind[Cd,SZ]
   .simp at hc
def MV.put{w:Zn}(m:MV w.j)(b:Zw w.j.W){hd:Zy}(a:0<=hd.map/\hd.map<=4294967295):MV (w.put hd).j:=by unfold Zn.put;split;rename_i e;obtain⟨k1,k2,c,d,k5,g,h,k8⟩:=Z44 b a e;have f:=Zkg k1 d;refine MV.few h ?_;rw[g];simp only;rw[c.c];exact f;exact m
def MV.setf{h}{a i v:Int}(m:MV h)(c:Zw h.W)(b:0<=v/\v<=18446744073709551615)(e:(Zv h a).2=0)(hi:0<=i/\i<(Zv h a).1.length):MV (Eb h a i v).1:=by obtain⟨s1,s2,s3⟩:=Z2p c b (a:=a) (i:=i) e hi;rw[s1];exact m.same rfl rfl λ_ _=>⟨rfl,rfl⟩
def MV.link{w:Zn}{n}(m:MV w.j)(b:C6 w n)(d:n<=1000000) t:MV (w.link t).j:=by
 unfold Zn.link;split;rename_i a;have f:=b.wm d;have g:=GV (w.pickT (w.pickT t)) (n:=8) dd;have gg:=Iu a.1;have c:0<=HA w t/\HA w t<(Zv w.j (w.pick t)).1.length:=by(unfold HA;rw[L6 g.1];exact⟨Int.emod_nonneg _ oq,Int.emod_lt_of_pos _ oq⟩)
 have e:0<=HL w t/\HL w t<=18446744073709551615:=by(unfold HL;split;exact D7 f _;have:=GV ((w.pickT (w.pickT t)).step 8) (n:=1048576) dd;omega)
 exact m.setf b.W e a.1 c;exact m
def MV.pinB{w:Zn}(m:MV w.j) i d:MV (Go.Proofs.YtgedmeaemofdkaaGreat.pinB w i d).j:=by refine m.same rfl (by simp[Go.Proofs.YtgedmeaemofdkaaGreat.pinB]) λj hj=>?_;simp only[Go.Proofs.YtgedmeaemofdkaaGreat.pinB];by_cases a:i<w.j.P.length;rw[Cr a];split;rename_i q;subst q;exact⟨rfl,rfl⟩;exact⟨rfl,rfl⟩;rw[List.set_eq_of_length_le oq];exact⟨rfl,rfl⟩
def MV.pin{w:Zn}(m:MV w.j) t:MV (w.pin t).j:=by
 unfold Zn.pin;repeat' split
 exact m.pinB _ _;exact m.pinB _ _;all_goals omega
def MV.drop{w:Zn}(m:MV w.j) t:MV (w.drop t).j:=by grind[Zn.drop]
def MI.in1{h T u}(g:Gd h T){w}(m:MI h T w)(k:KI h T u w)(t:MV h)(d:Bb w)(hi:BA w){q j:Int}(f:q∈w.Q)(hj:0<=j/\j<Zl w.j.W q)(e:(w.fwd (Z1 w.j.W (q+1+j)).1).2.2=0):MI h T (w.in1 (q+1+j)):=by
 obtain⟨v,s⟩:=k.fwd g d hi _ e;have a:=m.fwd g k d t hi e;obtain⟨r,l⟩:=NG d hi _ e;have b:=l.q q f;have o:=l.l q f;have hr:=r.r q (Li _ b);have c:4096<=q+1+j/\q+1+j<4096+(w.fwd (Z1 w.j.W (q+1+j)).1).1.j.W.length:=by omega
 obtain⟨n,f2,f3⟩:=s.field g b (j:=j) oq;have er:HW h T (w.in1 (q+1+j))<=HW h T (w.fwd (Z1 w.j.W (q+1+j)).1).1:=by(refine N5 λi _=>?_;unfold Nr;split;refine N5 λx p=>?_;unfold wtW;rw[show(w.in1 (q+1+j)).j.W=(BS (w.fwd (Z1 w.j.W (q+1+j)).1).1.j.W (q+1+j) (w.fwd (Z1 w.j.W (q+1+j)).1).2.1).1 from rfl,Gv c (n i x p)];omega;omega)
 have m3:=a.m3;exact⟨a.m0,a.m1,a.m2,by show Br Cl (w.fwd (Z1 w.j.W (q+1+j)).1).1.j.P+_<=_;omega,a.m4,a.m5⟩
def Zjy{h T}(g:Gd h T)(l:MV h){s}(a:Zw h.W)(e:(rootsF (Zr h) s).2.2=0)(o:(Bz (rootsF (Zr h) s).1).2=0):(∃c,KI h T c (ZA h s))/\MI h T (ZA h s):=
 PN (λw=>(∃c,KI h T c w)/\MI h T w) (λw r a b ⟨⟨_,k⟩,m⟩ e=>⟨k.fwd g a b r e,m.fwd g k a l b e⟩) (λw q j a b ⟨⟨_,k⟩,m⟩ i d f e=>⟨k.in1 g a b i ⟨d,f⟩ e,m.in1 g k l a b i ⟨d,f⟩ e⟩)
  (λw n ⟨⟨c,k⟩,m⟩=>⟨⟨c,k.c,k.sp,k.old,k.pl,k.wl,k.pg,k.tk,k.tk0,k.q,k.hd,k.dt,k.lg⟩,⟨m.m0,m.m1,m.m2,m.m3,m.m4,m.m5⟩⟩) a g.p ⟨⟨_,KI.begin g⟩,MI.begin g⟩ e o
def M5{α:Type}{f g:α->Int}:∀l:List α,(l.map λx=>f x+g x).sum=(l.map f).sum+(l.map g).sum
 |[]=>by simp
 |x::l=>by
  simp only[Ls,Lv,M5 l];omega
def crP(p:Z0):Int:=if p.K=1/\0<p.N then 1 else 0
def Znd(l:List Z0):Br crP l=crowd l:=by
 rw[IX];unfold crowd;have:∀n,((Lf n).map λi=>crP (l.getD i La)).sum=Bu l n:=by
  intro n;induction n with|zero=>simp[Bu]|succ n ih =>grind[L2,Bu,crP]
 exact this _
def PI{f}{q:Z0->Z0}(l:List Z0):Br f (l.map q)=((Lf l.length).map λi=>f (q (l.getD i La))).sum:=by grind[IX,List.map_congr_left]
def MI.end{h T tq}(g:Gd h T){w}(m:MI h T w)(k:KI h T tq w)(mv:MV h)(o:Bb w)(ts:∀x∈w.T,(w.j.P.getD x.toNat La).S=1-w.j.S){h':Heap}(s:h'.C=h.C)(j:h'.P=w.j.P.map (BU w.j.S)):MV h':=by
 have n:=m.m0.1;have sp:=o.sp;have po:=B5 g.p;have e:∀i,i<h.P.length->((i:Int)∈w.T/\(h.P.getD i La).K=0/\(w.j.P.getD i La).K=1/\(w.j.P.getD i La).S=1-w.j.S)\/((w.j.P.getD i La).K=(h.P.getD i La).K/\(w.j.P.getD i La).U=(h.P.getD i La).U/\((h.P.getD i La).K=1->((w.j.P.getD i La).S=w.j.S↔¬ 0<(h.P.getD i La).N))):=by(intro i d;by_cases c:(i:Int)∈w.T;have t:=k.tk i c;grind;have q:=k.pg i c;exact Or.inr ⟨q.1,q.2.1,m.m5 i d⟩)
 have l:∀i,i<h.P.length->0<=(w.j.P.getD i La).U/\0<=(h.P.getD i La).U:=λi d=>by(have a:=o.us i oq;have b:=Ew g.p d;omega)
 have q0:(⟨0,0,0,0⟩:Z0).K=0:=rfl;have e1:Br Cl h'.P+Br unP h.P<=Br Cl w.j.P:=by(rw[j,PI,IX unP,IX Cl,<-n,<-M5];refine N5 λi d=>?_;have d:=Lj.1 d;have p:=e i oq;have u:=l i oq;by_cases f:CH w.j.S (w.j.P.getD i La);grind[BU,CH,Cl,unP];grind[BU,CH,unP])
 have e2:Br Cl w.j.P<=Br Cl h'.P+Br Cl h.P:=by(rw[j,PI,IX Cl h.P,IX Cl,<-n,<-M5];refine N5 λi d=>?_;have d:=Lj.1 d;have p:=e i oq;have u:=l i oq;by_cases f:CH w.j.S (w.j.P.getD i La);grind[BU,CH,Cl];grind[BU,Cl])
 have e3:Br GL h'.P<=Br GL h.P:=by(rw[j,PI,IX GL h.P,<-n];refine N5 λi d=>?_;have d:=Lj.1 d;have p:=e i oq;by_cases f:CH w.j.S (w.j.P.getD i La);rw[BU,if_pos f];unfold CH at f;unfold GL;omega;rw[BU,if_neg f];unfold CH at f;grind[GL])
 have e4:Br Cd h'.P+Br Cd h.P<=Br Cd w.j.P+(Br GL h'.P+Br crP h.P):=by
  rw[j,PI,PI,IX Cd h.P,IX Cd,IX crP,<-n,<-M5,<-M5,<-M5];refine N5 λi d=>?_;have d:=Lj.1 d;have p:=e i oq;have kr:0<=(h.P.getD i La).K/\(h.P.getD i La).K<=3:=by(have:=Ew g.p (show i<h.P.length by omega);omega)
  by_cases f:CH w.j.S (w.j.P.getD i La);rw[BU,if_pos f];grind[CH,Cd,GL,crP];rw[BU,if_neg f];unfold CH at f;unfold Cd GL crP;omega
 have cr:=g.cr;rw[<-Znd]at cr;have m1:=m.m1;have m3:=m.m3;have m4:=m.m4;have r:=ZfA h T w;have v:=mv.v;have u0:=Z69 g.p;have y:0<=h.C.pw:=by omega
 refine⟨?_,w.T.length,by rw[s];omega, ?_⟩;rw[s];have:=LQ e3 y;omega;rw[s];by_cases z:0<w.T.length;have m2:=m.m2 z;have:=o.us (ZH w).toNat (by have:=o.tk _ (Ha z);omega);omega;grind
def MV.collectF{B:Int}(hB:0<=B){h:Heap}{T:Nat->List Int}(g:Gd h T)(mv:MV h){s k:List Int}(hw:Zw h.W)(hb:∀p∈h.P,p.N<=B)(hs:Gr h T s)(hk:Gr h T k)(e:(Go.Proofs.YtgedmeaemofdkaaGreat.collectF h s k).2.2.2.2=0):MV (Go.Proofs.YtgedmeaemofdkaaGreat.collectF h s k).1:=by
 have hp:=g.p;have hr:=g.refers hs;have hr':=g.refers hk;by_cases e1:(rootsF (Zr h) s).2.2=0
 .by_cases e2:(Bz (rootsF (Zr h) s).1).2=0
  .have e7:Go.Proofs.YtgedmeaemofdkaaGreat.collectF h s k=(Em (Bs h s k),(rootsF (Zr h) s).2.1,Ev (ZA h s) k k.length,(Bs h s k).rep,0):=by rw[Go.Proofs.YtgedmeaemofdkaaGreat.collectF,if_pos hp,if_pos ⟨hr,hr'⟩,if_pos e1,if_pos e2]
   rw[e7];have ck:=cOk h s k hw hp e1 e2;obtain⟨g1,g2,g3,g4,g5⟩:=ck.h4;have pr:=Z40 hB hw hp hb e1 e2;obtain⟨⟨tq,ki⟩,mi⟩:=Zjy g mv hw e1 e2;refine mi.end g ki mv ck.w2 pr.tab.tk (h':=Em (Bs h s k)) ?_ ?_;all_goals grind[Em,Bs,H4]
  .rw[Go.Proofs.YtgedmeaemofdkaaGreat.collectF,if_pos hp,if_pos ⟨hr,hr'⟩,if_pos e1,if_neg e2]at e;exact absurd e e2
 .rw[Go.Proofs.YtgedmeaemofdkaaGreat.collectF,if_pos hp,if_pos ⟨hr,hr'⟩,if_neg e1]at e;exact absurd e e1
def MV.collect{w:Zn}{n}(m:MV w.j)(h:WG w)(a:C6 w n):MV w.collect.j:=by unfold Zn.collect;split;rename_i e;obtain⟨T,g,b,c⟩:=h;exact MV.collectF (B:=n) oq g m a.W (λp d=>(a.pin_mem p d).2) b c e;exact m
def MV.step{w:Zn}{n}(m:MV w.j)(h:WG w)(a:C6 w n)(b:n<=1000000) t:MV (w.step t).j:=by
 unfold Zn.step;repeat' split
 exact m.put a.W (Z0B _ _);exact m.link a b _;exact m.pin _;exact m.drop _;exact m.collect h a;exact m
def Z9h{w:Zn}{n}(m:MV w.j)(h:WG w)(a:C6 w n) t:∀k,n+k<=1000000->MV (Gj w t k).1.j|0,_=>m|k+1,hk=>(Z9h m h a t k oq).step (Z2u h a t k oq) (DZ a t k oq) oq _
def Tb l:MV (Zz l).j:=by
 have e:=Z0O l;have hl:(((ET l).step 4).step 5).l.length<=300:=by grind
 have hk:=Ti (ET l).empty (((ET l).step 4).step 5) oq;obtain⟨_,ge,_⟩:=Z3c (ET l);have a:=ge.p;refine Z9h (MV.few a ?_) (Z3c (ET l)) (Z1g (ET l)) _ _ oq;have hv:=BJ.1 (B5 a).1;have z:Br Cd (ET l).empty.j.P=0:=by simp[Br,Tape.empty,Ix,Cd]
 grind[SZ]
def Z3O{w}(h:(Z8 w).2=Lb):(ZG w).2=Lc:=by unfold Z8 at h;split at h;rename_i c;unfold Zx at c;split at c;simp only at c;unfold ZG;rw[if_neg oq];simp at c;cases h
structure OnW (h:Heap) (T:Nat->List Int) (w:Z7):Prop where
 c:Gg h T w
 m:MI h T w
 q:∀y∈w.old,CY w y≠0->CY w y∈w.Q
 z:∀y∈w.old,CY w y=0->y∉w.Q/\(ZG (Z1 w.j.W y).1).2=Lc
 n:w.rep.copied+w.rep.kept=w.Q.length
def Z2s{h T}(g:Gd h T){y:Int}(b:y∈(Zr h).old):CY (Zr h) y=0/\(ZG (Z1 h.W y).1).2=Lc:=by obtain⟨i,a,hk⟩:=((KI.begin g).old y).1 b;have t:=Z3O (g.on a).2.2.2.2.2.1;refine⟨?_,t⟩;unfold CY;rw[if_neg (by simp[Zr]),if_neg (by show¬ (ZG (Z1 h.W y).1).2=Lb;rw[t];simp)]
def OnW.begin{h T}(g:Gd h T)(b:Zw h.W):OnW h T (Zr h):=
 ⟨Gg.begin g b,MI.begin g,λy a q=>absurd (Z2s g a).1 q,λy a _=>⟨by simp[Zr],(Z2s g a).2⟩,rfl⟩
section
variable{h:Heap}{T:Nat->List Int}{w:Z7}(o:OnW h T w)(g:Gd h T)(mv:MV h){r:Int}(hr:r∈w.old)
include o g mv hr
theorem OnW.new(hs:CY w r=0):∃i0,r∈T i0/\(w.fwd r).2.2=0/\PL h T w r i0 (w.fwd r).1 (w.fwd r).2.1:=by
 obtain⟨tq,k⟩:=o.c.k;obtain⟨i0,hx,hk⟩:=(k.old r).1 hr;have z:=o.z r hr hs;exact⟨i0,hx,ZdE g o.m k o.c.ok mv hx hk z.1 z.2⟩
theorem OnW.same(hs:CY w r≠0):w.fwd r=(w,CY w r,0):=by
 unfold Z7.fwd CY at *;split at hs;rename_i q;rw[if_pos (.inr q),if_pos q];rename_i q;split at hs;rename_i a;obtain⟨tq,k⟩:=o.c.k;obtain⟨i0,b,hk⟩:=(k.old r).1 hr;have:=g.inw b;have c:¬ (r=0\/r∈w.Q):=by(rintro(c|c);omega;exact q c)
 rw[if_neg c,if_neg (by simpa using hr),if_pos a,if_neg q,if_pos a];exact absurd rfl hs
theorem OnW.seen:(w.fwd r).2.1≠0/\CY (w.fwd r).1 r=(w.fwd r).2.1/\(∀y∈w.old,y≠r->CY (w.fwd r).1 y=CY w y)/\(w.fwd r).1.old=w.old /\ ((w.fwd r).1.Q.length:Int)=w.Q.length+(if CY w r=0 then 1 else 0):=by
 by_cases a:CY w r=0;obtain⟨i0,hx,e,N⟩:=o.new g mv hr a;have z:=o.z r hr a;have b:=N.b;obtain⟨tq,k⟩:=o.c.k;refine⟨by omega, ?_,λy i d=>?_,N.o,by rw[if_pos a,N.q];simp⟩;unfold CY;rw[N.q];by_cases q:(w.fwd r).2.1=r;rw[if_pos (by rw[q];simp)];exact q.symm;rw[if_neg (by simp only[Lt,Lu];rintro(c|c);exact z.1 c;exact q c.symm),N.c q];simp;obtain⟨j,f,_⟩:=(k.old y).1 i;have t:=N.t j y f d;unfold CY;rw[N.q,t.2];have:(y∈w.Q++[(w.fwd r).2.1])↔y∈w.Q:=by(simp only[Lt,Lu];exact⟨λc=>c.elim id λc=>absurd c.symm t.1,.inl⟩)
 simp only[this];rw[o.same g mv hr a];exact⟨a,rfl,λ_ _ _=>rfl,rfl,by rw[if_neg a];simp⟩
theorem OnW.fwd:OnW h T (w.fwd r).1:=by by_cases f:CY w r=0;obtain⟨i0,hx,e,N⟩:=o.new g mv hr f;obtain⟨s1,i,l,m,s5⟩:=o.seen g mv hr;obtain⟨tq,k⟩:=o.c.k;refine⟨o.c.fwd g e,o.m.fwd g k o.c.ok mv o.c.inv e,λy a b=>?_,λy a d=>?_,by rw[N.n,o.n,N.q];simp⟩;rw[m]at a;rw[N.q];by_cases q:y=r;subst q;rw[i];simp;rw[l y a q]at b⊢;exact Ly _ (o.q y a b);rw[m]at a;by_cases q:y=r;subst q;rw[i]at d;exact absurd d s1;rw[l y a q]at d;have z:=o.z y a d;obtain⟨j,n,_⟩:=(k.old y).1 a;have t:=N.t j y n q;rw[N.q,t.2];refine⟨?_,z.2⟩;simp only[Lt,Lu];rintro(c|c);exact z.1 c;exact t.1 c.symm;rw[o.same g mv hr f];exact o
end
def AF(w:Z7):Prop:=∀x∈w.old++w.Q,(ZG (Z1 w.j.W x).1).2=Lc->∀j,0<=j->j<Zl w.j.W x->Ba (ZR w.j.W x) j=Lb->(Z1 w.j.W (x+1+j)).1=0\/(Z1 w.j.W (x+1+j)).1∈w.old++w.Q
structure SW (h:Heap) (T:Nat->List Int) (w:Z7):Prop where
 o:OnW h T w
 a:AF w
def SW.begin{h T}(g:Gd h T)(n:Zw h.W):SW h T (Zr h):=by
 refine⟨OnW.begin g n,λx o ht j b c m=>?_⟩;have a:x∈(Zr h).old:=by simpa[Zr]using o
 obtain⟨i,f,l⟩:=((KI.begin g).old x).1 a;refine(g.q i x j f l b c m).imp id λ⟨k,d,e⟩=>?_;exact Ly _ (((KI.begin g).old _).2 ⟨k,d,e⟩)
section
variable{h:Heap}{T:Nat->List Int}{w:Z7}(s:SW h T w)(g:Gd h T)(d:MV h)
include s g d
theorem SW.fwd{r:Int}(a:r=0\/r∈w.Q\/r∈w.old):(w.fwd r).2.2=0/\SW h T (w.fwd r).1/\Rs (w.fwd r).1 (w.fwd r).2.1:=by
 by_cases c1:r=0\/r∈w.Q;rw[Z7.fwd,if_pos c1];exact⟨rfl,s,c1⟩;have a:r∈w.old:=(a.resolve_left λq=>c1 (.inl q)).resolve_left λq=>c1 (.inr q);by_cases o:CY w r=0;obtain⟨i0,hx,e,N⟩:=s.o.new g d a o;refine⟨e,⟨s.o.fwd g d a, ?_⟩,Or.inr (by rw[N.q];simp)⟩;obtain⟨tq,k⟩:=s.o.c.k;have z:=s.o.z r a o;have b:=(NJ s.o.c.ok s.o.c.inv r e).2.2;have he:(Z1 w.j.W r).1=(Z1 h.W r).1:=by(rcases k.hd i0 r hx with q|q;exact q;rw[q.1]at z;cases z.2)
 have a0:Zl w.j.W r=Zl h.W r:=(El he).2.1;intro x y p j h0 m n;rw[N.o,N.q]at y⊢;have more:∀v,v∈w.old++w.Q->v∈w.old++(w.Q++[(w.fwd r).2.1]):=λv hv=>by(rw[<-L7];exact Ly _ hv)
 by_cases t:x=(w.fwd r).2.1;have f:=N.x 0 oq (Bq _ _).1;simp only[Lw]at f;have l:ZR (w.fwd r).1.j.W x=ZR w.j.W r:=by rw[ZR,t,f];rfl
 have el:Zl (w.fwd r).1.j.W x=Zl w.j.W r:=congrArg Zy.length l;rw[l]at n;rw[el]at m;have i:=N.x (1+j) oq oq;rw[<-LF,<-LF,<-t]at i;rw[i];exact(s.a r (Ly _ a) z.2 j h0 m n).imp id (more _);have c:x∈w.old++w.Q:=by(simp only[Lt,Lu]at y⊢;rcases y with q|q|q;exact .inl q;exact .inr q;exact absurd q t)
 by_cases u:x=r;exfalso;have:=N.c λq=>t (u.trans q.symm);rw[u,this]at p;cases p;have f:=b x c (.inr u) 0 oq (Bq _ _).1;rw[Lw]at f;have l:ZR (w.fwd r).1.j.W x=ZR w.j.W x:=by rw[ZR,ZR,f]
 have el:Zl (w.fwd r).1.j.W x=Zl w.j.W x:=congrArg Zy.length l;rw[l]at n;rw[el]at m;rw[f]at p;have i:=b x c (.inr u) (1+j) oq oq;rw[<-LF]at i;rw[i];exact(s.a x c p j h0 m n).imp id (more _);rw[s.o.same g d a o];exact⟨rfl,s,Or.inr (s.o.q r a o)⟩
omit g d in
theorem SW.dec(g:Gd h T){q:Int}(a:q∈w.Q):(ZG (Z1 w.j.W q).1).2=Lc:=Z3O (s.o.c.dec g a)
omit s g d in
theorem Zc0{w:Z7}{r}(e:(w.fwd r).2.2=0):r=0\/r∈w.Q\/r∈w.old:=by unfold Z7.fwd at e;split at e;rename_i c;exact c.imp id .inl;split at e;simp at e;rename_i c;exact .inr (.inr (LI.1 c))
theorem SW.in1{q j:Int}(t:q∈w.Q)(h0:0<=j)(h1:j<Zl w.j.W q)(e:(w.fwd (Z1 w.j.W (q+1+j)).1).2.2=0):SW h T (w.in1 (q+1+j))/\∀x∈w.Q,x∈(w.in1 (q+1+j)).Q/\ZR (w.in1 (q+1+j)).j.W x=ZR w.j.W x:=by
 obtain⟨_,s1,to⟩:=s.fwd g d (Zc0 e);have z:=s.o.c.ok;have iv:=s.o.c.inv;obtain⟨tq,k⟩:=s.o.c.k;obtain⟨i1,x1⟩:=NG z iv _ e;have m:=TM z iv _ e;have n:=x1.q q t;have a0:=x1.l q t;have hr:=i1.r q (Li _ n);have l:4096<=q+1+j/\q+1+j<4096+(w.fwd (Z1 w.j.W (q+1+j)).1).1.j.W.length:=by omega
 have v:∀x∈(w.fwd (Z1 w.j.W (q+1+j)).1).1.old++(w.fwd (Z1 w.j.W (q+1+j)).1).1.Q,∀i,0<=i->i<=Zl (w.fwd (Z1 w.j.W (q+1+j)).1).1.j.W x->x+i=q+1+j->x=q:=by(intro x f i a b c;have l1:=i1.s q (Li _ n) x f;have l2:=i1.s x f q (Li _ n);omega)
 have p:∀x∈(w.fwd (Z1 w.j.W (q+1+j)).1).1.old++(w.fwd (Z1 w.j.W (q+1+j)).1).1.Q,Z1 (w.in1 (q+1+j)).j.W x=Z1 (w.fwd (Z1 w.j.W (q+1+j)).1).1.j.W x:=by(intro x f;simp only[Z7.in1];rw[Gv l λc=>?_];have:=v x f 0 oq (Bq _ _).1 oq;omega)
 refine⟨⟨⟨s.o.c.in1 g t h0 h1 e,s.o.m.in1 g k d z iv t ⟨h0,h1⟩ e,λy o r=>?_,λy o hz=>?_,s1.o.n⟩, ?_⟩,λx f=>⟨m.mem f, ?_⟩⟩;have u:CY (w.in1 (q+1+j)) y=CY (w.fwd (Z1 w.j.W (q+1+j)).1).1 y:=by(unfold CY;rw[p y (Ly _ o)];rfl)
 rw[u]at r⊢;exact s1.o.q y o r;have u:CY (w.in1 (q+1+j)) y=CY (w.fwd (Z1 w.j.W (q+1+j)).1).1 y:=by(unfold CY;rw[p y (Ly _ o)];rfl)
 rw[u]at hz;rw[p y (Ly _ o)];exact s1.o.z y o hz;intro x f ht i a b hp;have f:x∈(w.fwd (Z1 w.j.W (q+1+j)).1).1.old++(w.fwd (Z1 w.j.W (q+1+j)).1).1.Q:=f;show _\/_∈(w.fwd (Z1 w.j.W (q+1+j)).1).1.old++(w.fwd (Z1 w.j.W (q+1+j)).1).1.Q;have e0:=p x f;have eh:ZR (w.in1 (q+1+j)).j.W x=ZR (w.fwd (Z1 w.j.W (q+1+j)).1).1.j.W x:=by rw[ZR,ZR,e0]
 have el:Zl (w.in1 (q+1+j)).j.W x=Zl (w.fwd (Z1 w.j.W (q+1+j)).1).1.j.W x:=congrArg Zy.length eh;rw[eh]at hp;rw[el]at b;rw[e0]at ht;by_cases c:x+1+i=q+1+j;have:(Z1 (w.in1 (q+1+j)).j.W (x+1+i)).1=(w.fwd (Z1 w.j.W (q+1+j)).1).2.1:=by(rw[c];simp only[Z7.in1];rw[Rz l])
 rw[this];exact to.imp id (Li _);have:Z1 (w.in1 (q+1+j)).j.W (x+1+i)=Z1 (w.fwd (Z1 w.j.W (q+1+j)).1).1.j.W (x+1+i):=by(simp only[Z7.in1];rw[Gv l c])
 rw[this];exact s1.a x f ht i a b hp;rw[ZR,p x (Li _ (m.mem f))];exact m.h x f
omit s g d in
theorem Z3x(h:Zy):∀n:Nat,∀x∈BK h n,Ba h x=Lb
 |0,x,hx=>by cases hx
 |n+1,x,hx=>by
  unfold BK at hx;split at hx
  .rename_i c;rcases Lt.1 hx with q|q
   .exact Z3x h n x q
   .rw[Lu.1 q];exact c
  .exact Z3x h n x hx
omit s g d in
theorem Tf(h:Zy):∀x∈Zj h,Ba h x=Lb:=by unfold Zj;split;exact Z3x h _;intro x a;cases a
theorem SW.inn{q:Int}(o:q∈w.Q){l:List Int}(hl:∀x∈l,(0<=x/\x<Zl w.j.W q)/\Ba (ZR w.j.W q) x=Lb):∀k,k<=l.length->(∀j,j<k->CQ w q l j=0)/\SW h T (Bg w q l k)/\q∈(Bg w q l k).Q/\ZR (Bg w q l k).j.W q=ZR w.j.W q
 |0,_=>⟨λj m=>absurd m (Lo j),s,o,rfl⟩
 |k+1,hk=>by
  obtain⟨r,f,b,i⟩:=SW.inn o hl k oq;have a:=hl _ (ZT.2 ⟨k,by omega,rfl⟩);have el:Zl (Bg w q l k).j.W q=Zl w.j.W q:=congrArg Zy.length i;have p:=f.a q (Li _ b) (f.dec g b) (l.getD k La) a.1.1 (by rw[el];exact a.1.2) (by rw[i];exact a.2);have e:CQ w q l k=0:=(f.fwd g d (p.imp id λc=>(Lt.1 c).symm)).1;have n:=f.in1 g d b a.1.1 (by rw[el];exact a.1.2) e;refine⟨λj m=>?_,n.1,(n.2 q b).1,(n.2 q b).2.trans i⟩;by_cases c:j=k
  .rw[c];exact e
  .exact r j oq
theorem SW.step:(B1 w).2.2=0/\SW h T (B1 w).1:=by
 by_cases e:w.D<w.Q.length;have o:=s.o.c.ok.sc;have n:C4 w∈w.Q:=ZT.2 ⟨w.D.toNat,by omega,rfl⟩;obtain⟨p,a,_,_⟩:=s.inn g d n (l:=Bh w) (λx f=>⟨R5 (ZB w (C4 w)) x f,Tf (ZB w (C4 w)) x f⟩) (Bh w).length (Ld _);have i:(Lf (Bh w).length).find? (λk=>Ln (CQ w (C4 w) (Bh w) k≠0))=Le:=LA.2 λj m=>by simp[p j (Lj.1 m)]
 have b:B1 w=(Hk (Bg w (C4 w) (Bh w) (Bh w).length) (Bh w).length,Lb,0):=by unfold B1;rw[if_pos e,i]
 have c:=s.o.c.step g (by rw[b]);rw[b]at c⊢;exact⟨rfl,⟨c,⟨a.o.m.m0,a.o.m.m1,a.o.m.m2,a.o.m.m3,a.o.m.m4,a.o.m.m5⟩,a.o.q,a.o.z,a.o.n⟩,a.a⟩;have b:B1 w=(w,Lc,0):=by rw[B1,if_neg e]
 rw[b];exact⟨rfl,s⟩
theorem SW.it:∀k,SW h T (BZ w k)|0=>s|k+1=>(SW.step (SW.it k) g d).2
theorem SW.all:(Bz w).2=0/\SW h T (Bz w).1:=by
 obtain⟨k,b⟩:=SE s.o.c.ok;have e:=(s.it g d k).step g d;have a:Bz w=((B1 (BZ w k)).1,0):=by rw[Bz,b];simp only[if_pos e.1]
 rw[a];exact⟨rfl,e.2⟩
end
section
variable{h:Heap}{T:Nat->List Int}(g:Gd h T)(a:MV h){s:List Int}(hs:∀r∈s,r=0\/Ob h T r)
include g a hs
theorem SW.rootsN(o:Zw h.W):∀k,k<=s.length->(∀j,j<k->Ea (Zr h) s j=0)/\SW h T (Go.Proofs.YtgedmeaemofdkaaGreat.rootsN (Zr h) s k).1/\∀i,i<k->Rs (Go.Proofs.YtgedmeaemofdkaaGreat.rootsN (Zr h) s k).1 ((Go.Proofs.YtgedmeaemofdkaaGreat.rootsN (Zr h) s k).2.getD i La)/\((Go.Proofs.YtgedmeaemofdkaaGreat.rootsN (Zr h) s k).2.getD i La=0↔s.getD i La=0)
 |0,_=>⟨λj n=>absurd n (Lo j),SW.begin g o,λi m=>absurd m (Lo i)⟩
 |k+1,hk=>by
  obtain⟨u,d,v⟩:=SW.rootsN o k oq;have f:=hs _ (ZT.2 ⟨k,by omega,rfl⟩);obtain⟨tq,p⟩:=d.o.c.k;have b:s.getD k La=0\/s.getD k La∈(Go.Proofs.YtgedmeaemofdkaaGreat.rootsN (Zr h) s k).1.Q\/s.getD k La∈(Go.Proofs.YtgedmeaemofdkaaGreat.rootsN (Zr h) s k).1.old:=f.imp id λq=>.inr ((p.old _).2 q);obtain⟨e,r,l⟩:=d.fwd g a b;have w:=TM d.o.c.ok d.o.c.inv _ e;have t:=Na (Zr h) s k;refine⟨λj n=>?_,r,λi m=>?_⟩
  .by_cases q:j=k
   .rw[q];exact e
   .exact u j oq
  .simp only[Go.Proofs.YtgedmeaemofdkaaGreat.rootsN,Lh];by_cases q:i=k
   .subst q;rw[L9 oq,t];simp only[Xf,List.getElem?_cons_zero,Lz];simp only[Lh]at f b l;refine⟨l,λc=>?_,λc=>?_⟩
    .rcases f with q|q
     .exact q
     .have:=(d.o.seen g a ((p.old _).2 q)).1;exact absurd c this
    .rw[c,Z7.fwd,if_pos (.inl rfl)]
   .rw[L8 oq];have:=v i oq;simp only[Lh]at this;exact⟨w.to this.1,this.2⟩
theorem SW.roots(c:Zw h.W):rootsF (Zr h) s=((Go.Proofs.YtgedmeaemofdkaaGreat.rootsN (Zr h) s s.length).1,(Go.Proofs.YtgedmeaemofdkaaGreat.rootsN (Zr h) s s.length).2,0)/\SW h T (rootsF (Zr h) s).1:=by
 obtain⟨d,f,i3⟩:=SW.rootsN g a hs c s.length (Ld _);have e:rootsF (Zr h) s=((Go.Proofs.YtgedmeaemofdkaaGreat.rootsN (Zr h) s s.length).1,(Go.Proofs.YtgedmeaemofdkaaGreat.rootsN (Zr h) s s.length).2,0):=by(unfold rootsF;rw[LA.2 λj b=>by simp[d j (Lj.1 b)]])
 rw[e];exact⟨rfl,f⟩
end
def P6{ρ w Im v}(s:Nat)(h:Zk ρ w Im (.d (.sl 0 [])) v):Zk ρ w Im (.d (.sl s [])) v:=by
 cases h with
 |d h =>
  cases h with|slNil=>exact .d (.slNil _ _ _)|sl _ _ p n c f a=>cases a;exact .d (.slNil _ _ _)
def Z4k:Heap:=⟨⟨32,8⟩,Lk 256 0,Lk 8 ⟨0,0,0,0⟩,0,-1⟩
def R6:Heap:=⟨⟨32,8⟩,(Lk 256 0).set 0 29,[⟨1,0,2,0⟩,⟨0,0,0,0⟩,⟨0,0,0,0⟩,⟨0,0,0,0⟩,⟨0,0,0,0⟩,⟨0,0,0,0⟩,⟨0,0,0,0⟩,⟨0,0,0,0⟩],0,0⟩
def Z6F:Zz []=⟨Z4k,[],[]⟩:=by kernel_rfl
def ZbL:(⟨Z4k,[],[]⟩:Zn).put ⟨3,1,0⟩=⟨R6,[4096],[]⟩:=by kernel_rfl
def ZiK:Z9 R6=Lb:=by decide+kernel
def Zje:Bp R6=⟨0,0,0⟩:=by decide+kernel
def ZfF:Zw R6.W:=by unfold Zw;decide+kernel
def wB0:Z7:=(⟨⟨⟨32,8⟩,(Lk 256 0).set 0 29,[⟨1,0,2,0⟩,⟨0,0,0,0⟩,⟨0,0,0,0⟩,⟨0,0,0,0⟩,⟨0,0,0,0⟩,⟨0,0,0,0⟩,⟨0,0,0,0⟩,⟨0,0,0,0⟩],0,0⟩,[4096],[],[],0,⟨0,0,0,0,0,0⟩⟩:Z7)
def Zfk:Zr R6=wB0:=by kernel_rfl
def Zk3:GP 15 [.d (.sl 0 [])] Lc (⟨(⟨⟨32,8⟩,Lk 256 0,Lk 8 ⟨0,0,0,0⟩,0,-1⟩:Heap),[],[]⟩:Zn).av []:=by have k:=Z4T [] pq;rw[Z6F]at k;intro w d f a b h;refine k w d f a b λi x v c e=>?_;rcases i with _|i;cases c;exact P6 1 (h 0 _ v rfl e);simp at c
def Zgl:GP 58 [.ag [nI 32,nI 8,.d (.sl 1 ((Lk 256 0).map wD)),.d (.sl 4 ((Lk 8 (⟨0,0,0,0⟩:Z0)).map Z0.dv)),nI 0,nI (-1),.d (.sl 0 []),.d (.sl 0 [])],.ag [nI 3,nI 1,.d (.sc (.int .u32 0))]] Lc (⟨(⟨⟨32,8⟩,(Lk 256 0).set 0 29,[⟨1,0,2,0⟩,⟨0,0,0,0⟩,⟨0,0,0,0⟩,⟨0,0,0,0⟩,⟨0,0,0,0⟩,⟨0,0,0,0⟩,⟨0,0,0,0⟩,⟨0,0,0,0⟩],0,0⟩:Heap),[4096],[]⟩:Zn).av []:=by have j:=Sd [];rw[Z6F]at j;have k:=TP ⟨Z4k,[],[]⟩ ⟨3,1,0⟩ (j.wm dd) dd;rw[ZbL]at k;intro w m p e f h;refine k w m p e f λi x v g l=>?_;rcases i with _|_|i;cases g;obtain⟨cs,rfl,n,o,c⟩:=HI (h 0 _ v rfl l);refine .ag _ _ n o (λi a u b d=>?_);rcases i with _|_|_|_|_|_|_|_|i;cases b;exact c 0 _ u rfl d;cases b;exact c 1 _ u rfl d;cases b;exact c 2 _ u rfl d;cases b;exact c 3 _ u rfl d;cases b;exact c 4 _ u rfl d;cases b;exact c 5 _ u rfl d;cases b;exact P6 1 (c 6 _ u rfl d);cases b;exact P6 1 (c 7 _ u rfl d);cases (show(Le:Option AV)=LH a from b);cases g;exact h 1 _ v rfl l;simp at g
def Z7l{B:Int}(hB:0<=B){h:Heap}{T:Nat->List Int}(g:Gd h T)(mv:MV h){s k:List Int}(hw:Zw h.W)(hb:∀p∈h.P,p.N<=B)(gs:Gr h T s)(gk:Gr h T k)(sl:s.length<=1000)(kl:k.length<=1000)(su:CJ s)(ku:CJ k) :(collectF h s k).2.2.2.2=0/\(collectF h s k).2.1.length=s.length/\(collectF h s k).2.2.1.length=k.length/\GP 35 [h.av,Z2 s,Z2 k] Lc (.tu [(collectF h s k).1.av,Z2 (collectF h s k).2.1,Z2 (collectF h s k).2.2.1,.ag (collectF h s k).2.2.2.1.cells,nI (collectF h s k).2.2.2.2]) []:=by
 obtain⟨er,sw⟩:=SW.roots g mv gs hw;have e1:(rootsF (Zr h) s).2.2=0:=by rw[er]
 have e2:=(sw.all g mv).1;have c0:=Gg.begin g hw;have cd:=ZfP hB g hw hb e1 e2 gs gk sl kl ku (c0.rts g su) c0.ck.ln λk _=>⟨(sw.it g mv k).o.c.stp g,((sw.it g mv k).step g mv).1⟩
 have e7:collectF h s k=(Em (Bs h s k),(rootsF (Zr h) s).2.1,Ev (ZA h s) k k.length,(Bs h s k).rep,0):=by rw[collectF,if_pos g.p,if_pos ⟨g.refers gs,g.refers gk⟩,if_pos e1,if_pos e2]
 refine⟨by rw[e7], ?_,by rw[e7];exact Tv _ _ _,cd⟩;rw[e7,er];exact Na _ _ _
def Z9U:Bz wB0=(wB0,0):=by have a:(Lf (S9 wB0)).find? (Eu wB0)=LH 0:=LB.2 ⟨by kernel_rfl,Lj.2 (by unfold S9;omega),λj b=>absurd b (Lo j)⟩;unfold Bz;rw[a];show _=_;kernel_rfl
def Zle:Heap:=⟨⟨32,8⟩,Lk 256 0,Lk 8 ⟨0,0,0,0⟩,1,-1⟩
def Zev:collectF R6 [] []=(Zle,[],[],⟨0,0,0,1,0,0⟩,0):=by
 have a:rootsF (Zr R6) []=(wB0,[],0):=by rw[Zfk];kernel_rfl
 have c2:ZA R6 []=wB0:=by rw[ZA,a,Z9U]
 have b:Bs R6 [] []=⟨⟨⟨32,8⟩,Lk 256 0,Lk 8 ⟨0,0,0,0⟩,0,0⟩,[4096],[],[],0,⟨0,0,0,1,0,0⟩⟩:=by(unfold Bs Cy Ca;rw[c2];kernel_rfl)
 rw[collectF,if_pos ZiK,if_pos ⟨by decide+kernel,by decide+kernel⟩,if_pos (by rw[a]),if_pos (by rw[a,Z9U]),b,c2,a];show _=_;kernel_rfl
def ZhC:MV R6:=⟨by decide+kernel,1,by decide+kernel⟩
def Ze0:GP 35 [(⟨⟨32,8⟩,(Lk 256 0).set 0 29,[⟨1,0,2,0⟩,⟨0,0,0,0⟩,⟨0,0,0,0⟩,⟨0,0,0,0⟩,⟨0,0,0,0⟩,⟨0,0,0,0⟩,⟨0,0,0,0⟩,⟨0,0,0,0⟩],0,0⟩:Heap).av,.d (.sl 0 []),.d (.sl 0 [])] Lc (.tu [(⟨⟨32,8⟩,Lk 256 0,Lk 8 ⟨0,0,0,0⟩,1,-1⟩:Heap).av,Z2 [],Z2 [],.ag (⟨0,0,0,1,0,0⟩:Rep).cells,nI 0]) []:=by have k:=(Z7l (B:=0) (LW 0) (Zfg Zje) ZhC ZfF (by decide+kernel) (s:=[]) (k:=[]) (λ_ q=>by cases q) (λ_ q=>by cases q) (Lq _) (Lq _) (λ_ q=>by cases q) (λ_ q=>by cases q)).2.2.2;rw[Zev]at k;intro w e f b c h;refine k w e f b c λi x v a d=>?_;rcases i with _|_|_|i;cases a;exact h 0 _ v rfl d;cases a;exact P6 1 (h 1 _ v rfl d);cases a;exact P6 1 (h 2 _ v rfl d);simp at a
def Zc5:GP 38 [] Lb (bL Lb) []:=by exact gF [] func38 []<|Fc 7 (@Zk3)<|Fc 11 (@Zgl)<|Fc 15 (@Ze0) Fz
def Ef(w:Zn):Rep:=(collectF w.j w.G w.E).2.2.2.1
def Z9f{w n}(G:WG w)(a:C6 w n)(k:MV w.j)(sl:w.G.length<=1000)(l:w.E.length<=1000):(collectF w.j w.G w.E).2.2.2.2=0/\w.collect=⟨(collectF w.j w.G w.E).1,(collectF w.j w.G w.E).2.1,(collectF w.j w.G w.E).2.2.1⟩/\w.collect.G.length=w.G.length/\w.collect.E.length=w.E.length /\
  GP 35 [w.j.av,Z2 w.G,Z2 w.E] Lc (.tu [w.collect.j.av,Z2 w.collect.G,Z2 w.collect.E,.ag (Ef w).cells,nI 0]) []:=by
 obtain⟨T,g,d,f⟩:=G;obtain⟨e,i,j,c⟩:=Z7l (B:=n) oq g k a.W (λp h=>(a.pin_mem p h).2) d f sl l a.G a.E;have b:w.collect=⟨(collectF w.j w.G w.E).1,(collectF w.j w.G w.E).2.1,(collectF w.j w.G w.E).2.2.1⟩:=by rw[Zn.collect,if_pos e]
 rw[e]at c;rw[b];exact⟨e,rfl,i,j,c⟩
def Mm a:(collectF (Zz a).j (Zz a).G (Zz a).E).2.2.2.2=0/\(Zz a).collect=⟨(collectF (Zz a).j (Zz a).G (Zz a).E).1,(collectF (Zz a).j (Zz a).G (Zz a).E).2.1,(collectF (Zz a).j (Zz a).G (Zz a).E).2.2.1⟩/\(Zz a).collect.G.length=(Zz a).G.length/\(Zz a).collect.E.length=(Zz a).E.length /\
  GP 35 [(Zz a).j.av,Z2 (Zz a).G,Z2 (Zz a).E] Lc (.tu [(Zz a).collect.j.av,Z2 (Zz a).collect.G,Z2 (Zz a).collect.E,.ag (Ef (Zz a)).cells,nI 0]) []:=Z9f (M9 a) (Sd a) (Tb a) (Sd a).sl (Sd a).wl
def ZjO a:GP 35 [(Zz a).j.av,Z2 (Zz a).G,Z2 (Zz a).E] Lc (.tu [(Zz a).collect.j.av,Z2 (Zz a).collect.G,Z2 (Zz a).collect.E,.ag (Ef (Zz a)).cells,nI 0]) []:=(Mm a).2.2.2.2
def ZkZ(a:List Int)(h1:a.length<=140737488355328):GP 39 [ZD a] Lc (.tu [(Zz a).av,(Zz a).collect.av,.ag (Ef (Zz a)).cells,bL Lb]) []:=by have b:=Sd a;have sl:=b.sl;have wl:=b.wl;obtain⟨_,_,l1,l2,_⟩:=Mm a;let c:=(0:Int)==0&&(↑(Zz a).collect.G.length:Int)==(↑(Zz a).G.length:Int);exact gF [] func39 (fO 12)<|Fc 13 (@Z4T a aa)<|Fc 21 (@ZjO a)<|FlG 37 ((0:Int)==0) wD (Zz a).collect.G<|FlG 40 ((0:Int)==0) wD (Zz a).G<|FlG 45 c wD (Zz a).collect.E<|FlG 48 c wD (Zz a).E<|Fr ((Zz a).j.C.pw)<|Fr ((Zz a).j.C.pg)<|Fr (Lg wD (Zz a).j.W)<|Fr (Lg Z0.dv (Zz a).j.P)<|Fr ((Zz a).j.S)<|Fr ((Zz a).j.B)<|Fr (Lg wD (Zz a).G)<|Fr (Lg wD (Zz a).E)<|Fr ((Zz a).collect.j.C.pw)<|Fr ((Zz a).collect.j.C.pg)<|Fr (Lg wD (Zz a).collect.j.W)<|Fr (Lg Z0.dv (Zz a).collect.j.P)<|Fr ((Zz a).collect.j.S)<|Fr ((Zz a).collect.j.B)<|Fr (Lg wD (Zz a).collect.G)<|Fr (Lg wD (Zz a).collect.E)<|Fr ((Ef (Zz a)).copied)<|Fr ((Ef (Zz a)).kept)<|Fr ((Ef (Zz a)).filled)<|Fr ((Ef (Zz a)).freed)<|Fr ((Ef (Zz a)).cleared)<|Fr ((Ef (Zz a)).steps)<|Fb (((↑(Zz a).collect.G.length:Int)==(↑(Zz a).G.length:Int)&&(↑(Zz a).collect.E.length:Int)==(↑(Zz a).E.length:Int))=Lb) Fz
def Gx(hd:Zy)(fs:List Int):Nat->List Int|0=>[]|i+1=>if Ba hd (i:Int)=Lb then Gx hd fs i++[fs.getD i La]else Gx hd fs i
def Z9B(hd:Zy) fs:∀i,(Gx hd fs i).length<=i
 |0=>Ld _
 |i+1=>by
  have:=Z9B hd fs i;unfold Gx;split
  .rw[Lx,LC];omega
  .omega
def HU(h:Heap)(a:Int):List Int:=Gx (Zv h a).1 (C0 h a).1 (C0 h a).1.length
def C9(out:List Int)(r:Int):List Int:=if r=0\/r∈out then out else out++[r]
def addN(out refs:List Int):Nat->List Int|0=>out|i+1=>C9 (addN out refs i) (refs.getD i La)
def Z6y out refs:∀i,(addN out refs i).length<=out.length+i
 |0=>Ld _
 |i+1=>by
  have:=Z6y out refs i;unfold addN C9;split
  .omega
  .rw[Lx,LC];omega
def Z1o out refs{i}:∀k,(addN out refs i).length<=(addN out refs (i+k)).length
 |0=>Ld _
 |k+1=>by
  refine LG (Z1o out refs k) ?_;show _<=(C9 _ _).length;unfold C9;split
  .exact Ld _
  .rw[Lx];exact Nat.le_add_right _ _
def a8L(all out refs:List Int)(i:Nat):Tg:=⟨tm 42 [(0,Z2 all),(1,.ow 8000),(2,Z2 refs),(6,.d (.sl 0 [])),(7,bL Lc),(8,nI i)],[(8000,.arr 35 1 ((addN out refs i).map wD))],4⟩
section
variable(all out refs:List Int)(hl:refs.length<=1048576)(d:all.length<=1048576)(a:(addN out refs refs.length).length<=1048576)(b:CJ refs)
include hl d a b
theorem Z6X(i:Nat)(hi:i<refs.length)(f:Ci refs all i=Lc):CP (Zm f66 0) (a8L all out refs i).st .nrm (a8L all out refs (i+1)).st:=by
 have ln:=LG (Z1o out refs (i:=i) (refs.length-i)) (by rw[show i+(refs.length-i)=refs.length by omega];exact a);have r:=b _ (ZT.2 ⟨i,hi,rfl⟩);unfold Ci at f;have f:=of_decide_eq_false f;by_cases g:refs.getD i La=0;have e:addN out refs (i+1)=addN out refs i:=by rw[addN,C9,if_pos (.inl g)]
 unfold a8L;rw[e];exact sF [] []<|FN 11 12 17 wD refs i<|Ftb 19 (refs.getD i La==0)<|Fx 14 i Fz;have f:refs.getD i La∈all:=LI.1 λc=>f ⟨g,c⟩;by_cases h:refs.getD i La∈addN out refs i;have e:addN out refs (i+1)=addN out refs i:=by rw[addN,C9,if_pos (.inr h)]
 unfold a8L;rw[e];exact sF [] []<|FN 11 12 17 wD refs i<|Ffb 19 (refs.getD i La==0)<|Fek 23 wD refs (↑i) i<|Fc 25 (@E0 all (refs.getD i La) aa)<|Ffb 26 (!decide (refs.getD i La∈all))<|Fek 30 wD refs (↑i) i<|Fc 32 (@E0 (addN out refs i) (refs.getD i La) aa)<|Ffb 33 (!decide (refs.getD i La∈addN out refs i))<|Fx 14 i Fz;have e:addN out refs (i+1)=addN out refs i++[refs.getD i La]:=by rw[addN,C9,if_neg (λc=>c.elim g h)]
 unfold a8L;rw[e];exact sF [(64040,8000)] []<|Fh 40 [.els (Lg wD (addN out refs i++[refs.getD i La]))]<|FN 11 12 17 wD refs i<|Ffb 19 (refs.getD i La==0)<|Fek 23 wD refs (↑i) i<|Fc 25 (@E0 all (refs.getD i La) aa)<|Ffb 26 (!decide (refs.getD i La∈all))<|Fek 30 wD refs (↑i) i<|Fc 32 (@E0 (addN out refs i) (refs.getD i La) aa)<|Ftb 33 (!decide (refs.getD i La∈addN out refs i))<|Fek 37 wD refs (↑i) i<|Fs 39 (Lg wD [refs.getD i La])<|Fa (by(simp[*];omega):(Lg wD (addN out refs i)).length+(Lg wD [refs.getD i La]).length<=2^30)<|Fa (ms:Lg wD (addN out refs i)++Lg wD [refs.getD i La]=Lg wD (addN out refs i++[refs.getD i La]))<|Fx 14 i Fz
omit hl d a b in
theorem ZiB:CP (Zm f66 0) (a8L all out refs refs.length).st (.ext 0) (Tg.st ⟨tm 42 [(1,.ow 8000),(6,.d (.sl 0 [])),(7,bL Lc)],[(8000,.arr 35 1 ((addN out refs refs.length).map wD))],4⟩):=by exact sF [] []<|FO 11 12 wD refs Fz
def ZmG(e:(Lf refs.length).find? (Ci refs all)=Le)  := Bo (S:=λk=>(a8L all out refs k).st) refs.length (by kernel_rfl) (λk c=>Z6X all out refs hl d a b k c (by
  have:=LA.1 e k (Lj.2 c);simpa using this)) (ZiB all out refs)
theorem Z65(hb:(Lf refs.length).find? (Ci refs all)=Le):BP 66 [Z2 all,.ow 0,Z2 refs] [.arr 35 1 (out.map wD)] (.tu [.ow 1,bL Lb]) [.dead,.arr 35 1 ((addN out refs refs.length).map wD)]:=by have c:=Z1o out refs (i:=0) refs.length;rw[L3]at c;exact borF [8000] [8000] func66 []<|Fu (@ZmG all out refs aa aa aa aa aa) Fz
end
def rfL(hd:Zy)(fs:List Int)(i:Nat):Tg:=⟨tm 40 [(4,.d (.sl 0 [])),(5,.pt 16005 0 0),(7,Z2 fs),(9,.ow 32009),(10,nI i)],[(32009,.arr 35 1 ((Gx hd fs i).map wD)),(16005,.box 52 [nI hd.K,nI hd.length,u32 hd.map])],6⟩
section
variable(hd:Zy)(fs:List Int)(b:0<=hd.map/\hd.map<=4294967295)(a:fs.length<=1048576)
include b a
theorem ZlN(i:Nat)(hi:i<fs.length):CP (Zm f18 0) (rfL hd fs i).st .nrm (rfL hd fs (i+1)).st:=by
 have ln:=Z9B hd fs i;by_cases c:Ba hd (i:Int)=Lb;have d:Gx hd fs (i+1)=Gx hd fs i++[fs.getD i La]:=by rw[Gx,if_pos c]
 unfold rfL;rw[d];exact sF [(64038,32009)] []<|Fh 31 [.call Lb (bL (Ba hd (i:Int))) [],.br Lb]<|Fh 38 [.els (Lg wD (Gx hd fs i++[fs.getD i La]))]<|FM 25 26 wD fs i<|Fa (@Nh hd ((i:Int)) aa)<|Fa ‹Ba hd (i:Int)=Lb›<|Fek 35 wD fs (↑i) i<|Fs 37 (Lg wD [fs.getD i La])<|Fa (by(simp[*];omega):(Lg wD (Gx hd fs i)).length+(Lg wD [fs.getD i La]).length<=2^30)<|Fa (ms:Lg wD (Gx hd fs i)++Lg wD [fs.getD i La]=Lg wD (Gx hd fs i++[fs.getD i La]))<|Fx 28 i Fz;have d:Gx hd fs (i+1)=Gx hd fs i:=by rw[Gx,if_neg c]
 unfold rfL;rw[d];exact sF [] []<|Fh 31 [.call Lb (bL (Ba hd (i:Int))) [],.br Lc]<|FM 25 26 wD fs i<|Fa (@Nh hd ((i:Int)) aa)<|Fbs (Ba hd (i:Int)=Lc)<|Fx 28 i Fz
theorem ZjL:CP (Zm f18 0) (rfL hd fs fs.length).st (.ext 0) (Tg.st ⟨tm 40 [(4,.d (.sl 0 [])),(9,.ow 32009)],[(32009,.arr 35 1 ((Gx hd fs fs.length).map wD))],6⟩):=by exact sF [] []<|FO 25 26 wD fs Fz
def ZhV  := Bo (S:=λk=>(rfL hd fs k).st) fs.length (by kernel_rfl) (λk c=>ZlN hd fs b a k c) (ZjL hd fs b a)
end
def ZjF(h:Heap)(a:Int)(b:Zw h.W)(h0:0<=a/\a<=18446744073709551615):GP 18 [h.av,uU a] Lc (Z2 (HU h a)) []:=by have hm:=Z0r b a;have hf:=Z4o h a;exact gF [] func18 []<|Fh 9 [.own]<|Fc 14 (@Nc h a aa aa)<|Fc 20 (@Z1q h a aa aa)<|Fu (@ZhV ((Zv h a).1) ((C0 h a).1) aa oq) Fz
theorem Z5d(hd:Zy):∀n:Nat,(BK hd n).Nodup
 |0=>LD
 |n+1=>by
  have c:=Z5d hd n;unfold BK;split
  .rw[L1];refine⟨c,by simp,λa d b hb=>?_⟩;have:=(SP hd n a d).2;grind
  .exact c
def Z6R(hd:Zy):(Zj hd).Nodup:=by grind[Zj,Z5d]
def Z56(hd:Zy)(fs:List Int)(f:Int->Int):∀n:Nat,(∀k:Nat,k<n->fs.getD k La=f k)->Gx hd fs n=(BK hd n).map f
 |0,_=>rfl
 |n+1,h=>by
  unfold Gx BK;rw[Z56 hd fs f n (λk hk=>h k oq),h n oq];grind
def Gd.refs{h T}(g:Gd h T){i}{x:Int}(b:x∈T i)(a:CM h.W x≠0):HU h x=(Zj (ZR h.W x)).map λj=>(Z1 h.W (x+1+j)).1:=by obtain⟨e,l,f⟩:=g.fields b a;unfold HU;rw[e,Z56 _ _ (λj=>(Z1 h.W (x+1+j)).1) _ (λk a=>f k oq),show(C0 h x).1.length=(Zl h.W x).toNat by omega];unfold Zj;rw[if_pos (show ZX (ZR h.W x)=Lb from AK _)];rfl
theorem ZkO{w}(j:Bb w)(h:BA w){n:Int}(f:1<=n)(g:n<=w.j.C.pw)(b:(w.place n).2.2=Lb):(w.place n).2.1∉w.Q:=by obtain⟨i,p,t,a,h2,h3,h4,h5,h6,h7,h8,e⟩:=Td j ⟨f,g⟩ b;have d:=h.f i a (by grind);intro c;have q:=d _ (Li _ c);have:=Bq w.j.W (w.place n).2.1;omega
def Z7r{l:List Int}{a:Int}(h:l.Nodup)(ha:a∉l):(l++[a]).Nodup:=by grind
def Zjc{w}(n:Bb w)(h:BA w){r}(e:(w.fwd r).2.2=0)(nd:w.Q.Nodup):(w.fwd r).1.Q.Nodup:=by
 unfold Z7.fwd at e⊢;split at e;grind;rename_i c1;rw[if_neg c1];have a:r∉w.Q:=λq=>c1 (.inr q);split at e;simp at e;rename_i c2;rw[if_neg c2];have d:r∈w.old:=LI.1 c2;split at e;grind;rename_i c3;rw[if_neg c3];split at e;simp at e;rename_i c4;rw[if_neg c4];split at e;rename_i f;rw[if_pos f];exact Z7r nd a;rename_i f;rw[if_neg f];split at e;rename_i b;rw[if_pos b];exact Z7r nd a;rename_i b;rw[if_neg b];split at e;simp at e;rename_i j;rw[if_neg j];have g:(w.place (Z5 (ZB w r))).2.2=Lb:=by grind
 have c:=h.z r d;have l:=Bq w.j.W r;have hd:=H7 w r;have m:Z5 (ZB w r)<=w.j.C.pw:=by(rcases c with c|c;exact absurd c b;omega)
 obtain⟨i,p,t,p1,p2,p3,p4,p5,p6,p7,k⟩:=TC n ⟨by omega,m⟩ g;have hq:(w.place (Z5 (ZB w r))).1.Q=w.Q:=by rw[k]
 show((w.place (Z5 (ZB w r))).1.Q++[_]).Nodup;grind[ZkO]
structure RO (h:Heap) (T:Nat->List Int) (w:Z7) (out:List Int) (n:Nat):Prop where
 b:SW h T w
 nd:w.Q.Nodup
 l:w.Q.length=out.length
 i:∀i,i<out.length->out.getD i La∈w.old/\CY w (out.getD i La)=w.Q.getD i La
 s:∀y∈w.old,CY w y≠0->y∈out
 un:∀y∈w.old,CY w y=0->∀m,0<=m->m<=Zl h.W y->(Z1 w.j.W (y+m)).1=(Z1 h.W (y+m)).1
 uq:∀i,n<=i->i<out.length->∀m,0<=m->m<=Zl h.W (out.getD i La)->(Z1 w.j.W (w.Q.getD i La+m)).1=(Z1 h.W (out.getD i La+m)).1
def RO.begin{h T}(g:Gd h T)(c:Zw h.W):RO h T (Zr h) [] 0:=
 ⟨SW.begin g c,LD,rfl,λi a=>absurd a (Lo i),λy b q=>absurd (Z2s g b).1 q,λy b _ m _ _=>rfl,λi _ a=>absurd a (Lo i)⟩
def Dx{l:List Int}{a:Int}{k:Nat}:(l++[a]).getD k La=if k<l.length then l.getD k La else if k=l.length then a else La:=by grind
section
variable{h:Heap}{T:Nat->List Int}{w:Z7}{out:List Int}{n:Nat}(o:RO h T w out n)(g:Gd h T)(d:MV h)
include o g d
theorem RO.fwd{r:Int}(b:r=0\/r∈w.old):(w.fwd r).2.2=0/\RO h T (w.fwd r).1 (C9 out r) n/\(w.fwd r).2.1=(if r=0 then 0 else CY (w.fwd r).1 r):=by
 rcases b with rfl|b;grind[Z7.fwd,C9];obtain⟨tq,k⟩:=o.b.o.c.k;obtain⟨i0,s,a1⟩:=(k.old r).1 b;have r0:r≠0:=by have:=g.inw s;omega
 rw[if_neg r0];by_cases l:CY w r=0;obtain⟨i0,hx,e,N⟩:=o.b.o.new g d b l;obtain⟨s1,v,x,z,s5⟩:=o.b.o.seen g d b;have a0:=(NJ o.b.o.c.ok o.b.o.c.inv r e).2.2;have no:r∉out:=λc=>by(obtain⟨j,i,ej⟩:=ZT.1 c;have q:=(o.i j i).2;rw[ej,l]at q;have:=o.b.o.c.inv.r 0 (Li _ (ZT.2 ⟨j,by rw[o.l];exact i,q.symm⟩));omega)
 have ea:C9 out r=out++[r]:=by grind[C9]
 rw[ea];have t:=o.l;refine⟨e,⟨(o.b.fwd g d (.inr (.inr b))).2.1,Zjc o.b.o.c.ok o.b.o.c.inv e o.nd,by grind,λj i=>?_,λy f a=>?_,λy f a m m0 m1=>?_,λj i p m m0 m1=>?_⟩,v.symm⟩;rw[N.o,N.q,Dx,Dx,t];rw[Lx,LC]at i;by_cases q:j<out.length;rw[if_pos q,if_pos q];have:=o.i j q;grind;grind;rw[z]at f;by_cases q:y=r;rw[q];simp;rw[x y f q]at a;exact Ly _ (o.s y f a);rw[z]at f;have q:y≠r:=λq=>s1 (v.symm.trans (q▸a));rw[x y f q]at a;have u:=o.un y f a;have ey:=(El (by have:=u 0 oq (Bq _ _).1;omega)).2.1;grind;rw[Lx,LC]at p;rw[Dx]at m1⊢;rw[N.q,Dx,t];by_cases q:j<out.length;rw[if_pos q]at m1⊢;rw[if_pos q];have u:=o.uq j i q;have hq:w.Q.getD j La∈w.Q:=ZT.2 ⟨j,by omega,rfl⟩;have ey:Zl w.j.W (w.Q.getD j La)=Zl h.W (out.getD j La):=by(have:=u 0 oq (Bq _ _).1;simp only[Lw]at this;grind[Zl])
 grind;have:j=out.length:=by omega
 rw[if_neg q,if_pos this]at m1⊢;rw[if_neg q,if_pos this];rw[N.x m m0 m1];exact o.un r b l m m0 m1;rw[o.b.o.same g d b l,C9,if_pos (.inr (o.s r b l))];grind
omit d in
theorem RO.old{x j:Int}(m:x∈w.old)(f:j∈Zj (ZR h.W x)):(Z1 h.W (x+1+j)).1=0\/(Z1 h.W (x+1+j)).1∈w.old:=by obtain⟨tq,k⟩:=o.b.o.c.k;obtain⟨p,e,c⟩:=(k.old x).1 m;have b:=R5 _ j f;refine(g.q p x j e c b.1 b.2 (Tf _ j f)).imp id λ⟨a,i,l⟩=>(k.old _).2 ⟨a,i,l⟩
theorem RO.in1{a:Nat}(ha:a<n)(hn:a<out.length){j:Int}(hj:0<=j/\j<Zl h.W (out.getD a La))(hq:ZR w.j.W (w.Q.getD a La)=ZR h.W (out.getD a La))(hv:(Z1 w.j.W (w.Q.getD a La+1+j)).1=0\/(Z1 w.j.W (w.Q.getD a La+1+j)).1∈w.old) :(w.fwd (Z1 w.j.W (w.Q.getD a La+1+j)).1).2.2=0/\RO h T (w.in1 (w.Q.getD a La+1+j)) (C9 out (Z1 w.j.W (w.Q.getD a La+1+j)).1) n/\(w.in1 (w.Q.getD a La+1+j)).Q.getD a La=w.Q.getD a La /\
  ZR (w.in1 (w.Q.getD a La+1+j)).j.W (w.Q.getD a La)=ZR h.W (out.getD a La)/\(∀m,0<=m->m<Zl h.W (out.getD a La)->m≠j->Z1 (w.in1 (w.Q.getD a La+1+j)).j.W (w.Q.getD a La+1+m)=Z1 w.j.W (w.Q.getD a La+1+m)):=by
 obtain⟨e,f,_⟩:=o.fwd g d hv;have l:w.Q.getD a La∈w.Q:=ZT.2 ⟨a,by have:=o.l;omega,rfl⟩;generalize a3:w.Q.getD a La=q at *;have hl:Zl w.j.W q=Zl h.W (out.getD a La):=congrArg Zy.length hq;have hw:=o.b.o.c.ok;have iv:=o.b.o.c.inv;have S:=o.b.in1 g d l hj.1 oq e;obtain⟨tq,k⟩:=o.b.o.c.k;obtain⟨i1,x1⟩:=NG hw iv _ e;have sm:=TM hw iv _ e;have fs:=(NJ hw iv _ e).2.2;have s:=x1.q q l;have a5:=x1.l q l;have hr:=i1.r q (Li _ s);generalize a7:(Z1 w.j.W (q+1+j)).1=v at *;have a4:4096<=q+1+j/\q+1+j<4096+(w.fwd v).1.j.W.length:=by omega
 have a1:∀x∈(w.fwd v).1.old++(w.fwd v).1.Q,∀i,0<=i->i<=Zl (w.fwd v).1.j.W x->x+i=q+1+j->x=q:=by(intro x hx i y0 b c;have l1:=i1.s q (Li _ s) x hx;have l2:=i1.s x hx q (Li _ s);omega)
 have wd:∀z,z≠q+1+j->Z1 (w.in1 (q+1+j)).j.W z=Z1 (w.fwd v).1.j.W z:=λz hz=>by(grind[Z7.in1,Gv])
 have hh:∀x∈(w.fwd v).1.old++(w.fwd v).1.Q,Z1 (w.in1 (q+1+j)).j.W x=Z1 (w.fwd v).1.j.W x:=λx hx=>wd x λc=>by(have:=a1 x hx 0 oq (Bq _ _).1 oq;omega)
 have a0:(w.in1 (q+1+j)).Q=(w.fwd v).1.Q:=by grind[Z7.in1]
 have t:(w.in1 (q+1+j)).old=(w.fwd v).1.old:=by grind[Z7.in1]
 have se:∀y∈(w.fwd v).1.old,CY (w.in1 (q+1+j)) y=CY (w.fwd v).1 y:=λy r=>by(grind[CY])
 have fl:=f.l;have ln:=o.l;have gq:(w.fwd v).1.Q.getD a La=q:=by rw[sm.get oq];exact a3
 have ao:a<(C9 out v).length:=by grind[C9]
 refine⟨e,⟨S.1,by rw[a0];exact f.nd,by grind,λi hi=>?_,λy r p=>?_,λy r p m m0 m1=>?_,λi hi a2 m m0 m1=>?_⟩,by grind,(S.2 q l).2.trans hq,λm m0 m1 hm=>?_⟩;grind[i];rw[t]at r;rw[se y r]at p;exact f.s y r p;rw[t]at r;rw[se y r]at p;have u:=f.un y r p;have ey:=(El (by have:=u 0 oq (Bq _ _).1;omega)).2.1;grind[CY];rw[a0];have u:=f.uq i hi a2;have a6:(w.fwd v).1.Q.getD i La∈(w.fwd v).1.Q:=ZT.2 ⟨i,by omega,rfl⟩;have ey:Zl (w.fwd v).1.j.W ((w.fwd v).1.Q.getD i La)=Zl h.W ((C9 out v).getD i La):=by(have:=u 0 oq (Bq _ _).1;simp only[Lw]at this;grind[Zl])
 grind[nd,List.getElem?_inj];rw[wd _ oq,show q+1+m=q+(1+m) by omega,fs q (Li _ l) (.inl l) (1+m) oq oq]
theorem RO.inn{q x:Int}{l:List Int}(r:n<out.length)(hq:w.Q.getD n La=q)(hx:out.getD n La=x)(hl:Zj (ZR h.W x)=l):∀k,k<=l.length->RO h T (Bg w q l k) (addN out (l.map λj=>(Z1 h.W (x+1+j)).1) k) (n+1)/\(∀j,j<k->CQ w q l j=0)/\(Bg w q l k).Q.getD n La=q/\ZR (Bg w q l k).j.W q=ZR h.W x /\ (addN out (l.map λj=>(Z1 h.W (x+1+j)).1) k).getD n La=x/\n<(addN out (l.map λj=>(Z1 h.W (x+1+j)).1) k).length/\∀m,0<=m->m<Zl h.W x->(∀i,i<k->l.getD i La≠m)->(Z1 (Bg w q l k).j.W (q+1+m)).1=(Z1 h.W (x+1+m)).1
 |0,_=>by
  subst hq;subst hx;have u:=o.uq n (Ld _) r;refine⟨⟨o.b,o.nd,o.l,o.i,o.s,o.un,λi z=>o.uq i oq⟩,λj e=>absurd e (Lo j),rfl, ?_,rfl,r,λm m0 m1 _=>?_⟩
  .have:=u 0 oq (Bq _ _).1;simp only[Lw]at this;show ZR w.j.W _=_;rw[ZR,ZR,this]
  .have:=u (1+m) oq oq;rw[<-LF,<-LF]at this;exact this
 |k+1,hk=>by
  obtain⟨t,i2,v,i4,b,f,i7⟩:=RO.inn r hq hx hl k oq;have e:l.getD k La∈Zj (ZR h.W x):=by rw[hl];exact ZT.2 ⟨k,by omega,rfl⟩
  have y:=R5 _ _ e;have nd:=Z6R (ZR h.W x);rw[hl]at nd;have s:∀i,i<k->l.getD i La≠l.getD k La:=λi z c=>by
   simp only[Lh]at c;rw[Ll oq,Ll oq]at c;have:=(List.getElem_inj nd).1 c;omega
  have ev:=i7 (l.getD k La) y.1 y.2 s;have xo:x∈(Bg w q l k).old:=by
   have:=(t.i n f).1;rw[b]at this;exact this
  have ov:=t.old g xo e;rw[<-ev]at ov;obtain⟨c1,c2,c3,c4,p⟩:=t.in1 g d (a:=n) oq f (j:=l.getD k La) (by rw[b];exact y) (by rw[v,b];exact i4) (by rw[v];exact ov);rw[v]at c1 c2 c3 c4 p;rw[b]at c4 p;rw[ev]at c2;have em:(l.map λj=>(Z1 h.W (x+1+j)).1).getD k La=(Z1 h.W (x+1+l.getD k La)).1:=by
   simp only[Lh,LS,Ll (show k<l.length by omega),LV,Lz]
  have e2:addN out (l.map λj=>(Z1 h.W (x+1+j)).1) (k+1)=C9 (addN out (l.map λj=>(Z1 h.W (x+1+j)).1) k) (Z1 h.W (x+1+l.getD k La)).1:=by rw[addN,em]
  rw[e2];refine⟨c2,λj e=>?_,c3,c4, ?_, ?_,λm m0 m1 hm=>?_⟩
  .by_cases c:j=k
   .rw[c];exact c1
   .exact i2 j oq
  .unfold C9;split
   .exact b
   .rw[Dx,if_pos f];exact b
  .unfold C9;split
   .exact f
   .rw[Lx];omega
  .show(Z1 ((Bg w q l k).in1 (q+1+l.getD k La)).j.W (q+1+m)).1=_;rw[p m m0 m1 (λc=>hm k oq c.symm)];exact i7 m m0 m1 λi z=>hm i oq
theorem RO.step(f:n<out.length)(hs:w.D=n):RO h T (B1 w).1 (addN out (HU h (out.getD n La)) (HU h (out.getD n La)).length) (n+1)/\(B1 w).2.1=Lb/\(B1 w).1.D=(n+1:Nat):=by
 have s:=(o.i n f).1;obtain⟨tq,k⟩:=o.b.o.c.k;obtain⟨i0,i,e⟩:=(k.old _).1 s;have m:=g.refs i e;have p:ZR w.j.W (w.Q.getD n La)=ZR h.W (out.getD n La):=by(have:=o.uq n (Ld _) f 0 oq (Bq _ _).1;simp only[Lw]at this;grind[ZR])
 have l:C4 w=w.Q.getD n La:=by grind[C4]
 have r:Bh w=Zj (ZR h.W (out.getD n La)):=by unfold Bh ZB;rw[l];exact congrArg Zj p
 obtain⟨a,i2,_⟩:=o.inn g d f rfl rfl rfl _ (Ld _);have q:w.D<w.Q.length:=by rw[hs,o.l];omega
 have hb:(Lf (Bh w).length).find? (λk=>Ln (CQ w (C4 w) (Bh w) k≠0))=Le:=LA.2 λj hj=>by(grind)
 have c:B1 w=(Hk (Bg w (C4 w) (Bh w) (Bh w).length) (Bh w).length,Lb,0):=by grind[B1]
 have b:=o.b.step g d;have so:=(Oy o.b.o.c.ok b.1).2 (by rw[c]);refine⟨?_,by rw[c],by omega⟩;have b:=b.2;rw[c]at b⊢;rw[l,r]at b⊢;rw[m,Lm];exact⟨b,a.nd,a.l,a.i,a.s,a.un,a.uq⟩
end
def CG(h:Heap)(roots:List Int):Nat->List Int|0=>addN [] roots roots.length|i+1=>addN (CG h roots i) (HU h ((CG h roots i).getD i La)) (HU h ((CG h roots i).getD i La)).length
structure Mr (h:Heap) (roots:List Int) (k:Nat):Prop where
 r:(Lf roots.length).find? (Ci roots (Zb h).1)=Le
 o:∀i,i<k->i<(CG h roots i).length/\CJ (HU h ((CG h roots i).getD i La))/\(Lf (HU h ((CG h roots i).getD i La)).length).find? (Ci (HU h ((CG h roots i).getD i La)) (Zb h).1)=Le
 e:(CG h roots k).length<=k
 u:∀i,i<=k->(CG h roots i).length<=1048576/\CJ (CG h roots i)
def Py(h:Heap)(roots:List Int):Nat->Nat->Nat|0,i=>i|f+1,i=>if(CG h roots i).length<=i then i else Py h roots f (i+1)
def NN(h:Heap)(roots:List Int):Nat:=Py h roots (1048577+roots.length) 0
def Zae{h roots k}(E:Mr h roots k):∀f i,i<=k->k<=i+f->Py h roots f i=k
 |0,i,h1,h2=>by unfold Py;omega
 |f+1,i,h1,h2=>by
  unfold Py;by_cases q:i=k
  .rw[q,if_pos E.e]
  .have:=(E.o i oq).1;rw[if_neg oq];exact Zae E f (i+1) oq oq
def Zax{h roots k}(E:Mr h roots k):NN h roots=k:=by refine Zae E _ 0 (Lq _) ?_;by_cases q:k=0;omega;have h1:=(E.o (k-1) oq).1;have h2:=(E.u (k-1) oq).1;omega
def Z6k{refs all:List Int}(h:∀r∈refs,r=0\/r∈all):(Lf refs.length).find? (Ci refs all)=Le:=
 LA.2 λj a=>by
  have:=h _ (ZT.2 ⟨j,Lj.1 a,rfl⟩);unfold Ci;simp only[decide_eq_true_eq,not_and,LI];exactλc=>this.resolve_left c
section
variable{h:Heap}{T:Nat->List Int}(g:Gd h T)(a:MV h){s:List Int}(hs:∀r∈s,r=0\/Ob h T r)(b:Zw h.W)
include g a hs b
theorem RO.roots:∀k,k<=s.length->RO h T (rootsN (Zr h) s k).1 (addN [] s k) 0/\(rootsN (Zr h) s k).1.D=0
 |0,_=>⟨RO.begin g b,rfl⟩
 |k+1,hk=>by
  obtain⟨c,e⟩:=RO.roots k oq;obtain⟨tq,i⟩:=c.b.o.c.k;have d:=(hs _ (ZT.2 ⟨k,by omega,rfl⟩)).imp id λq=>(i.old _).2 q;have f:=c.fwd g a d;exact⟨f.2.1,(NJ c.b.o.c.ok c.b.o.c.inv _ f.1).2.1.trans e⟩
theorem RO.it:∀k,(∀j,j<k->j<(CG h s j).length)->RO h T (BZ (rootsF (Zr h) s).1 k) (CG h s k) k/\(BZ (rootsF (Zr h) s).1 k).D=k
 |0,_=>by
  obtain⟨c,d⟩:=RO.roots g a hs b s.length (Ld _);obtain⟨e,_⟩:=SW.roots g a hs b;rw[e];exact⟨c,d⟩
 |k+1,hk=>by
  obtain⟨c,d⟩:=RO.it k (λj hj=>hk j oq);obtain⟨f,_,i⟩:=c.step g a (hk k oq) d;exact⟨f,i⟩
theorem Z2W:∃k,Mr h s k/\RO h T (ZA h s) (CG h s k) k/\(ZA h s).D=k/\(CG h s k).length=k/\ZA h s=BZ (rootsF (Zr h) s).1 k:=by
 obtain⟨e,sw⟩:=SW.roots g a hs b;obtain⟨k,hk⟩:=SE sw.o.c.ok;obtain⟨h1,h2,h3⟩:=LB.1 hk;have w:=λj=>((sw.it g a j).step g a).1;have d:∀j,j<=k->∀i,i<j->i<(CG h s i).length:=by
  intro j;induction j with
  |zero=>intro _ i f;omega
  |succ j ih =>
   intro o i f;by_cases q:i=j;subst q;obtain⟨l,u⟩:=RO.it g a hs b i (ih oq);have m:Eu (rootsF (Zr h) s).1 i=Lc:=by simpa using h3 i oq
   have:=(Z2R (Z9S m)).1;rw[u,l.l]at this;omega;exact ih oq i oq
 obtain⟨l,u⟩:=RO.it g a hs b k (d k (Ld _));have m:(B1 (BZ (rootsF (Zr h) s).1 k)).2.1=Lc:=by(simp only[Eu,decide_eq_true_eq,w k]at h1;simpa using h1)
 obtain⟨n1,n2⟩:=step_end (w k) m;have v:ZA h s=BZ (rootsF (Zr h) s).1 k:=by rw[ZA,Bz,hk];simp only[if_pos (w k)];exact n2
 have sc:=l.b.o.c.ok.sc;have il:=l.l;rw[u,l.l]at n1;rw[u,l.l]at sc;have t:∀{i:Nat},i<=k->∀x∈(BZ (rootsF (Zr h) s).1 i).old,x∈(Zb h).1:=λ{i} f x z=>by(obtain⟨tq,ki⟩:=(sw.it g a i).o.c.k;exact((KI.begin g).old x).2 ((ki.old x).1 z))
 refine⟨k,⟨Z6k λr p=>(hs r p).imp id λq=>((KI.begin g).old r).2 q,λi f=>(λq=>⟨d k (Ld _) i f,λr p=>(q r p).elim (λc=>by omega) (λc=>by have:=IG h r c;omega),Z6k q⟩) λr p=>?_,by omega,λi f=>?_⟩,by rw[v];exact l,by rw[v];exact u,by omega,v⟩;obtain⟨n,j2⟩:=RO.it g a hs b i (λj o=>d k (Ld _) j oq);have xo:=(n.i i (d k (Ld _) i f)).1;obtain⟨tq,ki⟩:=n.b.o.c.k;obtain⟨i0,a0,y⟩:=(ki.old _).1 xo;rw[g.refs a0 y]at p;obtain⟨j,o,rfl⟩:=LO.1 p;exact(n.old g xo o).imp id (t oq _);obtain⟨n,j2⟩:=RO.it g a hs b i (λj o=>d k (Ld _) j oq);have ln:=n.b.o.c.ck.ln;refine⟨by rw[<-n.l];exact ln.ql,λx z=>?_⟩;obtain⟨j,o,rfl⟩:=ZT.1 z;have:=IG h _ (t f _ (n.i j o).1);omega
theorem Z6r:∃k,Mr h s k/\RO h T (ZA h s) (CG h s k) k/\(ZA h s).D=k/\(CG h s k).length=k:=by obtain⟨k,c,d,e,f,_⟩:=Z2W g a hs b;exact⟨k,c,d,e,f⟩
end
section
variable{B:Int}(hB:0<=B){h:Heap}{T:Nat->List Int}(g:Gd h T)(mv:MV h){s k0:List Int}(hw:Zw h.W)(hb:∀p∈h.P,p.N<=B)(gs:Gr h T s)(gk:Gr h T k0)(e:(collectF h s k0).2.2.2.2=0)
include hB g mv hw hb gs gk e
theorem PU:∃tq l5,CE h T tq (ZA h s) (Cy h s k0).j.W l5/\OnW h T (ZA h s)/\(collectF h s k0).1=⟨(ZA h s).j.C,l5,(ZA h s).j.P.map (BU (ZA h s).j.S),1-(ZA h s).j.S,(collectF h s k0).1.B⟩/\Gd (collectF h s k0).1 (tE T tq (ZA h s))/\(collectF h s k0).2.1=(rootsF (Zr h) s).2.1/\(collectF h s k0).2.2.1=Ev (ZA h s) k0 k0.length/\(collectF h s k0).2.2.2.1=(Bs h s k0).rep:=by
 obtain⟨er,sw⟩:=SW.roots g mv gs hw;have e1:(rootsF (Zr h) s).2.2=0:=by rw[er]
 have e2:=(sw.all g mv).1;have pr1:=(OH hB hw hb e).p1;obtain⟨tq,ce,eh⟩:=Dc hB g hw hb e1 e2 (k:=k0);have e7:collectF h s k0=(Em (Bs h s k0),(rootsF (Zr h) s).2.1,Ev (ZA h s) k0 k0.length,(Bs h s k0).rep,0):=by rw[collectF,if_pos g.p,if_pos ⟨g.refers gs,g.refers gk⟩,if_pos e1,if_pos e2]
 rw[e7]at pr1⊢;refine⟨tq,_,ce,(sw.all g mv).2.o,eh, ?_,rfl,rfl,rfl⟩;simp only at pr1⊢;rw[eh]at pr1⊢;exact ce.good pr1
end
def Iv(all l:List Int):List Z3:=[.box 105 [Z2 all,.pt 1 0 99999,.ow 2],.mp l,.arr 35 1 (l.map wD)]
def Tl(all l:List Int):List Z3:=[.box 105 [Z2 all,.pt 1 0 99999,.ow 3],.mp l,.dead,.arr 35 1 (l.map wD)]
section
variable(all l:List Int)(r:Int)(a:0<=r/\r<=18446744073709551615)(hl:l.length<=1048576)(b:all.length<=1048576)(hs:all.Pairwise (· < ·))
include a hl b hs
theorem Z91(h:r≠0)(hr:r∉all):BP 108 [.pt 0 0 0,uU r] (Iv all l) (bL Lc) (Iv all l):=by exact borF [0,1,2] [] func108 []<|Ffb 10 (r==0)<|Fc 17 (@bsearch all r aa aa)<|Ftb 21 (!decide (r∈all)) Fz
theorem ZjZ(h:r=0\/r∈all)(d:r=0\/r∈l):BP 108 [.pt 0 0 0,uU r] (Iv all l) (bL Lb) (Iv all l):=by by_cases c:r=0;exact borF [0,1,2] [] func108 []<|Ftb 10 (r==0) Fz;have h:=h.resolve_left c;have d:=d.resolve_left c;exact borF [0,1,2] [] func108 []<|Ffb 10 (r==0)<|Fc 17 (@bsearch all r aa aa)<|Ffb 21 (!decide (r∈all))<|Ff 32 (by simp[mpC, *]:(!mpC l r)=Lc) Fz
theorem Zj3(h:r≠0)(hr:r∈all)(hn:r∉l):BP 108 [.pt 0 0 0,uU r] (Iv all l) (bL Lb) [.box 105 [Z2 all,.pt 1 0 99999,.ow 3],.mp (l++[r]),.dead,.arr 35 1 ((l++[r]).map wD)]:=by exact borF [0,1,8002] [72050] func108 []<|Fh 50 [.els (Lg wD (l++[r]))]<|Ffb 10 (r==0)<|Fc 17 (@bsearch all r aa aa)<|Ffb 21 (!decide (r∈all))<|Ft 32 (by simp[mpC, *]:(!mpC l r)=Lb)<|Fl 42 wD l<|Fa (by intro c;(try simp only[bs]at c);grind[mpC]:r∈l->False)<|Fr (l.length:Int)<|Fo (l.length<2^30)<|Fs 49 (Lg wD [r])<|Fa (by(simp[mpC, *];omega):(Lg wD l).length+(Lg wD [r]).length<=2^30)<|Fa (by simp[mpC,List.map_take,List.map_drop,List.map_set,L0,wD,iD]:Lg wD l++Lg wD [r]=Lg wD (l++[r])) Fz
theorem Z8Q(h:r=0\/r∈all):BP 108 [.pt 0 0 0,uU r] (Iv all l) (bL Lb) (Tl all (C9 l r)):=by by_cases c:r=0\/r∈l;rw[C9,if_pos c];exact M8 [0,1,3] 4 (ZjZ all l r a hl b hs h c) (by rfl) rfl rfl;rw[C9,if_neg c];exact Zj3 all l r a hl b hs (λq=>c (.inl q)) (h.resolve_left λq=>c (.inl q)) (λq=>c (.inr q))
end
def Z63(hd:Zy)(fs:List Int)(f:Int->Int):∀n:Nat,(∀k:Nat,k<n->fs.getD k La=f k)->Gx hd fs n=(BK hd n).map f
 |0,_=>rfl
 |n+1,h=>by
  unfold Gx BK;rw[Z63 hd fs f n (λk hk=>h k oq),h n oq];split
  .simp
  .rfl
def SS{h:Heap}(g:Z9 h=Lb){a:Int}(f:a∈(Zb h).1):(Zv h a).2=0/\(Z6 h a).2=0/\(Z6 h a).1.K≠0:=by
 obtain⟨d,b⟩:=List.mem_filter.1 f;have b:(Z6 h a).1.K≠0:=by simpa[E3]using b
 rw[Z0Y]at d;obtain⟨x,i,rfl⟩:=LO.1 d;have c:=(Z2h x i).2;refine⟨?_,c,b⟩;unfold Zv;have z:x.addr≠0:=λe=>Z4f h (by have:=c;rw[e]at this;exact this);rw[if_pos g,if_neg z,if_neg (λe=>b e.2)];exact c
def ZK(h:Heap)(a:Int):List Int:=(Zj (Z6 h a).1).map λj=>(Z1 h.W (a+1+j)).1
def Z8b{h:Heap}{a:Int}(l:Z9 h=Lb)(f:a∈(Zb h).1):HU h a=ZK h a:=by
 have g:=(SS l f).1;obtain⟨e,c,_,_,k1,k2,v,_,_,l1,l2⟩:=Iu g;have r:=Dr c;rw[<-e]at r;have d:(C0 h a)=BV h.W (a+1) (Zv h a).1.length:=by rw[C0,if_pos g]
 have m:BV h.W (a+1) (Zv h a).1.length=((h.W.drop (a+1-4096).toNat).take (Zv h a).1.length.toNat,0):=by(rw[BV,if_neg oq,if_pos oq])
 unfold HU ZK;rw[d,m];have b:((h.W.drop (a+1-4096).toNat).take (Zv h a).1.length.toNat).length=(Zv h a).1.length.toNat:=by(rw[Lr,Xb];omega)
 rw[Z63 _ _ (λj=>(Z1 h.W (a+1+j)).1) _ (λk i=>?_),b];unfold Zj;rw[<-e,if_pos v];rw[b]at i;show((h.W.drop (a+1-4096).toNat).take (Zv h a).1.length.toNat).getD k La=_;rw[Z1,if_pos oq];simp only[Lh,LN,LR];rw[if_pos oq,show(a+1-4096).toNat+k=(a+1+(k:Int)-4096).toNat by omega];rfl
def ZkH{l:List Int}{a:Int}(h:l.Nodup)(e:a∉l):(l++[a]).Nodup:=by rw[L1];refine⟨h,by simp,λb f c d=>?_⟩;rw[Lu]at d;rintro rfl;exact e (d▸f)
def ZhP{all out:List Int}{r:Int}(h:out.Nodup/\∀x∈out,x∈all)(b:r=0\/r∈all):(C9 out r).Nodup/\∀x∈C9 out r,x∈all:=by unfold C9;split;exact h;rename_i c;refine⟨ZkH h.1 (λq=>c (.inr q)),λx a=>?_⟩;rcases Lt.1 a with a|a;exact h.2 x a;rw[Lu.1 a];exact b.resolve_left λq=>c (.inl q)
def Z2A{refs all}{i:Nat}(h:Ci refs all i=Lc):refs.getD i La=0\/refs.getD i La∈all:=by have:=of_decide_eq_false h;by_cases c:refs.getD i La=0;exact .inl c;exact .inr (LI.1 λq=>this ⟨c,q⟩)
def Mz{all out refs:List Int}(h:out.Nodup/\∀x∈out,x∈all):∀n,(∀j,j<n->Ci refs all j=Lc)->(addN out refs n).Nodup/\∀x∈addN out refs n,x∈all|0,_=>h|n+1,hb=>ZhP (Mz h n λj hj=>hb j oq) (Z2A (hb n oq))
def Ov{refs all:List Int}(h:(Lf refs.length).find? (Ci refs all)=Le):∀j,j<refs.length->Ci refs all j=Lc:=λj a=>by
 simpa using LA.1 h j (Lj.2 a)
def Pu:∀{l m:List Int},l.Nodup->(∀x∈l,x∈m)->l.length<=m.length
 |[],_,_,_=>Lq _
 |a::l,m,hn,h=>by
  obtain⟨d,f⟩:=Xd.1 hn;have b:=h a pq;have:=Pu (l:=l) (m:=m.erase a) f (λx c=>(List.mem_erase_of_ne (by rintro rfl;exact d c)).2 (h x (by simp[c])));have e:=List.length_erase_of_mem b;have:=List.length_pos_of_mem b;simp only[Xa];omega
def Zp(h:Heap)(roots:List Int):Nat->List Int|0=>addN [] roots roots.length|i+1=>addN (Zp h roots i) (ZK h ((Zp h roots i).getD i La)) (ZK h ((Zp h roots i).getD i La)).length
def H2(h:Heap)(roots:List Int)(i:Nat):Bool:=((Lf (ZK h ((Zp h roots i).getD i La)).length).find? (Ci (ZK h ((Zp h roots i).getD i La)) (Zb h).1)).isSome
def NX(h:Heap)(roots:List Int):Nat->Nat->Nat|0,i=>i|f+1,i=>if(Zp h roots i).length<=i\/H2 h roots i=Lb then i else NX h roots f (i+1)
def Hw(h:Heap)(roots:List Int):Nat:=NX h roots 16385 0
def GT(h:Heap)(roots:List Int):Bool:=((Lf roots.length).find? (Ci roots (Zb h).1)).isSome
structure GQ (h:Heap) (roots:List Int) (k:Nat):Prop where
 lo:∀i,i<k->i<(Zp h roots i).length/\H2 h roots i=Lc
 el:∀i,i<=k->(Zp h roots i).Nodup/\∀x∈Zp h roots i,x∈(Zb h).1
def GQ.len{h roots k}(I:GQ h roots k){i:Nat}(hi:i<=k):(Zp h roots i).length<=16384:=
 LG (Pu (I.el i hi).1 (I.el i hi).2) (H3 h)
def GQ.zero{h}{roots:List Int}(b:GT h roots=Lc):GQ h roots 0:=by
 refine⟨λi a=>by omega,λi a=>?_⟩;obtain rfl:i=0:=by omega
 exact Mz ⟨LD,by simp⟩ _ (Ov (by simpa[GT]using b))
def GQ.succ{h roots k}(I:GQ h roots k)(b:k<(Zp h roots k).length)(a:H2 h roots k=Lc):GQ h roots (k+1):=by refine⟨λi c=>?_,λi c=>?_⟩;by_cases q:i=k;rw[q];exact⟨b,a⟩;exact I.lo i oq;by_cases q:i=k+1;rw[q];exact Mz (I.el k (Ld _)) _ (Ov (by simpa[H2]using a));exact I.el i oq
def Z7s{h roots}:∀f i,GQ h roots i->16385<=f+i->GQ h roots (NX h roots f i)/\((Zp h roots (NX h roots f i)).length<=NX h roots f i\/H2 h roots (NX h roots f i)=Lb)
 |0,i,I,hf=>by
  have:=I.len (Ld i);exact⟨I,.inl (by unfold NX;omega)⟩
 |f+1,i,I,hf=>by
  unfold NX;by_cases q:(Zp h roots i).length<=i\/H2 h roots i=Lb
  .rw[if_pos q];exact⟨I,q⟩
  .rw[if_neg q];exact Z7s f (i+1) (I.succ oq (by simpa using λe=>q (.inr e))) oq
def Z1j{h}{roots:List Int}(a:GT h roots=Lc):GQ h roots (Hw h roots)/\((Zp h roots (Hw h roots)).length<=Hw h roots\/H2 h roots (Hw h roots)=Lb):=
 Z7s _ _ (GQ.zero a) oq
def BE(h:Heap)(roots:List Int):List Int×Int:=
 if Z9 h=Lb then
  if(Zb h).2=0 then
   if GT h roots=Lb\/((Hw h roots)<(Zp h roots (Hw h roots)).length/\H2 h roots (Hw h roots)=Lb)then([],19)else(Zp h roots (Hw h roots),0)
  else([],(Zb h).2)
 else([],1)
section
variable(all out refs:List Int)(hl:refs.length<=1000000)(b:all.length<=1048576)(c:out.length<=16384)(a:CJ refs)
include hl b c a
theorem Znq(i:Nat)(hi:i<refs.length)(d:Ci refs all i=Lb):CP (Zm f66 0) (a8L all out refs i).st .ret (Tg.st ⟨tm 42 [(6,.d (.sl 0 [])),(7,bL Lc)],[],60⟩):=by have r:=a _ (ZT.2 ⟨i,hi,rfl⟩);obtain⟨b1,b2⟩:=of_decide_eq_true d;exact sF [] []<|FN 11 12 17 wD refs i<|Ffb 19 (refs.getD i La==0)<|Fek 23 wD refs (↑i) i<|Fc 25 (@E0 all (refs.getD i La) aa)<|Ftb 26 (!decide (refs.getD i La∈all)) Fz
theorem ZcQ k(g:(Lf refs.length).find? (Ci refs all)=LH k):CP (Zi f66 0) (Tg.st ⟨tm 42 [(0,Z2 all),(1,.ow 8000),(2,Z2 refs),(6,.d (.sl 0 [])),(7,bL Lc),(8,nI 0)],[(8000,.arr 35 1 (out.map wD))],4⟩) .ret (Tg.st ⟨tm 42 [(6,.d (.sl 0 [])),(7,bL Lc)],[],60⟩):=by obtain⟨e,d,f⟩:=LB.1 g;have d:=Lj.1 d;have i:∀m,(addN out refs m).length<=out.length+m:=Z6y out refs;exact EM (S:=λk=>(a8L all out refs k).st) k kr (λm h=>Z6X all out refs oq b (by have:=i refs.length;omega) a m oq (by simpa using f m h)) (Znq all out refs hl b c a k d e)
theorem Z5S(d:((Lf refs.length).find? (Ci refs all)).isSome=Lb):BP 66 [Z2 all,.ow 0,Z2 refs] [.arr 35 1 (out.map wD)] (.tu [.d (.sl 0 []),bL Lc]) [.dead]:=by obtain⟨k,d⟩:=L4.1 d;exact borF [8000] [] func66 []<|Fu (@ZcQ all out refs aa aa aa aa k d)<|Fnl Fz
end
def Za9(h:Heap)(a:Int)(d:Zw h.W)(c:Z9 h=Lb)(b:a∈(Zb h).1):GP 18 [h.av,uU a] Lc (Z2 (ZK h a)) []:=by rw[<-Z8b c b];have:=IG h a b;exact ZjF h a d oq
def Z7Z(h:Heap) a:(ZK h a).length<=255:=by rw[ZK,Lm];exact(Au _).1
def Z5H{h:Heap}(b:Zw h.W) a:CJ (ZK h a):=by intro x c;obtain⟨j,_,rfl⟩:=LO.1 c;exact ES b _
def Z8m(all refs:List Int)(hl:refs.length<=1048576)(a:all.length<=1048576)(c:(addN [] refs refs.length).length<=1048576)(d:CJ refs)(b:(Lf refs.length).find? (Ci refs all)=Le):BP 66 [Z2 all,.ow 0,Z2 refs] [.arr 35 1 []] (.tu [.ow 1,bL Lb]) [.dead,.arr 35 1 ((addN [] refs refs.length).map wD)]:=
 Z65 all [] refs hl a c d b
def ZmB(all refs:List Int)(hl:refs.length<=1000000)(a:all.length<=1048576)(c:CJ refs)(b:((Lf refs.length).find? (Ci refs all)).isSome=Lb):BP 66 [Z2 all,.ow 0,Z2 refs] [.arr 35 1 []] (.tu [.d (.sl 0 []),bL Lc]) [.dead]:=
 Z5S all [] refs hl a (Lq _) c b
def orG(h:Heap)(roots:List Int)(i:Nat):Tg:=⟨tm 52 [(2,.pt 8002 0 0),(4,.d (.sl 0 [])),(5,nI 0),(6,Z2 (Zb h).1),(8,.ow 41025),(9,bL Lb),(10,nI i)],[(41025,.arr 35 1 ((Zp h roots i).map wD)),(8002,.box 28 [nI h.C.pw,nI h.C.pg,.d (.sl 1 (h.W.map wD)),.d (.sl 4 (h.P.map Z0.dv)),nI h.S,nI h.B])],7⟩
def orX(i:Nat):Tg:=⟨tm 52 [(4,.d (.sl 0 [])),(5,nI 0),(8,.d (.sl 0 [])),(9,bL Lc),(10,nI i)],[],7⟩
section
variable(h:Heap)(roots:List Int)(k:Nat)(I:GQ h roots k)(a:Zw h.W)(c:Z9 h=Lb)
include I a c
theorem Z55(i:Nat)(hi:i<k):CP (Zm f25 0) (orG h roots i).st .nrm (orG h roots (i+1)).st:=by
 have ol:=H3 h;obtain⟨f,d⟩:=I.lo i hi;have o3:=I.len (i:=i) oq;have g:=I.len (i:=i+1) oq;have om:=(I.el i oq).2 _ (ZT.2 ⟨i,f,rfl⟩);have ox:=IG h _ om;have rl:=Z7Z h ((Zp h roots i).getD i La);have ru:=Z5H a ((Zp h roots i).getD i La);have d:(Lf (ZK h ((Zp h roots i).getD i La)).length).find? (Ci (ZK h ((Zp h roots i).getD i La)) (Zb h).1)=Le:=by simpa[H2]using d
 have b:Zp h roots (i+1)=addN (Zp h roots i) (ZK h ((Zp h roots i).getD i La)) (ZK h ((Zp h roots i).getD i La)).length:=rfl;rw[b]at g;unfold orG;rw[b];let e:=(Zp h roots i).getD (i:Int).toNat La;exact sF [(65046,41025)] []<|FlG 32 Lb wD (Zp h roots i)<|Ftb 34 (Ln ((i:Int)<(↑(Zp h roots i).length:Int)))<|Fmq 44 wD (Zp h roots i) (↑i)<|Fc 45 (@Za9 h e aa aa aa)<|Fbr 46 [41025] (@Z65 ((Zb h).1) (Zp h roots i) (ZK h e) (by grind[]) oq (by grind[]) aa aa)<|Fx 36 i Fz
theorem Zkd(hi:k<(Zp h roots k).length)(d:H2 h roots k=Lb):CP (Zm f25 0) (orG h roots k).st .nrm (orX (k+1)).st:=by have ol:=H3 h;have o3:=I.len (Ld k);have om:=(I.el k (Ld k)).2 _ (ZT.2 ⟨k,hi,rfl⟩);have ox:=IG h _ om;have rl:=Z7Z h ((Zp h roots k).getD k La);have ru:=Z5H a ((Zp h roots k).getD k La);unfold H2 at d;unfold orG;let b:=(Zp h roots k).getD (k:Int).toNat La;exact sF [] []<|FlG 32 Lb wD (Zp h roots k)<|Ftb 34 (Ln ((k:Int)<(↑(Zp h roots k).length:Int)))<|Fmq 44 wD (Zp h roots k) (↑k)<|Fc 45 (@Za9 h b aa aa aa)<|Fbr 46 [41025] (@Z5S ((Zb h).1) (Zp h roots k) (ZK h b) (by grind[]) oq aa aa aa)<|Fx 36 k Fz
omit I a c in
theorem Z5O:CP (Zm f25 0) (orX k).st (.ext 0) (Tg.st ⟨tm 52 [(4,.d (.sl 0 [])),(5,nI 0),(8,.d (.sl 0 [])),(9,bL Lc)],[],7⟩):=by exact sF [] [] Fz
omit I a c in
theorem Zf2(e:(Zp h roots k).length<=k):CP (Zm f25 0) (orG h roots k).st (.ext 0) (Tg.st ⟨tm 52 [(4,.d (.sl 0 [])),(5,nI 0),(8,.ow 41025),(9,bL Lb)],[(41025,.arr 35 1 ((Zp h roots k).map wD))],7⟩):=by exact sF [] []<|FlG 32 Lb wD (Zp h roots k)<|Ffb 34 (Ln ((k:Int)<(↑(Zp h roots k).length:Int))) Fz
def Zm9(e:(Zp h roots k).length<=k)  := Bo (S:=λi=>(orG h roots i).st) k (by kernel_rfl) (λi b=>Z55 h roots k I a c i b) (Zf2 h roots k e)
theorem ZfI(hi:k<(Zp h roots k).length)(d:H2 h roots k=Lb):CP (Zi f25 0) (Tg.st ⟨tm 52 [(2,.pt 8002 0 0),(4,.d (.sl 0 [])),(5,nI 0),(6,Z2 (Zb h).1),(8,.ow 41025),(9,bL Lb),(10,nI 0)],[(41025,.arr 35 1 ((addN [] roots roots.length).map wD)),(8002,.box 28 [nI h.C.pw,nI h.C.pg,.d (.sl 1 (h.W.map wD)),.d (.sl 4 (h.P.map Z0.dv)),nI h.S,nI h.B])],7⟩) .nrm (Tg.st ⟨tm 52 [(4,.d (.sl 0 [])),(5,nI 0),(8,.d (.sl 0 [])),(9,bL Lc)],[],7⟩):=by
 have:=Bo (P:=prog) (fn:=f25) (b:=0) (S:=λi=>if i<=k then(orG h roots i).st else(orX i).st) (k+1) kr (λi e=>by
  rw[if_pos oq];by_cases q:i=k;rw[q,if_neg oq];exact Zkd h roots k I a c hi d;rw[if_pos oq];exact Z55 h roots k I a c i oq) (by rw[if_neg oq];exact Z5O (k+1))
 rw[if_pos (Lq _)]at this;exact this
theorem ZgZ(hl:roots.length<=1000)(hr:CJ roots)(ho:(Zb h).2=0)(b:GT h roots=Lc)(e:(Zp h roots k).length<=k):GP 25 [h.av,Z2 roots] Lc (.tu [Z2 (Zp h roots k),nI 0]) []:=by
 have ol:=H3 h;have Er:(Lf roots.length).find? (Ci roots (Zb h).1)=Le:=by simpa[GT]using b
 have u0:(addN [] roots roots.length).length<=16384:=I.len (Lq k);exact gF [] func25 []<|Fh 25 [.gh 35 1,.bor [47025] (AV.tu [AV.ow 1,bL Lb]) [Z3.dead,Z3.arr 35 1 (Lg wD (addN [] roots roots.length))]]<|Fc 12 (@CC h)<|Ffb 13 (!Z9 h)<|Fc 16 (@RQ h aa)<|Ffb 20 ((Zb h).2 != 0)<|Fa (@Z8m ((Zb h).1) roots oq oq oq aa aa)<|Fu (@Zm9 h roots k aa aa aa aa) Fz
theorem ZlY(hl:roots.length<=1000)(hr:CJ roots)(ho:(Zb h).2=0)(b:GT h roots=Lc)(hi:k<(Zp h roots k).length)(d:H2 h roots k=Lb):GP 25 [h.av,Z2 roots] Lc (.tu [Z2 [],nI 19]) []:=by
 have ol:=H3 h;have Er:(Lf roots.length).find? (Ci roots (Zb h).1)=Le:=by simpa[GT]using b
 have u0:(addN [] roots roots.length).length<=16384:=I.len (Lq k);exact gF [] func25 []<|Fh 25 [.gh 35 1,.bor [47025] (AV.tu [AV.ow 1,bL Lb]) [Z3.dead,Z3.arr 35 1 (Lg wD (addN [] roots roots.length))]]<|Fc 12 (@CC h)<|Ffb 13 (!Z9 h)<|Fc 16 (@RQ h aa)<|Ffb 20 ((Zb h).2 != 0)<|Fa (@Z8m ((Zb h).1) roots oq oq oq aa aa)<|Fu (@ZfI h roots k I aa aa aa aa)<|Fnl Fz
end
def ZkJ(h:Heap) roots(hw:Zw h.W)(hp:Z9 h=Lc):GP 25 [h.av,Z2 roots] Lc (.tu [Z2 [],nI 1]) []:=by exact gF [] func25 []<|Fc 12 (@CC h)<|Ftb 13 (!Z9 h)<|Fnl Fz
def Zju(h:Heap) roots(hw:Zw h.W)(hp:Z9 h=Lb)(ho:(Zb h).2≠0):GP 25 [h.av,Z2 roots] Lc (.tu [Z2 [],nI (Zb h).2]) []:=by exact gF [] func25 []<|Fc 12 (@CC h)<|Ffb 13 (!Z9 h)<|Fc 16 (@RQ h aa)<|Ftb 20 ((Zb h).2 != 0)<|Fnl Fz
def Z4P  := Bo (S:=λi=>(orX i).st) 0 (by kernel_rfl) (λi a=>absurd a (Lo _)) (Z5O 0)
def ZmA(h:Heap)(roots:List Int)(hw:Zw h.W)(hp:Z9 h=Lb)(hl:roots.length<=1000)(hr:CJ roots)(ho:(Zb h).2=0)(a:GT h roots=Lb):GP 25 [h.av,Z2 roots] Lc (.tu [Z2 [],nI 19]) []:=by have ol:=H3 h;unfold GT at a;have b:=Z4P;unfold orX at b;exact gF [] func25 []<|Fh 25 [.gh 35 1,.bor [47025] (AV.tu [AV.d (DV.sl 0 []),bL Lc]) [Z3.dead]]<|Fc 12 (@CC h)<|Ffb 13 (!Z9 h)<|Fc 16 (@RQ h aa)<|Ffb 20 ((Zb h).2 != 0)<|Fa (@ZmB ((Zb h).1) roots oq oq aa aa)<|Fu (@Z4P)<|Fnl Fz
def Z6v(h:Heap)(roots:List Int)(f:Zw h.W)(hl:roots.length<=1000)(i:CJ roots):GP 25 [h.av,Z2 roots] Lc (.tu [Z2 (BE h roots).1,nI (BE h roots).2]) []:=by
 unfold BE;by_cases b:Z9 h=Lb;rw[if_pos b];by_cases d:(Zb h).2=0;rw[if_pos d];by_cases g:GT h roots=Lb;rw[if_pos (.inl g)];exact ZmA h roots f b hl i d g;have a:GT h roots=Lc:=by simpa using g
 obtain⟨I,e⟩:=Z1j a;by_cases c:(Hw h roots)<(Zp h roots (Hw h roots)).length/\H2 h roots (Hw h roots)=Lb;rw[if_pos (.inr c)];exact ZlY h roots _ I f b hl i d a c.1 c.2;rw[if_neg (λq=>q.elim g c)];refine ZgZ h roots _ I f b hl i d a ?_;rcases e with e|e;exact e;exact Nat.not_lt.1 λq=>c ⟨q,e⟩;rw[if_neg d];exact Zju h roots f b d;rw[if_neg b];exact ZkJ h roots f (by simpa using b)
def ZkK(h:Heap) roots(hw:Zw h.W)(hp:Z9 h=Lc):BP 55 [h.av,Z2 roots] [] (.tu [.d (.sc (.pointer Le)),nI 1]) []:=by exact borF [] [] func55 []<|Fc 19 (@Ei h)<|Ftb 20 (!Z9 h) Fz
def ZeH(h:Heap) roots(hw:Zw h.W)(hp:Z9 h=Lb)(ho:(Zb h).2≠0):BP 55 [h.av,Z2 roots] [] (.tu [.d (.sc (.pointer Le)),nI (Zb h).2]) []:=by exact borF [] [] func55 []<|Fc 19 (@Ei h)<|Ffb 20 (!Z9 h)<|Fc 23 (@SC h aa)<|Ftb 27 ((Zb h).2 != 0) Fz
def GW(h:Heap):Z3:=.box 28 [nI h.C.pw,nI h.C.pg,.d (.sl 1 (h.W.map wD)),.d (.sl 4 (h.P.map Z0.dv)),nI h.S,nI h.B]
def Gi(all l:List Int):List (Nat×Z3):=[(48032,.box 105 [Z2 all,.pt 48030 0 99999,.ow 48031]),(48031,.arr 35 1 (l.map wD)),(48030,.mp l)]
def srL(h:Heap)(roots:List Int)(i:Nat):Tg:=⟨tm 102 [(2,.pt 16002 0 0),(4,.d (.sc (.pointer Le))),(5,nI 0),(8,.pt 48032 0 0),(33,Z2 roots),(34,nI roots.length),(35,nI i)],Gi (Zb h).1 (addN [] roots i)++[(16002,GW h)],8⟩
section
variable(h:Heap)(roots:List Int)(hl:roots.length<=1000)(a:CJ roots)
include hl a
theorem Zba(i:Nat)(hi:i<roots.length)(b:∀j,j<i+1->Ci roots (Zb h).1 j=Lc):CP (Zm f55 0) (srL h roots i).st .nrm (srL h roots (i+1)).st:=by have e:=H3 h;have os:=SY h;have c:=Mz (all:=(Zb h).1) (out:=[]) (refs:=roots) ⟨LD,by simp⟩ i (λj hj=>b j oq);have o2:=LG (Pu c.1 c.2) e;have r:=a _ (ZT.2 ⟨i,hi,rfl⟩);have rb:=Z2A (b i oq);have d:addN [] roots (i+1)=C9 (addN [] roots i) (roots.getD i La):=rfl;unfold srL Gi GW;rw[d];exact sF [(81041,48031)] []<|Ftb 36 (Ln ((i:Int)<(roots.length:Int)))<|Fek 37 wD roots (↑i) i<|Fbr 41 [48032,48030,48031] (@Z8Q ((Zb h).1) (addN [] roots i) (roots.getD i La) aa oq oq aa aa)<|Fx 43 i Fz
theorem Zmi(i:Nat)(hi:i<roots.length)(c:∀j,j<i->Ci roots (Zb h).1 j=Lc)(d:Ci roots (Zb h).1 i=Lb):CP (Zm f55 0) (srL h roots i).st .ret (Tg.st ⟨tm 102 [(4,.d (.sc (.pointer Le))),(5,nI 19)],[],60⟩):=by have e:=H3 h;have os:=SY h;have b:=Mz (all:=(Zb h).1) (out:=[]) (refs:=roots) ⟨LD,by simp⟩ i c;have o2:=LG (Pu b.1 b.2) e;have r:=a _ (ZT.2 ⟨i,hi,rfl⟩);obtain⟨b1,b2⟩:=of_decide_eq_true d;unfold srL Gi GW;exact sF [] []<|Ftb 36 (Ln ((i:Int)<(roots.length:Int)))<|Fek 37 wD roots (↑i) i<|Fbq 41 [48032,48030,48031] (@Z91 ((Zb h).1) (addN [] roots i) (roots.getD i La) aa oq oq aa aa aa) Fz
omit hl a in
theorem ZhF:CP (Zm f55 0) (srL h roots roots.length).st (.ext 0) (Tg.st ⟨tm 102 [(2,.pt 16002 0 0),(4,.d (.sc (.pointer Le))),(5,nI 0),(8,.pt 48032 0 0)],Gi (Zb h).1 (Zp h roots 0)++[(16002,GW h)],8⟩):=by unfold srL Gi GW Zp;exact sF [] []<|Ffb 36 (Ln ((roots.length:Int)<(roots.length:Int))) Fz
theorem Z8q(b:GT h roots=Lc):CP (Zi f55 0) (Tg.st ⟨tm 102 [(2,.pt 16002 0 0),(4,.d (.sc (.pointer Le))),(5,nI 0),(8,.pt 48032 0 0),(33,Z2 roots),(34,nI roots.length),(35,nI 0)],[(48032,.box 105 [Z2 (Zb h).1,.pt 48030 0 99999,.ow 48031]),(48031,.arr 35 1 []),(48030,.mp []),(16002,.box 28 [nI h.C.pw,nI h.C.pg,.d (.sl 1 (h.W.map wD)),.d (.sl 4 (h.P.map Z0.dv)),nI h.S,nI h.B])],8⟩) .nrm (Tg.st ⟨tm 102 [(2,.pt 16002 0 0),(4,.d (.sc (.pointer Le))),(5,nI 0),(8,.pt 48032 0 0)],Gi (Zb h).1 (Zp h roots 0)++[(16002,GW h)],8⟩):=by have e:=Ov (refs:=roots) (all:=(Zb h).1) (by simpa[GT]using b);exact Bo (S:=λk=>(srL h roots k).st) roots.length kr (λk c=>Zba h roots hl a k c (λj hj=>e j oq)) (ZhF h roots)
theorem ZcG(c:GT h roots=Lb):CP (Zi f55 0) (Tg.st ⟨tm 102 [(2,.pt 16002 0 0),(4,.d (.sc (.pointer Le))),(5,nI 0),(8,.pt 48032 0 0),(33,Z2 roots),(34,nI roots.length),(35,nI 0)],[(48032,.box 105 [Z2 (Zb h).1,.pt 48030 0 99999,.ow 48031]),(48031,.arr 35 1 []),(48030,.mp []),(16002,.box 28 [nI h.C.pw,nI h.C.pg,.d (.sl 1 (h.W.map wD)),.d (.sl 4 (h.P.map Z0.dv)),nI h.S,nI h.B])],8⟩) .ret (Tg.st ⟨tm 102 [(4,.d (.sc (.pointer Le))),(5,nI 19)],[],60⟩):=by
 obtain⟨i,c⟩:=L4.1 c;obtain⟨f,b,g⟩:=LB.1 c;have b:=Lj.1 b;have e:∀j,j<i->Ci roots (Zb h).1 j=Lc:=λj d=>by simpa using g j d
 exact EM (S:=λk=>(srL h roots k).st) i kr (λk hk=>Zba h roots hl a k oq (λj d=>e j oq)) (Zmi h roots hl a i b e f)
end
def Zcl(h:Heap)(roots:List Int)(hw:Zw h.W)(hp:Z9 h=Lb)(ho:(Zb h).2=0)(hl:roots.length<=1000)(hr:CJ roots)(hb:GT h roots=Lb):BP 55 [h.av,Z2 roots] [] (.tu [.d (.sc (.pointer Le)),nI 19]) []:=by exact borF [] [] func55 []<|Fh 31 [.gh 35 1,.int 2]<|Fc 19 (@Ei h)<|Ffb 20 (!Z9 h)<|Fc 23 (@SC h aa)<|Ffb 27 ((Zb h).2 != 0)<|Fl 34 wD roots<|Fu (@ZcG h roots aa aa aa) Fz
def Z87(out:List Int) r{k:Nat}(a:k<out.length):k<(C9 out r).length/\(C9 out r).getD k La=out.getD k La:=by unfold C9;split;exact⟨a,rfl⟩;refine⟨by simp;omega, ?_⟩;simp only[Lh];rw[L8 a]
def Z2r(out refs:List Int){k:Nat}(a:k<out.length):∀n,k<(addN out refs n).length/\(addN out refs n).getD k La=out.getD k La
 |0=>⟨a,rfl⟩
 |n+1=>by
  obtain⟨b,c⟩:=Z2r out refs a n;obtain⟨d,e⟩:=Z87 (addN out refs n) (refs.getD n La) b;exact⟨d,e.trans c⟩
def siL(h:Heap)(l:List Int)(i:Nat)(a rf:List Int)(j:Nat):Tg:=⟨tm 102 [(2,.pt 16002 0 0),(4,.d (.sc (.pointer Le))),(5,nI 0),(8,.pt 48032 0 0),(11,nI i),(69,.d (.sl 1 (a.map iD))),(70,nI a.length),(71,nI j)],Gi (Zb h).1 (addN l rf j)++[(16002,GW h)],13⟩
def Z5h{h:Heap}{l:List Int}{i j:Nat}{a:Int}(hp:Z9 h=Lb)(hi:i<l.length)(el:l.Nodup/\∀x∈l,x∈(Zb h).1)(ea:l.getD i La=a)(hj:j<(Zj (Z6 h a).1).length)(hb:∀m,m<j->Ci (ZK h a) (Zb h).1 m=Lc) :i<(addN l (ZK h a) j).length/\(addN l (ZK h a) j).length<=16384/\0<=(addN l (ZK h a) j).getD i La/\(addN l (ZK h a) j).getD i La<=8192/\0<=(Zj (Z6 h a).1).getD j La/\(Zj (Z6 h a).1).getD j La<=255 /\
  (Z1 h.W ((addN l (ZK h a) j).getD i La+1+(Zj (Z6 h a).1).getD j La)).2=0/\(ZK h a).getD j La=(Z1 h.W ((addN l (ZK h a) j).getD i La+1+(Zj (Z6 h a).1).getD j La)).1:=by
 obtain⟨q1,q2⟩:=Z2r l (ZK h a) hi j;rw[ea]at q2;have o1:=Mz (all:=(Zb h).1) el j hb;have o2:=LG (Pu o1.1 o1.2) (H3 h);have am:a∈(Zb h).1:=ea▸el.2 _ (ZT.2 ⟨i,hi,rfl⟩);have ar:=IG h a am;obtain⟨g1,g2,g3⟩:=SS hp am;have r:=Dr g2;have pm:=ZT.2 ⟨j,hj,rfl⟩;have pr:=(Au (Z6 h a).1).2 _ pm;have pl:(Zj (Z6 h a).1).getD j La<(Z6 h a).1.length:=by
  have hx:=pm;generalize (Zj (Z6 h a).1).getD j La=x at hx;unfold Zj at hx;split at hx
  .have:=SP _ _ _ hx;omega
  .simp at hx
 rw[q2];refine⟨q1,o2,by omega,by omega,pr.1,pr.2,by rw[Z1,if_pos oq], ?_⟩;unfold ZK;simp only[Lh,LS,Ll hj,LV,Lz]
section
variable(h:Heap)(l:List Int)(i j:Nat)(a:Int)(d:Zw h.W)(b:Z9 h=Lb)(hi:i<l.length)(el:l.Nodup/\∀x∈l,x∈(Zb h).1)(c:l.getD i La=a)
include d b hi el c
theorem Z8D(n:j<(Zj (Z6 h a).1).length)(g:∀m,m<j+1->Ci (ZK h a) (Zb h).1 m=Lc):CP (Zm f55 4) (siL h l i (Zj (Z6 h a).1) (ZK h a) j).st .nrm (siL h l i (Zj (Z6 h a).1) (ZK h a) (j+1)).st:=by
 have ol:=H3 h;have os:=SY h;have po:=B5 b;have pl:=(Au (Z6 h a).1).1;obtain⟨f1,f2,f3,f4,f5,f6,f7,f⟩:=Z5h b hi el c n (λm hm=>g m oq);have o:=Z2A (g j oq);have rr:=ES d ((addN l (ZK h a) j).getD i La+1+(Zj (Z6 h a).1).getD j La);rw[f]at o;have k:addN l (ZK h a) (j+1)=C9 (addN l (ZK h a) j) (Z1 h.W ((addN l (ZK h a) j).getD i La+1+(Zj (Z6 h a).1).getD j La)).1:=by rw[<-f];rfl
 unfold siL Gi GW;rw[k];let e:=(addN l (ZK h a) j).getD i La+1+(Zj (Z6 h a).1).getD j La;exact sF [(129097,48031)] []<|Fh 93 [.br Lc]<|Ftb 72 (Ln ((j:Int)<(↑(Zj (Z6 h a).1).length:Int)))<|Fek 73 iD (Zj (Z6 h a).1) (↑j) j<|Fm 84 wD (addN l (ZK h a) j) (↑i) i<|Fv 85 ((addN l (ZK h a) j).getD i La+1)<|Fv 87 ((Zj (Z6 h a).1).getD j La)<|Fv 88 e<|Fc 89 (@Ml h.W e oq oq)<|Fb (((Z1 h.W e).2 != 0)=Lc)<|Fbr 97 [48032,48030,48031] (@Z8Q ((Zb h).1) (addN l (ZK h a) j) ((Z1 h.W e).1) aa oq oq aa aa)<|Fx 100 j Fz
theorem Zhs(o:j<(Zj (Z6 h a).1).length)(n:∀m,m<j->Ci (ZK h a) (Zb h).1 m=Lc)(p:Ci (ZK h a) (Zb h).1 j=Lb):CP (Zm f55 4) (siL h l i (Zj (Z6 h a).1) (ZK h a) j).st .ret (Tg.st ⟨tm 102 [(4,.d (.sc (.pointer Le))),(5,nI 19)],[],60⟩):=by have ol:=H3 h;have os:=SY h;have po:=B5 b;have pl:=(Au (Z6 h a).1).1;obtain⟨f1,f2,f3,f4,f5,f6,f7,k⟩:=Z5h b hi el c o n;obtain⟨f,g⟩:=of_decide_eq_true p;have rr:=ES d ((addN l (ZK h a) j).getD i La+1+(Zj (Z6 h a).1).getD j La);rw[k]at f g;unfold siL Gi GW;let e:=(addN l (ZK h a) j).getD i La+1+(Zj (Z6 h a).1).getD j La;exact sF [] []<|Fh 93 [.br Lc]<|Ftb 72 (Ln ((j:Int)<(↑(Zj (Z6 h a).1).length:Int)))<|Fek 73 iD (Zj (Z6 h a).1) (↑j) j<|Fm 84 wD (addN l (ZK h a) j) (↑i) i<|Fv 85 ((addN l (ZK h a) j).getD i La+1)<|Fv 87 ((Zj (Z6 h a).1).getD j La)<|Fv 88 e<|Fc 89 (@Ml h.W e oq oq)<|Fb (((Z1 h.W e).2 != 0)=Lc)<|Fbq 97 [48032,48030,48031] (@Z91 ((Zb h).1) (addN l (ZK h a) j) ((Z1 h.W e).1) aa oq oq aa aa aa) Fz
omit d b hi el c in
theorem ZmV e rf:CP (Zm f55 4) (siL h l i e rf e.length).st (.ext 4) (Tg.st ⟨tm 102 [(2,.pt 16002 0 0),(4,.d (.sc (.pointer Le))),(5,nI 0),(8,.pt 48032 0 0),(11,nI i)],Gi (Zb h).1 (addN l rf e.length)++[(16002,GW h)],13⟩):=by unfold siL Gi GW;exact sF [] []<|Ffb 72 (Ln ((e.length:Int)<(e.length:Int))) Fz
theorem ZfT(f:(Lf (ZK h a).length).find? (Ci (ZK h a) (Zb h).1)=Le):CP (Zi f55 4) (Tg.st ⟨tm 102 [(2,.pt 16002 0 0),(4,.d (.sc (.pointer Le))),(5,nI 0),(8,.pt 48032 0 0),(11,nI i),(69,.d (.sl 1 ((Zj (Z6 h a).1).map iD))),(70,nI (Zj (Z6 h a).1).length),(71,nI 0)],[(48032,.box 105 [Z2 (Zb h).1,.pt 48030 0 99999,.ow 48031]),(48031,.arr 35 1 (l.map wD)),(48030,.mp l),(16002,.box 28 [nI h.C.pw,nI h.C.pg,.d (.sl 1 (h.W.map wD)),.d (.sl 4 (h.P.map Z0.dv)),nI h.S,nI h.B])],13⟩) .nrm (Tg.st ⟨tm 102 [(2,.pt 16002 0 0),(4,.d (.sc (.pointer Le))),(5,nI 0),(8,.pt 48032 0 0),(11,nI i)],Gi (Zb h).1 (addN l (ZK h a) (ZK h a).length)++[(16002,GW h)],13⟩):=by
 have e:=Ov f;have le:(ZK h a).length=(Zj (Z6 h a).1).length:=by rw[ZK,Lm]
 rw[le];exact Bo (S:=λj=>(siL h l i (Zj (Z6 h a).1) (ZK h a) j).st) (Zj (Z6 h a).1).length kr (λj g=>Z8D h l i j a d b hi el c g (λm hm=>e m oq)) (ZmV h l i _ _)
theorem Zm8(f:((Lf (ZK h a).length).find? (Ci (ZK h a) (Zb h).1)).isSome=Lb):CP (Zi f55 4) (Tg.st ⟨tm 102 [(2,.pt 16002 0 0),(4,.d (.sc (.pointer Le))),(5,nI 0),(8,.pt 48032 0 0),(11,nI i),(69,.d (.sl 1 ((Zj (Z6 h a).1).map iD))),(70,nI (Zj (Z6 h a).1).length),(71,nI 0)],[(48032,.box 105 [Z2 (Zb h).1,.pt 48030 0 99999,.ow 48031]),(48031,.arr 35 1 (l.map wD)),(48030,.mp l),(16002,.box 28 [nI h.C.pw,nI h.C.pg,.d (.sl 1 (h.W.map wD)),.d (.sl 4 (h.P.map Z0.dv)),nI h.S,nI h.B])],13⟩) .ret (Tg.st ⟨tm 102 [(4,.d (.sc (.pointer Le))),(5,nI 19)],[],60⟩):=by
 obtain⟨n,f⟩:=L4.1 f;obtain⟨o,g,p⟩:=LB.1 f;have g:=Lj.1 g;have le:(ZK h a).length=(Zj (Z6 h a).1).length:=by rw[ZK,Lm]
 have e:∀m,m<n->Ci (ZK h a) (Zb h).1 m=Lc:=λm k=>by simpa using p m k
 exact EM (S:=λj=>(siL h l i (Zj (Z6 h a).1) (ZK h a) j).st) n kr (λj hj=>Z8D h l i j a d b hi el c oq (λm k=>e m oq)) (Zhs h l i n a d b hi el c oq e o)
end
def soL(h:Heap)(roots:List Int)(k:Nat):Tg:=⟨tm 102 [(2,.pt 16002 0 0),(4,.d (.sc (.pointer Le))),(5,nI 0),(8,.pt 48032 0 0),(11,nI k)],Gi (Zb h).1 (Zp h roots k)++[(16002,GW h)],9⟩
section
variable(h:Heap)(roots:List Int)(k:Nat)(I:GQ h roots k)(b:Zw h.W)(a:Z9 h=Lb)
include I b a
theorem Z9Q(i:Nat)(hi:i<k):CP (Zm f55 2) (soL h roots i).st .nrm (soL h roots (i+1)).st:=by
 have ol:=H3 h;obtain⟨f,e⟩:=I.lo i hi;have o3:=I.len (i:=i) oq;have g:=I.len (i:=i+1) oq;have om:=(I.el i oq).2 _ (ZT.2 ⟨i,f,rfl⟩);have ox:=IG h _ om;obtain⟨g1,g2,g3⟩:=SS a om;have gm:=Hv b ((Zp h roots i).getD i La);have e:(Lf (ZK h ((Zp h roots i).getD i La)).length).find? (Ci (ZK h ((Zp h roots i).getD i La)) (Zb h).1)=Le:=by simpa[H2]using e
 have el:=I.el i oq;have po:=B5 a;have d:Zp h roots (i+1)=addN (Zp h roots i) (ZK h ((Zp h roots i).getD i La)) (ZK h ((Zp h roots i).getD i La)).length:=rfl;rw[d]at g;unfold soL Gi GW;rw[d];let c:=(Zp h roots i).getD i La;exact sF [] []<|FM 49 50 wD (Zp h roots i) i<|Fm 61 wD (Zp h roots i) (↑i) i<|Fc 62 (@IJ h c aa oq)<|Ffb 66 ((Z6 h c).2 != 0)<|Fc 69 (@Pb ((Z6 h c).1) aa)<|Fl 70 iD (Zj (Z6 h c).1)<|Fu (@ZfT h (Zp h roots i) i c aa aa aa aa (by rfl) aa)<|Fx 52 i Fz
theorem ZbC(hi:k<(Zp h roots k).length)(d:H2 h roots k=Lb):CP (Zm f55 2) (soL h roots k).st .ret (Tg.st ⟨tm 102 [(4,.d (.sc (.pointer Le))),(5,nI 19)],[],60⟩):=by have ol:=H3 h;have o3:=I.len (Ld k);have om:=(I.el k (Ld k)).2 _ (ZT.2 ⟨k,hi,rfl⟩);have ox:=IG h _ om;obtain⟨g1,g2,g3⟩:=SS a om;have gm:=Hv b ((Zp h roots k).getD k La);have el:=I.el k (Ld k);have po:=B5 a;unfold H2 at d;unfold soL Gi GW;let c:=(Zp h roots k).getD k La;exact sF [] []<|FM 49 50 wD (Zp h roots k) k<|Fm 61 wD (Zp h roots k) (↑k) k<|Fc 62 (@IJ h c aa oq)<|Ffb 66 ((Z6 h c).2 != 0)<|Fc 69 (@Pb ((Z6 h c).1) aa)<|Fl 70 iD (Zj (Z6 h c).1)<|Fu (@Zm8 h (Zp h roots k) k c aa aa aa aa (by rfl) aa) Fz
omit I b a in
theorem ZgS(e:(Zp h roots k).length<=k)(el:(Zp h roots k).length<=16384):CP (Zm f55 2) (soL h roots k).st (.ext 2) (Tg.st ⟨tm 102 [(4,.d (.sc (.pointer Le))),(5,nI 0),(8,.pt 48032 0 0)],Gi (Zb h).1 (Zp h roots k),9⟩):=by unfold soL Gi GW;exact sF [] []<|Fl 49 wD (Zp h roots k)<|Ffb 50 (Ln ((k:Int)<(↑(Zp h roots k).length:Int))) Fz
def Ze9(e:(Zp h roots k).length<=k)  := Bo (S:=λi=>(soL h roots i).st) k (by kernel_rfl) (λi c=>Z9Q h roots k I b a i c) (ZgS h roots k e (I.len (Ld k)))
def Zkv(hi:k<(Zp h roots k).length)(c:H2 h roots k=Lb)  := EM (S:=λi=>(soL h roots i).st) k (by kernel_rfl) (λi hi=>Z9Q h roots k I b a i hi) (ZbC h roots k I b a hi c)
theorem ZiO(ho:(Zb h).2=0)(hl:roots.length<=1000)(hr:CJ roots)(hb:GT h roots=Lc)(hi:k<(Zp h roots k).length)(c:H2 h roots k=Lb):BP 55 [h.av,Z2 roots] [] (.tu [.d (.sc (.pointer Le)),nI 19]) []:=by exact borF [] [] func55 []<|Fh 31 [.gh 35 1,.int 2]<|Fc 19 (@Ei h)<|Ffb 20 (!Z9 h)<|Fc 23 (@SC h aa)<|Ffb 27 ((Zb h).2 != 0)<|Fl 34 wD roots<|Fu (@Z8q h roots aa aa aa)<|Fu (@Zkv h roots k I aa aa aa aa) Fz
theorem ZmP(ho:(Zb h).2=0)(hl:roots.length<=1000)(hr:CJ roots)(hb:GT h roots=Lc)(e:(Zp h roots k).length<=k):BP 55 [h.av,Z2 roots] [] (.tu [.pt 0 0 0,nI 0]) (Iv (Zb h).1 (Zp h roots k)):=by exact borF [] [48032,48030,48031] func55 []<|Fh 31 [.gh 35 1,.int 2]<|Fc 19 (@Ei h)<|Ffb 20 (!Z9 h)<|Fc 23 (@SC h aa)<|Ffb 27 ((Zb h).2 != 0)<|Fl 34 wD roots<|Fu (@Z8q h roots aa aa aa)<|Fu (@Ze9 h roots k aa aa aa aa) Fz
end
def Tr(w:Z7)(v x:Int):Prop:=(v=0/\x=0)\/(v∈w.old/\CY w v≠0/\x=CY w v)
def FT(h:Heap)(w:Z7)(a q m:Int):Prop:=if Ba (ZR h.W a) m=Lb then Tr w (Z1 h.W (a+1+m)).1 (Z1 w.j.W (q+1+m)).1 else(Z1 w.j.W (q+1+m)).1=(Z1 h.W (a+1+m)).1
def FT.mono{h}{w w':Z7}{a q m:Int}(hl:Z1 w'.j.W (q+1+m)=Z1 w.j.W (q+1+m))(ht:∀v x,Tr w v x->Tr w' v x)(f:FT h w a q m):FT h w' a q m:=by grind[FT]
structure RT (h:Heap) (w:Z7) (out:List Int) (n:Nat):Prop where
 f:∀i,i<n->i<out.length->ZR w.j.W (w.Q.getD i La)=ZR h.W (out.getD i La)/\∀m,0<=m->m<Zl h.W (out.getD i La)->FT h w (out.getD i La) (w.Q.getD i La) m
section
variable{h:Heap}{T:Nat->List Int}{w:Z7}{out:List Int}{n:Nat}(o:RO h T w out n)(g:Gd h T)(d:MV h)
include o g d
theorem RO.trOld{r v x:Int}(a:r=0\/r∈w.old)(t:Tr w v x):Tr (w.fwd r).1 v x:=by rcases t with t|⟨t1,t2,c⟩;exact .inl t;rcases a with rfl|a;rw[Z7.fwd,if_pos (.inl rfl)];exact .inr ⟨t1,t2,c⟩;by_cases b:CY w r=0;obtain⟨s1,s2,s3,s4,s5⟩:=o.b.o.seen g d a;have ne:v≠r:=λq=>t2 (q▸b);exact .inr ⟨by grind,by grind,by grind⟩;rw[o.b.o.same g d a b];exact .inr ⟨t1,t2,c⟩
theorem RO.trNew{r:Int}(a:r=0\/r∈w.old):Tr (w.fwd r).1 r (w.fwd r).2.1:=by rcases a with rfl|a;rw[Z7.fwd,if_pos (.inl rfl)];exact .inl ⟨rfl,rfl⟩;obtain⟨s1,b,s3,s4,s5⟩:=o.b.o.seen g d a;exact .inr ⟨by grind,by omega,b.symm⟩
theorem RT.fwd{p}(t:RT h w out p)(hn:p<=out.length){r:Int}(b:r=0\/r∈w.old):RT h (w.fwd r).1 (C9 out r) p:=by
 obtain⟨e,f,_⟩:=o.fwd g d b;have fs:=NJ o.b.o.c.ok o.b.o.c.inv r e;obtain⟨qm,q⟩:=fs.1;have ol:=o.l;refine⟨λi j l=>?_⟩;obtain⟨a1,c⟩:=Z87 out r (k:=i) oq;have s:(w.fwd r).1.Q.getD i La=w.Q.getD i La:=by grind
 rw[c,s];obtain⟨t1,t2⟩:=t.f i j oq;have mem:w.Q.getD i La∈w.Q:=ZT.2 ⟨i,by omega,rfl⟩;have hl:Zl w.j.W (w.Q.getD i La)=Zl h.W (out.getD i La):=congrArg Zy.length t1;have a:=fs.2.2 _ (Li _ mem) (.inl mem);refine⟨?_,λm m0 m1=>?_⟩;have:=a 0 oq (Bq _ _).1;grind[ZR];refine FT.mono ?_ (λv x=>o.trOld g d b) (t2 m m0 m1);have:=a (1+m) oq oq;grind
theorem RO.in1f{a:Nat}(hn:a<out.length){j:Int}(hj:0<=j/\j<Zl h.W (out.getD a La))(hq:ZR w.j.W (w.Q.getD a La)=ZR h.W (out.getD a La))(hv:(Z1 w.j.W (w.Q.getD a La+1+j)).1=0\/(Z1 w.j.W (w.Q.getD a La+1+j)).1∈w.old) :(∀z,z≠w.Q.getD a La+1+j->Z1 (w.in1 (w.Q.getD a La+1+j)).j.W z=Z1 (w.fwd (Z1 w.j.W (w.Q.getD a La+1+j)).1).1.j.W z) /\ (Z1 (w.in1 (w.Q.getD a La+1+j)).j.W (w.Q.getD a La+1+j)).1=(w.fwd (Z1 w.j.W (w.Q.getD a La+1+j)).1).2.1 /\ (∀v x,Tr (w.fwd (Z1 w.j.W (w.Q.getD a La+1+j)).1).1 v x->Tr (w.in1 (w.Q.getD a La+1+j)) v x)/\(w.in1 (w.Q.getD a La+1+j)).Q=(w.fwd (Z1 w.j.W (w.Q.getD a La+1+j)).1).1.Q /\
  ∀x∈(w.fwd (Z1 w.j.W (w.Q.getD a La+1+j)).1).1.Q,∀i,0<=i->i<=Zl (w.fwd (Z1 w.j.W (w.Q.getD a La+1+j)).1).1.j.W x->x+i=w.Q.getD a La+1+j->x=w.Q.getD a La:=by
 obtain⟨e,f,_⟩:=o.fwd g d hv;have p:w.Q.getD a La∈w.Q:=ZT.2 ⟨a,by have:=o.l;omega,rfl⟩;generalize a3:w.Q.getD a La=q at *;have hl:Zl w.j.W q=Zl h.W (out.getD a La):=congrArg Zy.length hq;have hw:=o.b.o.c.ok;have iv:=o.b.o.c.inv;obtain⟨s,x1⟩:=NG hw iv _ e;have k:=x1.q q p;have a2:=x1.l q p;have hr:=s.r q (Li _ k);generalize a4:(Z1 w.j.W (q+1+j)).1=v at *;have a1:4096<=q+1+j/\q+1+j<4096+(w.fwd v).1.j.W.length:=by omega
 have m:∀x∈(w.fwd v).1.old++(w.fwd v).1.Q,∀i,0<=i->i<=Zl (w.fwd v).1.j.W x->x+i=q+1+j->x=q:=by(intro x l i y0 b c;have l1:=s.s q (Li _ k) x l;have l2:=s.s x l q (Li _ k);omega)
 have wd:∀z,z≠q+1+j->Z1 (w.in1 (q+1+j)).j.W z=Z1 (w.fwd v).1.j.W z:=λz hz=>by(grind[Z7.in1,Gv])
 have hh:∀x∈(w.fwd v).1.old++(w.fwd v).1.Q,Z1 (w.in1 (q+1+j)).j.W x=Z1 (w.fwd v).1.j.W x:=λx l=>wd x λc=>by(have:=m x l 0 oq (Bq _ _).1 oq;omega)
 have r:(w.in1 (q+1+j)).Q=(w.fwd v).1.Q:=by grind[Z7.in1]
 have a0:(w.in1 (q+1+j)).old=(w.fwd v).1.old:=by grind[Z7.in1]
 have se:∀y∈(w.fwd v).1.old,CY (w.in1 (q+1+j)) y=CY (w.fwd v).1 y:=λy hy=>by(grind[CY])
 refine⟨wd, ?_,λu x t=>?_,r,λx l=>m x (Li _ l)⟩;grind[Z7.in1,Rz];rcases t with t|⟨t1,t2,t3⟩;exact .inl t;exact .inr ⟨by grind,by grind,by grind⟩
theorem RT.in1{p}(t:RT h w out p){a:Nat}(ha:p<=a)(hn:a<out.length){j:Int}(y:0<=j/\j<Zl h.W (out.getD a La))(hq:ZR w.j.W (w.Q.getD a La)=ZR h.W (out.getD a La))(l:(Z1 w.j.W (w.Q.getD a La+1+j)).1=0\/(Z1 w.j.W (w.Q.getD a La+1+j)).1∈w.old) :RT h (w.in1 (w.Q.getD a La+1+j)) (C9 out (Z1 w.j.W (w.Q.getD a La+1+j)).1) p:=by
 have t1:=RT.fwd o g d t oq l;obtain⟨s,_,tr,eq,b⟩:=o.in1f g d hn y hq l;obtain⟨e,f,_⟩:=o.fwd g d l;have fl:=f.l;have fs:=NJ o.b.o.c.ok o.b.o.c.inv _ e;obtain⟨qm,a0⟩:=fs.1;have ol:=o.l;have u:∀i,i<out.length->(w.fwd (Z1 w.j.W (w.Q.getD a La+1+j)).1).1.Q.getD i La=w.Q.getD i La:=λi q=>by(grind)
 refine⟨λi q k=>?_⟩;obtain⟨u1,u2⟩:=t1.f i q k;rw[eq];have mem:(w.fwd (Z1 w.j.W (w.Q.getD a La+1+j)).1).1.Q.getD i La∈(w.fwd (Z1 w.j.W (w.Q.getD a La+1+j)).1).1.Q:=ZT.2 ⟨i,by omega,rfl⟩;have r:∀m,0<=m->m<=Zl (w.fwd (Z1 w.j.W (w.Q.getD a La+1+j)).1).1.j.W ((w.fwd (Z1 w.j.W (w.Q.getD a La+1+j)).1).1.Q.getD i La)->(w.fwd (Z1 w.j.W (w.Q.getD a La+1+j)).1).1.Q.getD i La+m≠w.Q.getD a La+1+j:=by
  intro m m0 m1 c;have z:=b _ mem m m0 m1 c;rw[u i oq]at z;have v:w.Q[i]?=LH (w.Q.getD a La):=by grind
  have x:w.Q[a]?=LH (w.Q.getD a La):=by grind
  have:=(List.getElem?_inj oq o.nd).1 (v.trans x.symm);omega
 have hl:Zl (w.fwd (Z1 w.j.W (w.Q.getD a La+1+j)).1).1.j.W ((w.fwd (Z1 w.j.W (w.Q.getD a La+1+j)).1).1.Q.getD i La)=Zl h.W ((C9 out (Z1 w.j.W (w.Q.getD a La+1+j)).1).getD i La):=congrArg Zy.length u1;have r0:=(Bq (w.fwd (Z1 w.j.W (w.Q.getD a La+1+j)).1).1.j.W ((w.fwd (Z1 w.j.W (w.Q.getD a La+1+j)).1).1.Q.getD i La)).1;refine⟨?_,λm m0 m1=>FT.mono (s _ ?_) tr (u2 m m0 m1)⟩;have:=s _ (λc=>r 0 oq r0 oq);grind[ZR];have:=r (1+m) oq oq;omega
theorem RT.inn(t:RT h w out n){q x:Int}{l:List Int}(hn:n<out.length)(hq:w.Q.getD n La=q)(hx:out.getD n La=x)(hl:Zj (ZR h.W x)=l):∀k,k<=l.length->RT h (Bg w q l k) (addN out (l.map λj=>(Z1 h.W (x+1+j)).1) k) n/\(∀i,i<k->Tr (Bg w q l k) (Z1 h.W (x+1+l.getD i La)).1 (Z1 (Bg w q l k).j.W (q+1+l.getD i La)).1)/\∀v y,Tr w v y->Tr (Bg w q l k) v y
 |0,_=>⟨t,λi hi=>absurd hi (Lo i),λ_ _ t=>t⟩
 |k+1,hk=>by
  obtain⟨t1,t2,t3⟩:=RT.inn t hn hq hx hl k oq;obtain⟨b,i2,i3,i4,i5,i6,i7⟩:=o.inn g d hn hq hx hl k oq;have hj:l.getD k La∈Zj (ZR h.W x):=by rw[hl];exact ZT.2 ⟨k,by omega,rfl⟩
  have jb:=R5 _ _ hj;have nd:=Z6R (ZR h.W x);rw[hl]at nd;have u:∀i,i<k->l.getD i La≠l.getD k La:=λi hi c=>by
   simp only[Lh]at c;rw[Ll oq,Ll oq]at c;have:=(List.getElem_inj nd).1 c;omega
  have ev:=i7 (l.getD k La) jb.1 jb.2 u;have xo:x∈(Bg w q l k).old:=by
   have:=(b.i n i6).1;rw[i5]at this;exact this
  have ov:=b.old g xo hj;have em:(l.map λj=>(Z1 h.W (x+1+j)).1).getD k La=(Z1 h.W (x+1+l.getD k La)).1:=by
   simp only[Lh,LS,Ll (show k<l.length by omega),LV,Lz]
  have e2:addN out (l.map λj=>(Z1 h.W (x+1+j)).1) (k+1)=C9 (addN out (l.map λj=>(Z1 h.W (x+1+j)).1) k) (Z1 h.W (x+1+l.getD k La)).1:=by rw[addN,em]
  have z:(Z1 (Bg w q l k).j.W ((Bg w q l k).Q.getD n La+1+l.getD k La)).1=0\/(Z1 (Bg w q l k).j.W ((Bg w q l k).Q.getD n La+1+l.getD k La)).1∈(Bg w q l k).old:=by
   rw[i3,ev];exact ov
  have s:0<=l.getD k La/\l.getD k La<Zl h.W ((addN out (l.map λj=>(Z1 h.W (x+1+j)).1) k).getD n La):=by rw[i5];exact jb
  have r:ZR (Bg w q l k).j.W ((Bg w q l k).Q.getD n La)=ZR h.W ((addN out (l.map λj=>(Z1 h.W (x+1+j)).1) k).getD n La):=by rw[i3,i5];exact i4
  have r1:=RT.in1 b g d t1 (a:=n) (Ld n) i6 s r z;obtain⟨wd,wq,tr,eq,a0⟩:=b.in1f g d i6 s r z;have m:=λv y=>b.trOld g d (v:=v) (x:=y) z;have p:=b.trNew g d z;obtain⟨e,f,_⟩:=b.fwd g d z;have fs:=(NJ b.b.o.c.ok b.b.o.c.inv _ e).2.2;rw[i3]at r1 wd wq tr m p fs;rw[ev]at r1 p tr m;rw[e2];refine⟨r1,λi hi=>?_,λv y t=>tr v y (m v y (t3 v y t))⟩;show Tr ((Bg w q l k).in1 (q+1+l.getD k La)) _ (Z1 ((Bg w q l k).in1 (q+1+l.getD k La)).j.W (q+1+l.getD i La)).1;by_cases c:i=k
  .rw[c,wq,ev];exact tr _ _ p
  .have lb:=R5 _ _ (show l.getD i La∈Zj (ZR h.W x) by rw[hl];exact ZT.2 ⟨i,by omega,rfl⟩);have qm:q∈(Bg w q l k).Q:=by have e0:=b.l;exact ZT.2 ⟨n,by omega,i3⟩
   have a1:Zl (Bg w q l k).j.W q=Zl h.W x:=congrArg Zy.length i4;have a2:l.getD i La<Zl h.W x:=lb.2;rw[wd _ (by have:=u i oq;omega),show q+1+l.getD i La=q+(1+l.getD i La) by omega,fs q (Li _ qm) (.inl qm) (1+l.getD i La) oq oq,<-LF];exact tr _ _ (m _ _ (t2 i oq))
theorem RT.step(t:RT h w out n)(a:n<out.length)(hs:w.D=n):RT h (B1 w).1 (addN out (HU h (out.getD n La)) (HU h (out.getD n La)).length) (n+1)/\∀v y,Tr w v y->Tr (B1 w).1 v y:=by
 have x:=(o.i n a).1;obtain⟨tq,k⟩:=o.b.o.c.k;obtain⟨i0,f,e⟩:=(k.old _).1 x;have p:=g.refs f e;have r:ZR w.j.W (w.Q.getD n La)=ZR h.W (out.getD n La):=by(have:=o.uq n (Ld _) a 0 oq (Bq _ _).1;simp only[Lw]at this;grind[ZR])
 have l:C4 w=w.Q.getD n La:=by grind[C4]
 have u:Bh w=Zj (ZR h.W (out.getD n La)):=by unfold Bh ZB;rw[l];exact congrArg Zj r
 obtain⟨i1,i2,z,i4,i5,i6,i7⟩:=o.inn g d a rfl rfl rfl (Zj (ZR h.W (out.getD n La))).length (Ld _);obtain⟨t1,t2,t3⟩:=RT.inn o g d t a rfl rfl rfl (Zj (ZR h.W (out.getD n La))).length (Ld _);have s:w.D<w.Q.length:=by rw[hs,o.l];omega
 have hb:(Lf (Bh w).length).find? (λk=>Ln (CQ w (C4 w) (Bh w) k≠0))=Le:=LA.2 λj hj=>by(grind)
 have q:B1 w=(Hk (Bg w (C4 w) (Bh w) (Bh w).length) (Bh w).length,Lb,0):=by grind[B1]
 rw[q,l,u,p,Lm];refine⟨⟨λi hi b=>?_⟩,λv y t=>t3 v y t⟩;by_cases c:i=n;subst c;show ZR (Bg w _ _ _).j.W ((Bg w _ _ _).Q.getD i La)=_/\_;rw[i5];refine⟨by grind,λm m0 m1=>?_⟩;show FT h (Bg w _ _ _) _ ((Bg w _ _ _).Q.getD i La) m;rw[z];unfold FT;grind[Ba,ZT,Z2l,Tf];exact t1.f i oq b
end
section
variable{h:Heap}{T:Nat->List Int}(g:Gd h T)(a:MV h){s:List Int}(hs:∀r∈s,r=0\/Ob h T r)(b:Zw h.W)
include g a hs b
theorem RT.roots:∀k,k<=s.length->RT h (rootsN (Zr h) s k).1 (addN [] s k) 0/\∀i,i<k->Tr (rootsN (Zr h) s k).1 (s.getD i La) ((rootsN (Zr h) s k).2.getD i La)
 |0,_=>⟨⟨λi d=>absurd d (Lo i)⟩,λi d=>absurd d (Lo i)⟩
 |k+1,hk=>by
  obtain⟨t1,t2⟩:=RT.roots k oq;obtain⟨e,i2⟩:=RO.roots g a hs b k oq;obtain⟨tq,j⟩:=e.b.o.c.k;have f:=(hs _ (ZT.2 ⟨k,by omega,rfl⟩)).imp id λq=>(j.old _).2 q;have l:=Na (Zr h) s k;refine⟨⟨λi d=>absurd d (Lo i)⟩,λi d=>?_⟩;show Tr ((rootsN (Zr h) s k).1.fwd _).1 _ (((rootsN (Zr h) s k).2++[_]).getD i La);rw[Dx,l];by_cases c:i<k
  .rw[if_pos c];exact e.trOld g a f (t2 i c)
  .have c:i=k:=by omega
   rw[if_neg oq,if_pos c,c];exact e.trNew g a f
theorem RT.it:∀k,(∀j,j<k->j<(CG h s j).length)->RT h (BZ (rootsF (Zr h) s).1 k) (CG h s k) k/\∀i,i<s.length->Tr (BZ (rootsF (Zr h) s).1 k) (s.getD i La) ((rootsF (Zr h) s).2.1.getD i La)
 |0,_=>by
  obtain⟨t1,t2⟩:=RT.roots g a hs b s.length (Ld _);obtain⟨e,_⟩:=SW.roots g a hs b;rw[e];exact⟨t1,t2⟩
 |k+1,hk=>by
  obtain⟨t1,t2⟩:=RT.it k (λj d=>hk j oq);obtain⟨f,l⟩:=RO.it g a hs b k (λj d=>hk j oq);obtain⟨m,n⟩:=RT.step f g a t1 (hk k oq) l;exact⟨m,λi c=>n _ _ (t2 i c)⟩
theorem ZhG:∃k,Mr h s k/\RO h T (ZA h s) (CG h s k) k/\(CG h s k).length=k/\RT h (ZA h s) (CG h s k) k/\∀i,i<s.length->Tr (ZA h s) (s.getD i La) ((rootsF (Zr h) s).2.1.getD i La):=by obtain⟨k,E,ro,sc,ln,e7⟩:=Z2W g a hs b;obtain⟨t1,t2⟩:=RT.it g a hs b k (λj c=>(E.o j c).1);grind
end
def Zhe out(r:Int):(r=0\/r∈C9 out r)/\∀x∈out,x∈C9 out r:=by unfold C9;split;rename_i c;exact⟨c,λ_ h=>h⟩;exact⟨.inr pq,λx h=>by simp[h]⟩
def Z05(out refs:List Int):∀n,(∀x∈out,x∈addN out refs n)/\∀j,j<n->refs.getD j La=0\/refs.getD j La∈addN out refs n
 |0=>⟨λ_ h=>h,λj h=>by omega⟩
 |n+1=>by
  obtain⟨b,c⟩:=Z05 out refs n;obtain⟨d,a⟩:=Zhe (addN out refs n) (refs.getD n La);refine⟨λx e=>a x (b x e),λj hj=>?_⟩;by_cases q:j=n
  .rw[q];exact d
  .exact(c j oq).imp id λh=>a _ h
def Ph(h:Heap) roots i:∀d,(∀x∈Zp h roots i,x∈Zp h roots (i+d))/\∀j,j<(Zp h roots i).length->j<(Zp h roots (i+d)).length/\(Zp h roots (i+d)).getD j La=(Zp h roots i).getD j La
 |0=>⟨λ_ h=>h,λ_ h=>⟨h,rfl⟩⟩
 |d+1=>by
  obtain⟨a,b⟩:=Ph h roots i d;refine⟨λx l=>(Z05 _ _ _).1 x (a x l),λj k=>?_⟩;obtain⟨c,e⟩:=b j k;obtain⟨f,g⟩:=Z2r (Zp h roots (i+d)) (ZK h ((Zp h roots (i+d)).getD (i+d) La)) c (ZK h ((Zp h roots (i+d)).getD (i+d) La)).length;exact⟨f,g.trans e⟩
structure Ax (h:Heap) (roots l:List Int):Prop where
 p:Z9 h=Lb
 nd:l.Nodup
 el:∀x∈l,x∈(Zb h).1
 n0:(0:Int)∉l
 rt:∀r∈roots,r=0\/r∈l
 cl:∀a∈l,∀v∈ZK h a,v=0\/v∈l
 len:l.length<=16384
def Z3m{h roots k}(I:GQ h roots k)(c:Z9 h=Lb)(e:(Zp h roots k).length<=k):Ax h roots (Zp h roots k):=by
 refine⟨c,(I.el k (Ld k)).1,(I.el k (Ld k)).2,λq=>?_,λr g=>?_,λa f v l=>?_,I.len (Ld k)⟩;exact Z4f h (SS c ((I.el k (Ld k)).2 _ q)).2.1;obtain⟨j,b,rfl⟩:=ZT.1 g;exact((Z05 [] roots roots.length).2 j b).imp id λq=>by(have:=(Ph h roots 0 k).1 _ q;rwa [L3]at this)
 obtain⟨i,hi,rfl⟩:=ZT.1 f;obtain⟨j,b,rfl⟩:=ZT.1 l;obtain⟨n,_⟩:=I.lo i oq;have d:=Ph h roots i (k-i);rw[show i+(k-i)=k from by omega]at d;rw[(d.2 i n).2]at b⊢;have m:=(Z05 (Zp h roots i) (ZK h ((Zp h roots i).getD i La)) (ZK h ((Zp h roots i).getD i La)).length).2 j b;refine m.imp id λq=>?_;have p2:=Ph h roots (i+1) (k-(i+1));rw[show i+1+(k-(i+1))=k from by omega]at p2;exact p2.1 _ q
section
variable(h:Heap)(roots:List Int)(a:Zw h.W)(hl:roots.length<=1000)(b:CJ roots)
include a hl b
theorem Zdw:((BE h roots).2=0/\Ax h roots (BE h roots).1/\BP 55 [h.av,Z2 roots] [] (.tu [.pt 0 0 0,nI 0]) (Iv (Zb h).1 (BE h roots).1)) \/ ((BE h roots).2≠0/\(BE h roots).1=[]/\BP 55 [h.av,Z2 roots] [] (.tu [.d (.sc (.pointer Le)),nI (BE h roots).2]) []):=by
 unfold BE;by_cases d:Z9 h=Lb;rw[if_pos d];by_cases g:(Zb h).2=0;rw[if_pos g];by_cases i:GT h roots=Lb;rw[if_pos (.inl i)];exact .inr ⟨by simp,rfl,Zcl h roots a d g hl b i⟩;have f:GT h roots=Lc:=by simpa using i
 obtain⟨I,e⟩:=Z1j f;by_cases c:(Hw h roots)<(Zp h roots (Hw h roots)).length/\H2 h roots (Hw h roots)=Lb;rw[if_pos (.inr c)];exact .inr ⟨by simp,rfl,ZiO h roots _ I a d g hl b f c.1 c.2⟩;rw[if_neg (λq=>q.elim i c)];have j:(Zp h roots (Hw h roots)).length<=Hw h roots:=by(rcases e with e|e;exact e;exact Nat.not_lt.1 λq=>c ⟨q,e⟩)
 exact .inl ⟨rfl,Z3m I d j,ZmP h roots _ I a d g hl b f j⟩;rw[if_neg g];exact .inr ⟨g,rfl,ZeH h roots a d g⟩;rw[if_neg d];exact .inr ⟨by simp,rfl,ZkK h roots a (by simpa using d)⟩
theorem Z79(e:(BE h roots).2=0):Ax h roots (BE h roots).1:=by rcases Zdw h roots a hl b with⟨_,d,_⟩|⟨c,_⟩;exact d;exact absurd e c
end
def Z2f(h:Zy):∀n:Nat,∀x∈BK h n,Ba h x=Lb
 |0,x,hx=>by cases hx
 |n+1,x,hx=>by
  unfold BK at hx;split at hx
  .rename_i c;rcases Lt.1 hx with q|q
   .exact Z2f h n x q
   .rw[Lu.1 q];exact c
  .exact Z2f h n x hx
section
variable{h:Heap}{T:Nat->List Int}(g:Gd h T)
include g
theorem Gd.refsOb{a:Int}(m:a∈(Zb h).1):∀v∈ZK h a,v=0\/v∈(Zb h).1:=by
 intro v c;obtain⟨i,d,n⟩:=(g.objs.2 a).1 m;unfold ZK at c;rw[g.at' d]at c;obtain⟨p,b,rfl⟩:=LO.1 c;simp only at b;have pq:0<=p/\p<Zl h.W a/\Ba (ZR h.W a) p=Lb:=by(unfold Zj at b;split at b;have r:=SP _ _ _ b;have l:(ZR h.W a).length=Zl h.W a:=rfl;exact⟨r.1,by omega,Z2f _ _ _ b⟩;simp at b)
 rcases g.q i a p d n pq.1 pq.2.1 pq.2.2 with e|⟨j,f,k⟩;exact .inl e;exact .inr ((g.objs.2 _).2 ⟨j,f,k⟩)
theorem Gd.order{s:List Int}(hs:∀r∈s,r=0\/Ob h T r):(BE h s).2=0:=by
 have no:∀{l:List Int},(∀r∈l,r=0\/r∈(Zb h).1)->((Lf l.length).find? (Ci l (Zb h).1)).isSome=Lc:=by
  intro l i;cases e:(Lf l.length).find? (Ci l (Zb h).1)with|none=>rfl|some j =>obtain⟨d,f,_⟩:=LB.1 e;have q:=of_decide_eq_true d;rcases i _ (ZT.2 ⟨j,Lj.1 f,rfl⟩)with c|c;exact absurd c q.1;exact absurd c q.2
 have b:GT h s=Lc:=no λr k=>(hs r k).imp id (g.objs.2 r).2;obtain⟨I,e⟩:=Z1j b;unfold BE;rw[if_pos g.p,if_pos g.objs.1,if_neg];rintro(q|⟨m,a⟩);rw[b]at q;cases q;have:=no (g.refsOb ((I.el _ (Ld _)).2 _ (ZT.2 ⟨Hw h s,m,rfl⟩)));unfold H2 at a;rw[this]at a;cases a
end
def E6(l:List Int)(v:Int):Int:=if v∈l then(l.idxOf v:Int)+1 else 0
def Z90 l(v:Int):0<=E6 l v/\E6 l v<=l.length:=by unfold E6;split;rename_i h;have:=List.idxOf_lt_length_iff.2 h;omega;omega
def Zav{l:List Int}{v:Int}(h:v∈l):l.idxOf v<l.length/\l.getD (l.idxOf v) La=v/\∀i,i<l.idxOf v->l.getD i La≠v:=by have a:=List.idxOf_lt_length_iff.2 h;refine⟨a, ?_,λi b q=>?_⟩;rw[Lh,Ll a,Lz,List.getElem_idxOf];rw[Lh,Ll oq,Lz]at q;have:=List.not_of_lt_findIdx (p:=λx=>x==v) (xs:=l) (i:=i) b;simp[q]at this
def nuL(l:List Int)(v:Int)(i:Nat):Tg:=⟨tm 20 [(0,Z2 l),(1,uU v),(4,nI 0),(5,nI i)],[],4⟩
section
variable(l:List Int)(v:Int)(hl:l.length<=1048576)
include hl
theorem Z5r(i:Nat)(hi:i<l.length)(e:l.getD i La≠v):CP (Zm f67 0) (nuL l v i).st .nrm (nuL l v (i+1)).st:=by exact sF [] []<|FN 8 9 14 wD l i<|Ffb 17 (l.getD i La==v)<|Fx 11 i Fz
theorem Zcj(i:Nat)(hi:i<l.length)(e:l.getD i La=v):CP (Zm f67 0) (nuL l v i).st .ret (Tg.st ⟨tm 20 [(4,nI ((i:Int)+1))],[],60⟩):=by exact sF [] []<|FN 8 9 14 wD l i<|Ftb 17 (l.getD i La==v)<|Fx 19 i Fz
omit hl in
theorem Zf4:CP (Zm f67 0) (nuL l v l.length).st (.ext 0) (Tg.st ⟨tm 20 [(4,nI 0)],[],60⟩):=by exact sF [] []<|FO 8 9 wD l Fz
def ZgA(h:v∉l)  := Bo (S:=λi=>(nuL l v i).st) l.length (by kernel_rfl) (λi a=>Z5r l v hl i a λq=>h (ZT.2 ⟨i,a,q⟩)) (Zf4 l v)
theorem Zn1(h:v∈l):CP (Zi f67 0) (Tg.st ⟨tm 20 [(0,Z2 l),(1,uU v),(4,nI 0),(5,nI 0)],[],4⟩) .ret (Tg.st ⟨tm 20 [(4,nI ((l.idxOf v:Int)+1))],[],60⟩):=by obtain⟨a,b,c⟩:=Zav h;exact EM (S:=λi=>(nuL l v i).st) (l.idxOf v) kr (λi d=>Z5r l v hl i oq (c i d)) (Zcj l v hl _ a b)
theorem ZaS:GP 67 [Z2 l,uU v] Lb (nI (E6 l v)) []:=by unfold E6;by_cases h:v∈l;rw[if_pos h];exact gF [] func67 []<|Fu (@Zn1 l v aa aa) Fz;rw[if_neg h];exact gF [] func67 []<|Fu (@ZgA l v aa aa) Fz
end
def HJ(l fs a:List Int):Nat->List Int|0=>fs|j+1=>(HJ l fs a j).set (a.getD j La).toNat (E6 l (fs.getD (a.getD j La).toNat La))
def MH l fs a:∀j,(HJ l fs a j).length=fs.length|0=>rfl|j+1=>by rw[HJ,List.length_set,MH l fs a j]
structure BI where
 hd:Zy
 fs:List Int
instance:Inhabited BI:=⟨⟨default,[]⟩⟩
def BI.dv(n:BI):List DV:=[Zq n.hd.K,Zq n.hd.length,.sc (.int .u32 n.hd.map),.sl 1 (n.fs.map wD)]
def BI.cells(n:BI):List AV:=[nI n.hd.K,nI n.hd.length,u32 n.hd.map,Z2 n.fs]
def Zaa(hd:Zy):∀n:Nat,(BK hd n).Nodup
 |0=>LD
 |n+1=>by
  have c:=Zaa hd n;unfold BK;split
  .rw[L1];refine⟨c,by simp,λa d b e=>?_⟩;have:=(SP hd n a d).2;rw[Lu]at e;omega
  .exact c
def BQ(h:Heap)(a:Int):List Int:=(BV h.W (a+1) (Z6 h a).1.length).1
def CX(h:Heap)(l:List Int)(a:Int):BI:=⟨(Z6 h a).1,HJ l (BQ h a) (Zj (Z6 h a).1) (Zj (Z6 h a).1).length⟩
def RG{h:Heap}{a:Int}(b:Z9 h=Lb)(e:a∈(Zb h).1):4096<=a/\a<=8192/\0<=(Z6 h a).1.length/\(Z6 h a).1.length<=255/\a+(Z6 h a).1.length<4096+h.W.length/\(Z6 h a).2=0/\((BQ h a).length:Int)=(Z6 h a).1.length/\BQ h a=(h.W.drop (a+1-4096).toNat).take (Z6 h a).1.length.toNat /\ (Zj (Z6 h a).1).Nodup/\(∀p∈Zj (Z6 h a).1,0<=p/\p<(Z6 h a).1.length/\(BQ h a).getD p.toNat La∈ZK h a):=by
 have l:=IG h a e;obtain⟨k,d,g3⟩:=SS b e;have f:=Dr d;have v:=Iu k;have i:Zv h a=Z6 h a:=v.1;rw[i]at v;have c:BQ h a=(h.W.drop (a+1-4096).toNat).take (Z6 h a).1.length.toNat:=by rw[BQ,BV,if_neg oq,if_pos oq]
 have j:((BQ h a).length:Int)=(Z6 h a).1.length:=by rw[c,Lr,Xb];omega
 refine⟨f.1,l.2,by omega,by omega,f.2,d,j,c, ?_,λp b=>?_⟩;unfold Zj;split;exact Zaa _ _;exact LD;have g:0<=p/\p<(Z6 h a).1.length:=by(have:=b;unfold Zj at this;split at this;have:=SP _ _ _ this;omega;simp at this)
 refine⟨g.1,g.2,LO.2 ⟨p,b, ?_⟩⟩;rw[c,Z1,if_pos oq];simp only[Lh,LN,LR];rw[if_pos oq,show(a+1-4096).toNat+p.toNat=(a+1+p-4096).toNat by omega];rfl
def EX(l:List Int)(r:Int):Int:=E6 l r-1
structure Ah where
 roots:List Int
 nodes:List BI
def Z3H(h:Heap)(l roots:List Int):Ah:=⟨roots.map (EX l),l.map (CX h l)⟩
def CK(h:Heap)(roots:List Int):Ah×Int:=if(BE h roots).2=0 then(Z3H h (BE h roots).1 roots,0)else(⟨[],[]⟩,(BE h roots).2)
def Zb3{α β:Type}[Inhabited α](f:α->β){l:List α}{i:Nat}(hi:i<l.length):(l.take (i+1)).map f=(l.take i).map f++[f (l.getD i La)]:=by rw[List.take_succ,L0,Ll hi,Lh,Ll hi];rfl
def Z7M{h roots k}(I:GQ h roots k)(e:(Zp h roots k).length<=k):∀f i,i<=k->k<i+f->NX h roots f i=k
 |0,i,h1,h2=>by omega
 |f+1,i,h1,h2=>by
  unfold NX;by_cases q:i=k
  .rw[q,if_pos (.inl e)]
  .obtain⟨l1,a⟩:=I.lo i oq;rw[if_neg (by rw[a];intro c;rcases c with c|c;omega;cases c)];exact Z7M I e f (i+1) oq oq
def GQ.le{h roots k}(I:GQ h roots k):k<=(Zp h roots k).length:=by
 cases k with|zero=>omega|succ k =>obtain⟨a,_⟩:=I.lo k oq;have:=(Ph h roots k 1).2 k a;omega
def Z4g{h:Heap}{roots:List Int}{k}(c:Z9 h=Lb)(b:(Zb h).2=0)(a:GT h roots=Lc)(I:GQ h roots k)(e:(Zp h roots k).length<=k):BE h roots=(Zp h roots k,0):=by have l1:=I.len (Ld k);have l2:=I.le;have z:Hw h roots=k:=Z7M I e _ _ (Lq k) oq;unfold BE;rw[if_pos c,if_pos b,z,if_neg];rintro(q|q);rw[a]at q;cases q;omega
section
variable{h:Heap}{T:Nat->List Int}(g:Gd h T)
include g
theorem Gd.noBad{l:List Int}(hl:∀r∈l,r=0\/r∈(Zb h).1):((Lf l.length).find? (Ci l (Zb h).1)).isSome=Lc:=by
 cases e:(Lf l.length).find? (Ci l (Zb h).1)with|none=>rfl|some j =>obtain⟨a,b,_⟩:=LB.1 e;have q:=of_decide_eq_true a;rcases hl _ (ZT.2 ⟨j,Lj.1 b,rfl⟩)with c|c;exact absurd c q.1;exact absurd c q.2
theorem Gd.ordI{s:List Int}(hs:∀r∈s,r=0\/r∈(Zb h).1):∀k,(∀j,j<k->j<(Zp h s j).length)->GQ h s k
 |0,_=>GQ.zero (g.noBad hs)
 |k+1,a=>by
  have I:=Gd.ordI hs k (λj hj=>a j oq);exact I.succ (a k oq) (g.noBad (g.refsOb ((I.el k (Ld k)).2 _ (ZT.2 ⟨k,a k oq,rfl⟩))))
end
def Tq(l m:List Int)(v x:Int):Prop:=(v=0/\x=0)\/∃i,i<l.length/\i<m.length/\v=l.getD i La/\x=m.getD i La
def Z3u{l:List Int}(h:l.Nodup){i j:Nat}(hi:i<l.length)(a:j<l.length)(e:l.getD i La=l.getD j La):i=j:=by rw[Lh,Lh,Ll hi,Ll a]at e;exact(List.getElem_inj h).1 e
def Z73{l:List Int}(h:l.Nodup){i:Nat}(hi:i<l.length):l.idxOf (l.getD i La)=i:=by have m:=ZT.2 ⟨i,hi,(rfl:l.getD i La=_)⟩;obtain⟨a,b,_⟩:=Zav m;exact Z3u h a hi b
def Z85{l m:List Int}(hl:l.Nodup)(c:m.Nodup)(l0:(0:Int)∉l)(m0:(0:Int)∉m){v x}(t:Tq l m v x):E6 m x=E6 l v:=by rcases t with⟨rfl,rfl⟩|⟨i,a,b,rfl,rfl⟩;rw[E6,E6,if_neg l0,if_neg m0];rw[E6,E6,if_pos (ZT.2 ⟨i,a,rfl⟩),if_pos (ZT.2 ⟨i,b,rfl⟩),Z73 hl a,Z73 c b]
def O3{l:List Int}(hl:l.Nodup){i n:Nat}(hi:i<l.length):l.getD i La∈l.take n↔i<n:=by
 constructor;intro q;obtain⟨j,a,e⟩:=ZT.1 q;rw[Lr]at a;have:(l.take n).getD j La=l.getD j La:=by(simp only[Lh,LN];rw[if_pos oq])
 rw[this]at e;have:=Z3u hl oq hi e;omega;intro q;refine ZT.2 ⟨i,by rw[Lr];omega, ?_⟩;simp only[Lh,LN];rw[if_pos q]
section
variable{l m:List Int}(hl:l.Nodup)(hm:m.Nodup)(le:l.length=m.length)(l0:(0:Int)∉l)(m0:(0:Int)∉m)
include hl hm le l0 m0
theorem Zbn{n:Nat}(hn:n<=l.length){v x:Int}(t:Tq l m v x)(p:C9 (l.take n) v <+: l):∃n',n'<=l.length/\C9 (l.take n) v=l.take n'/\C9 (m.take n) x=m.take n':=by
 rcases t with⟨rfl,rfl⟩|⟨i,h1,h2,rfl,rfl⟩
 .exact⟨n,hn,by rw[C9,if_pos (.inl rfl)],by rw[C9,if_pos (.inl rfl)]⟩
 .have v0:l.getD i La≠0:=λq=>l0 (q▸ZT.2 ⟨i,h1,rfl⟩);have x0:m.getD i La≠0:=λq=>m0 (q▸ZT.2 ⟨i,h2,rfl⟩);by_cases c:i<n
  .exact⟨n,hn,by rw[C9,if_pos (.inr ((O3 hl h1).2 c))],by rw[C9,if_pos (.inr ((O3 hm h2).2 c))]⟩
  .have e1:C9 (l.take n) (l.getD i La)=l.take n++[l.getD i La]:=by rw[C9,if_neg (λq=>q.elim v0 λq=>c ((O3 hl h1).1 q))]
   have e2:C9 (m.take n) (m.getD i La)=m.take n++[m.getD i La]:=by rw[C9,if_neg (λq=>q.elim x0 λq=>c ((O3 hm h2).1 q))]
   rw[e1]at p⊢;rw[e2];have tl:(l.take n).length=n:=by rw[Lr];omega
   have pl:=p.length_le;rw[Lx,tl,LC]at pl;obtain⟨r,hr⟩:=p;have at':l.getD n La=l.getD i La:=by
    have:l[n]?=LH (l.getD i La):=by
     conv=>lhs;rw[<-hr]
     rw[L7,L9 oq,tl,Xf];rfl
    rw[Lh,this];rfl
   have en:=Z3u hl oq h1 at';subst en;exact⟨n+1,by omega,by rw[<-RX h1],by rw[<-RX h2]⟩
theorem Z3f{A A' rf rf':List Int}(f:rf.length=rf'.length)(b:∀i,i<rf.length->Tq l m (rf.getD i La) (rf'.getD i La))(a:∃n,n<=l.length/\A=l.take n/\A'=m.take n):∀k,k<=rf.length->addN A rf k <+: l->∃n,n<=l.length/\addN A rf k=l.take n/\addN A' rf' k=m.take n
 |0,_,_=>a
 |k+1,hk,p=>by
  have g:addN A rf k <+: addN A rf (k+1):=by
   rw[addN,C9];split
   .exact List.prefix_refl _
   .exact List.prefix_append _ _
  obtain⟨n,c,d,e⟩:=Z3f f b a k oq (g.trans p);rw[addN,addN,e];rw[addN]at p;rw[d]at p⊢;exact Zbn hl hm le l0 m0 c (b k oq) p
end
def Z37(A rf:List Int):∀n,A <+: addN A rf n
 |0=>List.prefix_refl _
 |n+1=>by
  refine(Z37 A rf n).trans ?_;rw[addN,C9];split
  .exact List.prefix_refl _
  .exact List.prefix_append _ _
def Z1p(h:Heap) s(i:Nat):∀d,Zp h s i <+: Zp h s (i+d)|0=>List.prefix_refl _|d+1=>(Z1p h s i d).trans (Z37 _ _ _)
def Z2G{l fs a:List Int}(f:a.Nodup)(d:∀p∈a,0<=p/\p<fs.length){i:Nat}(hi:i<fs.length):∀n,n<=a.length->(HJ l fs a n).getD i La=if(i:Int)∈a.take n then E6 l (fs.getD i La)else fs.getD i La
 |0,_=>by rw[if_neg pq];rfl
 |n+1,h=>by
  have g:=Z2G (l:=l) f d hi n oq;have ll:=MH l fs a n;have j:=d _ (ZT.2 ⟨n,by omega,rfl⟩);have b:(i:Int)∈a.take (n+1)↔(i:Int)∈a.take n\/(i:Int)=a.getD n La:=by
   rw[RX oq];simp
  rw[HJ];by_cases c:(i:Int)=a.getD n La
  .rw[if_pos (b.2 (.inr c)),<-c,LL,Lh,List.getElem?_set_self oq];rfl
  .have e:((HJ l fs a n).set (a.getD n La).toNat (E6 l (fs.getD (a.getD n La).toNat La))).getD i La=(HJ l fs a n).getD i La:=by
    simp only[Lh];rw[List.getElem?_set_ne (by simp only[Lh]at c j;omega)]
   rw[e,g];by_cases q:(i:Int)∈a.take n
   .rw[if_pos q,if_pos (b.2 (.inl q))]
   .rw[if_neg q,if_neg (λz=>(b.1 z).elim q c)]
def getD_lt{l:List Int}{i:Nat}(h:i<l.length):l.getD i La=l[i]:=by rw[Lh,Ll h];rfl
def getD_take{l:List Int}{i n:Nat}(h:i<n):(l.take n).getD i La=l.getD i La:=by simp only[Lh,LN];rw[if_pos h]
def Z8P(f:Int->Int){l:List Int}{j:Nat}(h:j<l.length):(l.map f).getD j La=f (l.getD j La):=by simp only[Lh,LS,Ll h,LV,Lz]
def Z6c{h:Heap}(d:Z9 h=Lb){a:Int}(c:a∈(Zb h).1){j:Nat}(hj:(j:Int)<(Z6 h a).1.length):(BQ h a).getD j La=(Z1 h.W (a+1+j)).1:=by obtain⟨f1,_,_,_,f5,_,_,b,_,_⟩:=RG d c;rw[b];rw[Z1,if_pos oq,getD_take oq];simp only[Lh,LR];rw[show(a+1-4096).toNat+j=(a+1+(j:Int)-4096).toNat by omega];rfl
structure MQ (h h':Heap) (s s' l m:List Int):Prop where
 o:BE h s=(l,0)
 o':BE h' s'=(m,0)
 L:Ax h s l
 L':Ax h' s' m
 len:l.length=m.length
 sl:s'.length=s.length
 st:∀i,i<s.length->Tq l m (s.getD i La) (s'.getD i La)
 hd:∀i,i<l.length->(Z6 h' (m.getD i La)).1=(Z6 h (l.getD i La)).1
 fd:∀i,i<l.length->∀j:Nat,(j:Int)<(Z6 h (l.getD i La)).1.length->if Ba (Z6 h (l.getD i La)).1 j=Lb then Tq l m ((BQ h (l.getD i La)).getD j La) ((BQ h' (m.getD i La)).getD j La)else(BQ h' (m.getD i La)).getD j La=(BQ h (l.getD i La)).getD j La
section
variable{h h':Heap}{s b l m:List Int}(K:MQ h h' s b l m)
include K
theorem MQ.node{i:Nat}(hi:i<l.length):CX h' m (m.getD i La)=CX h l (l.getD i La):=by
 have le:=K.len;have t:=K.L.el _ (ZT.2 ⟨i,hi,rfl⟩);have om:=K.L'.el _ (ZT.2 ⟨i,by omega,rfl⟩);obtain⟨_,_,_,_,_,_,f7,_,r,d⟩:=RG K.L.p t;obtain⟨_,_,_,_,_,_,u,_,v,o⟩:=RG K.L'.p om;have hd:=K.hd i hi;have fd:=K.fd i hi;unfold CX;rw[hd]at u v o⊢;generalize l.getD i La=a at *;generalize m.getD i La=q at *;have f:∀p∈Zj (Z6 h a).1,0<=p/\p<(BQ h a).length:=λp f=>by have:=d p f;omega
 have n:∀p∈Zj (Z6 h a).1,0<=p/\p<(BQ h' q).length:=λp f=>by have:=d p f;omega
 have e:HJ m (BQ h' q) (Zj (Z6 h a).1) (Zj (Z6 h a).1).length=HJ l (BQ h a) (Zj (Z6 h a).1) (Zj (Z6 h a).1).length:=by(refine LM (by rw[MH,MH];omega) λj g k=>?_;rw[<-getD_lt g,<-getD_lt k];rw[MH]at g k;rw[Z2G r n g _ (Ld _),Z2G r f k _ (Ld _),List.take_length];have:=fd j oq;by_cases c:(j:Int)∈Zj (Z6 h a).1;rw[if_pos c,if_pos c];rw[if_pos (Tf _ _ c)]at this;exact Z85 K.L.nd K.L'.nd K.L.n0 K.L'.n0 this;rw[if_neg c,if_neg c];rw[if_neg (λp=>c (Z2l oq oq p))]at this;exact this)
 rw[e]
theorem MQ.graph:CK h' b=CK h s:=by
 have le:=K.len;have sl:=K.sl;unfold CK;rw[K.o,K.o',if_pos rfl,if_pos rfl];unfold Z3H;have d:b.map (EX m)=s.map (EX l):=by(refine LM (by rw[Lm,Lm];exact sl) λi c a=>?_;rw[Lm]at c a;rw[LU,LU,<-getD_lt c,<-getD_lt a];unfold EX;rw[Z85 K.L.nd K.L'.nd K.L.n0 K.L'.n0 (K.st i a)])
 have e:m.map (CX h' m)=l.map (CX h l):=by(refine LM (by rw[Lm,Lm];exact le.symm) λi c a=>?_;rw[Lm]at c a;rw[LU,LU,<-getD_lt c,<-getD_lt a];exact K.node a)
 rw[d,e]
end
def Za2{h T}(g:Gd h T){s}(hs:Gr h T s){k}(E:Mr h s k):∀i,i<=k->CG h s i=Zp h s i/\GQ h s i:=by
 have a:∀r∈s,r=0\/r∈(Zb h).1:=λr c=>(hs r c).imp id (g.objs.2 r).2;intro i;induction i with|zero=>intro _;exact⟨rfl,GQ.zero (g.noBad a)⟩|succ i d =>intro hi;obtain⟨b,I⟩:=d oq;have lo:=(E.o i oq).1;rw[b]at lo;have mem:=(I.el i (Ld i)).2 _ (ZT.2 ⟨i,lo,rfl⟩);refine⟨?_,I.succ lo (g.noBad (g.refsOb mem))⟩;show addN (CG h s i) (HU h ((CG h s i).getD i La)) (HU h ((CG h s i).getD i La)).length=_;rw[b,Z8b g.p mem];rfl
def Z1s{B:Int}(hB:0<=B){h T}(g:Gd h T)(mv:MV h){s b}(hw:Zw h.W)(hb:∀p∈h.P,p.N<=B)(hs:Gr h T s)(hk:Gr h T b)(e:(collectF h s b).2.2.2.2=0) :MQ h (collectF h s b).1 s (collectF h s b).2.1 (BE h s).1 (ZA h s).Q:=by
 obtain⟨er,sw⟩:=SW.roots g mv hs hw;have e1:(rootsF (Zr h) s).2.2=0:=by rw[er]
 have e2:=(sw.all g mv).1;have m:=(OH hB hw hb e).p1;obtain⟨tq,ce,eh⟩:=Dc hB g hw hb e1 e2 (k:=b);have e7:collectF h s b=(Em (Bs h s b),(rootsF (Zr h) s).2.1,Ev (ZA h s) b b.length,(Bs h s b).rep,0):=by rw[collectF,if_pos g.p,if_pos ⟨g.refers hs,g.refers hk⟩,if_pos e1,if_pos e2]
 rw[e7]at m⊢;simp only at m⊢;rw[eh]at m⊢;have gd:=ce.good m;generalize hH:(⟨(ZA h s).j.C,(H4 (Cy h s b)).j.W,(ZA h s).j.P.map (BU (ZA h s).j.S),1-(ZA h s).j.S,(Em (Bs h s b)).B⟩:Heap)=H' at *;have a4:H'.W=(H4 (Cy h s b)).j.W:=by rw[<-hH]
 obtain⟨k,E,ro,ln,rt,a3⟩:=ZhG g mv hs hw;have sl:(rootsF (Zr h) s).2.1.length=s.length:=by rw[er];exact Na _ _ _
 generalize (rootsF (Zr h) s).2.1=s' at *;have a8:∀r∈s,r=0\/r∈(Zb h).1:=λr hr=>(hs r hr).imp id (g.objs.2 r).2;have b0:=Za2 g hs E;obtain⟨kN,I⟩:=b0 k (Ld k);rw[kN]at ro ln rt;have ol:BE h s=(Zp h s k,0):=Z4g g.p g.objs.1 (g.noBad a8) I oq;have O:=Z3m I g.p oq;rw[ol];simp only;have qn:=ro.nd;have ql:=ro.l;have q0:(0:Int)∉(ZA h s).Q:=λc=>by(have:=ce.i.r 0 (Li _ c);omega)
 have o:∀v x,Tr (ZA h s) v x->Tq (Zp h s k) (ZA h s).Q v x:=by(intro v x t;rcases t with t|⟨t1,t2,t3⟩;exact .inl t;obtain⟨i,a,rfl⟩:=ZT.1 (ro.s v t1 t2);exact .inr ⟨i,a,by omega,rfl,t3.trans (ro.i i a).2⟩)
 have ob:∀i,i<k->(Zp h s k).getD i La∈(Zb h).1/\(ZA h s).Q.getD i La∈(Zb H').1/\(Z6 H' ((ZA h s).Q.getD i La)).1=(Z6 h ((Zp h s k).getD i La)).1 /\
   ∀j:Int,0<=j->j<(Z6 h ((Zp h s k).getD i La)).1.length->if Ba (Z6 h ((Zp h s k).getD i La)).1 j=Lb then Tq (Zp h s k) (ZA h s).Q (Z1 h.W ((Zp h s k).getD i La+1+j)).1 (Z1 H'.W ((ZA h s).Q.getD i La+1+j)).1 else(Z1 H'.W ((ZA h s).Q.getD i La+1+j)).1=(Z1 h.W ((Zp h s k).getD i La+1+j)).1:=by
  intro i a;have mo:=O.el _ (ZT.2 ⟨i,by omega,(rfl:(Zp h s k).getD i La=_)⟩);obtain⟨i0,a9,b1⟩:=(g.objs.2 _).1 mo;have mq:(ZA h s).Q.getD i La∈(ZA h s).Q:=ZT.2 ⟨i,by omega,rfl⟩;obtain⟨t1,t2⟩:=rt.f i a oq;obtain⟨j0,a0⟩:=ce.where' mq;have w:∀z,(ZA h s).Q.getD i La<=z->z<=(ZA h s).Q.getD i La+Zl (ZA h s).j.W ((ZA h s).Q.getD i La)->Z1 H'.W z=Z1 (ZA h s).j.W z:=λz z1 z2=>by rw[a4];exact ce.seen mq z1 z2
  have hl:Zl (ZA h s).j.W ((ZA h s).Q.getD i La)=Zl h.W ((Zp h s k).getD i La):=congrArg Zy.length t1;have r0:=Bq h.W ((Zp h s k).getD i La);have a7:ZR H'.W ((ZA h s).Q.getD i La)=ZR h.W ((Zp h s k).getD i La):=by rw[ZR,w _ (LW _) oq];exact t1
  have a1:=gd.at' a0;have a2:=g.at' a9;refine⟨mo,(gd.objs.2 _).2 ⟨j0,a0, ?_⟩,by rw[a1,a2];exact a7,λj j0 j1=>?_⟩
  .rw[a4];exact(ce.start a0).2.2 mq
  .rw[a2]at j1⊢;have j1:j<Zl h.W ((Zp h s k).getD i La):=j1;have f:=t2 j j0 j1;rw[w _ oq oq];unfold FT at f;by_cases c:Ba (ZR h.W ((Zp h s k).getD i La)) j=Lb
   .rw[if_pos c]at f⊢;exact o _ _ f
   .rw[if_neg c]at f⊢;exact f
 have rf:∀i,i<k->(ZK h ((Zp h s k).getD i La)).length=(ZK H' ((ZA h s).Q.getD i La)).length/\∀j,j<(ZK h ((Zp h s k).getD i La)).length->Tq (Zp h s k) (ZA h s).Q ((ZK h ((Zp h s k).getD i La)).getD j La) ((ZK H' ((ZA h s).Q.getD i La)).getD j La):=by(intro i a;obtain⟨o1,o2,o3,o4⟩:=ob i a;unfold ZK;rw[o3];refine⟨by rw[Lm,Lm],λj d=>?_⟩;rw[Lm]at d;rw[Z8P _ d,Z8P _ d];have pm:=ZT.2 ⟨j,d,(rfl:(Zj (Z6 h ((Zp h s k).getD i La)).1).getD j La=_)⟩;obtain⟨_,_,_,_,_,_,_,_,_,a6⟩:=RG g.p o1;have pr:=a6 _ pm;have:=o4 _ pr.1 pr.2.1;rw[if_pos (Tf _ _ pm)]at this;exact this)
 have y:∀j,j<=k->∃n,n<=(Zp h s k).length/\Zp h s j=(Zp h s k).take n/\Zp H' s' j=(ZA h s).Q.take n:=by
  intro j;induction j with
  |zero =>intro _;have p:=Z1p h s 0 k;rw[L3]at p;have:=Z3f O.nd qn ql.symm O.n0 q0 (A:=[]) (A':=[]) (rf:=s) (rf':=s') sl.symm (λi a=>o _ _ (a3 i a)) ⟨0,Lq _,by simp,by simp⟩ s.length (Ld _) p;obtain⟨n,n1,l,u⟩:=this;exact⟨n,n1,l,by rw[<-u,<-sl];rfl⟩
  |succ j ih =>
   intro d;obtain⟨n,n1,l,u⟩:=ih oq;obtain⟨lo,_⟩:=I.lo j oq;rw[l,Lr]at lo;obtain⟨r1,r2⟩:=rf j oq;have p:=Z1p h s (j+1) (k-(j+1));rw[show j+1+(k-(j+1))=k by omega]at p;have e3:(Zp h s j).getD j La=(Zp h s k).getD j La:=by rw[l,getD_take oq]
   have e4:(Zp H' s' j).getD j La=(ZA h s).Q.getD j La:=by rw[u,getD_take oq]
   have e5:Zp h s (j+1)=addN (Zp h s j) (ZK h ((Zp h s k).getD j La)) (ZK h ((Zp h s k).getD j La)).length:=by rw[<-e3];rfl
   have e6:Zp H' s' (j+1)=addN (Zp H' s' j) (ZK H' ((ZA h s).Q.getD j La)) (ZK H' ((ZA h s).Q.getD j La)).length:=by rw[<-e4];rfl
   rw[e5]at p⊢;rw[e6,<-r1];exact Z3f O.nd qn ql.symm O.n0 q0 r1 r2 ⟨n,n1,l,u⟩ _ (Ld _) p
 obtain⟨n,n1,l,u⟩:=y k (Ld k);have nk:n=k:=by have:=congrArg List.length l;rw[Lr]at this;omega
 have eq:Zp H' s' k=(ZA h s).Q:=by rw[u,nk,Xe oq]
 have q:∀r∈s',r=0\/r∈(Zb H').1:=by(intro r hr;obtain⟨i,a,rfl⟩:=ZT.1 hr;rcases o _ _ (a3 i oq)with⟨_,c⟩|⟨j,j1,j2,_,c⟩;exact .inl c;rw[c];exact .inr (ob j oq).2.1)
 have I':=gd.ordI q k (λj d=>by
  obtain⟨n,n1,l,u⟩:=y j oq;obtain⟨lo,_⟩:=I.lo j oq;rw[l,Lr]at lo;rw[u,Lr];omega)
 have a5:BE H' s'=(Zp H' s' k,0):=Z4g gd.p gd.objs.1 (gd.noBad q) I' (by rw[eq];omega);have O':=Z3m I' gd.p (by rw[eq];omega);rw[eq]at a5 O';refine⟨ol,a5,O,O',ql.symm,sl,λi a=>o _ _ (a3 i a),λi a=>(ob i oq).2.2.1,λi a j d=>?_⟩;obtain⟨o1,o2,o3,o4⟩:=ob i oq;rw[Z6c g.p o1 d,Z6c gd.p o2 (by rw[o3];exact d)];exact o4 j oq d
def Z03{f:Int->Nat}:∀{L M:List Int},L.Nodup->(∀x∈L,x∈M)->(L.map f).sum<=(M.map f).sum
 |[],_,_,_=>by simp
 |a::L,M,nd,hm=>by
  obtain⟨c,d⟩:=Xd.1 nd;have p:=(List.perm_cons_erase (hm a pq)).map f;have ih:=Z03 (f:=f) (L:=L) (M:=M.erase a) d λx b=>(List.mem_erase_of_ne (show x≠a fromλq=>c (by rw[<-q];exact b))).2 (hm x (Lp _ b));have:=p.sum_nat
  simp only[Ls,Lv]at this⊢;omega
def Zb9{f:Int->Nat}{hi:Int}:∀{M:List Int} {lo:Int},M.Pairwise (· < ·)->(∀x∈M,lo<=x/\x+f x<=hi)->(∀x∈M,∀y∈M,x<y->x+f x<=y)->lo<=hi->((M.map f).sum:Int)<=hi-lo
 |[],lo,_,_,_,h=>by simp;omega
 |x::M,lo,p,r,s,h=>by
  obtain⟨c,p2⟩:=List.pairwise_cons.1 p;have d:=r x pq;have ih:=Zb9 (f:=f) (hi:=hi) (M:=M) (lo:=x+f x) p2 (λy a=>⟨s x pq y (Lp _ a) (c y a),(r y (Lp _ a)).2⟩) (λy a z b=>s y (Lp _ a) z (Lp _ b)) d.2;simp only[Ls,Lv];omega
def stA(h:Heap)(a:Int):Nat:=1+(Zj (ZR h.W a)).length
def ZlP(hd:Zy):(Zj hd).length<=hd.length.toNat:=by
 have a:∀n:Nat,(BK hd n).length<=n:=λn=>by
  induction n with|zero=>simp[BK]|succ n ih =>unfold BK;split;simp;omega;omega
 unfold Zj;split;exact a _;simp
section
variable{h:Heap}{T:Nat->List Int}(g:Gd h T)(d:MV h){s:List Int}(t:Gr h T s)(b:Zw h.W)
include g d t b
theorem Z6a:∀k,(∀j,j<k->j<(CG h s j).length)->(BZ (rootsF (Zr h) s).1 k).rep.steps=(((CG h s k).take k).map (stA h)).sum
 |0,_=>by
  obtain⟨e,_⟩:=SW.roots g d t b;obtain⟨q,_,_⟩:=SW.rootsN g d t b s.length (Ld _);have f:∀n,n<=s.length->(rootsN (Zr h) s n).1.rep.steps=0:=by
   intro n;induction n with
   |zero=>intro _;rfl
   |succ n c =>
    intro a;exact(Db (RL (Nx b g.p) n λj i=>q j oq).1 _ (q n oq)).2.2.2.2.2.trans (c oq)
  show(rootsF (Zr h) s).1.rep.steps=_;rw[e];simpa using f s.length (Ld _)
 |k+1,hk=>by
  have c:=Z6a k λj i=>hk j oq;obtain⟨o,l⟩:=RO.it g d t b k λj i=>hk j oq;have a:=hk k oq;obtain⟨_,m,_⟩:=o.step g d a l;obtain⟨m1,m2,m3⟩:=Z2R m;have hx:=(o.i k a).1;obtain⟨tq,ki⟩:=o.b.o.c.k;have v:ZR (BZ (rootsF (Zr h) s).1 k).j.W ((BZ (rootsF (Zr h) s).1 k).Q.getD k La)=ZR h.W ((CG h s k).getD k La):=by
   have:=o.uq k (Ld _) a 0 oq (Bq _ _).1;simp only[Lw]at this;rw[ZR,ZR,this]
  have w:Bh (BZ (rootsF (Zr h) s).1 k)=Zj (ZR h.W ((CG h s k).getD k La)):=by unfold Bh ZB C4;rw[l,LL];exact congrArg Zj v
  have x:=(N9 o.b.o.c.ok (C4 (BZ (rootsF (Zr h) s).1 k)) (Bh (BZ (rootsF (Zr h) s).1 k)) _ m2).2.2.2;have u:(CG h s (k+1)).take (k+1)=(CG h s k).take k++[(CG h s k).getD k La]:=by
   have p:CG h s k <+: CG h s (k+1):=Z37 _ _ _;obtain⟨r,p⟩:=p;rw[<-p,List.take_append_of_le_length oq,RX a]
  show((B1 (BZ (rootsF (Zr h) s).1 k)).1).rep.steps=_;rw[m3,u];simp only[Hk,L0,Ls,List.map_nil,List.sum_append,Lv,List.sum_nil];rw[x,c,w];unfold stA;omega
theorem Z4u:(ZA h s).rep.steps=((CG h s (NN h s)).map (stA h)).sum/\(ZA h s).rep.copied+(ZA h s).rep.kept=(CG h s (NN h s)).length/\(CG h s (NN h s)).Nodup/\(∀a∈CG h s (NN h s),Ob h T a)/\(CG h s (NN h s)).length=(ZA h s).Q.length:=by obtain⟨k,E,e,sc,ln,p⟩:=Z2W g d t b;rw[Zax E];have st:=Z6a g d t b k λj m=>(E.o j m).1;rw[<-p,Xe oq]at st;have l:=e.l;obtain⟨tq,u⟩:=e.b.o.c.k;refine⟨st,by rw[e.b.o.n,l], ?_,λa q=>?_,l.symm⟩;refine List.pairwise_iff_getElem.2 λi j f m r c=>?_;have o:=(e.i i f).2;have n:=(e.i j m).2;rw[getD_lt f]at o;rw[getD_lt m,<-c,o]at n;rw[getD_lt oq,getD_lt oq]at n;have:=(List.getElem_inj e.nd).1 n;omega;obtain⟨i,f,rfl⟩:=ZT.1 q;exact(u.old _).1 (e.i i f).1
theorem Zgv:((CG h s (NN h s)).length:Int)<=(ZA h s).rep.steps/\(ZA h s).rep.steps<=h.W.length:=by
 obtain⟨e,_,nd,u,_⟩:=Z4u g d t b;have c:∀a∈(Zb h).1,Ob h T a:=λa n=>(g.objs.2 a).1 n;have s1:=Z03 (f:=stA h) (M:=(Zb h).1) nd λx k=>(g.objs.2 x).2 (u x k);have s0:(CG h s (NN h s)).length<=((CG h s (NN h s)).map (stA h)).sum:=by
  generalize CG h s (NN h s)=L;induction L with
  |nil=>simp
  |cons a L ih =>
   have:1<=stA h a:=by unfold stA;omega
   simp only[Ls,Lv,Xa];omega
 have m:∀a,(stA h a:Int)<=1+Zl h.W a:=λa=>by(have:=ZlP (ZR h.W a);have r:=Bq h.W a;have:(ZR h.W a).length=Zl h.W a:=rfl;unfold stA;omega)
 have po:=B5 g.p;have s2:=Zb9 (f:=stA h) (hi:=4096+h.W.length) (lo:=4096) (SY h) (λx k=>by
  obtain⟨i,l,_⟩:=c x k;have:=g.inw l;have:=m x;omega) (λx k y p q=>by
  obtain⟨i,l,_⟩:=c x k;obtain⟨j,o,_⟩:=c y p;have:=g.sep l o q;have:=m x;omega) oq
 rw[e];omega
end
end Go.Proofs.YtgedmeaemofdkaaGreat
