/-
 The statement CollectKeeps: part 17.
 Conditions: none.
-/
import Derived.Test.YtgedmeaemofdkaaGreatX16
set_option maxRecDepth 100000
set_option maxHeartbeats 2000000
set_option linter.all false
open Inhabited renaming default->M
open Bool renaming true->La,false->Lb
open List renaming map->Lc,range->Lf,getD_eq_getElem?_getD->Lg,replicate->Lh,take->Li,mem_range->Lj,mem_append_right->Ll,getElem?_eq_getElem->Lm,drop->Ln,length_append->Lp,length_map->Lq,mem_append->Lr,mem_append_left->Ls,mem_singleton->Lt,length_singleton->Lv,nodup_nil->Lw,find?_eq_none->Ly,find?_range_eq_some->LD,map_cons->LF,mem_cons_of_mem->LG,mem_map->LH,sum_cons->LI,length_take->LM,getElem?_append_left->LQ,getElem?_drop->LR,getElem_of_mem->LS,map_append->LU,nodup_append->LV,range_succ->LW,ext_getElem->L2,getElem?_map->L3,getElem?_take->L4,length_drop->L5,length_set->L6,map_drop->L7,map_set->L8,map_take->L9,mem_cons->Xa,take_length->Xb
open Option renaming none->Ld,getD_some->LA,isSome_iff_exists->LY,map_some->Xd
open Nat renaming le_refl->Le,zero_le->Lo,not_lt_zero->Lu,le_trans->Lz,zero_add->Xc
open Decidable renaming decide->Lk,not_not->LB
open Int renaming add_zero->Lx,add_assoc->LC,mul_le_mul_of_nonneg_right->LL,mul_nonneg->LN,toNat_natCast->LO,le_refl->LZ,mul_comm->L0,tmod_eq_emod_of_nonneg->L1
open Go.Proofs.Tryz
namespace Go.Proofs.YtgedmeaemofdkaaGreat
open Go.Sx
section
variable{B:Int}(hB:0<=B){h:Heap}{T:Nat->List Int}(g:Gd h T){s k:List Int}(hw:Zx h.W)(hb:∀p∈h.P,p.N<=B)(e1:(rootsF (Zr h) s).2.2=0)(e2:(Bz (rootsF (Zr h) s).1).2=0)(gs:H7 h T s)(gk:H7 h T k)(sl:s.length<=1000)(kl:k.length<=1000)(ks:CQ k)(rt:Z1W (Zr h) s)(ln:Sv (Zr h))(al:Z1p (rootsF (Zr h) s).1)
include hB g hw hb e1 e2 gs gk sl kl ks rt ln al
theorem Zjy:Z93 h s k (Zr h) (rootsF (Zr h) s).1 (ZF h s) (CB h s k) (Cz h s k) (BB h s k) (rootsF (Zr h) s).2.1 (EC (ZF h s) k k.length):=by
 have ck:=cOk h s k hw g.p e1 e2;obtain⟨q1,q2,q3,q4,q5⟩:=Z3W h s k hw g.p e1 e2;obtain⟨tq,ce,_⟩:=PK hB g hw hb e1 e2 (k:=k);have ok1:=(Sq (roots:=s) (R1 hw g.p) (Se g.p) e1).1;have f2:=ck.w2.fok;refine⟨ZhF h hw g.p g.good, ?_, ?_, ?_,ZkO _ k ⟨f2.W,f2.wl,by have:=f2.ql;omega,ck.i2.L,kl,ks,ck.w2.r0.2.2,λx hx=>(gk x hx).imp id λ⟨i,hi,_⟩=>?_⟩, ?_,Zgu _ q1 ⟨q2,q3⟩ q4 q5 ck.h4.2.2.2.2 (ZhG hB g k hw hb e1 e2),sl,kl,ck.f4.tl, ?_⟩
 .have:=Zgc h (s++k) hw qo;rw[g.refers (λx hx=>(Lr.1 hx).elim (gs x) (gk x))]at this;exact this
 .have:=ZlO (Zr h) s rt oq ln;rw[e1]at this;exact this
 .exact Zg5 _ ok1 al
 .have:=Zls (CB h s k) (Z70 hB g k hw hb e1 e2).fiOk;rw[ZhU hB g k hw hb e1 e2]at this;exact this
 .have sp:=ck.w2.sp;rw[<-ck.h4.2.2.1]at sp;exact sp
 .rw[ce.k.c,g.ofx hi]
theorem Zgy:GP 35 [h.av,Z2 s,Z2 k] Lb (.tu [(collectF h s k).1.av,Z2 (collectF h s k).2.1,Z2 (collectF h s k).2.2.1,.ag (collectF h s k).2.2.2.1.cells,nI (collectF h s k).2.2.2.2]) []:=by
 have a:collectF h s k=(Eo (BB h s k),(rootsF (Zr h) s).2.1,EC (ZF h s) k k.length,(BB h s k).rep,0):=by rw[collectF,if_pos g.p,if_pos ⟨g.refers gs,g.refers gk⟩,if_pos e1,if_pos e2]
 rw[a];exact ZgD (Zjy hB g hw hb e1 e2 gs gk sl kl ks rt ln al)
end
def Br(f:Z0->Int)(l:List Z0):Int:=(l.map f).sum
def Cb(p:Z0):Int:=if p.K=0 then 0 else 1
def Ci(p:Z0):Int:=if p.K=1 then p.U else 0
def unP(p:Z0):Int:=if p.K=1/\¬ 0<p.N then p.U else 0
def GN(p:Z0):Int:=if p.K=2\/p.K=3 then 1 else 0
def DU f(p:Z0):∀(l:List Z0) (i:Nat),i<l.length->Br f (l.set i p)+f (l.getD i M)=Br f l+f p
 |[],i,h=>by simp at h
 |x::l,0,_=>by grind[Br]
 |x::l,i+1,h=>by
  have:=DU f p l i (by simpa using h);grind[Br]
def A5(f:Z0->Int){l a:List Z0}(hl:a.length=l.length)(h:∀i,i<l.length->f (a.getD i M)=f (l.getD i M)):Br f a=Br f l:=by unfold Br;congr 1;refine L2 (by simpa using hl) λi h1 h2=>?_;grind
theorem IU f(l:List Z0):Br f l=((Lf l.length).map λi=>f (l.getD i M)).sum:=by unfold Br;congr 1;refine L2 pq λi h1 h2=>?_;grind
def N6{α:Type}{f g:α->Int}:∀{l:List α},(∀x∈l,f x<=g x)->(l.map f).sum<=(l.map g).sum
 |[],_=>by simp
 |x::l,h=>by
  have:=N6 (l:=l) λy a=>h y (LG _ a);grind
def Z1C{α:Type}{f g:α->Int}{n:Int}{r:α}:∀{l:List α},(∀x∈l,f x<=g x)->r∈l->f r+n<=g r->(l.map f).sum+n<=(l.map g).sum
 |[],_,hr,_=>by simp at hr
 |x::l,h,hr,hn=>by
  have h0:=h x pq;have a:∀y∈l,f y<=g y:=λy b=>h y (LG _ b);simp only[LF,LI];rcases Xa.1 hr with rfl|hr
  .have:=N6 a;omega
  .have:=Z1C a hr hn;omega
def SY{α:Type}{f:α->Int}:∀{l:List α},(∀x∈l,0<=f x)->0<=(l.map f).sum
 |[],_=>by simp
 |x::l,h=>by
  have:=SY (l:=l) λy a=>h y (LG _ a);grind
def Z8R{ws}:∀{l:List Int} {a b:Int},EK ws a b l->(l.map λx=>Zl ws x+1).sum=b-a
 |[],a,b,h=>by grind[EK]
 |x::l,a,b,h=>by
  have:=Z8R h.2.2;simp only[LF,LI,this,h.1];omega
def Z6z(l:List Z0):∀i,i<=l.length->(∃j,j<i/\(l.getD j M).K=0)->Zh l i≠[]
 |0,_,⟨j,b,_⟩=>by omega
 |i+1,hi,⟨j,b,d⟩=>by
  have a:E7 l i=l.getD i M:=by grind[Te]
  simp only[Zh,Rj];split
  .split<;>simp
  .rename_i c;rw[a]at c;exact Z6z l i oq ⟨j,by
    grind,d⟩
def Zjx{l}(h:¬ 0<=first l 1):∀j,j<l.length->(l.getD j M).K≠0:=by
 intro j a b;have hn:=Z6z l l.length (Le _) ⟨j,a,b⟩;unfold first at h
 rw[if_neg oq]at h;have ok:=(ND l l.length).2;cases hr:Zh l l.length<;>grind[Zh,runs,Ig]
def Zfm{l:List Z0}(h:∀j,j<l.length->(l.getD j M).K≠0):Br Cb l=l.length:=by
 rw[IU];have:∀n,n<=l.length->((Lf n).map λi=>Cb (l.getD i M)).sum=n:=by
  intro n;induction n with|zero=>simp|succ n ih =>grind[LW,Cb]
 grind
def wtW(h:Heap)(w:Z7)(x:Int):Int:=if(ZG (Z1 w.j.W x).1).2=La then 0 else Zl h.W x+1
def NA(h:Heap)(T:Nat->List Int)(w:Z7)(i:Nat):Int:=if(h.P.getD i M).K=1/\¬ 0<(h.P.getD i M).N then((T i).map (wtW h w)).sum else 0
def I5(h:Heap)(T:Nat->List Int)(w:Z7):Int:=((Lf h.P.length).map (NA h T w)).sum
structure MI (h:Heap) (T:Nat->List Int) (w:Z7):Prop where
 m0:w.j.P.length=h.P.length/\w.j.C=h.C
 m1:Br Ci h.P<=Br Ci w.j.P
 m2:0<w.T.length->((w.T.length:Int)-1)*(h.C.pw/4*3+1)+(w.j.P.getD (ZH w).toNat M).U<=Br Ci w.j.P-Br Ci h.P
 m3:Br Ci w.j.P+I5 h T w<=Br Ci h.P+Br unP h.P
 m4:Br Cb w.j.P=Br Cb h.P+w.T.length
 m5:∀i,i<h.P.length->(h.P.getD i M).K=1->((w.j.P.getD i M).S=w.j.S↔¬ 0<(h.P.getD i M).N)
def Z01(h:Heap) w(x:Int):0<=wtW h w x/\wtW h w x<=Zl h.W x+1:=by have:=Bq h.W x;grind[wtW]
def Zdy{h T}{w w':Z7}(e:w'.j.W=w.j.W):I5 h T w'=I5 h T w:=by unfold I5 NA wtW;rw[e]
def ZkZ{h T}(g:Gd h T)(w:Z7):I5 h T w<=Br unP h.P:=by rw[IU];refine N6 λi a=>?_;have a:=Lj.1 a;unfold NA unP;split;rename_i k;have t:=Z8R (g.t1 i a k.1).1;have:=N6 (l:=T i) (f:=wtW h w) (g:=λx=>Zl h.W x+1) λx _=>(Z01 h w x).2;omega;omega
def Zb4(h:Heap) T w:0<=I5 h T w:=by refine SY λi _=>?_;unfold NA;split;exact SY λx _=>(Z01 h w x).1;omega
def Zf1{h:Heap}{T:Nat->List Int}{w w'}{n r:Int}{a:Nat}(d:a<h.P.length)(e:(h.P.getD a M).K=1/\¬ 0<(h.P.getD a M).N)(g:r∈T a)(c:∀i x,x∈T i->wtW h w' x<=wtW h w x)(f:wtW h w' r+n<=wtW h w r):I5 h T w'+n<=I5 h T w:=by refine Z1C (r:=a) (λi d=>?_) (Lj.2 d) ?_;unfold NA;split;exact N6 λx b=>c i x b;omega;unfold NA;rw[if_pos e,if_pos e];exact Z1C (λx b=>c a x b) g f
def MI.begin{h T}(g:Gd h T):MI h T (Zr h):=by
 have e:∀i,i<h.P.length->(((Zr h).j.P.getD i M).K=(h.P.getD i M).K/\((Zr h).j.P.getD i M).U=(h.P.getD i M).U):=by grind[Zr,Zs]
 have l:(Zr h).j.P.length=h.P.length:=by simp[Zr]
 have e1:Br Ci (Zr h).j.P=Br Ci h.P:=A5 Ci l λi a=>by grind[Ci]
 have e2:Br Cb (Zr h).j.P=Br Cb h.P:=A5 Cb l λi a=>by grind[Cb]
 have r:=ZkZ g (Zr h);refine⟨⟨l,rfl⟩,by omega,by simp[Zr],by omega,by grind[Zr],λi a hk=>?_⟩;have sp:=g.sp i a oq;grind[Zr,Zs]
def MI.keep{h T w}(m:MI h T w) r:MI h T (w.keep r):=⟨m.m0,m.m1,m.m2,m.m3,m.m4,m.m5⟩
def MI.flip{h T r w}(m:MI h T w)(k:KI h T r w){i:Nat}(h2:(w.j.P.getD i M).K=2):MI h T (w.flip i):=by
 have e:∀j,((w.flip i).j.P.getD j M).K=(w.j.P.getD j M).K/\((w.flip i).j.P.getD j M).U=(w.j.P.getD j M).U:=by(intro j;simp only[Z7.flip];by_cases b:j<w.j.P.length;rw[HG b];split<;>exact⟨rfl,rfl⟩;grind[Ho])
 have l:(w.flip i).j.P.length=w.j.P.length:=by simp[Z7.flip,Ho]
 have a:Br Ci (w.flip i).j.P=Br Ci w.j.P:=A5 Ci l λj _=>by grind[Ci]
 have f:Br Cb (w.flip i).j.P=Br Cb w.j.P:=A5 Cb l λj _=>by grind[Cb]
 have g:I5 h T (w.flip i)=I5 h T w:=Zdy rfl;have c:(w.flip i).T=w.T:=rfl;have el:ZH (w.flip i)=ZH w:=rfl;refine⟨⟨by rw[l];exact m.m0.1,m.m0.2⟩,by rw[a];exact m.m1, ?_,by rw[a,g];exact m.m3,by rw[f,c];exact m.m4,λj b d=>?_⟩;rotate_left;have n:=m.m0.1;have o:(j:Int)∉w.T:=λq=>by have:=(k.tk j q).2.1;omega
 have p:=(k.pg j o).1;rw[d]at p;have:(w.flip i).j.P.getD j M=w.j.P.getD j M:=by(simp only[Z7.flip];rw[HG oq,if_neg];rintro⟨q1,q2⟩;by_cases q:j=i;subst q;omega;have:=(Sg (l:=w.j.P) (i:=i) (m:=j-i-1) oq).2;grind)
 rw[this];exact m.m5 j b d;intro q;rw[c,el,(e _).2,a];exact m.m2 q
def MI.copy{h T tq w}(g:Gd h T)(m:MI h T w)(k:KI h T tq w)(hw:Bb w){r n:Int}{s}(o:r∈T s)(h1:(h.P.getD s M).K=1)(a3:¬ 0<(h.P.getD s M).N)(ht:(ZG (Z1 w.j.W r).1).2=Lb)(hn:n=Zl w.j.W r+1)(hc:(w.place n).2.2=La):MI h T ((w.place n).1.copy r (w.place n).2.1 n):=by
 have he:(Z1 w.j.W r).1=(Z1 h.W r).1:=by(rcases k.hd s r o with q|q;exact q;grind)
 have a8:=Bq w.j.W r;have a5:Zl w.j.W r=Zl h.W r:=(Ek he).2.1;have y:=(g.t0 s r o).1;have b2:=(g.t1 s y h1).2 r o;have po:=B6 g.p;have sw:=RS po.1;have hv:=BI.1 po.1;have a1:n<=w.j.C.pw:=by rw[k.c];omega
 obtain⟨i,p,t,p1,p2,p3,p4,p5,p6,p7,e⟩:=Pa hw ⟨by omega,a1⟩ hc;have v:=k.c;have a7:=g.inw o;have d:(h.P.getD i M).K=0:=by(rcases p2 with q|q;by_cases c:(i:Int)∈w.T;exact(k.tk i c).2.1;rw[<-(k.pg i c).1];exact q.1;exact(k.tk i q.1).2.1)
 have b0:=k.pl;have b3:=k.wl;have a0:=EU (i:=i) (j:=h.C.pg) (pw:=h.C.pw) oq oq;rw[L0 h.C.pg]at a0;have a6:0<=(i:Int)*h.C.pw:=LN oq oq;have hx:∀j x,x∈T j->x≠r->(Z1 (BR (moveA w.j.W (w.place n).2.1 r n).1 r (4*(w.place n).2.1+2)).1 x).1=(Z1 w.j.W x).1:=by(intro j x hx a9;have u:=g.free (show i<h.P.length by omega) (Or.inl d) hx;rw[C2,if_pos d]at u;have r1:=Bq h.W x;unfold ZD at u;rw[p7,v];rw[v]at p5;have f:=g.free (show i<h.P.length by omega) (Or.inl d) o;rw[C2,if_pos d]at f;unfold ZD at f;obtain⟨m1,m2,m3⟩:=Sj (ws:=w.j.W) (a:=4+4092+(i:Int)*h.C.pw+C2 (w.j.P.getD i M)) (b:=r) (n:=n) oq oq oq;rw[show(4:Int)+4092+(i:Int)*h.C.pw=4096+(i:Int)*h.C.pw by omega]at m1 m2 m3;grind[Gj])
 have b1:(ZG (Z1 (BR (moveA w.j.W (w.place n).2.1 r n).1 r (4*(w.place n).2.1+2)).1 r).1).2=La:=by grind[Sj,RH,Ox]
 have ew:((w.place n).1.copy r (w.place n).2.1 n).j.W=(BR (moveA w.j.W (w.place n).2.1 r n).1 r (4*(w.place n).2.1+2)).1:=by(rw[e];rfl)
 have a2:I5 h T ((w.place n).1.copy r (w.place n).2.1 n)+n<=I5 h T w:=by(refine Zf1 y ⟨h1,a3⟩ o (λj x b4=>?_) ?_;grind[wtW];grind[wtW])
 have l:((w.place n).1.copy r (w.place n).2.1 n).j.P=w.j.P.set i p:=by rw[e];rfl
 have eT:((w.place n).1.copy r (w.place n).2.1 n).T=t:=by rw[e];rfl
 have eL:ZH ((w.place n).1.copy r (w.place n).2.1 n)=t.getD ((t.length:Int)-1).toNat M:=by grind[ZH]
 have s1:=DU Ci p w.j.P i p1;have s2:=DU Cb p w.j.P i p1;have u1:Ci p=p.U:=by grind[Ci]
 have z1:Cb p=1:=by rw[Cb,if_neg oq]
 have m1:=m.m1;have m3:=m.m3;have m4:=m.m4;have a4:0<=((w.T.length:Int))*(h.C.pw/4*3+1):=LN oq oq;have h5:∀j,j<h.P.length->(h.P.getD j M).K=1->((((w.place n).1.copy r (w.place n).2.1 n).j.P.getD j M).S=((w.place n).1.copy r (w.place n).2.1 n).j.S↔¬ 0<(h.P.getD j M).N):=by
  intro j hj hk;have eS:((w.place n).1.copy r (w.place n).2.1 n).j.S=w.j.S:=by rw[e];rfl
  rw[l,eS,Cq p1,if_neg (by grind)];exact m.m5 j hj hk
 rcases p2 with⟨q1,q2,q3⟩|⟨q1,q2,q3,q4⟩;have u2:Ci (w.j.P.getD i M)=0:=by rw[Ci,if_neg oq]
 have z2:Cb (w.j.P.getD i M)=0:=by grind[Cb]
 have oc:C2 (w.j.P.getD i M)=0:=by grind[C2]
 rw[oc]at p4;have hu:Br Ci (w.j.P.set i p)=Br Ci w.j.P+n:=by omega
 refine⟨⟨by grind,by rw[e];exact m.m0.2⟩,by rw[l];omega, ?_,by rw[l];omega,by grind[Lv],h5⟩;intro _;rw[eL,l,eT,hu,q2];have el:(w.T++[(i:Int)]).getD ((((w.T++[(i:Int)]).length:Nat):Int)-1).toNat M=i:=by simp_all
 rw[el,LO,Cq p1,if_pos rfl,Lp,Lv];rw[show(((w.T.length+1:Nat):Int)-1)=w.T.length by omega];by_cases z:0<w.T.length;have m2:=m.m2 z;have nf:¬ Em w n:=by grind[Z7.place]
 grind[Em];grind
 .have u2:Ci (w.j.P.getD i M)=(w.j.P.getD i M).U:=by grind[Ci]
  have z2:Cb (w.j.P.getD i M)=1:=by rw[Cb,if_neg oq]
  have oc:C2 (w.j.P.getD i M)=(w.j.P.getD i M).U:=by rw[C2,if_neg oq]
  rw[oc]at p4;have hu:Br Ci (w.j.P.set i p)=Br Ci w.j.P+n:=by omega
  refine⟨⟨by grind,by rw[e];exact m.m0.2⟩,by rw[l];omega, ?_,by rw[l];omega,by grind,h5⟩;intro z;rw[eT,q3]at z;have m2:=m.m2 z;rw[eL,l,eT,hu,q3];rw[Cq p1];show((w.T.length:Int)-1)*_+Z0.U (if i=(ZH w).toNat then p else w.j.P.getD (ZH w).toNat M)<=_;split;all_goals grind
structure MV (h:Heap):Prop where
 v:Br Ci h.P+Br GN h.P*h.C.pw<=h.C.pg/4*h.C.pw
 n:∃t:Int,Br Cb h.P<=h.C.pg/4+Br GN h.P+t/\(t-1)*(h.C.pw/4*3+1)<=Br Ci h.P
def Z1l{α:Type}{f:α->Int}{r:α}:∀{l:List α},(∀x∈l,0<=f x)->r∈l->f r<=(l.map f).sum
 |[],_,hr=>by simp at hr
 |x::l,h,hr=>by
  have h0:=h x pq;have a:∀y∈l,0<=f y:=λy b=>h y (LG _ b);simp only[LF,LI];rcases Xa.1 hr with rfl|hr
  .have:=SY a;omega
  .have:=Z1l a hr;omega
def Zn7{t t' s q L U nz pg:Int}(hs:4<=s)(hq:2<=q)(a:4*q<=pg)(hL:0<=L)(ht:0<=t)(h1:pg=nz+t)(h2:t*(s*3+1)<=U-1)(h3:nz<=q+L+t')(h4:(t'-1)*(s*3+1)<=U)(h5:U+L*(s*4)<=q*(s*4)):False:=by
 have e2:t*(s*3+1)=3*t*s+t:=by grind
 have e4:(t'-1)*(s*3+1)=3*(t'-1)*s+(t'-1):=by grind
 have e5:q*(s*4)-L*(s*4)=4*(q-L)*s:=by grind
 have a1:3*t<4*(q-L):=by(by_cases c:3*t<4*(q-L);exact c;have:=LL (show 4*(q-L)<=3*t by omega) (show 0<=s by omega);omega)
 have a2:3*(t'-1)<4*(q-L):=by(by_cases c:3*(t'-1)<4*(q-L);exact c;have:=LL (show 4*(q-L)<=3*(t'-1) by omega) (show 0<=s by omega);omega)
 omega
def MI.unp{h T i w}(m:MI h T w)(k:KI h T i w){r o:Int}{a:Nat}(b:Z4 w.j.C r=((a:Int),o,0))(d:(a:Int)∉w.T)(e:a<h.P.length)(k1:(h.P.getD a M).K=1)(c4:¬ ZJ w (Z4 w.j.C r).1=La):¬ 0<(h.P.getD a M).N:=by intro f;apply c4;have g:=m.m0.1;have q:=(m.m5 a e k1);have kk:=(k.pg a d).1;simp only[ZJ,decide_eq_true_eq];rw[b];simp only[LO];exact⟨by omega,by omega,by omega,λc=>(q.1 c) f,d⟩
section
variable{h:Heap}{T tq:Nat->List Int}{w:Z7}(g:Gd h T)(m:MI h T w)(k:KI h T tq w)(d:Bb w)(f:MV h)
include g m k d f
theorem MI.room{r n:Int}{e}(y:r∈T e)(h1:(h.P.getD e M).K=1)(a3:¬ 0<(h.P.getD e M).N)(ht:(ZG (Z1 w.j.W r).1).2=Lb)(hn:n=Zl w.j.W r+1):(w.place n).2.2=La:=by
 have he:(Z1 w.j.W r).1=(Z1 h.W r).1:=by(rcases k.hd e r y with q|q;exact q;rw[q.1]at ht;cases ht)
 have a5:=Bq w.j.W r;have a4:Zl w.j.W r=Zl h.W r:=(Ek he).2.1;have o:=(g.t0 e r y).1;have a6:=(g.t1 e o h1).2 r y;have po:=B6 g.p;have sw:=RS po.1;have hv:=BI.1 po.1;have a1:h.C.pw=h.C.pw/4*4:=by(have:=hv.2.2.1;rw[L1 oq]at this;omega)
 by_cases u:Em w n;rw[Z7.place,if_pos u];by_cases hg:0<=ZR w;rw[Z7.place,if_neg u,if_pos hg];exfalso;have nz:=Zfm (Zjx (l:=w.j.P) hg);have m0:=m.m0;have m1:=m.m1;have m3:=m.m3;have m4:=m.m4;have a0:=d.pl;rw[m0.2]at a0;have a2:n<=I5 h T w:=by
  have a:NA h T w e<=I5 h T w:=Z1l (λi _=>by
   unfold NA;split;exact SY λx _=>(Z01 h w x).1;exact LZ _) (Lj.2 o)
  have b:wtW h w r<=NA h T w e:=by(unfold NA;rw[if_pos ⟨h1,a3⟩];exact Z1l (λx _=>(Z01 h w x).1) y)
  unfold wtW at b;rw[if_neg (by rw[ht];simp)]at b;omega
 have a7:Br unP h.P<=Br Ci h.P:=N6 λp hp=>by(obtain⟨j,hj,rfl⟩:=LS hp;have pp:=En g.p hj;rw[Lg,Lm hj,LA]at pp;unfold unP Ci;split;rename_i c;rw[if_pos c.1];omega;split<;>omega)
 have hL:0<=Br GN h.P:=SY λp _=>by unfold GN;split<;>omega
 have h2:(w.T.length:Int)*(h.C.pw/4*3+1)<=Br Ci h.P-1:=by
  by_cases z:0<w.T.length;have m2:=m.m2 z;unfold Em at u;rw[m0.2]at u;have hq:h.C.pw/4*3+1<=(w.j.P.getD (ZH w).toNat M).U:=by omega
  rw[show(w.T.length:Int)*(h.C.pw/4*3+1)=((w.T.length:Int)-1)*(h.C.pw/4*3+1)+(h.C.pw/4*3+1) by rw[Int.sub_mul];omega];omega;have:w.T.length=0:=by omega
  rw[this];simp;omega
 obtain⟨t',n1,n2⟩:=f.n;have v:=f.v;exact Zn7 (s:=h.C.pw/4) (q:=h.C.pg/4) (pg:=h.C.pg) (nz:=Br Cb h.P) (L:=Br GN h.P) (U:=Br Ci h.P) (t:=w.T.length) (t':=t') oq oq oq hL oq oq h2 n1 n2 (by rw[<-a1];exact v)
theorem MI.fwd_ok(hi:BA w){r:Int}(n:r=0\/r∈w.Q\/r∈w.old):(w.fwd r).2.2=0:=by
 unfold Z7.fwd;by_cases c1:r=0\/r∈w.Q;rw[if_pos c1];rw[if_neg c1];have c2:r∈w.old:=by(rcases n with q|q|q;exact absurd (Or.inl q) c1;exact absurd (Or.inr q) c1;exact q)
 rw[if_neg (by simpa using c2)];obtain⟨a,c,l⟩:=(k.old r).1 c2;have b:Z4 w.j.C r=((a:Int),r-ZD h a,0):=by rw[k.c];exact g.ofx c
 by_cases c3:(ZG (Z1 w.j.W r).1).2=La;rw[if_pos c3];rw[if_neg c3,if_neg (by rw[b];simp)];by_cases c4:ZJ w (Z4 w.j.C r).1=La;rw[if_pos c4];rw[if_neg c4];by_cases e:(w.j.P.getD (CK w r) M).K=2;rw[if_pos e];rw[if_neg e];have i:CK w r=a:=by rw[CK,b];simp
 rw[i]at e;have j:=k.nt g c;have k1:(h.P.getD a M).K=1:=by(have:=(g.t0 a r c).2;rw[<-(k.pg a j).1]at this⊢;omega)
 have:=m.room g k d f c k1 (m.unp k b j (g.t0 a r c).1 k1 c4) (by simpa using c3) rfl;rw[<-GX w r]at this;rw[if_neg (by rw[this];simp)]
theorem MI.fwd(hi:BA w){r}(e:(w.fwd r).2.2=0):MI h T (w.fwd r).1:=by
 unfold Z7.fwd at e⊢;by_cases c1:r=0\/r∈w.Q;rw[if_pos c1];exact m;rw[if_neg c1]at e⊢;by_cases c2:r∈w.old;rw[if_neg (by simpa using c2)]at e⊢;obtain⟨a,c,p⟩:=(k.old r).1 c2;have b:Z4 w.j.C r=((a:Int),r-ZD h a,0):=by rw[k.c];exact g.ofx c
 by_cases c3:(ZG (Z1 w.j.W r).1).2=La;rw[if_pos c3];exact m;rw[if_neg c3,if_neg (by rw[b];simp)]at e⊢;by_cases c4:ZJ w (Z4 w.j.C r).1=La;rw[if_pos c4];exact m.keep r;rw[if_neg c4]at e⊢;by_cases j:(w.j.P.getD (CK w r) M).K=2;rw[if_pos j];exact(m.flip k j).keep r;rw[if_neg j]at e⊢;have n:CK w r=a:=by rw[CK,b];simp
 rw[n]at j;have o:=k.nt g c;have k1:(h.P.getD a M).K=1:=by(have:=(g.t0 a r c).2;rw[<-(k.pg a o).1]at this⊢;omega)
 have i:=m.unp k b o (g.t0 a r c).1 k1 c4;have l:=m.room g k d f c k1 i (by simpa using c3) rfl;rw[<-GX w r]at l;rw[if_neg (by rw[l];simp)];exact m.copy g k d c k1 i (by simpa using c3) (GX w r) l;rw[if_pos c2]at e;simp at e
end
def ZhV{ws:List Int}{a b n k:Int}(ha:4096<=a/\a-4096+n<=ws.length)(e:4096<=b/\b-4096+n<=ws.length)(hk:0<=k/\k<n):Z1 (moveA ws a b n).1 (a+k)=((Z1 ws (b+k)).1,0):=by
 have c:BS ws b n=((ws.drop (b-4096).toNat).take n.toNat,0):=by rw[BS,if_neg oq,if_pos e]
 have d:moveA ws a b n=ZX ws a ((ws.drop (b-4096).toNat).take n.toNat):=by rw[moveA,c];simp
 have hl:((ws.drop (b-4096).toNat).take n.toNat).length=n.toNat:=by simp;omega
 rw[d,SH oq oq];congr 1;unfold Z1;rw[if_pos oq];simp only[Lg];rw[show a+k-a=k by omega,List.getElem?_take_of_lt oq,LR];rw[show(b-4096).toNat+k.toNat=(b+k-4096).toNat by omega]
def CX(w:Z7)(y:Int):Int:=if y∈w.Q then y else if(ZG (Z1 w.j.W y).1).2=La then(ZG (Z1 w.j.W y).1).1 else 0
structure Tu (h:Heap) (T:Nat->List Int) (w:Z7) (r:Int) (i0:Nat) (w':Z7) (a:Int):Prop where
 b:4096<=a
 q:w'.Q=w.Q++[a]
 n:w'.rep.copied+w'.rep.kept=w.rep.copied+w.rep.kept+1
 o:w'.old=w.old
 l:w'.j.W.length=w.j.W.length
 s:((h.P.getD i0 M).K=2\/0<(h.P.getD i0 M).N)↔a=r
 e:a-4096+Zl h.W r<w.j.W.length
 f:a=r->w'.j.W=w.j.W
 c:a≠r->ZG (Z1 w'.j.W r).1=(a,La)
 t:∀j x,x∈T j->x≠r->a≠x/\Z1 w'.j.W x=Z1 w.j.W x
 x:∀k,0<=k->k<=Zl h.W r->(Z1 w'.j.W (a+k)).1=(Z1 w.j.W (r+k)).1
section
variable{h:Heap}{T tq:Nat->List Int}{w:Z7}(g:Gd h T)(m:MI h T w)(k:KI h T tq w)(d:Bb w)(f:MV h)
include g m k d f
theorem Zgt{r:Int}{l}(y:r∈T l)(a7:CJ h.W r≠0)(hq:r∉w.Q)(ht:(ZG (Z1 w.j.W r).1).2=Lb) :(w.fwd r).2.2=0/\Tu h T w r l (w.fwd r).1 (w.fwd r).2.1:=by
 have ho:r∈w.old:=(k.old r).2 ⟨l,y,a7⟩;have b6:=g.inw y;have on:=g.on y;have b7:=Bq h.W r;have he:(Z1 w.j.W r).1=(Z1 h.W r).1:=by(rcases k.hd l r y with q|q;exact q;rw[q.1]at ht;cases ht)
 have b2:Zl w.j.W r=Zl h.W r:=(Ek he).2.1;have nt:=k.nt g y;have pg:=k.pg l nt;have wl:=k.wl;have c1:¬ (r=0\/r∈w.Q):=by(rintro(q|q);omega;exact hq q)
 have s:Z4 w.j.C r=((l:Int),r-ZD h l,0):=by rw[k.c];exact g.ofx y
 have a0:CK w r=l:=by rw[CK,s];simp
 by_cases c4:ZJ w (Z4 w.j.C r).1=La;have ef:w.fwd r=(w.keep r,r,0):=by rw[Z7.fwd,if_neg c1,if_neg (by simpa using ho),if_neg (by rw[ht];simp),if_neg (by rw[s];simp),if_pos c4]
 rw[ef];show(0:Int)=0/\Tu h T w r l (w.keep r) r;have hs:(h.P.getD l M).K=2\/0<(h.P.getD l M).N:=by
  rw[s]at c4;simp only[ZJ,decide_eq_true_eq,LO]at c4;have k1:(h.P.getD l M).K=1:=by rw[<-pg.1];exact c4.2.2.1
  have:=m.m5 l on.1 k1;by_cases q:0<(h.P.getD l M).N;exact .inr q;exact absurd (this.2 q) c4.2.2.2.1
 exact⟨rfl,by omega,rfl,by simp only[Z7.keep];omega,rfl,rfl,⟨λ_=>rfl,λ_=>hs⟩,by omega,λ_=>rfl,λq=>absurd rfl q,λj x _ o=>⟨λq=>o q.symm,rfl⟩,λ_ _ _=>rfl⟩;by_cases c5:(w.j.P.getD (CK w r) M).K=2;have ef:w.fwd r=((w.flip (CK w r)).keep r,r,0):=by rw[Z7.fwd,if_neg c1,if_neg (by simpa using ho),if_neg (by rw[ht];simp),if_neg (by rw[s];simp),if_neg c4,if_pos c5]
 rw[ef];show(0:Int)=0/\Tu h T w r l ((w.flip (CK w r)).keep r) r;have hs:(h.P.getD l M).K=2\/0<(h.P.getD l M).N:=by(rw[a0,pg.1]at c5;exact .inl c5)
 exact⟨rfl,by omega,rfl,by simp only[Z7.keep,Z7.flip];omega,rfl,rfl,⟨λ_=>rfl,λ_=>hs⟩,by omega,λ_=>rfl,λq=>absurd rfl q,λj x _ o=>⟨λq=>o q.symm,rfl⟩,λ_ _ _=>rfl⟩;have k1:(h.P.getD l M).K=1:=by(have:=on.2.1;rw[a0]at c5;rw[<-pg.1]at this⊢;omega)
 have a3:=m.unp k s nt on.1 k1 c4;have v:=m.room g k d f y k1 a3 ht rfl;have a8:=GX w r;have ef:w.fwd r=((w.place (Zl w.j.W r+1)).1.copy r (w.place (Zl w.j.W r+1)).2.1 (Zl w.j.W r+1),(w.place (Zl w.j.W r+1)).2.1,0):=by(rw[Z7.fwd,if_neg c1,if_neg (by simpa using ho),if_neg (by rw[ht];simp),if_neg (by rw[s];simp),if_neg c4,if_neg c5,a8,if_neg (by rw[v];simp)])
 rw[ef];show(0:Int)=0/\Tu h T w r l ((w.place (Zl w.j.W r+1)).1.copy r (w.place (Zl w.j.W r+1)).2.1 (Zl w.j.W r+1)) (w.place (Zl w.j.W r+1)).2.1;have po:=B6 g.p;have b9:=(g.t1 l on.1 k1).2 r y;have c0:=RS po.1;have b4:=BI.1 po.1;obtain⟨i,p,t,p1,p2,p3,p4,p5,p6,p7,e⟩:=Pa d ⟨by omega,by rw[k.c];omega⟩ v;have a5:=k.c;have b8:=k.pl;have a2:(h.P.getD i M).K=0:=by(rcases p2 with q|q;by_cases c:(i:Int)∈w.T;exact(k.tk i c).2.1;rw[<-(k.pg i c).1];exact q.1;exact(k.tk i q.1).2.1)
 have a6:=EU (i:=i) (j:=h.C.pg) (pw:=h.C.pw) oq oq;rw[L0 h.C.pg]at a6;have b5:0<=(i:Int)*h.C.pw:=LN oq oq;rw[a5]at p5 p7;have a4:4096+(i:Int)*h.C.pw=ZD h i:=rfl;rw[e,p7,a4];generalize hu:C2 (w.j.P.getD i M)=u at *;generalize ha:ZD h i+u=a;have b3:4096<=a/\a+(Zl w.j.W r+1)<=4096+w.j.W.length:=by omega
 have a1:∀j x,x∈T j->x+Zl h.W x<ZD h i\/ZD h i+h.C.pw<=x:=by(intro j x y;have:=g.free (show i<h.P.length by omega) (Or.inl a2) y;rw[C2,if_pos a2]at this;omega)
 have b1:=a1 l r y;obtain⟨m1,m2,m3⟩:=Sj (ws:=w.j.W) (a:=a) (b:=r) (n:=Zl w.j.W r+1) oq oq oq;have z:4096<=r/\r<4096+(moveA w.j.W a r (Zl w.j.W r+1)).1.length:=by omega
 have o:a≠r:=by omega
 refine⟨rfl,by omega,rfl,by simp only[Z7.copy];omega,rfl, ?_,⟨λq=>?_,λq=>absurd q o⟩,by omega,λq=>absurd q o,λ_=>?_,λj x a9 b0=>?_,λj j0 j1=>?_⟩;simp only[Z7.copy];rw[AN z,m1];rcases q with q|q;omega;exact absurd q a3;simp only[Z7.copy];rw[RH z,Ox oq oq];have fx:=a1 j x a9;have rx:=Bq h.W x;simp only[Z7.copy];exact⟨by omega,by rw[Gj z b0,m3 x oq]⟩;simp only[Z7.copy];rw[Gj z oq,ZhV oq oq oq]
end
theorem A6(l:List Z0):Br Cb l=Cr l:=by
 rw[IU];unfold Cr;have:∀n,((Lf n).map λi=>Cb (l.getD i M)).sum=EE l n:=by
  intro n;induction n with|zero=>simp[EE]|succ n ih =>grind[Te,LW,EE,Cb]
 exact this _
def Z55{pw:Int}:∀{l:List Z0},(∀p∈l,Ci p+GN p*pw<=Cb p*pw)->Br Ci l+Br GN l*pw<=Br Cb l*pw
 |[],_=>by simp[Br]
 |x::l,h=>by
  have a:=Z55 (l:=l) λp c=>h p (LG _ c);have b:=h x pq;simp only[Br,LF,LI,Int.add_mul]at a b⊢;omega
def Zaw{h:Heap}(b:Z9 h=La):0<=Br Ci h.P:=SY λp c=>by
 obtain⟨j,a,rfl⟩:=LS c;have pp:=En b a;grind[Ci]
def Zfb l:0<=Br GN l:=SY λp _=>by grind[GN]
def MV.few{h:Heap}(a:Z9 h=La)(b:(Cr h.P:Int)<=h.C.pg/4):MV h:=by
 have po:=B6 a;rw[<-A6]at b;have u0:=Zaw a;have l0:=Zfb h.P;refine⟨?_,0,by omega,by omega⟩;have:=Z55 (pw:=h.C.pw) (l:=h.P) λp d=>by(obtain⟨j,c,rfl⟩:=LS d;have pp:=En a c;grind[Ci,GN,Cb])
 have:=LL b (show 0<=h.C.pw by omega);omega
def MV.same{h h':Heap}(m:MV h)(c:h'.C=h.C)(hl:h'.P.length=h.P.length)(hk:∀i,i<h.P.length->(h'.P.getD i M).K=(h.P.getD i M).K/\(h'.P.getD i M).U=(h.P.getD i M).U):MV h':=by
 have a:Br Ci h'.P=Br Ci h.P:=A5 Ci hl λi d=>by grind[Ci]
 have e:Br Cb h'.P=Br Cb h.P:=A5 Cb hl λi d=>by grind[Cb]
 have b:Br GN h'.P=Br GN h.P:=A5 GN hl λi d=>by grind[GN]
 refine⟨by rw[a,b,c];exact m.v, ?_⟩;rw[a,e,b,c];exact m.n
def Z4z{l m:List Z0}{i:Nat}(h:i+m.length<=l.length):∀k,k<=m.length->Br Cb (wr l m i k)<=Br Cb l+k
 |0,_=>by rw[Dw];simp
 |k+1,hk=>by
  have ih:=Z4z h k oq;have e:=MU h oq (M:Z0) (k:=k);rw[<-e];have s:=DU Cb (m.getD k M) (wr l m i k) (i+k) (by grind[II]);grind[Cb]
def ZfW{l:List Z0}{i k:Nat}{p q:Z0}(hk:1<=k)(h:i+k<=l.length)(hq:q.K≠0):Br Cb (ZN l i k p q)<=Br Cb l+k:=by
 have a:i+(Lh k q).length<=l.length:=by grind
 have w:=Z4z a k pq;have s:=DU Cb p (wr l (Lh k q) i k) i (by grind[II]);grind[AR,Cb,ZN]
def Zji{h:Heap}{hd:Zz}(hp:Z9 h=La)(hc:(Cv h hd).2.2=La):(Cr (Cv h hd).1.P:Int)<=h.C.pg/4:=by
 have po:=B6 hp;have hv:=BI.1 po.1;have li:Ea h.C=h.C.pg/4:=by grind[Ea]
 unfold Cv at hc⊢;split at hc
 .rename_i c;rw[if_pos c];unfold BH at hc⊢;split at hc
  .rename_i c2;rw[if_pos c2];have ff:=I8 c2.1;rw[<-A6];simp only;have e:(H5 h.C h.P (first h.P (need h.C (Z5 hd))) h.S (Z5 hd)).1=ZN h.P (first h.P (need h.C (Z5 hd))).toNat (need h.C (Z5 hd)).toNat ⟨2,h.S,Z5 hd,0⟩ ⟨3,h.S,0,0⟩:=by grind[H5,ER]
   rw[e];have:=ZfW (l:=h.P) (i:=(first h.P (need h.C (Z5 hd))).toNat) (k:=(need h.C (Z5 hd)).toNat) (p:=⟨2,h.S,Z5 hd,0⟩) (q:=⟨3,h.S,0,0⟩) oq oq pq;grind[A6]
  .simp at hc
 .rename_i c;rw[if_neg c];unfold Bm at hc⊢;split at hc
  .rename_i c2;rw[if_pos c2];rw[<-A6];simp only;have e:Br Cb (Cw h.P h.B.toNat (Z5 hd))=Br Cb h.P:=A5 Cb (by simp[Cw]) λi hi=>by
    rw[SL];by_cases hb:h.B.toNat<h.P.length
    .rw[Cq hb];split
     .rename_i q;rw[<-q];rfl
     .rfl
    grind
   rw[e,A6];have:=c2.2.2.2;omega
  .rename_i c2;rw[if_neg c2];split at hc
   .rename_i c3;rw[if_pos c3];obtain⟨g1,g2,g3⟩:=AX po.2.2.2.2.2.2.2.2 c3.1 (Z5 hd);rw[<-A6];simp only;rw[g1];have s:=DU Cb ⟨1,h.S,Z5 hd,0⟩ h.P (first h.P 1).toNat g3;grind[Cb,A6]
   .simp at hc
def MV.put{w:Zo}(m:MV w.j)(b:Zx w.j.W){hd:Zz}(a:0<=hd.map/\hd.map<=4294967295):MV (w.put hd).j:=by unfold Zo.put;split;rename_i e;obtain⟨k1,k2,c,d,k5,g,h,k8⟩:=Z42 b a e;have f:=Zji k1 d;refine MV.few h ?_;rw[g];simp only;rw[c.c];exact f;exact m
def MV.setf{h}{a i v:Int}(m:MV h)(d:Zx h.W)(c:0<=v/\v<=18446744073709551615)(e:(Zw h a).2=0)(b:0<=i/\i<(Zw h a).1.length):MV (Eb h a i v).1:=by obtain⟨s1,s2,s3⟩:=Z3r d c (a:=a) (i:=i) e b;rw[s1];exact m.same rfl rfl λ_ _=>⟨rfl,rfl⟩
def MV.link{w:Zo}{n}(m:MV w.j)(b:C6 w n)(d:n<=1000000) t:MV (w.link t).j:=by
 unfold Zo.link;split;rename_i a;have f:=b.wm d;have g:=GT (w.pickT (w.pickT t)) (n:=8) dd;have gg:=It a.1;have c:0<=Hu w t/\Hu w t<(Zw w.j (w.pick t)).1.length:=by(unfold Hu;rw[L1 g.1];exact⟨Int.emod_nonneg _ oq,Int.emod_lt_of_pos _ oq⟩)
 have e:0<=HJ w t/\HJ w t<=18446744073709551615:=by(unfold HJ;split;exact Ar f _;have:=GT ((w.pickT (w.pickT t)).step 8) (n:=1048576) dd;omega)
 exact m.setf b.W e a.1 c;exact m
def MV.pinB{w:Zo}(m:MV w.j) i d:MV (Go.Proofs.YtgedmeaemofdkaaGreat.pinB w i d).j:=by refine m.same rfl (by simp[Go.Proofs.YtgedmeaemofdkaaGreat.pinB]) λj hj=>?_;simp only[Go.Proofs.YtgedmeaemofdkaaGreat.pinB];by_cases a:i<w.j.P.length;rw[Cq a];split;rename_i q;subst q;exact⟨rfl,rfl⟩;exact⟨rfl,rfl⟩;rw[List.set_eq_of_length_le oq];exact⟨rfl,rfl⟩
def MV.pin{w:Zo}(m:MV w.j) t:MV (w.pin t).j:=by
 unfold Zo.pin;repeat' split
 exact m.pinB _ _;exact m.pinB _ _;all_goals omega
def MV.drop{w:Zo}(m:MV w.j) t:MV (w.drop t).j:=by grind[Zo.drop]
def MI.in1{h T v}(g:Gd h T){w}(m:MI h T w)(k:KI h T v w)(u:MV h)(f:Bb w)(c:BA w){q j:Int}(l:q∈w.Q)(hj:0<=j/\j<Zl w.j.W q)(e:(w.fwd (Z1 w.j.W (q+1+j)).1).2.2=0):MI h T (w.in1 (q+1+j)):=by
 obtain⟨y,t⟩:=k.fwd g f c _ e;have a:=m.fwd g k f u c e;obtain⟨s,n⟩:=NE f c _ e;have b:=n.q q l;have p:=n.l q l;have hr:=s.r q (Ll _ b);have d:4096<=q+1+j/\q+1+j<4096+(w.fwd (Z1 w.j.W (q+1+j)).1).1.j.W.length:=by omega
 obtain⟨o,f2,f3⟩:=t.field g b (j:=j) oq;have er:I5 h T (w.in1 (q+1+j))<=I5 h T (w.fwd (Z1 w.j.W (q+1+j)).1).1:=by(refine N6 λi _=>?_;unfold NA;split;refine N6 λx r=>?_;unfold wtW;rw[show(w.in1 (q+1+j)).j.W=(BR (w.fwd (Z1 w.j.W (q+1+j)).1).1.j.W (q+1+j) (w.fwd (Z1 w.j.W (q+1+j)).1).2.1).1 from rfl,Gj d (o i x r)];omega;omega)
 have m3:=a.m3;exact⟨a.m0,a.m1,a.m2,by show Br Ci (w.fwd (Z1 w.j.W (q+1+j)).1).1.j.P+_<=_;omega,a.m4,a.m5⟩
def Zi2{h T}(g:Gd h T)(l:MV h){s}(a:Zx h.W)(e:(rootsF (Zr h) s).2.2=0)(o:(Bz (rootsF (Zr h) s).1).2=0):(∃c,KI h T c (ZF h s))/\MI h T (ZF h s):=
 TI (λw=>(∃c,KI h T c w)/\MI h T w) (λw r a b ⟨⟨_,k⟩,m⟩ e=>⟨k.fwd g a b r e,m.fwd g k a l b e⟩) (λw q j a b ⟨⟨_,k⟩,m⟩ i d f e=>⟨k.in1 g a b i ⟨d,f⟩ e,m.in1 g k l a b i ⟨d,f⟩ e⟩)
  (λw n ⟨⟨c,k⟩,m⟩=>⟨⟨c,k.c,k.sp,k.old,k.pl,k.wl,k.pg,k.tk,k.tk0,k.q,k.hd,k.dt,k.lg⟩,⟨m.m0,m.m1,m.m2,m.m3,m.m4,m.m5⟩⟩) a g.p ⟨⟨_,KI.begin g⟩,MI.begin g⟩ e o
def M6{α:Type}{f g:α->Int}:∀l:List α,(l.map λx=>f x+g x).sum=(l.map f).sum+(l.map g).sum
 |[]=>by simp
 |x::l=>by
  simp only[LF,LI,M6 l];omega
def crP(p:Z0):Int:=if p.K=1/\0<p.N then 1 else 0
def ZjH(l:List Z0):Br crP l=crowd l:=by
 rw[IU];unfold crowd;have:∀n,((Lf n).map λi=>crP (l.getD i M)).sum=Bu l n:=by
  intro n;induction n with|zero=>simp[Bu]|succ n ih =>grind[LW,Bu,crP]
 exact this _
def P2{f}{q:Z0->Z0}(l:List Z0):Br f (l.map q)=((Lf l.length).map λi=>f (q (l.getD i M))).sum:=by grind[IU,List.map_congr_left]
def MI.end{h T tq}(g:Gd h T){w}(m:MI h T w)(k:KI h T tq w)(mv:MV h)(o:Bb w)(ts:∀x∈w.T,(w.j.P.getD x.toNat M).S=1-w.j.S){h':Heap}(s:h'.C=h.C)(j:h'.P=w.j.P.map (BU w.j.S)):MV h':=by
 have n:=m.m0.1;have sp:=o.sp;have po:=B6 g.p;have e:∀i,i<h.P.length->((i:Int)∈w.T/\(h.P.getD i M).K=0/\(w.j.P.getD i M).K=1/\(w.j.P.getD i M).S=1-w.j.S)\/((w.j.P.getD i M).K=(h.P.getD i M).K/\(w.j.P.getD i M).U=(h.P.getD i M).U/\((h.P.getD i M).K=1->((w.j.P.getD i M).S=w.j.S↔¬ 0<(h.P.getD i M).N))):=by(intro i d;by_cases c:(i:Int)∈w.T;have t:=k.tk i c;grind;have q:=k.pg i c;exact Or.inr ⟨q.1,q.2.1,m.m5 i d⟩)
 have l:∀i,i<h.P.length->0<=(w.j.P.getD i M).U/\0<=(h.P.getD i M).U:=λi d=>by(have a:=o.us i oq;have b:=En g.p d;omega)
 have q0:(⟨0,0,0,0⟩:Z0).K=0:=rfl;have e1:Br Ci h'.P+Br unP h.P<=Br Ci w.j.P:=by(rw[j,P2,IU unP,IU Ci,<-n,<-M6];refine N6 λi d=>?_;have d:=Lj.1 d;have p:=e i oq;have u:=l i oq;by_cases f:CC w.j.S (w.j.P.getD i M);grind[BU,CC,Ci,unP];grind[BU,CC,unP])
 have e2:Br Ci w.j.P<=Br Ci h'.P+Br Ci h.P:=by(rw[j,P2,IU Ci h.P,IU Ci,<-n,<-M6];refine N6 λi d=>?_;have d:=Lj.1 d;have p:=e i oq;have u:=l i oq;by_cases f:CC w.j.S (w.j.P.getD i M);grind[BU,CC,Ci];grind[BU,Ci])
 have e3:Br GN h'.P<=Br GN h.P:=by(rw[j,P2,IU GN h.P,<-n];refine N6 λi d=>?_;have d:=Lj.1 d;have p:=e i oq;by_cases f:CC w.j.S (w.j.P.getD i M);rw[BU,if_pos f];unfold CC at f;unfold GN;omega;rw[BU,if_neg f];unfold CC at f;grind[GN])
 have e4:Br Cb h'.P+Br Cb h.P<=Br Cb w.j.P+(Br GN h'.P+Br crP h.P):=by
  rw[j,P2,P2,IU Cb h.P,IU Cb,IU crP,<-n,<-M6,<-M6,<-M6];refine N6 λi d=>?_;have d:=Lj.1 d;have p:=e i oq;have kr:0<=(h.P.getD i M).K/\(h.P.getD i M).K<=3:=by(have:=En g.p (show i<h.P.length by omega);omega)
  by_cases f:CC w.j.S (w.j.P.getD i M);rw[BU,if_pos f];grind[CC,Cb,GN,crP];rw[BU,if_neg f];unfold CC at f;unfold Cb GN crP;omega
 have cr:=g.cr;rw[<-ZjH]at cr;have m1:=m.m1;have m3:=m.m3;have m4:=m.m4;have r:=Zb4 h T w;have v:=mv.v;have u0:=Zaw g.p;have y:0<=h.C.pw:=by omega
 refine⟨?_,w.T.length,by rw[s];omega, ?_⟩;rw[s];have:=LL e3 y;omega;rw[s];by_cases z:0<w.T.length;have m2:=m.m2 z;have:=o.us (ZH w).toNat (by have:=o.tk _ (Hc z);omega);omega;grind
def MV.collectF{B:Int}(hB:0<=B){h:Heap}{T:Nat->List Int}(g:Gd h T)(mv:MV h){s k:List Int}(hw:Zx h.W)(hb:∀p∈h.P,p.N<=B)(hs:H7 h T s)(hk:H7 h T k)(e:(Go.Proofs.YtgedmeaemofdkaaGreat.collectF h s k).2.2.2.2=0):MV (Go.Proofs.YtgedmeaemofdkaaGreat.collectF h s k).1:=by
 have hp:=g.p;have hr:=g.refers hs;have hr':=g.refers hk;by_cases e1:(rootsF (Zr h) s).2.2=0
 .by_cases e2:(Bz (rootsF (Zr h) s).1).2=0
  .have e7:Go.Proofs.YtgedmeaemofdkaaGreat.collectF h s k=(Eo (BB h s k),(rootsF (Zr h) s).2.1,EC (ZF h s) k k.length,(BB h s k).rep,0):=by rw[Go.Proofs.YtgedmeaemofdkaaGreat.collectF,if_pos hp,if_pos ⟨hr,hr'⟩,if_pos e1,if_pos e2]
   rw[e7];have ck:=cOk h s k hw hp e1 e2;obtain⟨g1,g2,g3,g4,g5⟩:=ck.h4;have pr:=Z1N hB hw hp hb e1 e2;obtain⟨⟨tq,ki⟩,mi⟩:=Zi2 g mv hw e1 e2;refine mi.end g ki mv ck.w2 pr.tab.tk (h':=Eo (BB h s k)) ?_ ?_;all_goals grind[Eo,BB,GZ]
  .rw[Go.Proofs.YtgedmeaemofdkaaGreat.collectF,if_pos hp,if_pos ⟨hr,hr'⟩,if_pos e1,if_neg e2]at e;exact absurd e e2
 .rw[Go.Proofs.YtgedmeaemofdkaaGreat.collectF,if_pos hp,if_pos ⟨hr,hr'⟩,if_neg e1]at e;exact absurd e e1
def MV.collect{w:Zo}{n}(m:MV w.j)(h:WG w)(a:C6 w n):MV w.collect.j:=by unfold Zo.collect;split;rename_i e;obtain⟨T,g,b,c⟩:=h;exact MV.collectF (B:=n) oq g m a.W (λp d=>(a.pin_mem p d).2) b c e;exact m
def MV.step{w:Zo}{n}(m:MV w.j)(h:WG w)(a:C6 w n)(b:n<=1000000) t:MV (w.step t).j:=by
 unfold Zo.step;repeat' split
 exact m.put a.W (Oe _ _);exact m.link a b _;exact m.pin _;exact m.drop _;exact m.collect h a;exact m
def Z4L{w:Zo}{n}(m:MV w.j)(h:WG w)(a:C6 w n) t:∀k,n+k<=1000000->MV (Gc w t k).1.j|0,_=>m|k+1,hk=>(Z4L m h a t k oq).step (Z3Y h a t k oq) (Dy a t k oq) oq _
def Z6j l:MV (Zu l).j:=by
 have e:=Z0k l;have hl:(((EV l).step 4).step 5).l.length<=300:=by grind
 have hk:=Tj (EV l).empty (((EV l).step 4).step 5) oq;obtain⟨_,ge,_⟩:=Z2K (EV l);have a:=ge.p;refine Z4L (MV.few a ?_) (Z2K (EV l)) (Z0i (EV l)) _ _ oq;have hv:=BI.1 (B6 a).1;have z:Br Cb (EV l).empty.j.P=0:=by simp[Br,Tape.empty,Iz,Cb]
 grind[A6]
def Z4q{w}(h:(Z8 w).2=La):(ZG w).2=Lb:=by unfold Z8 at h;split at h;rename_i c;unfold Zy at c;split at c;simp only at c;unfold ZG;rw[if_neg oq];simp at c;cases h
structure OnW (h:Heap) (T:Nat->List Int) (w:Z7):Prop where
 c:Ga h T w
 m:MI h T w
 q:∀y∈w.old,CX w y≠0->CX w y∈w.Q
 z:∀y∈w.old,CX w y=0->y∉w.Q/\(ZG (Z1 w.j.W y).1).2=Lb
 n:w.rep.copied+w.rep.kept=w.Q.length
def Z1O{h T}(g:Gd h T){y:Int}(b:y∈(Zr h).old):CX (Zr h) y=0/\(ZG (Z1 h.W y).1).2=Lb:=by obtain⟨i,a,hk⟩:=((KI.begin g).old y).1 b;have t:=Z4q (g.on a).2.2.2.2.2.1;refine⟨?_,t⟩;unfold CX;rw[if_neg (by simp[Zr]),if_neg (by show¬ (ZG (Z1 h.W y).1).2=La;rw[t];simp)]
def OnW.begin{h T}(g:Gd h T)(b:Zx h.W):OnW h T (Zr h):=
 ⟨Ga.begin g b,MI.begin g,λy a q=>absurd (Z1O g a).1 q,λy a _=>⟨by simp[Zr],(Z1O g a).2⟩,rfl⟩
section
variable{h:Heap}{T:Nat->List Int}{w:Z7}(o:OnW h T w)(g:Gd h T)(mv:MV h){r:Int}(hr:r∈w.old)
include o g mv hr
theorem OnW.new(hs:CX w r=0):∃i0,r∈T i0/\(w.fwd r).2.2=0/\Tu h T w r i0 (w.fwd r).1 (w.fwd r).2.1:=by
 obtain⟨tq,k⟩:=o.c.k;obtain⟨i0,hx,hk⟩:=(k.old r).1 hr;have z:=o.z r hr hs;exact⟨i0,hx,Zgt g o.m k o.c.ok mv hx hk z.1 z.2⟩
theorem OnW.same(hs:CX w r≠0):w.fwd r=(w,CX w r,0):=by
 unfold Z7.fwd CX at *;split at hs;rename_i q;rw[if_pos (.inr q),if_pos q];rename_i q;split at hs;rename_i a;obtain⟨tq,k⟩:=o.c.k;obtain⟨i0,b,hk⟩:=(k.old r).1 hr;have:=g.inw b;have c:¬ (r=0\/r∈w.Q):=by(rintro(c|c);omega;exact q c)
 rw[if_neg c,if_neg (by simpa using hr),if_pos a,if_neg q,if_pos a];exact absurd rfl hs
theorem OnW.seen:(w.fwd r).2.1≠0/\CX (w.fwd r).1 r=(w.fwd r).2.1/\(∀y∈w.old,y≠r->CX (w.fwd r).1 y=CX w y)/\(w.fwd r).1.old=w.old /\ ((w.fwd r).1.Q.length:Int)=w.Q.length+(if CX w r=0 then 1 else 0):=by
 by_cases a:CX w r=0;obtain⟨i0,hx,e,N⟩:=o.new g mv hr a;have z:=o.z r hr a;have b:=N.b;obtain⟨tq,k⟩:=o.c.k;refine⟨by omega, ?_,λy i d=>?_,N.o,by rw[if_pos a,N.q];simp⟩;unfold CX;rw[N.q];by_cases q:(w.fwd r).2.1=r;rw[if_pos (by rw[q];simp)];exact q.symm;rw[if_neg (by simp only[Lr,Lt];rintro(c|c);exact z.1 c;exact q c.symm),N.c q];simp;obtain⟨j,f,_⟩:=(k.old y).1 i;have t:=N.t j y f d;unfold CX;rw[N.q,t.2];have:(y∈w.Q++[(w.fwd r).2.1])↔y∈w.Q:=by(simp only[Lr,Lt];exact⟨λc=>c.elim id λc=>absurd c.symm t.1,.inl⟩)
 simp only[this];rw[o.same g mv hr a];exact⟨a,rfl,λ_ _ _=>rfl,rfl,by rw[if_neg a];simp⟩
theorem OnW.fwd:OnW h T (w.fwd r).1:=by by_cases f:CX w r=0;obtain⟨i0,hx,e,N⟩:=o.new g mv hr f;obtain⟨s1,i,l,m,s5⟩:=o.seen g mv hr;obtain⟨tq,k⟩:=o.c.k;refine⟨o.c.fwd g e,o.m.fwd g k o.c.ok mv o.c.inv e,λy a b=>?_,λy a d=>?_,by rw[N.n,o.n,N.q];simp⟩;rw[m]at a;rw[N.q];by_cases q:y=r;subst q;rw[i];simp;rw[l y a q]at b⊢;exact Ls _ (o.q y a b);rw[m]at a;by_cases q:y=r;subst q;rw[i]at d;exact absurd d s1;rw[l y a q]at d;have z:=o.z y a d;obtain⟨j,n,_⟩:=(k.old y).1 a;have t:=N.t j y n q;rw[N.q,t.2];refine⟨?_,z.2⟩;simp only[Lr,Lt];rintro(c|c);exact z.1 c;exact t.1 c.symm;rw[o.same g mv hr f];exact o
end
def AF(w:Z7):Prop:=∀x∈w.old++w.Q,(ZG (Z1 w.j.W x).1).2=Lb->∀j,0<=j->j<Zl w.j.W x->Ba (ZY w.j.W x) j=La->(Z1 w.j.W (x+1+j)).1=0\/(Z1 w.j.W (x+1+j)).1∈w.old++w.Q
structure SW (h:Heap) (T:Nat->List Int) (w:Z7):Prop where
 o:OnW h T w
 a:AF w
def SW.begin{h T}(g:Gd h T)(n:Zx h.W):SW h T (Zr h):=by
 refine⟨OnW.begin g n,λx o ht j b c m=>?_⟩;have a:x∈(Zr h).old:=by simpa[Zr]using o
 obtain⟨i,f,l⟩:=((KI.begin g).old x).1 a;refine(g.q i x j f l b c m).imp id λ⟨k,d,e⟩=>?_;exact Ls _ (((KI.begin g).old _).2 ⟨k,d,e⟩)
section
variable{h:Heap}{T:Nat->List Int}{w:Z7}(s:SW h T w)(g:Gd h T)(d:MV h)
include s g d
theorem SW.fwd{r:Int}(a:r=0\/r∈w.Q\/r∈w.old):(w.fwd r).2.2=0/\SW h T (w.fwd r).1/\NP (w.fwd r).1 (w.fwd r).2.1:=by
 by_cases c1:r=0\/r∈w.Q;rw[Z7.fwd,if_pos c1];exact⟨rfl,s,c1⟩;have a:r∈w.old:=(a.resolve_left λq=>c1 (.inl q)).resolve_left λq=>c1 (.inr q);by_cases o:CX w r=0;obtain⟨i0,hx,e,N⟩:=s.o.new g d a o;refine⟨e,⟨s.o.fwd g d a, ?_⟩,Or.inr (by rw[N.q];simp)⟩;obtain⟨tq,k⟩:=s.o.c.k;have z:=s.o.z r a o;have b:=(Nt s.o.c.ok s.o.c.inv r e).2.2;have he:(Z1 w.j.W r).1=(Z1 h.W r).1:=by(rcases k.hd i0 r hx with q|q;exact q;rw[q.1]at z;cases z.2)
 have a0:Zl w.j.W r=Zl h.W r:=(Ek he).2.1;intro x y p j h0 m n;rw[N.o,N.q]at y⊢;have more:∀v,v∈w.old++w.Q->v∈w.old++(w.Q++[(w.fwd r).2.1]):=λv hv=>by(rw[<-List.append_assoc];exact Ls _ hv)
 by_cases t:x=(w.fwd r).2.1;have f:=N.x 0 oq (Bq _ _).1;simp only[Lx]at f;have l:ZY (w.fwd r).1.j.W x=ZY w.j.W r:=by rw[ZY,t,f];rfl
 have el:Zl (w.fwd r).1.j.W x=Zl w.j.W r:=congrArg Zz.length l;rw[l]at n;rw[el]at m;have i:=N.x (1+j) oq oq;rw[<-LC,<-LC,<-t]at i;rw[i];exact(s.a r (Ls _ a) z.2 j h0 m n).imp id (more _);have c:x∈w.old++w.Q:=by(simp only[Lr,Lt]at y⊢;rcases y with q|q|q;exact .inl q;exact .inr q;exact absurd q t)
 by_cases u:x=r;exfalso;have:=N.c λq=>t (u.trans q.symm);rw[u,this]at p;cases p;have f:=b x c (.inr u) 0 oq (Bq _ _).1;rw[Lx]at f;have l:ZY (w.fwd r).1.j.W x=ZY w.j.W x:=by rw[ZY,ZY,f]
 have el:Zl (w.fwd r).1.j.W x=Zl w.j.W x:=congrArg Zz.length l;rw[l]at n;rw[el]at m;rw[f]at p;have i:=b x c (.inr u) (1+j) oq oq;rw[<-LC]at i;rw[i];exact(s.a x c p j h0 m n).imp id (more _);rw[s.o.same g d a o];exact⟨rfl,s,Or.inr (s.o.q r a o)⟩
omit g d in
theorem SW.dec(g:Gd h T){q:Int}(a:q∈w.Q):(ZG (Z1 w.j.W q).1).2=Lb:=Z4q (s.o.c.dec g a)
omit s g d in
theorem ZiA{w:Z7}{r}(e:(w.fwd r).2.2=0):r=0\/r∈w.Q\/r∈w.old:=by unfold Z7.fwd at e;split at e;rename_i c;exact c.imp id .inl;split at e;simp at e;rename_i c;exact .inr (.inr (LB.1 c))
theorem SW.in1{q j:Int}(t:q∈w.Q)(h0:0<=j)(h1:j<Zl w.j.W q)(e:(w.fwd (Z1 w.j.W (q+1+j)).1).2.2=0):SW h T (w.in1 (q+1+j))/\∀x∈w.Q,x∈(w.in1 (q+1+j)).Q/\ZY (w.in1 (q+1+j)).j.W x=ZY w.j.W x:=by
 obtain⟨_,s1,to⟩:=s.fwd g d (ZiA e);have z:=s.o.c.ok;have iv:=s.o.c.inv;obtain⟨tq,k⟩:=s.o.c.k;obtain⟨i1,x1⟩:=NE z iv _ e;have m:=Tc z iv _ e;have n:=x1.q q t;have a0:=x1.l q t;have hr:=i1.r q (Ll _ n);have l:4096<=q+1+j/\q+1+j<4096+(w.fwd (Z1 w.j.W (q+1+j)).1).1.j.W.length:=by omega
 have v:∀x∈(w.fwd (Z1 w.j.W (q+1+j)).1).1.old++(w.fwd (Z1 w.j.W (q+1+j)).1).1.Q,∀i,0<=i->i<=Zl (w.fwd (Z1 w.j.W (q+1+j)).1).1.j.W x->x+i=q+1+j->x=q:=by(intro x f i a b c;have l1:=i1.s q (Ll _ n) x f;have l2:=i1.s x f q (Ll _ n);omega)
 have p:∀x∈(w.fwd (Z1 w.j.W (q+1+j)).1).1.old++(w.fwd (Z1 w.j.W (q+1+j)).1).1.Q,Z1 (w.in1 (q+1+j)).j.W x=Z1 (w.fwd (Z1 w.j.W (q+1+j)).1).1.j.W x:=by(intro x f;simp only[Z7.in1];rw[Gj l λc=>?_];have:=v x f 0 oq (Bq _ _).1 oq;omega)
 refine⟨⟨⟨s.o.c.in1 g t h0 h1 e,s.o.m.in1 g k d z iv t ⟨h0,h1⟩ e,λy o r=>?_,λy o hz=>?_,s1.o.n⟩, ?_⟩,λx f=>⟨m.mem f, ?_⟩⟩;have u:CX (w.in1 (q+1+j)) y=CX (w.fwd (Z1 w.j.W (q+1+j)).1).1 y:=by(unfold CX;rw[p y (Ls _ o)];rfl)
 rw[u]at r⊢;exact s1.o.q y o r;have u:CX (w.in1 (q+1+j)) y=CX (w.fwd (Z1 w.j.W (q+1+j)).1).1 y:=by(unfold CX;rw[p y (Ls _ o)];rfl)
 rw[u]at hz;rw[p y (Ls _ o)];exact s1.o.z y o hz;intro x f ht i a b hp;have f:x∈(w.fwd (Z1 w.j.W (q+1+j)).1).1.old++(w.fwd (Z1 w.j.W (q+1+j)).1).1.Q:=f;show _\/_∈(w.fwd (Z1 w.j.W (q+1+j)).1).1.old++(w.fwd (Z1 w.j.W (q+1+j)).1).1.Q;have e0:=p x f;have eh:ZY (w.in1 (q+1+j)).j.W x=ZY (w.fwd (Z1 w.j.W (q+1+j)).1).1.j.W x:=by rw[ZY,ZY,e0]
 have el:Zl (w.in1 (q+1+j)).j.W x=Zl (w.fwd (Z1 w.j.W (q+1+j)).1).1.j.W x:=congrArg Zz.length eh;rw[eh]at hp;rw[el]at b;rw[e0]at ht;by_cases c:x+1+i=q+1+j;have:(Z1 (w.in1 (q+1+j)).j.W (x+1+i)).1=(w.fwd (Z1 w.j.W (q+1+j)).1).2.1:=by(rw[c];simp only[Z7.in1];rw[RH l])
 rw[this];exact to.imp id (Ll _);have:Z1 (w.in1 (q+1+j)).j.W (x+1+i)=Z1 (w.fwd (Z1 w.j.W (q+1+j)).1).1.j.W (x+1+i):=by(simp only[Z7.in1];rw[Gj l c])
 rw[this];exact s1.a x f ht i a b hp;rw[ZY,p x (Ll _ (m.mem f))];exact m.h x f
omit s g d in
theorem Z2r(h:Zz):∀n:Nat,∀x∈BQ h n,Ba h x=La
 |0,x,hx=>by cases hx
 |n+1,x,hx=>by
  unfold BQ at hx;split at hx
  .rename_i c;rcases Lr.1 hx with q|q
   .exact Z2r h n x q
   .rw[Lt.1 q];exact c
  .exact Z2r h n x hx
omit s g d in
theorem TH(h:Zz):∀x∈Zk h,Ba h x=La:=by unfold Zk;split;exact Z2r h _;intro x a;cases a
theorem SW.inn{q:Int}(o:q∈w.Q){l:List Int}(hl:∀x∈l,(0<=x/\x<Zl w.j.W q)/\Ba (ZY w.j.W q) x=La):∀k,k<=l.length->(∀j,j<k->CL w q l j=0)/\SW h T (Bg w q l k)/\q∈(Bg w q l k).Q/\ZY (Bg w q l k).j.W q=ZY w.j.W q
 |0,_=>⟨λj m=>absurd m (Lu j),s,o,rfl⟩
 |k+1,hk=>by
  obtain⟨r,f,b,i⟩:=SW.inn o hl k oq;have a:=hl _ (ZT.2 ⟨k,by omega,rfl⟩);have el:Zl (Bg w q l k).j.W q=Zl w.j.W q:=congrArg Zz.length i;have p:=f.a q (Ll _ b) (f.dec g b) (l.getD k M) a.1.1 (by rw[el];exact a.1.2) (by rw[i];exact a.2);have e:CL w q l k=0:=(f.fwd g d (p.imp id λc=>(Lr.1 c).symm)).1;have n:=f.in1 g d b a.1.1 (by rw[el];exact a.1.2) e;refine⟨λj m=>?_,n.1,(n.2 q b).1,(n.2 q b).2.trans i⟩;by_cases c:j=k
  .rw[c];exact e
  .exact r j oq
theorem SW.step:(B1 w).2.2=0/\SW h T (B1 w).1:=by
 by_cases e:w.D<w.Q.length;have o:=s.o.c.ok.sc;have n:C4 w∈w.Q:=ZT.2 ⟨w.D.toNat,by omega,rfl⟩;obtain⟨p,a,_,_⟩:=s.inn g d n (l:=Bj w) (λx f=>⟨NZ (ZB w (C4 w)) x f,TH (ZB w (C4 w)) x f⟩) (Bj w).length (Le _);have i:(Lf (Bj w).length).find? (λk=>Lk (CL w (C4 w) (Bj w) k≠0))=Ld:=Ly.2 λj m=>by simp[p j (Lj.1 m)]
 have b:B1 w=(HC (Bg w (C4 w) (Bj w) (Bj w).length) (Bj w).length,La,0):=by unfold B1;rw[if_pos e,i]
 have c:=s.o.c.step g (by rw[b]);rw[b]at c⊢;exact⟨rfl,⟨c,⟨a.o.m.m0,a.o.m.m1,a.o.m.m2,a.o.m.m3,a.o.m.m4,a.o.m.m5⟩,a.o.q,a.o.z,a.o.n⟩,a.a⟩;have b:B1 w=(w,Lb,0):=by rw[B1,if_neg e]
 rw[b];exact⟨rfl,s⟩
theorem SW.it:∀k,SW h T (Cc w k)|0=>s|k+1=>(SW.step (SW.it k) g d).2
theorem SW.all:(Bz w).2=0/\SW h T (Bz w).1:=by
 obtain⟨k,b⟩:=SC s.o.c.ok;have e:=(s.it g d k).step g d;have a:Bz w=((B1 (Cc w k)).1,0):=by rw[Bz,b];simp only[if_pos e.1]
 rw[a];exact⟨rfl,e.2⟩
end
section
variable{h:Heap}{T:Nat->List Int}(g:Gd h T)(a:MV h){s:List Int}(hs:∀r∈s,r=0\/Ob h T r)
include g a hs
theorem SW.rootsN(o:Zx h.W):∀k,k<=s.length->(∀j,j<k->E8 (Zr h) s j=0)/\SW h T (Go.Proofs.YtgedmeaemofdkaaGreat.rootsN (Zr h) s k).1/\∀i,i<k->NP (Go.Proofs.YtgedmeaemofdkaaGreat.rootsN (Zr h) s k).1 ((Go.Proofs.YtgedmeaemofdkaaGreat.rootsN (Zr h) s k).2.getD i M)/\((Go.Proofs.YtgedmeaemofdkaaGreat.rootsN (Zr h) s k).2.getD i M=0↔s.getD i M=0)
 |0,_=>⟨λj n=>absurd n (Lu j),SW.begin g o,λi m=>absurd m (Lu i)⟩
 |k+1,hk=>by
  obtain⟨u,d,v⟩:=SW.rootsN o k oq;have f:=hs _ (ZT.2 ⟨k,by omega,rfl⟩);obtain⟨tq,p⟩:=d.o.c.k;have b:s.getD k M=0\/s.getD k M∈(Go.Proofs.YtgedmeaemofdkaaGreat.rootsN (Zr h) s k).1.Q\/s.getD k M∈(Go.Proofs.YtgedmeaemofdkaaGreat.rootsN (Zr h) s k).1.old:=f.imp id λq=>.inr ((p.old _).2 q);obtain⟨e,r,l⟩:=d.fwd g a b;have w:=Tc d.o.c.ok d.o.c.inv _ e;have t:=N0 (Zr h) s k;refine⟨λj n=>?_,r,λi m=>?_⟩
  .by_cases q:j=k
   .rw[q];exact e
   .exact u j oq
  .simp only[Go.Proofs.YtgedmeaemofdkaaGreat.rootsN,Lg];by_cases q:i=k
   .subst q;rw[List.getElem?_append_right oq,t];simp only[Nat.sub_self,List.getElem?_cons_zero,LA];simp only[Lg]at f b l;refine⟨l,λc=>?_,λc=>?_⟩
    .rcases f with q|q
     .exact q
     .have:=(d.o.seen g a ((p.old _).2 q)).1;exact absurd c this
    .rw[c,Z7.fwd,if_pos (.inl rfl)]
   .rw[LQ oq];have:=v i oq;simp only[Lg]at this;exact⟨w.to this.1,this.2⟩
theorem SW.roots(c:Zx h.W):rootsF (Zr h) s=((Go.Proofs.YtgedmeaemofdkaaGreat.rootsN (Zr h) s s.length).1,(Go.Proofs.YtgedmeaemofdkaaGreat.rootsN (Zr h) s s.length).2,0)/\SW h T (rootsF (Zr h) s).1:=by
 obtain⟨d,f,i3⟩:=SW.rootsN g a hs c s.length (Le _);have e:rootsF (Zr h) s=((Go.Proofs.YtgedmeaemofdkaaGreat.rootsN (Zr h) s s.length).1,(Go.Proofs.YtgedmeaemofdkaaGreat.rootsN (Zr h) s s.length).2,0):=by(unfold rootsF;rw[Ly.2 λj b=>by simp[d j (Lj.1 b)]])
 rw[e];exact⟨rfl,f⟩
end
def MM{ρ w Im v}(s:Nat)(h:Zj ρ w Im (.d (.sl 0 [])) v):Zj ρ w Im (.d (.sl s [])) v:=by
 cases h with
 |d h =>
  cases h with|slNil=>exact .d (.slNil _ _ _)|sl _ _ p n c f a=>cases a;exact .d (.slNil _ _ _)
def Z40:Heap:=⟨⟨32,8⟩,Lh 256 0,Lh 8 ⟨0,0,0,0⟩,0,-1⟩
def R3:Heap:=⟨⟨32,8⟩,(Lh 256 0).set 0 29,[⟨1,0,2,0⟩,⟨0,0,0,0⟩,⟨0,0,0,0⟩,⟨0,0,0,0⟩,⟨0,0,0,0⟩,⟨0,0,0,0⟩,⟨0,0,0,0⟩,⟨0,0,0,0⟩],0,0⟩
def Zax:Zu []=⟨Z40,[],[]⟩:=by kernel_rfl
def Zdm:(⟨Z40,[],[]⟩:Zo).put ⟨3,1,0⟩=⟨R3,[4096],[]⟩:=by kernel_rfl
def Zlq:Z9 R3=La:=by decide+kernel
def ZhD:Bn R3=⟨0,0,0⟩:=by decide+kernel
def ZmJ:Zx R3.W:=by unfold Zx;decide+kernel
def wB0:Z7:=(⟨⟨⟨32,8⟩,(Lh 256 0).set 0 29,[⟨1,0,2,0⟩,⟨0,0,0,0⟩,⟨0,0,0,0⟩,⟨0,0,0,0⟩,⟨0,0,0,0⟩,⟨0,0,0,0⟩,⟨0,0,0,0⟩,⟨0,0,0,0⟩],0,0⟩,[4096],[],[],0,⟨0,0,0,0,0,0⟩⟩:Z7)
def Zco:Zr R3=wB0:=by kernel_rfl
def ZjM:GP 15 [.d (.sl 0 [])] Lb (⟨(⟨⟨32,8⟩,Lh 256 0,Lh 8 ⟨0,0,0,0⟩,0,-1⟩:Heap),[],[]⟩:Zo).av []:=by have k:=Z5v [] pq;rw[Zax]at k;intro w d f a b h;refine k w d f a b λi x v c e=>?_;rcases i with _|i;cases c;exact MM 1 (h 0 _ v rfl e);simp at c
def Zmp:GP 58 [.ag [nI 32,nI 8,.d (.sl 1 ((Lh 256 0).map wD)),.d (.sl 4 ((Lh 8 (⟨0,0,0,0⟩:Z0)).map Z0.dv)),nI 0,nI (-1),.d (.sl 0 []),.d (.sl 0 [])],.ag [nI 3,nI 1,.d (.sc (.int .u32 0))]] Lb (⟨(⟨⟨32,8⟩,(Lh 256 0).set 0 29,[⟨1,0,2,0⟩,⟨0,0,0,0⟩,⟨0,0,0,0⟩,⟨0,0,0,0⟩,⟨0,0,0,0⟩,⟨0,0,0,0⟩,⟨0,0,0,0⟩,⟨0,0,0,0⟩],0,0⟩:Heap),[4096],[]⟩:Zo).av []:=by have j:=Av [];rw[Zax]at j;have k:=P6 ⟨Z40,[],[]⟩ ⟨3,1,0⟩ (j.wm dd) dd;rw[Zdm]at k;intro w m p e f h;refine k w m p e f λi x v g l=>?_;rcases i with _|_|i;cases g;obtain⟨cs,rfl,n,o,c⟩:=HK (h 0 _ v rfl l);refine .ag _ _ n o (λi a u b d=>?_);rcases i with _|_|_|_|_|_|_|_|i;cases b;exact c 0 _ u rfl d;cases b;exact c 1 _ u rfl d;cases b;exact c 2 _ u rfl d;cases b;exact c 3 _ u rfl d;cases b;exact c 4 _ u rfl d;cases b;exact c 5 _ u rfl d;cases b;exact MM 1 (c 6 _ u rfl d);cases b;exact MM 1 (c 7 _ u rfl d);cases (show(Ld:Option AV)=some a from b);cases g;exact h 1 _ v rfl l;simp at g
def Z5B{B:Int}(hB:0<=B){h:Heap}{T:Nat->List Int}(g:Gd h T)(mv:MV h){s k:List Int}(hw:Zx h.W)(hb:∀p∈h.P,p.N<=B)(gs:H7 h T s)(gk:H7 h T k)(sl:s.length<=1000)(kl:k.length<=1000)(su:CQ s)(ku:CQ k) :(collectF h s k).2.2.2.2=0/\(collectF h s k).2.1.length=s.length/\(collectF h s k).2.2.1.length=k.length/\GP 35 [h.av,Z2 s,Z2 k] Lb (.tu [(collectF h s k).1.av,Z2 (collectF h s k).2.1,Z2 (collectF h s k).2.2.1,.ag (collectF h s k).2.2.2.1.cells,nI (collectF h s k).2.2.2.2]) []:=by
 obtain⟨er,sw⟩:=SW.roots g mv gs hw;have e1:(rootsF (Zr h) s).2.2=0:=by rw[er]
 have e2:=(sw.all g mv).1;have c0:=Ga.begin g hw;have cd:=Zgy hB g hw hb e1 e2 gs gk sl kl ku (c0.rts g su) c0.ck.ln λk _=>⟨(sw.it g mv k).o.c.stp g,((sw.it g mv k).step g mv).1⟩
 have e7:collectF h s k=(Eo (BB h s k),(rootsF (Zr h) s).2.1,EC (ZF h s) k k.length,(BB h s k).rep,0):=by rw[collectF,if_pos g.p,if_pos ⟨g.refers gs,g.refers gk⟩,if_pos e1,if_pos e2]
 refine⟨by rw[e7], ?_,by rw[e7];exact TS _ _ _,cd⟩;rw[e7,er];exact N0 _ _ _
def ZaA:Bz wB0=(wB0,0):=by have a:(Lf (RD wB0)).find? (Ep wB0)=some 0:=LD.2 ⟨by kernel_rfl,Lj.2 (by unfold RD;omega),λj b=>absurd b (Lu j)⟩;unfold Bz;rw[a];show _=_;kernel_rfl
def ZgT:Heap:=⟨⟨32,8⟩,Lh 256 0,Lh 8 ⟨0,0,0,0⟩,1,-1⟩
def Zcs:collectF R3 [] []=(ZgT,[],[],⟨0,0,0,1,0,0⟩,0):=by
 have a:rootsF (Zr R3) []=(wB0,[],0):=by rw[Zco];kernel_rfl
 have c2:ZF R3 []=wB0:=by rw[ZF,a,ZaA]
 have b:BB R3 [] []=⟨⟨⟨32,8⟩,Lh 256 0,Lh 8 ⟨0,0,0,0⟩,0,0⟩,[4096],[],[],0,⟨0,0,0,1,0,0⟩⟩:=by(unfold BB Cz CB;rw[c2];kernel_rfl)
 rw[collectF,if_pos Zlq,if_pos ⟨by decide+kernel,by decide+kernel⟩,if_pos (by rw[a]),if_pos (by rw[a,ZaA]),b,c2,a];show _=_;kernel_rfl
def Zgb:MV R3:=⟨by decide+kernel,1,by decide+kernel⟩
def Zfe:GP 35 [(⟨⟨32,8⟩,(Lh 256 0).set 0 29,[⟨1,0,2,0⟩,⟨0,0,0,0⟩,⟨0,0,0,0⟩,⟨0,0,0,0⟩,⟨0,0,0,0⟩,⟨0,0,0,0⟩,⟨0,0,0,0⟩,⟨0,0,0,0⟩],0,0⟩:Heap).av,.d (.sl 0 []),.d (.sl 0 [])] Lb (.tu [(⟨⟨32,8⟩,Lh 256 0,Lh 8 ⟨0,0,0,0⟩,1,-1⟩:Heap).av,Z2 [],Z2 [],.ag (⟨0,0,0,1,0,0⟩:Rep).cells,nI 0]) []:=by have k:=(Z5B (B:=0) (LZ 0) (ZdO ZhD) Zgb ZmJ (by decide+kernel) (s:=[]) (k:=[]) (λ_ q=>by cases q) (λ_ q=>by cases q) (Lo _) (Lo _) (λ_ q=>by cases q) (λ_ q=>by cases q)).2.2.2;rw[Zcs]at k;intro w e f b c h;refine k w e f b c λi x v a d=>?_;rcases i with _|_|_|i;cases a;exact h 0 _ v rfl d;cases a;exact MM 1 (h 1 _ v rfl d);cases a;exact MM 1 (h 2 _ v rfl d);simp at a
def Zhb:GP 38 [] La (bL La) []:=by exact gF [] func38 []<|Fc 7 (@ZjM)<|Fc 11 (@Zmp)<|Fc 15 (@Zfe) Fz
def Hg(w:Zo):Rep:=(collectF w.j w.G w.E).2.2.2.1
def ZeC{w n}(G:WG w)(a:C6 w n)(k:MV w.j)(sl:w.G.length<=1000)(l:w.E.length<=1000):(collectF w.j w.G w.E).2.2.2.2=0/\w.collect=⟨(collectF w.j w.G w.E).1,(collectF w.j w.G w.E).2.1,(collectF w.j w.G w.E).2.2.1⟩/\w.collect.G.length=w.G.length/\w.collect.E.length=w.E.length /\
  GP 35 [w.j.av,Z2 w.G,Z2 w.E] Lb (.tu [w.collect.j.av,Z2 w.collect.G,Z2 w.collect.E,.ag (Hg w).cells,nI 0]) []:=by
 obtain⟨T,g,d,f⟩:=G;obtain⟨e,i,j,c⟩:=Z5B (B:=n) oq g k a.W (λp h=>(a.pin_mem p h).2) d f sl l a.G a.E;have b:w.collect=⟨(collectF w.j w.G w.E).1,(collectF w.j w.G w.E).2.1,(collectF w.j w.G w.E).2.2.1⟩:=by rw[Zo.collect,if_pos e]
 rw[e]at c;rw[b];exact⟨e,rfl,i,j,c⟩
def P7 a:(collectF (Zu a).j (Zu a).G (Zu a).E).2.2.2.2=0/\(Zu a).collect=⟨(collectF (Zu a).j (Zu a).G (Zu a).E).1,(collectF (Zu a).j (Zu a).G (Zu a).E).2.1,(collectF (Zu a).j (Zu a).G (Zu a).E).2.2.1⟩/\(Zu a).collect.G.length=(Zu a).G.length/\(Zu a).collect.E.length=(Zu a).E.length /\
  GP 35 [(Zu a).j.av,Z2 (Zu a).G,Z2 (Zu a).E] Lb (.tu [(Zu a).collect.j.av,Z2 (Zu a).collect.G,Z2 (Zu a).collect.E,.ag (Hg (Zu a)).cells,nI 0]) []:=ZeC (OR a) (Av a) (Z6j a) (Av a).sl (Av a).wl
def ZcY a:GP 35 [(Zu a).j.av,Z2 (Zu a).G,Z2 (Zu a).E] Lb (.tu [(Zu a).collect.j.av,Z2 (Zu a).collect.G,Z2 (Zu a).collect.E,.ag (Hg (Zu a)).cells,nI 0]) []:=(P7 a).2.2.2.2
def Zbi(a:List Int)(h1:a.length<=140737488355328):GP 39 [ZC a] Lb (.tu [(Zu a).av,(Zu a).collect.av,.ag (Hg (Zu a)).cells,bL La]) []:=by have b:=Av a;have sl:=b.sl;have wl:=b.wl;obtain⟨_,_,l1,l2,_⟩:=P7 a;let c:=(0:Int)==0&&(↑(Zu a).collect.G.length:Int)==(↑(Zu a).G.length:Int);exact gF [] func39 (fO 12)<|Fc 13 (@Z5v a aa)<|Fc 21 (@ZcY a)<|FlG 37 ((0:Int)==0) wD (Zu a).collect.G<|FlG 40 ((0:Int)==0) wD (Zu a).G<|FlG 45 c wD (Zu a).collect.E<|FlG 48 c wD (Zu a).E<|Fr ((Zu a).j.C.pw)<|Fr ((Zu a).j.C.pg)<|Fr (Lc wD (Zu a).j.W)<|Fr (Lc Z0.dv (Zu a).j.P)<|Fr ((Zu a).j.S)<|Fr ((Zu a).j.B)<|Fr (Lc wD (Zu a).G)<|Fr (Lc wD (Zu a).E)<|Fr ((Zu a).collect.j.C.pw)<|Fr ((Zu a).collect.j.C.pg)<|Fr (Lc wD (Zu a).collect.j.W)<|Fr (Lc Z0.dv (Zu a).collect.j.P)<|Fr ((Zu a).collect.j.S)<|Fr ((Zu a).collect.j.B)<|Fr (Lc wD (Zu a).collect.G)<|Fr (Lc wD (Zu a).collect.E)<|Fr ((Hg (Zu a)).copied)<|Fr ((Hg (Zu a)).kept)<|Fr ((Hg (Zu a)).filled)<|Fr ((Hg (Zu a)).freed)<|Fr ((Hg (Zu a)).cleared)<|Fr ((Hg (Zu a)).steps)<|Fb (((↑(Zu a).collect.G.length:Int)==(↑(Zu a).G.length:Int)&&(↑(Zu a).collect.E.length:Int)==(↑(Zu a).E.length:Int))=La) Fz
def Gs(hd:Zz)(fs:List Int):Nat->List Int|0=>[]|i+1=>if Ba hd (i:Int)=La then Gs hd fs i++[fs.getD i M]else Gs hd fs i
def Z8P(hd:Zz) fs:∀i,(Gs hd fs i).length<=i
 |0=>Le _
 |i+1=>by
  have:=Z8P hd fs i;unfold Gs;split
  .rw[Lp,Lv];omega
  .omega
def HX(h:Heap)(a:Int):List Int:=Gs (Zw h a).1 (C0 h a).1 (C0 h a).1.length
def C7(out:List Int)(r:Int):List Int:=if r=0\/r∈out then out else out++[r]
def addN(out refs:List Int):Nat->List Int|0=>out|i+1=>C7 (addN out refs i) (refs.getD i M)
def Z8u out refs:∀i,(addN out refs i).length<=out.length+i
 |0=>Le _
 |i+1=>by
  have:=Z8u out refs i;unfold addN C7;split
  .omega
  .rw[Lp,Lv];omega
def Z1A out refs{i}:∀k,(addN out refs i).length<=(addN out refs (i+k)).length
 |0=>Le _
 |k+1=>by
  refine Lz (Z1A out refs k) ?_;show _<=(C7 _ _).length;unfold C7;split
  .exact Le _
  .rw[Lp];exact Nat.le_add_right _ _
def a8L(all out refs:List Int)(i:Nat):Tg:=⟨tm 42 [(0,Z2 all),(1,.ow 8000),(2,Z2 refs),(6,.d (.sl 0 [])),(7,bL Lb),(8,nI i)],[(8000,.arr 35 1 ((addN out refs i).map wD))],4⟩
section
variable(all out refs:List Int)(hl:refs.length<=1048576)(d:all.length<=1048576)(a:(addN out refs refs.length).length<=1048576)(b:CQ refs)
include hl d a b
theorem Z75(i:Nat)(j:i<refs.length)(f:Cj refs all i=Lb):CP (Zm f66 0) (a8L all out refs i).st .nrm (a8L all out refs (i+1)).st:=by
 have ln:=Lz (Z1A out refs (i:=i) (refs.length-i)) (by rw[show i+(refs.length-i)=refs.length by omega];exact a);have r:=b _ (ZT.2 ⟨i,j,rfl⟩);unfold Cj at f;have f:=of_decide_eq_false f;by_cases g:refs.getD i M=0;have e:addN out refs (i+1)=addN out refs i:=by rw[addN,C7,if_pos (.inl g)]
 unfold a8L;rw[e];exact sF [] []<|FN 11 12 17 wD refs i<|Ftb 19 (refs.getD i M==0)<|Fx 14 i Fz;have f:refs.getD i M∈all:=LB.1 λc=>f ⟨g,c⟩;by_cases h:refs.getD i M∈addN out refs i;have e:addN out refs (i+1)=addN out refs i:=by rw[addN,C7,if_pos (.inr h)]
 unfold a8L;rw[e];exact sF [] []<|FN 11 12 17 wD refs i<|Ffb 19 (refs.getD i M==0)<|Fek 23 wD refs (↑i) i<|Fc 25 (@CY all (refs.getD i M) aa)<|Ffb 26 (!decide (refs.getD i M∈all))<|Fek 30 wD refs (↑i) i<|Fc 32 (@CY (addN out refs i) (refs.getD i M) aa)<|Ffb 33 (!decide (refs.getD i M∈addN out refs i))<|Fx 14 i Fz;have e:addN out refs (i+1)=addN out refs i++[refs.getD i M]:=by rw[addN,C7,if_neg (λc=>c.elim g h)]
 unfold a8L;rw[e];exact sF [(64040,8000)] []<|Fh 40 [.els (Lc wD (addN out refs i++[refs.getD i M]))]<|FN 11 12 17 wD refs i<|Ffb 19 (refs.getD i M==0)<|Fek 23 wD refs (↑i) i<|Fc 25 (@CY all (refs.getD i M) aa)<|Ffb 26 (!decide (refs.getD i M∈all))<|Fek 30 wD refs (↑i) i<|Fc 32 (@CY (addN out refs i) (refs.getD i M) aa)<|Ftb 33 (!decide (refs.getD i M∈addN out refs i))<|Fek 37 wD refs (↑i) i<|Fs 39 (Lc wD [refs.getD i M])<|Fa (by(simp[*];omega):(Lc wD (addN out refs i)).length+(Lc wD [refs.getD i M]).length<=2^30)<|Fa (ms:Lc wD (addN out refs i)++Lc wD [refs.getD i M]=Lc wD (addN out refs i++[refs.getD i M]))<|Fx 14 i Fz
omit hl d a b in
theorem Zeo:CP (Zm f66 0) (a8L all out refs refs.length).st (.ext 0) (Tg.st ⟨tm 42 [(1,.ow 8000),(6,.d (.sl 0 [])),(7,bL Lb)],[(8000,.arr 35 1 ((addN out refs refs.length).map wD))],4⟩):=by exact sF [] []<|FO 11 12 wD refs Fz
def Zcq(e:(Lf refs.length).find? (Cj refs all)=Ld)  := Bp (S:=λk=>(a8L all out refs k).st) refs.length (by kernel_rfl) (λk c=>Z75 all out refs hl d a b k c (by
  have:=Ly.1 e k (Lj.2 c);simpa using this)) (Zeo all out refs)
theorem Zaj(hb:(Lf refs.length).find? (Cj refs all)=Ld):BP 66 [Z2 all,.ow 0,Z2 refs] [.arr 35 1 (out.map wD)] (.tu [.ow 1,bL La]) [.dead,.arr 35 1 ((addN out refs refs.length).map wD)]:=by have c:=Z1A out refs (i:=0) refs.length;rw[Xc]at c;exact borF [8000] [8000] func66 []<|Fu (@Zcq all out refs aa aa aa aa aa) Fz
end
def rfL(hd:Zz)(fs:List Int)(i:Nat):Tg:=⟨tm 40 [(4,.d (.sl 0 [])),(5,.pt 16005 0 0),(7,Z2 fs),(9,.ow 32009),(10,nI i)],[(32009,.arr 35 1 ((Gs hd fs i).map wD)),(16005,.box 52 [nI hd.K,nI hd.length,u32 hd.map])],6⟩
section
variable(hd:Zz)(fs:List Int)(b:0<=hd.map/\hd.map<=4294967295)(a:fs.length<=1048576)
include b a
theorem ZcM(i:Nat)(hi:i<fs.length):CP (Zm f18 0) (rfL hd fs i).st .nrm (rfL hd fs (i+1)).st:=by
 have ln:=Z8P hd fs i;by_cases c:Ba hd (i:Int)=La;have d:Gs hd fs (i+1)=Gs hd fs i++[fs.getD i M]:=by rw[Gs,if_pos c]
 unfold rfL;rw[d];exact sF [(64038,32009)] []<|Fh 31 [.call La (bL (Ba hd (i:Int))) [],.br La]<|Fh 38 [.els (Lc wD (Gs hd fs i++[fs.getD i M]))]<|FM 25 26 wD fs i<|Fa (@Nh hd ((i:Int)) aa)<|Fa ‹Ba hd (i:Int)=La›<|Fek 35 wD fs (↑i) i<|Fs 37 (Lc wD [fs.getD i M])<|Fa (by(simp[*];omega):(Lc wD (Gs hd fs i)).length+(Lc wD [fs.getD i M]).length<=2^30)<|Fa (ms:Lc wD (Gs hd fs i)++Lc wD [fs.getD i M]=Lc wD (Gs hd fs i++[fs.getD i M]))<|Fx 28 i Fz;have d:Gs hd fs (i+1)=Gs hd fs i:=by rw[Gs,if_neg c]
 unfold rfL;rw[d];exact sF [] []<|Fh 31 [.call La (bL (Ba hd (i:Int))) [],.br Lb]<|FM 25 26 wD fs i<|Fa (@Nh hd ((i:Int)) aa)<|Fbs (Ba hd (i:Int)=Lb)<|Fx 28 i Fz
theorem Zik:CP (Zm f18 0) (rfL hd fs fs.length).st (.ext 0) (Tg.st ⟨tm 40 [(4,.d (.sl 0 [])),(9,.ow 32009)],[(32009,.arr 35 1 ((Gs hd fs fs.length).map wD))],6⟩):=by exact sF [] []<|FO 25 26 wD fs Fz
def Zc6  := Bp (S:=λk=>(rfL hd fs k).st) fs.length (by kernel_rfl) (λk c=>ZcM hd fs b a k c) (Zik hd fs b a)
end
def Zb8(h:Heap)(a:Int)(b:Zx h.W)(h0:0<=a/\a<=18446744073709551615):GP 18 [h.av,uU a] Lb (Z2 (HX h a)) []:=by have hm:=O0 b a;have hf:=Z1e h a;exact gF [] func18 []<|Fh 9 [.own]<|Fc 14 (@Na h a aa aa)<|Fc 20 (@Z3z h a aa aa)<|Fu (@Zc6 ((Zw h a).1) ((C0 h a).1) aa oq) Fz
def Ir(all l:List Int):List Z3:=[.box 105 [Z2 all,.pt 1 0 99999,.ow 2],.mp l,.arr 35 1 (l.map wD)]
def Pe(all l:List Int):List Z3:=[.box 105 [Z2 all,.pt 1 0 99999,.ow 3],.mp l,.dead,.arr 35 1 (l.map wD)]
section
variable(all l:List Int)(r:Int)(a:0<=r/\r<=18446744073709551615)(hl:l.length<=1048576)(b:all.length<=1048576)(hs:all.Pairwise (· < ·))
include a hl b hs
theorem Za1(h:r≠0)(hr:r∉all):BP 108 [.pt 0 0 0,uU r] (Ir all l) (bL Lb) (Ir all l):=by exact borF [0,1,2] [] func108 []<|Ffb 10 (r==0)<|Fc 17 (@bsearch all r aa aa)<|Ftb 21 (!decide (r∈all)) Fz
theorem ZiY(h:r=0\/r∈all)(d:r=0\/r∈l):BP 108 [.pt 0 0 0,uU r] (Ir all l) (bL La) (Ir all l):=by by_cases c:r=0;exact borF [0,1,2] [] func108 []<|Ftb 10 (r==0) Fz;have h:=h.resolve_left c;have d:=d.resolve_left c;exact borF [0,1,2] [] func108 []<|Ffb 10 (r==0)<|Fc 17 (@bsearch all r aa aa)<|Ffb 21 (!decide (r∈all))<|Ff 32 (by simp[mpC, *]:(!mpC l r)=Lb) Fz
theorem Zge(h:r≠0)(hr:r∈all)(hn:r∉l):BP 108 [.pt 0 0 0,uU r] (Ir all l) (bL La) [.box 105 [Z2 all,.pt 1 0 99999,.ow 3],.mp (l++[r]),.dead,.arr 35 1 ((l++[r]).map wD)]:=by exact borF [0,1,8002] [72050] func108 []<|Fh 50 [.els (Lc wD (l++[r]))]<|Ffb 10 (r==0)<|Fc 17 (@bsearch all r aa aa)<|Ffb 21 (!decide (r∈all))<|Ft 32 (by simp[mpC, *]:(!mpC l r)=La)<|Fl 42 wD l<|Fa (by intro c;(try simp only[bs]at c);grind[mpC]:r∈l->False)<|Fr (l.length:Int)<|Fo (l.length<2^30)<|Fs 49 (Lc wD [r])<|Fa (by(simp[mpC, *];omega):(Lc wD l).length+(Lc wD [r]).length<=2^30)<|Fa (by simp[mpC,L9,L7,L8,LU,wD,iD]:Lc wD l++Lc wD [r]=Lc wD (l++[r])) Fz
theorem Z6P(h:r=0\/r∈all):BP 108 [.pt 0 0 0,uU r] (Ir all l) (bL La) (Pe all (C7 l r)):=by by_cases c:r=0\/r∈l;rw[C7,if_pos c];exact Ml [0,1,3] 4 (ZiY all l r a hl b hs h c) (by rfl) rfl rfl;rw[C7,if_neg c];exact Zge all l r a hl b hs (λq=>c (.inl q)) (h.resolve_left λq=>c (.inl q)) (λq=>c (.inr q))
end
def Z4E(hd:Zz)(fs:List Int)(f:Int->Int):∀n:Nat,(∀k:Nat,k<n->fs.getD k M=f k)->Gs hd fs n=(BQ hd n).map f
 |0,_=>rfl
 |n+1,h=>by
  unfold Gs BQ;rw[Z4E hd fs f n (λk hk=>h k oq),h n oq];split
  .simp
  .rfl
def Ab{h:Heap}(g:Z9 h=La){a:Int}(f:a∈(Zb h).1):(Zw h a).2=0/\(Z6 h a).2=0/\(Z6 h a).1.K≠0:=by
 obtain⟨d,b⟩:=List.mem_filter.1 f;have b:(Z6 h a).1.K≠0:=by simpa[CZ]using b
 rw[OJ]at d;obtain⟨x,i,rfl⟩:=LH.1 d;have c:=(Z37 x i).2;refine⟨?_,c,b⟩;unfold Zw;have z:x.addr≠0:=λe=>Z3J h (by have:=c;rw[e]at this;exact this);rw[if_pos g,if_neg z,if_neg (λe=>b e.2)];exact c
def ZK(h:Heap)(a:Int):List Int:=(Zk (Z6 h a).1).map λj=>(Z1 h.W (a+1+j)).1
def Z7z{h:Heap}{a:Int}(l:Z9 h=La)(f:a∈(Zb h).1):HX h a=ZK h a:=by
 have g:=(Ab l f).1;obtain⟨e,c,_,_,k1,k2,v,_,_,l1,l2⟩:=It g;have r:=Dn c;rw[<-e]at r;have d:(C0 h a)=BS h.W (a+1) (Zw h a).1.length:=by rw[C0,if_pos g]
 have m:BS h.W (a+1) (Zw h a).1.length=((h.W.drop (a+1-4096).toNat).take (Zw h a).1.length.toNat,0):=by(rw[BS,if_neg oq,if_pos oq])
 unfold HX ZK;rw[d,m];have b:((h.W.drop (a+1-4096).toNat).take (Zw h a).1.length.toNat).length=(Zw h a).1.length.toNat:=by(rw[LM,L5];omega)
 rw[Z4E _ _ (λj=>(Z1 h.W (a+1+j)).1) _ (λk i=>?_),b];unfold Zk;rw[<-e,if_pos v];rw[b]at i;show((h.W.drop (a+1-4096).toNat).take (Zw h a).1.length.toNat).getD k M=_;rw[Z1,if_pos oq];simp only[Lg,L4,LR];rw[if_pos oq,show(a+1-4096).toNat+k=(a+1+(k:Int)-4096).toNat by omega];rfl
def Zfu{l:List Int}{a:Int}(h:l.Nodup)(e:a∉l):(l++[a]).Nodup:=by rw[LV];refine⟨h,by simp,λb f c d=>?_⟩;rw[Lt]at d;rintro rfl;exact e (d▸f)
def Zmw{all out:List Int}{r:Int}(h:out.Nodup/\∀x∈out,x∈all)(b:r=0\/r∈all):(C7 out r).Nodup/\∀x∈C7 out r,x∈all:=by unfold C7;split;exact h;rename_i c;refine⟨Zfu h.1 (λq=>c (.inr q)),λx a=>?_⟩;rcases Lr.1 a with a|a;exact h.2 x a;rw[Lt.1 a];exact b.resolve_left λq=>c (.inl q)
def Z2k{refs all}{i:Nat}(h:Cj refs all i=Lb):refs.getD i M=0\/refs.getD i M∈all:=by have:=of_decide_eq_false h;by_cases c:refs.getD i M=0;exact .inl c;exact .inr (LB.1 λq=>this ⟨c,q⟩)
def DN{all out refs:List Int}(h:out.Nodup/\∀x∈out,x∈all):∀n,(∀j,j<n->Cj refs all j=Lb)->(addN out refs n).Nodup/\∀x∈addN out refs n,x∈all|0,_=>h|n+1,hb=>Zmw (DN h n λj hj=>hb j oq) (Z2k (hb n oq))
def Z0Z{refs all:List Int}(h:(Lf refs.length).find? (Cj refs all)=Ld):∀j,j<refs.length->Cj refs all j=Lb:=λj a=>by
 simpa using Ly.1 h j (Lj.2 a)
def Ts:∀{l m:List Int},l.Nodup->(∀x∈l,x∈m)->l.length<=m.length
 |[],_,_,_=>Lo _
 |a::l,m,hn,h=>by
  obtain⟨d,f⟩:=List.nodup_cons.1 hn;have b:=h a pq;have:=Ts (l:=l) (m:=m.erase a) f (λx c=>(List.mem_erase_of_ne (by rintro rfl;exact d c)).2 (h x (by simp[c])));have e:=List.length_erase_of_mem b;have:=List.length_pos_of_mem b;simp only[List.length_cons];omega
def Zp(h:Heap)(roots:List Int):Nat->List Int|0=>addN [] roots roots.length|i+1=>addN (Zp h roots i) (ZK h ((Zp h roots i).getD i M)) (ZK h ((Zp h roots i).getD i M)).length
def H0(h:Heap)(roots:List Int)(i:Nat):Bool:=((Lf (ZK h ((Zp h roots i).getD i M)).length).find? (Cj (ZK h ((Zp h roots i).getD i M)) (Zb h).1)).isSome
def R7(h:Heap)(roots:List Int):Nat->Nat->Nat|0,i=>i|f+1,i=>if(Zp h roots i).length<=i\/H0 h roots i=La then i else R7 h roots f (i+1)
def Hx(h:Heap)(roots:List Int):Nat:=R7 h roots 16385 0
def GH(h:Heap)(roots:List Int):Bool:=((Lf roots.length).find? (Cj roots (Zb h).1)).isSome
structure GM (h:Heap) (roots:List Int) (k:Nat):Prop where
 lo:∀i,i<k->i<(Zp h roots i).length/\H0 h roots i=Lb
 el:∀i,i<=k->(Zp h roots i).Nodup/\∀x∈Zp h roots i,x∈(Zb h).1
def GM.len{h roots k}(I:GM h roots k){i:Nat}(a:i<=k):(Zp h roots i).length<=16384:=
 Lz (Ts (I.el i a).1 (I.el i a).2) (H6 h)
def GM.zero{h}{roots:List Int}(b:GH h roots=Lb):GM h roots 0:=by
 refine⟨λi a=>by omega,λi a=>?_⟩;obtain rfl:i=0:=by omega
 exact DN ⟨Lw,by simp⟩ _ (Z0Z (by simpa[GH]using b))
def GM.succ{h roots k}(I:GM h roots k)(b:k<(Zp h roots k).length)(a:H0 h roots k=Lb):GM h roots (k+1):=by refine⟨λi c=>?_,λi c=>?_⟩;by_cases q:i=k;rw[q];exact⟨b,a⟩;exact I.lo i oq;by_cases q:i=k+1;rw[q];exact DN (I.el k (Le _)) _ (Z0Z (by simpa[H0]using a));exact I.el i oq
def Z6Q{h roots}:∀f i,GM h roots i->16385<=f+i->GM h roots (R7 h roots f i)/\((Zp h roots (R7 h roots f i)).length<=R7 h roots f i\/H0 h roots (R7 h roots f i)=La)
 |0,i,I,hf=>by
  have:=I.len (Le i);exact⟨I,.inl (by unfold R7;omega)⟩
 |f+1,i,I,hf=>by
  unfold R7;by_cases q:(Zp h roots i).length<=i\/H0 h roots i=La
  .rw[if_pos q];exact⟨I,q⟩
  .rw[if_neg q];exact Z6Q f (i+1) (I.succ oq (by simpa using λe=>q (.inr e))) oq
def Z1u{h}{roots:List Int}(a:GH h roots=Lb):GM h roots (Hx h roots)/\((Zp h roots (Hx h roots)).length<=Hx h roots\/H0 h roots (Hx h roots)=La):=
 Z6Q _ _ (GM.zero a) oq
def BW(h:Heap)(roots:List Int):List Int×Int:=
 if Z9 h=La then
  if(Zb h).2=0 then
   if GH h roots=La\/((Hx h roots)<(Zp h roots (Hx h roots)).length/\H0 h roots (Hx h roots)=La)then([],19)else(Zp h roots (Hx h roots),0)
  else([],(Zb h).2)
 else([],1)
section
variable(all out refs:List Int)(hl:refs.length<=1000000)(b:all.length<=1048576)(c:out.length<=16384)(a:CQ refs)
include hl b c a
theorem Zig(i:Nat)(e:i<refs.length)(d:Cj refs all i=La):CP (Zm f66 0) (a8L all out refs i).st .ret (Tg.st ⟨tm 42 [(6,.d (.sl 0 [])),(7,bL Lb)],[],60⟩):=by have r:=a _ (ZT.2 ⟨i,e,rfl⟩);obtain⟨b1,b2⟩:=of_decide_eq_true d;exact sF [] []<|FN 11 12 17 wD refs i<|Ffb 19 (refs.getD i M==0)<|Fek 23 wD refs (↑i) i<|Fc 25 (@CY all (refs.getD i M) aa)<|Ftb 26 (!decide (refs.getD i M∈all)) Fz
theorem Zcy(k:Nat)(g:(Lf refs.length).find? (Cj refs all)=some k):CP (Zi f66 0) (Tg.st ⟨tm 42 [(0,Z2 all),(1,.ow 8000),(2,Z2 refs),(6,.d (.sl 0 [])),(7,bL Lb),(8,nI 0)],[(8000,.arr 35 1 (out.map wD))],4⟩) .ret (Tg.st ⟨tm 42 [(6,.d (.sl 0 [])),(7,bL Lb)],[],60⟩):=by obtain⟨e,d,f⟩:=LD.1 g;have d:=Lj.1 d;have i:∀m,(addN out refs m).length<=out.length+m:=Z8u out refs;exact EJ (S:=λk=>(a8L all out refs k).st) k kr (λm h=>Z75 all out refs oq b (by have:=i refs.length;omega) a m oq (by simpa using f m h)) (Zig all out refs hl b c a k d e)
theorem Z6a(d:((Lf refs.length).find? (Cj refs all)).isSome=La):BP 66 [Z2 all,.ow 0,Z2 refs] [.arr 35 1 (out.map wD)] (.tu [.d (.sl 0 []),bL Lb]) [.dead]:=by obtain⟨k,d⟩:=LY.1 d;exact borF [8000] [] func66 []<|Fu (@Zcy all out refs aa aa aa aa k d)<|Fnl Fz
end
def Z6y(h:Heap)(a:Int)(d:Zx h.W)(c:Z9 h=La)(b:a∈(Zb h).1):GP 18 [h.av,uU a] Lb (Z2 (ZK h a)) []:=by rw[<-Z7z c b];have:=Iq h a b;exact Zb8 h a d oq
def Z5Q(h:Heap) a:(ZK h a).length<=255:=by rw[ZK,Lq];exact(Al _).1
def Zap{h:Heap}(b:Zx h.W) a:CQ (ZK h a):=by intro x c;obtain⟨j,_,rfl⟩:=LH.1 c;exact EP b _
def Z9p(all refs:List Int)(hl:refs.length<=1048576)(a:all.length<=1048576)(c:(addN [] refs refs.length).length<=1048576)(d:CQ refs)(b:(Lf refs.length).find? (Cj refs all)=Ld):BP 66 [Z2 all,.ow 0,Z2 refs] [.arr 35 1 []] (.tu [.ow 1,bL La]) [.dead,.arr 35 1 ((addN [] refs refs.length).map wD)]:=
 Zaj all [] refs hl a c d b
def Zc8(all refs:List Int)(hl:refs.length<=1000000)(a:all.length<=1048576)(c:CQ refs)(b:((Lf refs.length).find? (Cj refs all)).isSome=La):BP 66 [Z2 all,.ow 0,Z2 refs] [.arr 35 1 []] (.tu [.d (.sl 0 []),bL Lb]) [.dead]:=
 Z6a all [] refs hl a (Lo _) c b
def orG(h:Heap)(roots:List Int)(i:Nat):Tg:=⟨tm 52 [(2,.pt 8002 0 0),(4,.d (.sl 0 [])),(5,nI 0),(6,Z2 (Zb h).1),(8,.ow 41025),(9,bL La),(10,nI i)],[(41025,.arr 35 1 ((Zp h roots i).map wD)),(8002,.box 28 [nI h.C.pw,nI h.C.pg,.d (.sl 1 (h.W.map wD)),.d (.sl 4 (h.P.map Z0.dv)),nI h.S,nI h.B])],7⟩
def orX(i:Nat):Tg:=⟨tm 52 [(4,.d (.sl 0 [])),(5,nI 0),(8,.d (.sl 0 [])),(9,bL Lb),(10,nI i)],[],7⟩
section
variable(h:Heap)(roots:List Int)(k:Nat)(I:GM h roots k)(a:Zx h.W)(c:Z9 h=La)
include I a c
theorem Z8l(i:Nat)(f:i<k):CP (Zm f25 0) (orG h roots i).st .nrm (orG h roots (i+1)).st:=by
 have ol:=H6 h;obtain⟨g,d⟩:=I.lo i f;have o3:=I.len (i:=i) oq;have j:=I.len (i:=i+1) oq;have om:=(I.el i oq).2 _ (ZT.2 ⟨i,g,rfl⟩);have ox:=Iq h _ om;have rl:=Z5Q h ((Zp h roots i).getD i M);have ru:=Zap a ((Zp h roots i).getD i M);have d:(Lf (ZK h ((Zp h roots i).getD i M)).length).find? (Cj (ZK h ((Zp h roots i).getD i M)) (Zb h).1)=Ld:=by simpa[H0]using d
 have b:Zp h roots (i+1)=addN (Zp h roots i) (ZK h ((Zp h roots i).getD i M)) (ZK h ((Zp h roots i).getD i M)).length:=rfl;rw[b]at j;unfold orG;rw[b];let e:=(Zp h roots i).getD (i:Int).toNat M;exact sF [(65046,41025)] []<|FlG 32 La wD (Zp h roots i)<|Ftb 34 (Lk ((i:Int)<(↑(Zp h roots i).length:Int)))<|Fmq 44 wD (Zp h roots i) (↑i)<|Fc 45 (@Z6y h e aa aa aa)<|Fbr 46 [41025] (@Zaj ((Zb h).1) (Zp h roots i) (ZK h e) (by grind[]) oq (by grind[]) aa aa)<|Fx 36 i Fz
theorem Ze7(e:k<(Zp h roots k).length)(d:H0 h roots k=La):CP (Zm f25 0) (orG h roots k).st .nrm (orX (k+1)).st:=by have ol:=H6 h;have o3:=I.len (Le k);have om:=(I.el k (Le k)).2 _ (ZT.2 ⟨k,e,rfl⟩);have ox:=Iq h _ om;have rl:=Z5Q h ((Zp h roots k).getD k M);have ru:=Zap a ((Zp h roots k).getD k M);unfold H0 at d;unfold orG;let b:=(Zp h roots k).getD (k:Int).toNat M;exact sF [] []<|FlG 32 La wD (Zp h roots k)<|Ftb 34 (Lk ((k:Int)<(↑(Zp h roots k).length:Int)))<|Fmq 44 wD (Zp h roots k) (↑k)<|Fc 45 (@Z6y h b aa aa aa)<|Fbr 46 [41025] (@Z6a ((Zb h).1) (Zp h roots k) (ZK h b) (by grind[]) oq aa aa aa)<|Fx 36 k Fz
omit I a c in
theorem Z8T:CP (Zm f25 0) (orX k).st (.ext 0) (Tg.st ⟨tm 52 [(4,.d (.sl 0 [])),(5,nI 0),(8,.d (.sl 0 [])),(9,bL Lb)],[],7⟩):=by exact sF [] [] Fz
omit I a c in
theorem Zbj(e:(Zp h roots k).length<=k):CP (Zm f25 0) (orG h roots k).st (.ext 0) (Tg.st ⟨tm 52 [(4,.d (.sl 0 [])),(5,nI 0),(8,.ow 41025),(9,bL La)],[(41025,.arr 35 1 ((Zp h roots k).map wD))],7⟩):=by exact sF [] []<|FlG 32 La wD (Zp h roots k)<|Ffb 34 (Lk ((k:Int)<(↑(Zp h roots k).length:Int))) Fz
def Zja(e:(Zp h roots k).length<=k)  := Bp (S:=λi=>(orG h roots i).st) k (by kernel_rfl) (λi b=>Z8l h roots k I a c i b) (Zbj h roots k e)
theorem ZmI(e:k<(Zp h roots k).length)(d:H0 h roots k=La):CP (Zi f25 0) (Tg.st ⟨tm 52 [(2,.pt 8002 0 0),(4,.d (.sl 0 [])),(5,nI 0),(6,Z2 (Zb h).1),(8,.ow 41025),(9,bL La),(10,nI 0)],[(41025,.arr 35 1 ((addN [] roots roots.length).map wD)),(8002,.box 28 [nI h.C.pw,nI h.C.pg,.d (.sl 1 (h.W.map wD)),.d (.sl 4 (h.P.map Z0.dv)),nI h.S,nI h.B])],7⟩) .nrm (Tg.st ⟨tm 52 [(4,.d (.sl 0 [])),(5,nI 0),(8,.d (.sl 0 [])),(9,bL Lb)],[],7⟩):=by
 have:=Bp (P:=prog) (fn:=f25) (b:=0) (S:=λi=>if i<=k then(orG h roots i).st else(orX i).st) (k+1) kr (λi f=>by
  rw[if_pos oq];by_cases q:i=k;rw[q,if_neg oq];exact Ze7 h roots k I a c e d;rw[if_pos oq];exact Z8l h roots k I a c i oq) (by rw[if_neg oq];exact Z8T (k+1))
 rw[if_pos (Lo _)]at this;exact this
theorem ZmK(hl:roots.length<=1000)(hr:CQ roots)(ho:(Zb h).2=0)(b:GH h roots=Lb)(e:(Zp h roots k).length<=k):GP 25 [h.av,Z2 roots] Lb (.tu [Z2 (Zp h roots k),nI 0]) []:=by
 have ol:=H6 h;have Er:(Lf roots.length).find? (Cj roots (Zb h).1)=Ld:=by simpa[GH]using b
 have u0:(addN [] roots roots.length).length<=16384:=I.len (Lo k);exact gF [] func25 []<|Fh 25 [.gh 35 1,.bor [47025] (AV.tu [AV.ow 1,bL La]) [Z3.dead,Z3.arr 35 1 (Lc wD (addN [] roots roots.length))]]<|Fc 12 (@CG h)<|Ffb 13 (!Z9 h)<|Fc 16 (@RU h aa)<|Ffb 20 ((Zb h).2 != 0)<|Fa (@Z9p ((Zb h).1) roots oq oq oq aa aa)<|Fu (@Zja h roots k aa aa aa aa) Fz
theorem ZbK(hl:roots.length<=1000)(hr:CQ roots)(ho:(Zb h).2=0)(b:GH h roots=Lb)(hi:k<(Zp h roots k).length)(d:H0 h roots k=La):GP 25 [h.av,Z2 roots] Lb (.tu [Z2 [],nI 19]) []:=by
 have ol:=H6 h;have Er:(Lf roots.length).find? (Cj roots (Zb h).1)=Ld:=by simpa[GH]using b
 have u0:(addN [] roots roots.length).length<=16384:=I.len (Lo k);exact gF [] func25 []<|Fh 25 [.gh 35 1,.bor [47025] (AV.tu [AV.ow 1,bL La]) [Z3.dead,Z3.arr 35 1 (Lc wD (addN [] roots roots.length))]]<|Fc 12 (@CG h)<|Ffb 13 (!Z9 h)<|Fc 16 (@RU h aa)<|Ffb 20 ((Zb h).2 != 0)<|Fa (@Z9p ((Zb h).1) roots oq oq oq aa aa)<|Fu (@ZmI h roots k I aa aa aa aa)<|Fnl Fz
end
def Zkx(h:Heap) roots(hw:Zx h.W)(hp:Z9 h=Lb):GP 25 [h.av,Z2 roots] Lb (.tu [Z2 [],nI 1]) []:=by exact gF [] func25 []<|Fc 12 (@CG h)<|Ftb 13 (!Z9 h)<|Fnl Fz
def ZeU(h:Heap) roots(hw:Zx h.W)(hp:Z9 h=La)(ho:(Zb h).2≠0):GP 25 [h.av,Z2 roots] Lb (.tu [Z2 [],nI (Zb h).2]) []:=by exact gF [] func25 []<|Fc 12 (@CG h)<|Ffb 13 (!Z9 h)<|Fc 16 (@RU h aa)<|Ftb 20 ((Zb h).2 != 0)<|Fnl Fz
def Z9a  := Bp (S:=λi=>(orX i).st) 0 (by kernel_rfl) (λi a=>absurd a (Lu _)) (Z8T 0)
def Zk4(h:Heap)(roots:List Int)(hw:Zx h.W)(hp:Z9 h=La)(hl:roots.length<=1000)(hr:CQ roots)(ho:(Zb h).2=0)(a:GH h roots=La):GP 25 [h.av,Z2 roots] Lb (.tu [Z2 [],nI 19]) []:=by have ol:=H6 h;unfold GH at a;have b:=Z9a;unfold orX at b;exact gF [] func25 []<|Fh 25 [.gh 35 1,.bor [47025] (AV.tu [AV.d (DV.sl 0 []),bL Lb]) [Z3.dead]]<|Fc 12 (@CG h)<|Ffb 13 (!Z9 h)<|Fc 16 (@RU h aa)<|Ffb 20 ((Zb h).2 != 0)<|Fa (@Zc8 ((Zb h).1) roots oq oq aa aa)<|Fu (@Z9a)<|Fnl Fz
def Z8t(h:Heap)(roots:List Int)(f:Zx h.W)(hl:roots.length<=1000)(i:CQ roots):GP 25 [h.av,Z2 roots] Lb (.tu [Z2 (BW h roots).1,nI (BW h roots).2]) []:=by
 unfold BW;by_cases b:Z9 h=La;rw[if_pos b];by_cases d:(Zb h).2=0;rw[if_pos d];by_cases g:GH h roots=La;rw[if_pos (.inl g)];exact Zk4 h roots f b hl i d g;have a:GH h roots=Lb:=by simpa using g
 obtain⟨I,e⟩:=Z1u a;by_cases c:(Hx h roots)<(Zp h roots (Hx h roots)).length/\H0 h roots (Hx h roots)=La;rw[if_pos (.inr c)];exact ZbK h roots _ I f b hl i d a c.1 c.2;rw[if_neg (λq=>q.elim g c)];refine ZmK h roots _ I f b hl i d a ?_;rcases e with e|e;exact e;exact Nat.not_lt.1 λq=>c ⟨q,e⟩;rw[if_neg d];exact ZeU h roots f b d;rw[if_neg b];exact Zkx h roots f (by simpa using b)
def Zfk(h:Heap) roots(hw:Zx h.W)(hp:Z9 h=Lb):BP 55 [h.av,Z2 roots] [] (.tu [.d (.sc (.pointer Ld)),nI 1]) []:=by exact borF [] [] func55 []<|Fc 19 (@Eg h)<|Ftb 20 (!Z9 h) Fz
def Zk1(h:Heap) roots(hw:Zx h.W)(hp:Z9 h=La)(ho:(Zb h).2≠0):BP 55 [h.av,Z2 roots] [] (.tu [.d (.sc (.pointer Ld)),nI (Zb h).2]) []:=by exact borF [] [] func55 []<|Fc 19 (@Eg h)<|Ffb 20 (!Z9 h)<|Fc 23 (@SQ h aa)<|Ftb 27 ((Zb h).2 != 0) Fz
def GK(h:Heap):Z3:=.box 28 [nI h.C.pw,nI h.C.pg,.d (.sl 1 (h.W.map wD)),.d (.sl 4 (h.P.map Z0.dv)),nI h.S,nI h.B]
def Ge(all l:List Int):List (Nat×Z3):=[(48032,.box 105 [Z2 all,.pt 48030 0 99999,.ow 48031]),(48031,.arr 35 1 (l.map wD)),(48030,.mp l)]
def srL(h:Heap)(roots:List Int)(i:Nat):Tg:=⟨tm 102 [(2,.pt 16002 0 0),(4,.d (.sc (.pointer Ld))),(5,nI 0),(8,.pt 48032 0 0),(33,Z2 roots),(34,nI roots.length),(35,nI i)],Ge (Zb h).1 (addN [] roots i)++[(16002,GK h)],8⟩
section
variable(h:Heap)(roots:List Int)(hl:roots.length<=1000)(a:CQ roots)
include hl a
theorem Z8W(i:Nat)(e:i<roots.length)(b:∀j,j<i+1->Cj roots (Zb h).1 j=Lb):CP (Zm f55 0) (srL h roots i).st .nrm (srL h roots (i+1)).st:=by have f:=H6 h;have os:=Mk h;have c:=DN (all:=(Zb h).1) (out:=[]) (refs:=roots) ⟨Lw,by simp⟩ i (λj hj=>b j oq);have o2:=Lz (Ts c.1 c.2) f;have r:=a _ (ZT.2 ⟨i,e,rfl⟩);have rb:=Z2k (b i oq);have d:addN [] roots (i+1)=C7 (addN [] roots i) (roots.getD i M):=rfl;unfold srL Ge GK;rw[d];exact sF [(81041,48031)] []<|Ftb 36 (Lk ((i:Int)<(roots.length:Int)))<|Fek 37 wD roots (↑i) i<|Fbr 41 [48032,48030,48031] (@Z6P ((Zb h).1) (addN [] roots i) (roots.getD i M) aa oq oq aa aa)<|Fx 43 i Fz
theorem Ziz(i:Nat)(d:i<roots.length)(c:∀j,j<i->Cj roots (Zb h).1 j=Lb)(e:Cj roots (Zb h).1 i=La):CP (Zm f55 0) (srL h roots i).st .ret (Tg.st ⟨tm 102 [(4,.d (.sc (.pointer Ld))),(5,nI 19)],[],60⟩):=by have f:=H6 h;have os:=Mk h;have b:=DN (all:=(Zb h).1) (out:=[]) (refs:=roots) ⟨Lw,by simp⟩ i c;have o2:=Lz (Ts b.1 b.2) f;have r:=a _ (ZT.2 ⟨i,d,rfl⟩);obtain⟨b1,b2⟩:=of_decide_eq_true e;unfold srL Ge GK;exact sF [] []<|Ftb 36 (Lk ((i:Int)<(roots.length:Int)))<|Fek 37 wD roots (↑i) i<|Fbq 41 [48032,48030,48031] (@Za1 ((Zb h).1) (addN [] roots i) (roots.getD i M) aa oq oq aa aa aa) Fz
omit hl a in
theorem Zi0:CP (Zm f55 0) (srL h roots roots.length).st (.ext 0) (Tg.st ⟨tm 102 [(2,.pt 16002 0 0),(4,.d (.sc (.pointer Ld))),(5,nI 0),(8,.pt 48032 0 0)],Ge (Zb h).1 (Zp h roots 0)++[(16002,GK h)],8⟩):=by unfold srL Ge GK Zp;exact sF [] []<|Ffb 36 (Lk ((roots.length:Int)<(roots.length:Int))) Fz
theorem Z5O(b:GH h roots=Lb):CP (Zi f55 0) (Tg.st ⟨tm 102 [(2,.pt 16002 0 0),(4,.d (.sc (.pointer Ld))),(5,nI 0),(8,.pt 48032 0 0),(33,Z2 roots),(34,nI roots.length),(35,nI 0)],[(48032,.box 105 [Z2 (Zb h).1,.pt 48030 0 99999,.ow 48031]),(48031,.arr 35 1 []),(48030,.mp []),(16002,.box 28 [nI h.C.pw,nI h.C.pg,.d (.sl 1 (h.W.map wD)),.d (.sl 4 (h.P.map Z0.dv)),nI h.S,nI h.B])],8⟩) .nrm (Tg.st ⟨tm 102 [(2,.pt 16002 0 0),(4,.d (.sc (.pointer Ld))),(5,nI 0),(8,.pt 48032 0 0)],Ge (Zb h).1 (Zp h roots 0)++[(16002,GK h)],8⟩):=by have e:=Z0Z (refs:=roots) (all:=(Zb h).1) (by simpa[GH]using b);exact Bp (S:=λk=>(srL h roots k).st) roots.length kr (λk c=>Z8W h roots hl a k c (λj hj=>e j oq)) (Zi0 h roots)
theorem ZeQ(c:GH h roots=La):CP (Zi f55 0) (Tg.st ⟨tm 102 [(2,.pt 16002 0 0),(4,.d (.sc (.pointer Ld))),(5,nI 0),(8,.pt 48032 0 0),(33,Z2 roots),(34,nI roots.length),(35,nI 0)],[(48032,.box 105 [Z2 (Zb h).1,.pt 48030 0 99999,.ow 48031]),(48031,.arr 35 1 []),(48030,.mp []),(16002,.box 28 [nI h.C.pw,nI h.C.pg,.d (.sl 1 (h.W.map wD)),.d (.sl 4 (h.P.map Z0.dv)),nI h.S,nI h.B])],8⟩) .ret (Tg.st ⟨tm 102 [(4,.d (.sc (.pointer Ld))),(5,nI 19)],[],60⟩):=by
 obtain⟨i,c⟩:=LY.1 c;obtain⟨f,b,g⟩:=LD.1 c;have b:=Lj.1 b;have e:∀j,j<i->Cj roots (Zb h).1 j=Lb:=λj d=>by simpa using g j d
 exact EJ (S:=λk=>(srL h roots k).st) i kr (λk hk=>Z8W h roots hl a k oq (λj d=>e j oq)) (Ziz h roots hl a i b e f)
end
def ZeB(h:Heap)(roots:List Int)(hw:Zx h.W)(hp:Z9 h=La)(ho:(Zb h).2=0)(hl:roots.length<=1000)(hr:CQ roots)(hb:GH h roots=La):BP 55 [h.av,Z2 roots] [] (.tu [.d (.sc (.pointer Ld)),nI 19]) []:=by exact borF [] [] func55 []<|Fh 31 [.gh 35 1,.int 2]<|Fc 19 (@Eg h)<|Ffb 20 (!Z9 h)<|Fc 23 (@SQ h aa)<|Ffb 27 ((Zb h).2 != 0)<|Fl 34 wD roots<|Fu (@ZeQ h roots aa aa aa) Fz
def Z5c(out:List Int) r{k:Nat}(a:k<out.length):k<(C7 out r).length/\(C7 out r).getD k M=out.getD k M:=by unfold C7;split;exact⟨a,rfl⟩;refine⟨by simp;omega, ?_⟩;simp only[Lg];rw[LQ a]
def Z2J(out refs:List Int){k:Nat}(a:k<out.length):∀n,k<(addN out refs n).length/\(addN out refs n).getD k M=out.getD k M
 |0=>⟨a,rfl⟩
 |n+1=>by
  obtain⟨b,c⟩:=Z2J out refs a n;obtain⟨d,e⟩:=Z5c (addN out refs n) (refs.getD n M) b;exact⟨d,e.trans c⟩
def siL(h:Heap)(l:List Int)(i:Nat)(a rf:List Int)(j:Nat):Tg:=⟨tm 102 [(2,.pt 16002 0 0),(4,.d (.sc (.pointer Ld))),(5,nI 0),(8,.pt 48032 0 0),(11,nI i),(69,.d (.sl 1 (a.map iD))),(70,nI a.length),(71,nI j)],Ge (Zb h).1 (addN l rf j)++[(16002,GK h)],13⟩
def Z6E{h:Heap}{l:List Int}{i j:Nat}{a:Int}(hp:Z9 h=La)(hi:i<l.length)(el:l.Nodup/\∀x∈l,x∈(Zb h).1)(ea:l.getD i M=a)(hj:j<(Zk (Z6 h a).1).length)(hb:∀m,m<j->Cj (ZK h a) (Zb h).1 m=Lb) :i<(addN l (ZK h a) j).length/\(addN l (ZK h a) j).length<=16384/\0<=(addN l (ZK h a) j).getD i M/\(addN l (ZK h a) j).getD i M<=8192/\0<=(Zk (Z6 h a).1).getD j M/\(Zk (Z6 h a).1).getD j M<=255 /\
  (Z1 h.W ((addN l (ZK h a) j).getD i M+1+(Zk (Z6 h a).1).getD j M)).2=0/\(ZK h a).getD j M=(Z1 h.W ((addN l (ZK h a) j).getD i M+1+(Zk (Z6 h a).1).getD j M)).1:=by
 obtain⟨q1,q2⟩:=Z2J l (ZK h a) hi j;rw[ea]at q2;have o1:=DN (all:=(Zb h).1) el j hb;have o2:=Lz (Ts o1.1 o1.2) (H6 h);have am:a∈(Zb h).1:=ea▸el.2 _ (ZT.2 ⟨i,hi,rfl⟩);have ar:=Iq h a am;obtain⟨g1,g2,g3⟩:=Ab hp am;have r:=Dn g2;have pm:=ZT.2 ⟨j,hj,rfl⟩;have pr:=(Al (Z6 h a).1).2 _ pm;have pl:(Zk (Z6 h a).1).getD j M<(Z6 h a).1.length:=by
  have hx:=pm;generalize (Zk (Z6 h a).1).getD j M=x at hx;unfold Zk at hx;split at hx
  .have:=Ac _ _ _ hx;omega
  .simp at hx
 rw[q2];refine⟨q1,o2,by omega,by omega,pr.1,pr.2,by rw[Z1,if_pos oq], ?_⟩;unfold ZK;simp only[Lg,L3,Lm hj,Xd,LA]
section
variable(h:Heap)(l:List Int)(i j:Nat)(a:Int)(f:Zx h.W)(b:Z9 h=La)(d:i<l.length)(el:l.Nodup/\∀x∈l,x∈(Zb h).1)(c:l.getD i M=a)
include f b d el c
theorem Zae(o:j<(Zk (Z6 h a).1).length)(k:∀m,m<j+1->Cj (ZK h a) (Zb h).1 m=Lb):CP (Zm f55 4) (siL h l i (Zk (Z6 h a).1) (ZK h a) j).st .nrm (siL h l i (Zk (Z6 h a).1) (ZK h a) (j+1)).st:=by
 have ol:=H6 h;have os:=Mk h;have po:=B6 b;have pl:=(Al (Z6 h a).1).1;obtain⟨f1,f2,f3,f4,f5,f6,f7,g⟩:=Z6E b d el c o (λm hm=>k m oq);have p:=Z2k (k j oq);have rr:=EP f ((addN l (ZK h a) j).getD i M+1+(Zk (Z6 h a).1).getD j M);rw[g]at p;have n:addN l (ZK h a) (j+1)=C7 (addN l (ZK h a) j) (Z1 h.W ((addN l (ZK h a) j).getD i M+1+(Zk (Z6 h a).1).getD j M)).1:=by rw[<-g];rfl
 unfold siL Ge GK;rw[n];let e:=(addN l (ZK h a) j).getD i M+1+(Zk (Z6 h a).1).getD j M;exact sF [(129097,48031)] []<|Fh 93 [.br Lb]<|Ftb 72 (Lk ((j:Int)<(↑(Zk (Z6 h a).1).length:Int)))<|Fek 73 iD (Zk (Z6 h a).1) (↑j) j<|Fm 84 wD (addN l (ZK h a) j) (↑i) i<|Fv 85 ((addN l (ZK h a) j).getD i M+1)<|Fv 87 ((Zk (Z6 h a).1).getD j M)<|Fv 88 e<|Fc 89 (@Dx h.W e oq oq)<|Fb (((Z1 h.W e).2 != 0)=Lb)<|Fbr 97 [48032,48030,48031] (@Z6P ((Zb h).1) (addN l (ZK h a) j) ((Z1 h.W e).1) aa oq oq aa aa)<|Fx 100 j Fz
theorem Zms(p:j<(Zk (Z6 h a).1).length)(o:∀m,m<j->Cj (ZK h a) (Zb h).1 m=Lb)(q:Cj (ZK h a) (Zb h).1 j=La):CP (Zm f55 4) (siL h l i (Zk (Z6 h a).1) (ZK h a) j).st .ret (Tg.st ⟨tm 102 [(4,.d (.sc (.pointer Ld))),(5,nI 19)],[],60⟩):=by have ol:=H6 h;have os:=Mk h;have po:=B6 b;have pl:=(Al (Z6 h a).1).1;obtain⟨f1,f2,f3,f4,f5,f6,f7,n⟩:=Z6E b d el c p o;obtain⟨g,k⟩:=of_decide_eq_true q;have rr:=EP f ((addN l (ZK h a) j).getD i M+1+(Zk (Z6 h a).1).getD j M);rw[n]at g k;unfold siL Ge GK;let e:=(addN l (ZK h a) j).getD i M+1+(Zk (Z6 h a).1).getD j M;exact sF [] []<|Fh 93 [.br Lb]<|Ftb 72 (Lk ((j:Int)<(↑(Zk (Z6 h a).1).length:Int)))<|Fek 73 iD (Zk (Z6 h a).1) (↑j) j<|Fm 84 wD (addN l (ZK h a) j) (↑i) i<|Fv 85 ((addN l (ZK h a) j).getD i M+1)<|Fv 87 ((Zk (Z6 h a).1).getD j M)<|Fv 88 e<|Fc 89 (@Dx h.W e oq oq)<|Fb (((Z1 h.W e).2 != 0)=Lb)<|Fbq 97 [48032,48030,48031] (@Za1 ((Zb h).1) (addN l (ZK h a) j) ((Z1 h.W e).1) aa oq oq aa aa aa) Fz
omit f b d el c in
theorem Zn5 e rf:CP (Zm f55 4) (siL h l i e rf e.length).st (.ext 4) (Tg.st ⟨tm 102 [(2,.pt 16002 0 0),(4,.d (.sc (.pointer Ld))),(5,nI 0),(8,.pt 48032 0 0),(11,nI i)],Ge (Zb h).1 (addN l rf e.length)++[(16002,GK h)],13⟩):=by unfold siL Ge GK;exact sF [] []<|Ffb 72 (Lk ((e.length:Int)<(e.length:Int))) Fz
theorem ZfJ(g:(Lf (ZK h a).length).find? (Cj (ZK h a) (Zb h).1)=Ld):CP (Zi f55 4) (Tg.st ⟨tm 102 [(2,.pt 16002 0 0),(4,.d (.sc (.pointer Ld))),(5,nI 0),(8,.pt 48032 0 0),(11,nI i),(69,.d (.sl 1 ((Zk (Z6 h a).1).map iD))),(70,nI (Zk (Z6 h a).1).length),(71,nI 0)],[(48032,.box 105 [Z2 (Zb h).1,.pt 48030 0 99999,.ow 48031]),(48031,.arr 35 1 (l.map wD)),(48030,.mp l),(16002,.box 28 [nI h.C.pw,nI h.C.pg,.d (.sl 1 (h.W.map wD)),.d (.sl 4 (h.P.map Z0.dv)),nI h.S,nI h.B])],13⟩) .nrm (Tg.st ⟨tm 102 [(2,.pt 16002 0 0),(4,.d (.sc (.pointer Ld))),(5,nI 0),(8,.pt 48032 0 0),(11,nI i)],Ge (Zb h).1 (addN l (ZK h a) (ZK h a).length)++[(16002,GK h)],13⟩):=by
 have e:=Z0Z g;have le:(ZK h a).length=(Zk (Z6 h a).1).length:=by rw[ZK,Lq]
 rw[le];exact Bp (S:=λj=>(siL h l i (Zk (Z6 h a).1) (ZK h a) j).st) (Zk (Z6 h a).1).length kr (λj k=>Zae h l i j a f b d el c k (λm hm=>e m oq)) (Zn5 h l i _ _)
theorem Zkp(g:((Lf (ZK h a).length).find? (Cj (ZK h a) (Zb h).1)).isSome=La):CP (Zi f55 4) (Tg.st ⟨tm 102 [(2,.pt 16002 0 0),(4,.d (.sc (.pointer Ld))),(5,nI 0),(8,.pt 48032 0 0),(11,nI i),(69,.d (.sl 1 ((Zk (Z6 h a).1).map iD))),(70,nI (Zk (Z6 h a).1).length),(71,nI 0)],[(48032,.box 105 [Z2 (Zb h).1,.pt 48030 0 99999,.ow 48031]),(48031,.arr 35 1 (l.map wD)),(48030,.mp l),(16002,.box 28 [nI h.C.pw,nI h.C.pg,.d (.sl 1 (h.W.map wD)),.d (.sl 4 (h.P.map Z0.dv)),nI h.S,nI h.B])],13⟩) .ret (Tg.st ⟨tm 102 [(4,.d (.sc (.pointer Ld))),(5,nI 19)],[],60⟩):=by
 obtain⟨n,g⟩:=LY.1 g;obtain⟨p,k,q⟩:=LD.1 g;have k:=Lj.1 k;have le:(ZK h a).length=(Zk (Z6 h a).1).length:=by rw[ZK,Lq]
 have e:∀m,m<n->Cj (ZK h a) (Zb h).1 m=Lb:=λm o=>by simpa using q m o
 exact EJ (S:=λj=>(siL h l i (Zk (Z6 h a).1) (ZK h a) j).st) n kr (λj hj=>Zae h l i j a f b d el c oq (λm o=>e m oq)) (Zms h l i n a f b d el c oq e p)
end
def soL(h:Heap)(roots:List Int)(k:Nat):Tg:=⟨tm 102 [(2,.pt 16002 0 0),(4,.d (.sc (.pointer Ld))),(5,nI 0),(8,.pt 48032 0 0),(11,nI k)],Ge (Zb h).1 (Zp h roots k)++[(16002,GK h)],9⟩
section
variable(h:Heap)(roots:List Int)(k:Nat)(I:GM h roots k)(b:Zx h.W)(a:Z9 h=La)
include I b a
theorem ZaH(i:Nat)(f:i<k):CP (Zm f55 2) (soL h roots i).st .nrm (soL h roots (i+1)).st:=by
 have ol:=H6 h;obtain⟨g,e⟩:=I.lo i f;have o3:=I.len (i:=i) oq;have j:=I.len (i:=i+1) oq;have om:=(I.el i oq).2 _ (ZT.2 ⟨i,g,rfl⟩);have ox:=Iq h _ om;obtain⟨g1,g2,g3⟩:=Ab a om;have gm:=Hy b ((Zp h roots i).getD i M);have e:(Lf (ZK h ((Zp h roots i).getD i M)).length).find? (Cj (ZK h ((Zp h roots i).getD i M)) (Zb h).1)=Ld:=by simpa[H0]using e
 have el:=I.el i oq;have po:=B6 a;have d:Zp h roots (i+1)=addN (Zp h roots i) (ZK h ((Zp h roots i).getD i M)) (ZK h ((Zp h roots i).getD i M)).length:=rfl;rw[d]at j;unfold soL Ge GK;rw[d];let c:=(Zp h roots i).getD i M;exact sF [] []<|FM 49 50 wD (Zp h roots i) i<|Fm 61 wD (Zp h roots i) (↑i) i<|Fc 62 (@IT h c aa oq)<|Ffb 66 ((Z6 h c).2 != 0)<|Fc 69 (@TQ ((Z6 h c).1) aa)<|Fl 70 iD (Zk (Z6 h c).1)<|Fu (@ZfJ h (Zp h roots i) i c aa aa aa aa (by rfl) aa)<|Fx 52 i Fz
theorem Zbm(e:k<(Zp h roots k).length)(d:H0 h roots k=La):CP (Zm f55 2) (soL h roots k).st .ret (Tg.st ⟨tm 102 [(4,.d (.sc (.pointer Ld))),(5,nI 19)],[],60⟩):=by have ol:=H6 h;have o3:=I.len (Le k);have om:=(I.el k (Le k)).2 _ (ZT.2 ⟨k,e,rfl⟩);have ox:=Iq h _ om;obtain⟨g1,g2,g3⟩:=Ab a om;have gm:=Hy b ((Zp h roots k).getD k M);have el:=I.el k (Le k);have po:=B6 a;unfold H0 at d;unfold soL Ge GK;let c:=(Zp h roots k).getD k M;exact sF [] []<|FM 49 50 wD (Zp h roots k) k<|Fm 61 wD (Zp h roots k) (↑k) k<|Fc 62 (@IT h c aa oq)<|Ffb 66 ((Z6 h c).2 != 0)<|Fc 69 (@TQ ((Z6 h c).1) aa)<|Fl 70 iD (Zk (Z6 h c).1)<|Fu (@Zkp h (Zp h roots k) k c aa aa aa aa (by rfl) aa) Fz
omit I b a in
theorem Zg4(e:(Zp h roots k).length<=k)(el:(Zp h roots k).length<=16384):CP (Zm f55 2) (soL h roots k).st (.ext 2) (Tg.st ⟨tm 102 [(4,.d (.sc (.pointer Ld))),(5,nI 0),(8,.pt 48032 0 0)],Ge (Zb h).1 (Zp h roots k),9⟩):=by unfold soL Ge GK;exact sF [] []<|Fl 49 wD (Zp h roots k)<|Ffb 50 (Lk ((k:Int)<(↑(Zp h roots k).length:Int))) Fz
def ZcR(e:(Zp h roots k).length<=k)  := Bp (S:=λi=>(soL h roots i).st) k (by kernel_rfl) (λi c=>ZaH h roots k I b a i c) (Zg4 h roots k e (I.len (Le k)))
def ZbY(c:k<(Zp h roots k).length)(d:H0 h roots k=La)  := EJ (S:=λi=>(soL h roots i).st) k (by kernel_rfl) (λi c=>ZaH h roots k I b a i c) (Zbm h roots k I b a c d)
theorem Zia(ho:(Zb h).2=0)(hl:roots.length<=1000)(hr:CQ roots)(hb:GH h roots=Lb)(hi:k<(Zp h roots k).length)(c:H0 h roots k=La):BP 55 [h.av,Z2 roots] [] (.tu [.d (.sc (.pointer Ld)),nI 19]) []:=by exact borF [] [] func55 []<|Fh 31 [.gh 35 1,.int 2]<|Fc 19 (@Eg h)<|Ffb 20 (!Z9 h)<|Fc 23 (@SQ h aa)<|Ffb 27 ((Zb h).2 != 0)<|Fl 34 wD roots<|Fu (@Z5O h roots aa aa aa)<|Fu (@ZbY h roots k I aa aa aa aa) Fz
theorem ZfC(ho:(Zb h).2=0)(hl:roots.length<=1000)(hr:CQ roots)(hb:GH h roots=Lb)(e:(Zp h roots k).length<=k):BP 55 [h.av,Z2 roots] [] (.tu [.pt 0 0 0,nI 0]) (Ir (Zb h).1 (Zp h roots k)):=by exact borF [] [48032,48030,48031] func55 []<|Fh 31 [.gh 35 1,.int 2]<|Fc 19 (@Eg h)<|Ffb 20 (!Z9 h)<|Fc 23 (@SQ h aa)<|Ffb 27 ((Zb h).2 != 0)<|Fl 34 wD roots<|Fu (@Z5O h roots aa aa aa)<|Fu (@ZcR h roots k aa aa aa aa) Fz
end
def Zcc out(r:Int):(r=0\/r∈C7 out r)/\∀x∈out,x∈C7 out r:=by unfold C7;split;rename_i c;exact⟨c,λ_ h=>h⟩;exact⟨.inr pq,λx h=>by simp[h]⟩
def Z05(out refs:List Int):∀n,(∀x∈out,x∈addN out refs n)/\∀j,j<n->refs.getD j M=0\/refs.getD j M∈addN out refs n
 |0=>⟨λ_ h=>h,λj h=>by omega⟩
 |n+1=>by
  obtain⟨b,c⟩:=Z05 out refs n;obtain⟨d,a⟩:=Zcc (addN out refs n) (refs.getD n M);refine⟨λx e=>a x (b x e),λj hj=>?_⟩;by_cases q:j=n
  .rw[q];exact d
  .exact(c j oq).imp id λh=>a _ h
def TN(h:Heap) roots i:∀d,(∀x∈Zp h roots i,x∈Zp h roots (i+d))/\∀j,j<(Zp h roots i).length->j<(Zp h roots (i+d)).length/\(Zp h roots (i+d)).getD j M=(Zp h roots i).getD j M
 |0=>⟨λ_ h=>h,λ_ h=>⟨h,rfl⟩⟩
 |d+1=>by
  obtain⟨a,b⟩:=TN h roots i d;refine⟨λx l=>(Z05 _ _ _).1 x (a x l),λj k=>?_⟩;obtain⟨c,e⟩:=b j k;obtain⟨f,g⟩:=Z2J (Zp h roots (i+d)) (ZK h ((Zp h roots (i+d)).getD (i+d) M)) c (ZK h ((Zp h roots (i+d)).getD (i+d) M)).length;exact⟨f,g.trans e⟩
structure AL (h:Heap) (roots l:List Int):Prop where
 p:Z9 h=La
 nd:l.Nodup
 el:∀x∈l,x∈(Zb h).1
 n0:(0:Int)∉l
 rt:∀r∈roots,r=0\/r∈l
 cl:∀a∈l,∀v∈ZK h a,v=0\/v∈l
 len:l.length<=16384
def Z1U{h roots k}(I:GM h roots k)(c:Z9 h=La)(e:(Zp h roots k).length<=k):AL h roots (Zp h roots k):=by
 refine⟨c,(I.el k (Le k)).1,(I.el k (Le k)).2,λq=>?_,λr g=>?_,λa f v l=>?_,I.len (Le k)⟩;exact Z3J h (Ab c ((I.el k (Le k)).2 _ q)).2.1;obtain⟨j,b,rfl⟩:=ZT.1 g;exact((Z05 [] roots roots.length).2 j b).imp id λq=>by(have:=(TN h roots 0 k).1 _ q;rwa [Xc]at this)
 obtain⟨i,hi,rfl⟩:=ZT.1 f;obtain⟨j,b,rfl⟩:=ZT.1 l;obtain⟨n,_⟩:=I.lo i oq;have d:=TN h roots i (k-i);rw[show i+(k-i)=k from by omega]at d;rw[(d.2 i n).2]at b⊢;have m:=(Z05 (Zp h roots i) (ZK h ((Zp h roots i).getD i M)) (ZK h ((Zp h roots i).getD i M)).length).2 j b;refine m.imp id λq=>?_;have p2:=TN h roots (i+1) (k-(i+1));rw[show i+1+(k-(i+1))=k from by omega]at p2;exact p2.1 _ q
section
variable(h:Heap)(roots:List Int)(a:Zx h.W)(hl:roots.length<=1000)(b:CQ roots)
include a hl b
theorem ZcQ:((BW h roots).2=0/\AL h roots (BW h roots).1/\BP 55 [h.av,Z2 roots] [] (.tu [.pt 0 0 0,nI 0]) (Ir (Zb h).1 (BW h roots).1)) \/ ((BW h roots).2≠0/\(BW h roots).1=[]/\BP 55 [h.av,Z2 roots] [] (.tu [.d (.sc (.pointer Ld)),nI (BW h roots).2]) []):=by
 unfold BW;by_cases d:Z9 h=La;rw[if_pos d];by_cases g:(Zb h).2=0;rw[if_pos g];by_cases i:GH h roots=La;rw[if_pos (.inl i)];exact .inr ⟨by simp,rfl,ZeB h roots a d g hl b i⟩;have f:GH h roots=Lb:=by simpa using i
 obtain⟨I,e⟩:=Z1u f;by_cases c:(Hx h roots)<(Zp h roots (Hx h roots)).length/\H0 h roots (Hx h roots)=La;rw[if_pos (.inr c)];exact .inr ⟨by simp,rfl,Zia h roots _ I a d g hl b f c.1 c.2⟩;rw[if_neg (λq=>q.elim i c)];have j:(Zp h roots (Hx h roots)).length<=Hx h roots:=by(rcases e with e|e;exact e;exact Nat.not_lt.1 λq=>c ⟨q,e⟩)
 exact .inl ⟨rfl,Z1U I d j,ZfC h roots _ I a d g hl b f j⟩;rw[if_neg g];exact .inr ⟨g,rfl,Zk1 h roots a d g⟩;rw[if_neg d];exact .inr ⟨by simp,rfl,Zfk h roots a (by simpa using d)⟩
theorem Z6O(e:(BW h roots).2=0):AL h roots (BW h roots).1:=by rcases ZcQ h roots a hl b with⟨_,d,_⟩|⟨c,_⟩;exact d;exact absurd e c
end
def E3(l:List Int)(v:Int):Int:=if v∈l then(l.idxOf v:Int)+1 else 0
def Z5U l(v:Int):0<=E3 l v/\E3 l v<=l.length:=by unfold E3;split;rename_i h;have:=List.idxOf_lt_length_iff.2 h;omega;omega
def Z5C{l:List Int}{v:Int}(h:v∈l):l.idxOf v<l.length/\l.getD (l.idxOf v) M=v/\∀i,i<l.idxOf v->l.getD i M≠v:=by have a:=List.idxOf_lt_length_iff.2 h;refine⟨a, ?_,λi b q=>?_⟩;rw[Lg,Lm a,LA,List.getElem_idxOf];rw[Lg,Lm oq,LA]at q;have:=List.not_of_lt_findIdx (p:=λx=>x==v) (xs:=l) (i:=i) b;simp[q]at this
def nuL(l:List Int)(v:Int)(i:Nat):Tg:=⟨tm 20 [(0,Z2 l),(1,uU v),(4,nI 0),(5,nI i)],[],4⟩
section
variable(l:List Int)(v:Int)(hl:l.length<=1048576)
include hl
theorem Zam(i:Nat)(hi:i<l.length)(e:l.getD i M≠v):CP (Zm f67 0) (nuL l v i).st .nrm (nuL l v (i+1)).st:=by exact sF [] []<|FN 8 9 14 wD l i<|Ffb 17 (l.getD i M==v)<|Fx 11 i Fz
theorem ZlI(i:Nat)(hi:i<l.length)(e:l.getD i M=v):CP (Zm f67 0) (nuL l v i).st .ret (Tg.st ⟨tm 20 [(4,nI ((i:Int)+1))],[],60⟩):=by exact sF [] []<|FN 8 9 14 wD l i<|Ftb 17 (l.getD i M==v)<|Fx 19 i Fz
omit hl in
theorem Zmk:CP (Zm f67 0) (nuL l v l.length).st (.ext 0) (Tg.st ⟨tm 20 [(4,nI 0)],[],60⟩):=by exact sF [] []<|FO 8 9 wD l Fz
def Zm9(h:v∉l)  := Bp (S:=λi=>(nuL l v i).st) l.length (by kernel_rfl) (λi a=>Zam l v hl i a λq=>h (ZT.2 ⟨i,a,q⟩)) (Zmk l v)
theorem Zcv(h:v∈l):CP (Zi f67 0) (Tg.st ⟨tm 20 [(0,Z2 l),(1,uU v),(4,nI 0),(5,nI 0)],[],4⟩) .ret (Tg.st ⟨tm 20 [(4,nI ((l.idxOf v:Int)+1))],[],60⟩):=by obtain⟨a,b,c⟩:=Z5C h;exact EJ (S:=λi=>(nuL l v i).st) (l.idxOf v) kr (λi d=>Zam l v hl i oq (c i d)) (ZlI l v hl _ a b)
theorem Z9B:GP 67 [Z2 l,uU v] La (nI (E3 l v)) []:=by unfold E3;by_cases h:v∈l;rw[if_pos h];exact gF [] func67 []<|Fu (@Zcv l v aa aa) Fz;rw[if_neg h];exact gF [] func67 []<|Fu (@Zm9 l v aa aa) Fz
end
def HR(l fs a:List Int):Nat->List Int|0=>fs|j+1=>(HR l fs a j).set (a.getD j M).toNat (E3 l (fs.getD (a.getD j M).toNat M))
def DW l fs a:∀j,(HR l fs a j).length=fs.length|0=>rfl|j+1=>by rw[HR,L6,DW l fs a j]
structure BF where
 hd:Zz
 fs:List Int
instance:Inhabited BF:=⟨⟨default,[]⟩⟩
def BF.dv(n:BF):List DV:=[Zq n.hd.K,Zq n.hd.length,.sc (.int .u32 n.hd.map),.sl 1 (n.fs.map wD)]
def BF.cells(n:BF):List AV:=[nI n.hd.K,nI n.hd.length,u32 n.hd.map,Z2 n.fs]
def Z6x(hd:Zz):∀n:Nat,(BQ hd n).Nodup
 |0=>Lw
 |n+1=>by
  have c:=Z6x hd n;unfold BQ;split
  .rw[LV];refine⟨c,by simp,λa d b e=>?_⟩;have:=(Ac hd n a d).2;rw[Lt]at e;omega
  .exact c
def BN(h:Heap)(a:Int):List Int:=(BS h.W (a+1) (Z6 h a).1.length).1
def CU(h:Heap)(l:List Int)(a:Int):BF:=⟨(Z6 h a).1,HR l (BN h a) (Zk (Z6 h a).1) (Zk (Z6 h a).1).length⟩
def Ru{h:Heap}{a:Int}(b:Z9 h=La)(e:a∈(Zb h).1):4096<=a/\a<=8192/\0<=(Z6 h a).1.length/\(Z6 h a).1.length<=255/\a+(Z6 h a).1.length<4096+h.W.length/\(Z6 h a).2=0/\((BN h a).length:Int)=(Z6 h a).1.length/\BN h a=(h.W.drop (a+1-4096).toNat).take (Z6 h a).1.length.toNat /\ (Zk (Z6 h a).1).Nodup/\(∀p∈Zk (Z6 h a).1,0<=p/\p<(Z6 h a).1.length/\(BN h a).getD p.toNat M∈ZK h a):=by
 have l:=Iq h a e;obtain⟨k,d,g3⟩:=Ab b e;have f:=Dn d;have v:=It k;have i:Zw h a=Z6 h a:=v.1;rw[i]at v;have c:BN h a=(h.W.drop (a+1-4096).toNat).take (Z6 h a).1.length.toNat:=by rw[BN,BS,if_neg oq,if_pos oq]
 have j:((BN h a).length:Int)=(Z6 h a).1.length:=by rw[c,LM,L5];omega
 refine⟨f.1,l.2,by omega,by omega,f.2,d,j,c, ?_,λp b=>?_⟩;unfold Zk;split;exact Z6x _ _;exact Lw;have g:0<=p/\p<(Z6 h a).1.length:=by(have:=b;unfold Zk at this;split at this;have:=Ac _ _ _ this;omega;simp at this)
 refine⟨g.1,g.2,LH.2 ⟨p,b, ?_⟩⟩;rw[c,Z1,if_pos oq];simp only[Lg,L4,LR];rw[if_pos oq,show(a+1-4096).toNat+p.toNat=(a+1+p-4096).toNat by omega];rfl
def ET(l:List Int)(r:Int):Int:=E3 l r-1
structure So where
 roots:List Int
 nodes:List BF
def Z2O(h:Heap)(l roots:List Int):So:=⟨roots.map (ET l),l.map (CU h l)⟩
def E0(h:Heap)(roots:List Int):So×Int:=if(BW h roots).2=0 then(Z2O h (BW h roots).1 roots,0)else(⟨[],[]⟩,(BW h roots).2)
def Z6W{α β:Type}[Inhabited α](f:α->β){l:List α}{i:Nat}(a:i<l.length):(l.take (i+1)).map f=(l.take i).map f++[f (l.getD i M)]:=by rw[List.take_succ,LU,Lm a,Lg,Lm a];rfl
def Zeu(ws:List Int)(a n:Int)(hw:ws.length<=1048576)(h0:4096<=a/\0<=n/\n<=1000/\a-4096+n<=ws.length):GP 112 [Z2 ws,uU a,nI n] La (.tu [.ow 0,nI 0]) [.arr 35 1 (((ws.drop (a-4096).toNat).take n.toNat).map wD)]:=by
 have c:(Zt ws a n).1=a-4096:=by rw[Zt,if_pos oq]
 have b:(Zt ws a n).2=La:=by rw[Zt,if_pos oq];simp;omega
 exact gF [40028] func112 [Lb,La]<|Fh 28 [.els (Lc wD (Li (((Zt ws a n).1+n).toNat-(Zt ws a n).1.toNat) (Ln (Zt ws a n).1.toNat ws)))]<|Ffb 11 (Lk (n<0))<|Fc 16 (@D7 ws a n aa oq)<|Ffb 20 (!(Zt ws a n).2)<|Fs 21 (Lc wD [])<|Fi 26 ((Zt ws a n).1+n)<|Fa (by(simp only[Lq];omega):0<=(Zt ws a n).1/\(Zt ws a n).1<=(Zt ws a n).1+n/\(Zt ws a n).1+n<=(↑(Lc wD ws).length:Int))<|Fa (by simp[b,L9,L7,L8,LU,wD,iD]:Li (((Zt ws a n).1+n).toNat-(Zt ws a n).1.toNat) (Ln (Zt ws a n).1.toNat (Lc wD ws))=Lc wD (Li (((Zt ws a n).1+n).toNat-(Zt ws a n).1.toNat) (Ln (Zt ws a n).1.toNat ws)))<|Fa (by(simp[b, *];omega):(Lc wD []).length+(Lc wD (Li (((Zt ws a n).1+n).toNat-(Zt ws a n).1.toNat) (Ln (Zt ws a n).1.toNat ws))).length<=2^30)<|Fs 27 (Lc wD (Li (((Zt ws a n).1+n).toNat-(Zt ws a n).1.toNat) (Ln (Zt ws a n).1.toNat ws)))<|Fa (Hd _:Ce (Lc wD (Li (((Zt ws a n).1+n).toNat-(Zt ws a n).1.toNat) (Ln (Zt ws a n).1.toNat ws))))<|Fr (35:Int)<|Fa (by refine congrArg _ ?_;(simp[b, *];omega):Lc wD (Li (((Zt ws a n).1+n).toNat-(Zt ws a n).1.toNat) (Ln (Zt ws a n).1.toNat ws))=Lc wD (Li n.toNat (Ln (a-4096).toNat ws))) Fz
def Z7l(h:Heap)(a:Int)(d:Zx h.W)(c:Z9 h=La)(b:a∈(Zb h).1):GP 45 [h.av,uU a] La (.tu [(Z6 h a).1.av,nI 0]) []:=by have g:=(Ab c b).1;have e:=(It g).1;have ox:=Iq h a b;have:=Na h a d oq;rw[g,e]at this;exact this
def ZdP(h:Heap)(a:Int)(f:Zx h.W)(b:Z9 h=La)(e:a∈(Zb h).1):GP 56 [h.av,uU a] La (.tu [.ow 0,nI 0]) [.arr 35 1 ((BN h a).map wD)]:=by obtain⟨f1,f2,f3,f4,f5,f6,f7,d,f9,c⟩:=Ru b e;have po:=B6 b;have gm:=Hy f a;rw[d];exact gF [33023] func56 []<|Fc 11 (@Z7l h a aa aa aa)<|Fv 20 (a+1)<|Fc 23 (@Zeu h.W (a+1) ((Z6 h a).1.length) oq oq)<|Fa (Hd _:Ce (Lc wD (Li (Z6 h a).1.length.toNat (Ln (a+(1:Int)-4096).toNat h.W)))) Fz
def CI(l fs:List Int)(hd:Zz):Nat->List Int|0=>fs|k+1=>if Ba hd (k:Int)=La then(CI l fs hd k).set k (E3 l (fs.getD k M))else CI l fs hd k
def Z6Z(l fs a b:List Int):∀j,j<=a.length->HR l fs (a++b) j=HR l fs a j
 |0,_=>rfl
 |j+1,h=>by
  have e:(a++b).getD j M=a.getD j M:=by
   simp only[Lg];rw[LQ oq]
  rw[HR,HR,e,Z6Z l fs a b j oq]
def Z4n l fs(hd:Zz):∀n:Nat,CI l fs hd n=HR l fs (BQ hd n) (BQ hd n).length
 |0=>rfl
 |n+1=>by
  unfold CI BQ;split
  .rw[Lp,Lv,HR,Z6Z _ _ _ _ _ (Le _),Z4n l fs hd n];have e:(BQ hd n++[(n:Int)]).getD (BQ hd n).length M=(n:Int):=by
    simp[Lg]
   rw[e];rfl
  .exact Z4n l fs hd n
def Z2j l fs(hd:Zz)(i:Nat):∀k,k<=i->(CI l fs hd k).length=fs.length/\(CI l fs hd k).getD i M=fs.getD i M
 |0,_=>⟨rfl,rfl⟩
 |k+1,h=>by
  obtain⟨b,a⟩:=Z2j l fs hd i k oq;unfold CI;split
  .refine⟨by rw[L6];exact b, ?_⟩;simp only[Lg]at a⊢;rw[List.getElem?_set_ne oq];exact a
  .exact⟨b,a⟩
def Zcp{h:Heap} l{a:Int}(c:Z9 h=La)(b:a∈(Zb h).1):CI l (BN h a) (Z6 h a).1 (BN h a).length=(CU h l a).fs:=by
 obtain⟨f1,f2,f3,f4,f5,f6,f7,f8,f9,f⟩:=Ru c b;have v:=It (Ab c b).1;have e:(BN h a).length=(Z6 h a).1.length.toNat:=by omega
 rw[Z4n,e];unfold CU Zk;have d:=v.2.2.2.2.2.2.1;rw[v.1]at d;rw[if_pos d]
def GD(h:Heap)(a:List Int)(ns:List BF):List (Nat×Z3):=[(32008,.box 61 [.ow 33008,.ow 34008]),(34008,.arr 120 4 (ns.map BF.dv)),(33008,.arr 3 1 (a.map iD)),(8004,.box 61 [.ow 9004,.ow 10004]),(10004,.arr 120 4 []),(9004,.arr 3 1 []),(8002,.box 28 [nI h.C.pw,nI h.C.pg,.d (.sl 1 (h.W.map wD)),.d (.sl 4 (h.P.map Z0.dv)),nI h.S,nI h.B])]
def qgL(h:Heap)(l roots:List Int)(i:Nat):Tg:=⟨tm 96 [(1,Z2 roots),(2,.pt 8002 0 0),(4,.pt 8004 0 0),(5,nI 0),(6,Z2 l),(8,.pt 32008 0 0),(9,nI i)],GD h ((roots.take i).map (ET l)) [],6⟩
def qiL(h:Heap)(l b:List Int)(ns:List BF)(k:Nat)(a:Int)(j:Nat):Tg:=⟨tm 96 [(2,.pt 8002 0 0),(4,.pt 8004 0 0),(5,nI 0),(6,Z2 l),(8,.pt 32008 0 0),(10,nI k),(11,.pt 64011 0 0),(13,.ow 73065),(15,nI j)],(73065,.arr 35 1 ((CI l (BN h a) (Z6 h a).1 j).map wD))::(64011,.box 52 [nI (Z6 h a).1.K,nI (Z6 h a).1.length,u32 (Z6 h a).1.map])::GD h b ns,11⟩
section
variable(h:Heap)(l b:List Int)(ns:List BF)(k:Nat)(a:Int)(g:Zx h.W)(f:Z9 h=La)(d:a∈(Zb h).1)(hl:l.length<=16384)
include g f d hl
theorem Zbv(j:Nat)(hj:j<(BN h a).length):CP (Zm f26 4) (qiL h l b ns k a j).st .nrm (qiL h l b ns k a (j+1)).st:=by
 obtain⟨f1,f2,f3,f4,f5,f6,f7,f8,f9,i⟩:=Ru f d;have gm:=Hy g a;obtain⟨nl,m⟩:=Z2j l (BN h a) (Z6 h a).1 j j (Le j);have nr:=Z5U l ((CI l (BN h a) (Z6 h a).1 j).getD j M);by_cases c:Ba (Z6 h a).1 (j:Int)=La;have e:CI l (BN h a) (Z6 h a).1 (j+1)=(CI l (BN h a) (Z6 h a).1 j).set j (E3 l ((CI l (BN h a) (Z6 h a).1 j).getD j M)):=by rw[CI,if_pos c,m]
 unfold qiL GD;rw[e];exact sF [] []<|Fh 76 [.call La (bL (Ba (Z6 h a).1 (j:Int))) [],.br La]<|Fh 10086 [.els (Lc wD ((CI l (BN h a) (Z6 h a).1 j).set (j:Int).toNat (E3 l ((CI l (BN h a) (Z6 h a).1 j).getD j M))))]<|FM 70 71 wD (CI l (BN h a) (Z6 h a).1 j) j<|Fa (@Nh ((Z6 h a).1) ((j:Int)) aa)<|Fa ‹Ba (Z6 h a).1 (j:Int)=La›<|Fm 83 wD (CI l (BN h a) (Z6 h a).1 j) (↑j) j<|Fc 84 (@Z9B l ((CI l (BN h a) (Z6 h a).1 j).getD j M) oq)<|Fv 85 (E3 l ((CI l (BN h a) (Z6 h a).1 j).getD j M))<|Fa (by(simp only[Lq];omega):0<=(j:Int)/\(j:Int).toNat<(Lc wD (CI l (BN h a) (Z6 h a).1 j)).length)<|Fa (by(simp only[Lq];omega):(j:Int).toNat<(Lc wD (CI l (BN h a) (Z6 h a).1 j)).length)<|Fa (ms:(Lc wD (CI l (BN h a) (Z6 h a).1 j)).set (j:Int).toNat [ZZ (E3 l ((CI l (BN h a) (Z6 h a).1 j).getD j M))]=Lc wD ((CI l (BN h a) (Z6 h a).1 j).set (j:Int).toNat (E3 l ((CI l (BN h a) (Z6 h a).1 j).getD j M))))<|Fx 73 j Fz;have e:CI l (BN h a) (Z6 h a).1 (j+1)=CI l (BN h a) (Z6 h a).1 j:=by rw[CI,if_neg c]
 unfold qiL GD;rw[e];exact sF [] []<|Fh 76 [.call La (bL (Ba (Z6 h a).1 (j:Int))) [],.br Lb]<|FM 70 71 wD (CI l (BN h a) (Z6 h a).1 j) j<|Fa (@Nh ((Z6 h a).1) ((j:Int)) aa)<|Fbs (Ba (Z6 h a).1 (j:Int)=Lb)<|Fx 73 j Fz
theorem ZbP:CP (Zm f26 4) (qiL h l b ns k a (BN h a).length).st (.ext 4) (Tg.st ⟨tm 96 [(2,.pt 8002 0 0),(4,.pt 8004 0 0),(5,nI 0),(6,Z2 l),(8,.pt 32008 0 0),(10,nI k),(11,.pt 64011 0 0),(13,.ow 73065)],(73065,.arr 35 1 ((CU h l a).fs.map wD))::(64011,.box 52 [nI (Z6 h a).1.K,nI (Z6 h a).1.length,u32 (Z6 h a).1.map])::GD h b ns,11⟩):=by have e:=Zcp l f d;obtain⟨nl,_⟩:=Z2j l (BN h a) (Z6 h a).1 (BN h a).length (BN h a).length (Le _);obtain⟨f1,f2,f3,f4,f5,f6,f7,f8,f9,c⟩:=Ru f d;unfold qiL GD;rw[e]at nl⊢;exact sF [] []<|Fl 70 wD (CU h l a).fs<|Ffb 71 (Lk ((↑(BN h a).length:Int)<(↑(CU h l a).fs.length:Int))) Fz
theorem Zl1:CP (Zi f26 4) (Tg.st ⟨tm 96 [(2,.pt 8002 0 0),(4,.pt 8004 0 0),(5,nI 0),(6,Z2 l),(8,.pt 32008 0 0),(10,nI k),(11,.pt 64011 0 0),(13,.ow 73065),(15,nI 0)],[(73065,.arr 35 1 ((BN h a).map wD)),(64011,.box 52 [nI (Z6 h a).1.K,nI (Z6 h a).1.length,u32 (Z6 h a).1.map]),(32008,.box 61 [.ow 33008,.ow 34008]),(34008,.arr 120 4 (ns.map BF.dv)),(33008,.arr 3 1 (b.map iD)),(8004,.box 61 [.ow 9004,.ow 10004]),(10004,.arr 120 4 []),(9004,.arr 3 1 []),(8002,.box 28 [nI h.C.pw,nI h.C.pg,.d (.sl 1 (h.W.map wD)),.d (.sl 4 (h.P.map Z0.dv)),nI h.S,nI h.B])],11⟩) .nrm (Tg.st ⟨tm 96 [(2,.pt 8002 0 0),(4,.pt 8004 0 0),(5,nI 0),(6,Z2 l),(8,.pt 32008 0 0),(10,nI k),(11,.pt 64011 0 0),(13,Z2 (CU h l a).fs)],(64011,.box 52 [nI (Z6 h a).1.K,nI (Z6 h a).1.length,u32 (Z6 h a).1.map])::GD h b ns,11⟩):=
 CSpec.frz 73065 (t:=(⟨tm 96 [(2,.pt 8002 0 0),(4,.pt 8004 0 0),(5,nI 0),(6,Z2 l),(8,.pt 32008 0 0),(10,nI k),(11,.pt 64011 0 0),(13,.ow 73065)],(73065,.arr 35 1 ((CU h l a).fs.map wD))::(64011,.box 52 [nI (Z6 h a).1.K,nI (Z6 h a).1.length,u32 (Z6 h a).1.map])::GD h b ns,11⟩)) (Bp (S:=λj=>(qiL h l b ns k a j).st) (BN h a).length kr (λj c=>Zbv h l b ns k a g f d hl j c) (ZbP h l b ns k a g f d hl)) kr
end
def qnL(h:Heap)(l roots:List Int)(k:Nat):Tg:=⟨tm 96 [(2,.pt 8002 0 0),(4,.pt 8004 0 0),(5,nI 0),(6,Z2 l),(8,.pt 32008 0 0),(10,nI k)],GD h (roots.map (ET l)) ((l.take k).map (CU h l)),7⟩
section
variable(h:Heap)(l roots:List Int)(O:AL h roots l)(a:Zx h.W)(hl:roots.length<=1000)
include O a hl
omit a in
theorem Zcu(i:Nat)(d:i<roots.length):CP (Zm f26 0) (qgL h l roots i).st .nrm (qgL h l roots (i+1)).st:=by
 have ll:=O.len;have e0:(roots.take i).length=i:=by rw[LM];omega
 have nr:=Z5U l (roots.getD i M);have b:=Z6W (ET l) d;have c:ET l (roots.getD i M)=E3 l (roots.getD i M)-1:=rfl;unfold qgL GD;rw[b,c];exact sF [(56042,33008)] []<|Fh 42 [.els (Lc iD (Lc (ET l) (Li i roots)++[E3 l (roots.getD i M)-1]))]<|FN 28 29 37 wD roots i<|Fc 39 (@Z9B l (roots.getD i M) oq)<|Fi 40 (E3 l (roots.getD i M)-1)<|Fs 41 (Lc iD [E3 l (roots.getD i M)-1])<|Fa (by(simp[*];omega):(Lc iD (Lc (ET l) (Li i roots))).length+(Lc iD [E3 l (roots.getD i M)-1]).length<=2^30)<|Fa (ms:Lc iD (Lc (ET l) (Li i roots))++Lc iD [E3 l (roots.getD i M)-1]=Lc iD (Lc (ET l) (Li i roots)++[E3 l (roots.getD i M)-1]))<|Fx 31 i Fz
omit O a hl in
theorem ZhY:CP (Zm f26 0) (qgL h l roots roots.length).st (.ext 0) (Tg.st ⟨tm 96 [(2,.pt 8002 0 0),(4,.pt 8004 0 0),(5,nI 0),(6,Z2 l),(8,.pt 32008 0 0)],GD h (roots.map (ET l)) [],6⟩):=by have e:roots.take roots.length=roots:=Xb;unfold qgL GD;rw[e];exact sF [] []<|FO 28 29 wD roots Fz
theorem Zk9:CP (Zi f26 0) (Tg.st ⟨tm 96 [(1,Z2 roots),(2,.pt 8002 0 0),(4,.pt 8004 0 0),(5,nI 0),(6,Z2 l),(8,.pt 32008 0 0),(9,nI 0)],[(32008,.box 61 [.ow 33008,.ow 34008]),(34008,.arr 120 4 []),(33008,.arr 3 1 []),(8004,.box 61 [.ow 9004,.ow 10004]),(10004,.arr 120 4 []),(9004,.arr 3 1 []),(8002,.box 28 [nI h.C.pw,nI h.C.pg,.d (.sl 1 (h.W.map wD)),.d (.sl 4 (h.P.map Z0.dv)),nI h.S,nI h.B])],6⟩) .nrm (Tg.st ⟨tm 96 [(2,.pt 8002 0 0),(4,.pt 8004 0 0),(5,nI 0),(6,Z2 l),(8,.pt 32008 0 0)],GD h (roots.map (ET l)) [],6⟩):=
 Bp (S:=λi=>(qgL h l roots i).st) roots.length kr (λi b=>Zcu h l roots O hl i b) (ZhY h l roots)
theorem ZiZ(k:Nat)(c:k<l.length):CP (Zm f26 2) (qnL h l roots k).st .nrm (qnL h l roots (k+1)).st:=by
 have ll:=O.len;have hp:=O.p;have n0:=O.n0;have b:=ZT.2 ⟨k,c,rfl⟩;have e:=O.el _ b;have cl:=O.cl _ b;have ox:=Iq h _ e;have e0:(l.take k).length=k:=by rw[LM];omega
 have d:=Z6W (CU h l) c;unfold qnL GD;rw[d];exact sF [(88093,34008)] []<|Fh 93 [.els (Lc BF.dv (Lc (CU h l) (Li k l)++[BF.mk (Z6 h (l.getD k M)).1 (CU h l (l.getD k M)).fs]))]<|FN 46 47 54 wD l k<|Fc 56 (@Z7l h (l.getD k M) aa aa aa)<|Fek 63 wD l (↑k) k<|Fc 65 (@ZdP h (l.getD k M) aa aa aa)<|Fu (@Zl1 h l (Lc (ET l) roots) (Lc (CU h l) (Li k l)) k (l.getD k M) aa aa aa aa)<|Fs 92 (Lc BF.dv [BF.mk (Z6 h (l.getD k M)).1 (CU h l (l.getD k M)).fs])<|Fa (by(simp[*];omega):(Lc BF.dv (Lc (CU h l) (Li k l))).length+(Lc BF.dv [BF.mk (Z6 h (l.getD k M)).1 (CU h l (l.getD k M)).fs]).length<=2^30)<|Fa (ms:Lc BF.dv (Lc (CU h l) (Li k l))++Lc BF.dv [BF.mk (Z6 h (l.getD k M)).1 (CU h l (l.getD k M)).fs]=Lc BF.dv (Lc (CU h l) (Li k l)++[BF.mk (Z6 h (l.getD k M)).1 (CU h l (l.getD k M)).fs]))<|Fx 49 k Fz
omit O a hl in
theorem Zkv:CP (Zm f26 2) (qnL h l roots l.length).st (.ext 2) (Tg.st ⟨tm 96 [(4,.pt 8004 0 0),(5,nI 0),(8,.pt 32008 0 0)],GD h (roots.map (ET l)) (l.map (CU h l)),7⟩):=by have e:l.take l.length=l:=Xb;unfold qnL GD;rw[e];exact sF [] []<|FO 46 47 wD l Fz
def Zf9  := Bp (S:=λk=>(qnL h l roots k).st) l.length (by kernel_rfl) (λk b=>ZiZ h l roots O a hl k b) (Zkv h l roots)
end
section
variable(h:Heap)(roots:List Int)(b:Zx h.W)(hl:roots.length<=1000)(a:CQ roots)
include b hl a
theorem ZcT(e:(BW h roots).2≠0):GP 26 [h.av,Z2 roots] Lb (.tu [.ag [ZC [],.d (.sl 4 (([]:List BF).map BF.dv))],nI (BW h roots).2]) []:=by exact gF [] func26 []<|Fh 4 [.gh 3 1,.int 0,.gh 120 4,.int 1]<|Fc 19 (@Z8t h roots aa aa aa)<|Ftb 23 ((BW h roots).2 != 0)<|Fnl (Fnl Fz)
theorem ZbV(e:(BW h roots).2=0):GP 26 [h.av,Z2 roots] Lb (.tu [.ag [ZC (roots.map (ET (BW h roots).1)),.d (.sl 4 (((BW h roots).1.map (CU h (BW h roots).1)).map BF.dv))],nI 0]) []:=by have ol:=Z6O h roots b hl a e;exact gF [] func26 []<|Fh 4 [.gh 3 1,.int 0,.gh 120 4,.int 1]<|Fh 8 [.gh 3 1,.int 0,.gh 120 4,.int 1]<|Fc 19 (@Z8t h roots aa aa aa)<|Ffb 23 ((BW h roots).2 != 0)<|Fu (@Zk9 h ((BW h roots).1) roots aa aa aa)<|Fu (@Zf9 h ((BW h roots).1) roots aa aa aa) Fz
end
def Z7D(ns:List BF):Prop:=ns.length<=16384/\∀n∈ns,(0<=n.hd.map/\n.hd.map<=4294967295)/\n.fs.length<=1048576
def ZjD{h roots l}(O:AL h roots l)(d:Zx h.W):Z7D (l.map (CU h l)):=by refine⟨by rw[Lq];exact O.len,λn c=>?_⟩;obtain⟨a,b,rfl⟩:=LH.1 c;have f:=Ru O.p (O.el a b);refine⟨Hy d a, ?_⟩;show(HR l (BN h a) (Zk (Z6 h a).1) (Zk (Z6 h a).1).length).length<=1048576;rw[DW];omega
section
variable(h:Heap)(roots:List Int)(a:Zx h.W)(hl:roots.length<=1000)(b:CQ roots)
include a hl b
theorem Z82:GP 26 [h.av,Z2 roots] Lb (.tu [.ag [ZC (E0 h roots).1.roots,.d (.sl 4 ((E0 h roots).1.nodes.map BF.dv))],nI (E0 h roots).2]) []:=by unfold E0;by_cases e:(BW h roots).2=0;rw[if_pos e];exact ZbV h roots a hl b e;rw[if_neg e];exact ZcT h roots a hl b e
theorem ZlQ:Z7D (E0 h roots).1.nodes/\(E0 h roots).1.roots.length<=1000:=by unfold E0;by_cases e:(BW h roots).2=0;rw[if_pos e];exact⟨ZjD (Z6O _ _ a hl b e) a,by simpa[Z2O]using hl⟩;rw[if_neg e];exact⟨⟨Lo _,by simp⟩,Lo _⟩
end
structure Gp8 (a:So):Prop where
 r:a.roots.length<=1048576
 n:a.nodes.length<=1048576
 f:∀x∈a.nodes,x.fs.length<=1048576
def gsC(a:So):List AV:=[ZC a.roots,.d (.sl 4 (a.nodes.map BF.dv))]
def gsA(a:So)(i:Nat):Tg:=⟨tm 77 [(2,.pt 8002 0 0),(3,.pt 8003 0 0),(4,bL Lb),(5,nI i)],[(8003,.box 61 (gsC a)),(8002,.box 61 (gsC a))],5⟩
def gsB(a:So)(i:Nat):Tg:=⟨tm 77 [(2,.pt 8002 0 0),(3,.pt 8003 0 0),(4,bL Lb),(6,nI i)],[(8003,.box 61 (gsC a)),(8002,.box 61 (gsC a))],8⟩
section
variable(a:So)(g:Gp8 a)
include g
theorem Zi9(i:Nat)(hi:i<a.roots.length):CP (Zm f40 0) (gsA a i).st .nrm (gsA a (i+1)).st:=by obtain⟨g1,g2,g3⟩:=g;exact sF [] []<|FN 26 27 33 iD a.roots i<|Fek 38 iD a.roots (↑i) i<|Ffs 40 (a.roots.getD i M != a.roots.getD i M)<|Fx 29 i Fz
theorem Zl6:CP (Zm f40 0) (gsA a a.roots.length).st (.ext 0) (Tg.st ⟨tm 77 [(2,.pt 8002 0 0),(3,.pt 8003 0 0),(4,bL Lb)],[(8003,.box 61 (gsC a)),(8002,.box 61 (gsC a))],60⟩):=by exact sF [] []<|FO 26 27 iD a.roots Fz
def ZiL  := Bp (S:=λi=>(gsA a i).st) a.roots.length (by kernel_rfl) (λi b=>Zi9 a g i b) (Zl6 a g)
theorem Zbo(i:Nat)(b:i<a.nodes.length):CP (Zm f40 2) (gsB a i).st .nrm (gsB a (i+1)).st:=by
 obtain⟨g1,g2,c⟩:=g;have f:(a.nodes.getD i M).fs.length<=1048576:=c _ (by rw[Lg,Lm b];exact List.getElem_mem b);have hz:(!((a.nodes.getD i M).hd.K==(a.nodes.getD i M).hd.K&&((a.nodes.getD i M).hd.length==(a.nodes.getD i M).hd.length&&(a.nodes.getD i M).hd.map==(a.nodes.getD i M).hd.map)))=Lb:=by simp
 exact sF [] [] (FN 44 45 51 BF.dv a.nodes i (Fek 57 BF.dv a.nodes (↑i) i (FeG 65 (!!((a.nodes.getD i M).hd.K==(a.nodes.getD i M).hd.K&&((a.nodes.getD i M).hd.length==(a.nodes.getD i M).hd.length&&(a.nodes.getD i M).hd.map==(a.nodes.getD i M).hd.map))) BF.dv a.nodes (↑i) i (FeG 71 (!!((a.nodes.getD i M).hd.K==(a.nodes.getD i M).hd.K&&((a.nodes.getD i M).hd.length==(a.nodes.getD i M).hd.length&&(a.nodes.getD i M).hd.map==(a.nodes.getD i M).hd.map))) BF.dv a.nodes (↑i) i (FcG 74 (!!((a.nodes.getD i M).hd.K==(a.nodes.getD i M).hd.K&&((a.nodes.getD i M).hd.length==(a.nodes.getD i M).hd.length&&(a.nodes.getD i M).hd.map==(a.nodes.getD i M).hd.map))) (λd=>by(try simp only[bs]at d);exact@ZgI ((a.nodes.getD i M).fs) aa) (Ffs 76 (!((a.nodes.getD i M).hd.K==(a.nodes.getD i M).hd.K&&((a.nodes.getD i M).hd.length==(a.nodes.getD i M).hd.length&&(a.nodes.getD i M).hd.map==(a.nodes.getD i M).hd.map))||Lb) (Fx 47 i Fz)))))))
theorem Zck:CP (Zm f40 2) (gsB a a.nodes.length).st (.ext 2) (Tg.st ⟨tm 77 [(4,bL Lb)],[],60⟩):=by exact sF [] []<|FO 44 45 BF.dv a.nodes Fz
def Zkn  := Bp (S:=λi=>(gsB a i).st) a.nodes.length (by kernel_rfl) (λi b=>Zbo a g i b) (Zck a g)
theorem Zfd:GP 40 [.ag [ZC a.roots,.d (.sl 4 (a.nodes.map BF.dv))],.ag [ZC a.roots,.d (.sl 4 (a.nodes.map BF.dv))]] La (bL La) []:=by have g1:=g.r;have g2:=g.n;let b:=!(a.roots.length:Int) != (a.roots.length:Int);exact gF [] func40 []<|Fl 9 iD a.roots<|Fl 12 iD a.roots<|FlG 17 b BF.dv a.nodes<|FlG 20 b BF.dv a.nodes<|Ffs 22 ((a.roots.length:Int) != (a.roots.length:Int)||(a.nodes.length:Int) != (a.nodes.length:Int))<|Fu (@ZiL a aa)<|Fu (@Zkn a aa) Fz
end
def Zcm(a b:So)(g:Gp8 a)(e:b=a):GP 40 [.ag [ZC a.roots,.d (.sl 4 (a.nodes.map BF.dv))],.ag [ZC b.roots,.d (.sl 4 (b.nodes.map BF.dv))]] La (bL La) []:=e▸Zfd a g
theorem Z52(hd:Zz):∀n:Nat,(BQ hd n).Nodup
 |0=>Lw
 |n+1=>by
  have c:=Z52 hd n;unfold BQ;split
  .rw[LV];refine⟨c,by simp,λa d b hb=>?_⟩;have:=(Ac hd n a d).2;grind
  .exact c
def Z97(hd:Zz):(Zk hd).Nodup:=by grind[Zk,Z52]
def Z9S(hd:Zz)(fs:List Int)(f:Int->Int):∀n:Nat,(∀k:Nat,k<n->fs.getD k M=f k)->Gs hd fs n=(BQ hd n).map f
 |0,_=>rfl
 |n+1,h=>by
  unfold Gs BQ;rw[Z9S hd fs f n (λk hk=>h k oq),h n oq];grind
def Gd.refs{h T}(g:Gd h T){i}{x:Int}(b:x∈T i)(a:CJ h.W x≠0):HX h x=(Zk (ZY h.W x)).map λj=>(Z1 h.W (x+1+j)).1:=by obtain⟨e,l,f⟩:=g.fields b a;unfold HX;rw[e,Z9S _ _ (λj=>(Z1 h.W (x+1+j)).1) _ (λk a=>f k oq),show(C0 h x).1.length=(Zl h.W x).toNat by omega];unfold Zk;rw[if_pos (show ZU (ZY h.W x)=La from AY _)];rfl
theorem Zb6{w}(j:Bb w)(h:BA w){n:Int}(f:1<=n)(g:n<=w.j.C.pw)(b:(w.place n).2.2=La):(w.place n).2.1∉w.Q:=by obtain⟨i,p,t,a,h2,h3,h4,h5,h6,h7,h8,e⟩:=P3 j ⟨f,g⟩ b;have d:=h.f i a (by grind);intro c;have q:=d _ (Ll _ c);have:=Bq w.j.W (w.place n).2.1;omega
def Z4p{l:List Int}{a:Int}(h:l.Nodup)(ha:a∉l):(l++[a]).Nodup:=by grind
def Zkd{w}(n:Bb w)(h:BA w){r}(e:(w.fwd r).2.2=0)(nd:w.Q.Nodup):(w.fwd r).1.Q.Nodup:=by
 unfold Z7.fwd at e⊢;split at e;grind;rename_i c1;rw[if_neg c1];have a:r∉w.Q:=λq=>c1 (.inr q);split at e;simp at e;rename_i c2;rw[if_neg c2];have d:r∈w.old:=LB.1 c2;split at e;grind;rename_i c3;rw[if_neg c3];split at e;simp at e;rename_i c4;rw[if_neg c4];split at e;rename_i f;rw[if_pos f];exact Z4p nd a;rename_i f;rw[if_neg f];split at e;rename_i b;rw[if_pos b];exact Z4p nd a;rename_i b;rw[if_neg b];split at e;simp at e;rename_i j;rw[if_neg j];have g:(w.place (Z5 (ZB w r))).2.2=La:=by grind
 have c:=h.z r d;have l:=Bq w.j.W r;have hd:=GX w r;have m:Z5 (ZB w r)<=w.j.C.pw:=by(rcases c with c|c;exact absurd c b;omega)
 obtain⟨i,p,t,p1,p2,p3,p4,p5,p6,p7,k⟩:=Pa n ⟨by omega,m⟩ g;have hq:(w.place (Z5 (ZB w r))).1.Q=w.Q:=by rw[k]
 show((w.place (Z5 (ZB w r))).1.Q++[_]).Nodup;grind[Zb6]
structure RO (h:Heap) (T:Nat->List Int) (w:Z7) (out:List Int) (n:Nat):Prop where
 b:SW h T w
 nd:w.Q.Nodup
 l:w.Q.length=out.length
 i:∀i,i<out.length->out.getD i M∈w.old/\CX w (out.getD i M)=w.Q.getD i M
 s:∀y∈w.old,CX w y≠0->y∈out
 un:∀y∈w.old,CX w y=0->∀m,0<=m->m<=Zl h.W y->(Z1 w.j.W (y+m)).1=(Z1 h.W (y+m)).1
 uq:∀i,n<=i->i<out.length->∀m,0<=m->m<=Zl h.W (out.getD i M)->(Z1 w.j.W (w.Q.getD i M+m)).1=(Z1 h.W (out.getD i M+m)).1
def RO.begin{h T}(g:Gd h T)(c:Zx h.W):RO h T (Zr h) [] 0:=
 ⟨SW.begin g c,Lw,rfl,λi a=>absurd a (Lu i),λy b q=>absurd (Z1O g b).1 q,λy b _ m _ _=>rfl,λi _ a=>absurd a (Lu i)⟩
def Mh{l:List Int}{a:Int}{k:Nat}:(l++[a]).getD k M=if k<l.length then l.getD k M else if k=l.length then a else M:=by grind
section
variable{h:Heap}{T:Nat->List Int}{w:Z7}{out:List Int}{n:Nat}(o:RO h T w out n)(g:Gd h T)(d:MV h)
include o g d
theorem RO.fwd{r:Int}(b:r=0\/r∈w.old):(w.fwd r).2.2=0/\RO h T (w.fwd r).1 (C7 out r) n/\(w.fwd r).2.1=(if r=0 then 0 else CX (w.fwd r).1 r):=by
 rcases b with rfl|b;grind[Z7.fwd,C7];obtain⟨tq,k⟩:=o.b.o.c.k;obtain⟨i0,s,a1⟩:=(k.old r).1 b;have r0:r≠0:=by have:=g.inw s;omega
 rw[if_neg r0];by_cases l:CX w r=0;obtain⟨i0,hx,e,N⟩:=o.b.o.new g d b l;obtain⟨s1,v,x,z,s5⟩:=o.b.o.seen g d b;have a0:=(Nt o.b.o.c.ok o.b.o.c.inv r e).2.2;have no:r∉out:=λc=>by(obtain⟨j,i,ej⟩:=ZT.1 c;have q:=(o.i j i).2;rw[ej,l]at q;have:=o.b.o.c.inv.r 0 (Ll _ (ZT.2 ⟨j,by rw[o.l];exact i,q.symm⟩));omega)
 have ea:C7 out r=out++[r]:=by grind[C7]
 rw[ea];have t:=o.l;refine⟨e,⟨(o.b.fwd g d (.inr (.inr b))).2.1,Zkd o.b.o.c.ok o.b.o.c.inv e o.nd,by grind,λj i=>?_,λy f a=>?_,λy f a m m0 m1=>?_,λj i p m m0 m1=>?_⟩,v.symm⟩;rw[N.o,N.q,Mh,Mh,t];rw[Lp,Lv]at i;by_cases q:j<out.length;rw[if_pos q,if_pos q];have:=o.i j q;grind;grind;rw[z]at f;by_cases q:y=r;rw[q];simp;rw[x y f q]at a;exact Ls _ (o.s y f a);rw[z]at f;have q:y≠r:=λq=>s1 (v.symm.trans (q▸a));rw[x y f q]at a;have u:=o.un y f a;have ey:=(Ek (by have:=u 0 oq (Bq _ _).1;omega)).2.1;grind;rw[Lp,Lv]at p;rw[Mh]at m1⊢;rw[N.q,Mh,t];by_cases q:j<out.length;rw[if_pos q]at m1⊢;rw[if_pos q];have u:=o.uq j i q;have hq:w.Q.getD j M∈w.Q:=ZT.2 ⟨j,by omega,rfl⟩;have ey:Zl w.j.W (w.Q.getD j M)=Zl h.W (out.getD j M):=by(have:=u 0 oq (Bq _ _).1;simp only[Lx]at this;grind[Zl])
 grind;have:j=out.length:=by omega
 rw[if_neg q,if_pos this]at m1⊢;rw[if_neg q,if_pos this];rw[N.x m m0 m1];exact o.un r b l m m0 m1;rw[o.b.o.same g d b l,C7,if_pos (.inr (o.s r b l))];grind
omit d in
theorem RO.old{x j:Int}(m:x∈w.old)(f:j∈Zk (ZY h.W x)):(Z1 h.W (x+1+j)).1=0\/(Z1 h.W (x+1+j)).1∈w.old:=by obtain⟨tq,k⟩:=o.b.o.c.k;obtain⟨p,e,c⟩:=(k.old x).1 m;have b:=NZ _ j f;refine(g.q p x j e c b.1 b.2 (TH _ j f)).imp id λ⟨a,i,l⟩=>(k.old _).2 ⟨a,i,l⟩
theorem RO.in1{a:Nat}(ha:a<n)(hn:a<out.length){j:Int}(hj:0<=j/\j<Zl h.W (out.getD a M))(hq:ZY w.j.W (w.Q.getD a M)=ZY h.W (out.getD a M))(hv:(Z1 w.j.W (w.Q.getD a M+1+j)).1=0\/(Z1 w.j.W (w.Q.getD a M+1+j)).1∈w.old) :(w.fwd (Z1 w.j.W (w.Q.getD a M+1+j)).1).2.2=0/\RO h T (w.in1 (w.Q.getD a M+1+j)) (C7 out (Z1 w.j.W (w.Q.getD a M+1+j)).1) n/\(w.in1 (w.Q.getD a M+1+j)).Q.getD a M=w.Q.getD a M /\
  ZY (w.in1 (w.Q.getD a M+1+j)).j.W (w.Q.getD a M)=ZY h.W (out.getD a M)/\(∀m,0<=m->m<Zl h.W (out.getD a M)->m≠j->Z1 (w.in1 (w.Q.getD a M+1+j)).j.W (w.Q.getD a M+1+m)=Z1 w.j.W (w.Q.getD a M+1+m)):=by
 obtain⟨e,f,_⟩:=o.fwd g d hv;have l:w.Q.getD a M∈w.Q:=ZT.2 ⟨a,by have:=o.l;omega,rfl⟩;generalize a3:w.Q.getD a M=q at *;have hl:Zl w.j.W q=Zl h.W (out.getD a M):=congrArg Zz.length hq;have hw:=o.b.o.c.ok;have iv:=o.b.o.c.inv;have S:=o.b.in1 g d l hj.1 oq e;obtain⟨tq,k⟩:=o.b.o.c.k;obtain⟨i1,x1⟩:=NE hw iv _ e;have sm:=Tc hw iv _ e;have fs:=(Nt hw iv _ e).2.2;have s:=x1.q q l;have a5:=x1.l q l;have hr:=i1.r q (Ll _ s);generalize a7:(Z1 w.j.W (q+1+j)).1=v at *;have a4:4096<=q+1+j/\q+1+j<4096+(w.fwd v).1.j.W.length:=by omega
 have a1:∀x∈(w.fwd v).1.old++(w.fwd v).1.Q,∀i,0<=i->i<=Zl (w.fwd v).1.j.W x->x+i=q+1+j->x=q:=by(intro x hx i y0 b c;have l1:=i1.s q (Ll _ s) x hx;have l2:=i1.s x hx q (Ll _ s);omega)
 have wd:∀z,z≠q+1+j->Z1 (w.in1 (q+1+j)).j.W z=Z1 (w.fwd v).1.j.W z:=λz hz=>by(grind[Z7.in1,Gj])
 have hh:∀x∈(w.fwd v).1.old++(w.fwd v).1.Q,Z1 (w.in1 (q+1+j)).j.W x=Z1 (w.fwd v).1.j.W x:=λx hx=>wd x λc=>by(have:=a1 x hx 0 oq (Bq _ _).1 oq;omega)
 have a0:(w.in1 (q+1+j)).Q=(w.fwd v).1.Q:=by grind[Z7.in1]
 have t:(w.in1 (q+1+j)).old=(w.fwd v).1.old:=by grind[Z7.in1]
 have se:∀y∈(w.fwd v).1.old,CX (w.in1 (q+1+j)) y=CX (w.fwd v).1 y:=λy r=>by(grind[CX])
 have fl:=f.l;have ln:=o.l;have gq:(w.fwd v).1.Q.getD a M=q:=by rw[sm.get oq];exact a3
 have ao:a<(C7 out v).length:=by grind[C7]
 refine⟨e,⟨S.1,by rw[a0];exact f.nd,by grind,λi hi=>?_,λy r p=>?_,λy r p m m0 m1=>?_,λi hi a2 m m0 m1=>?_⟩,by grind,(S.2 q l).2.trans hq,λm m0 m1 hm=>?_⟩;grind[i];rw[t]at r;rw[se y r]at p;exact f.s y r p;rw[t]at r;rw[se y r]at p;have u:=f.un y r p;have ey:=(Ek (by have:=u 0 oq (Bq _ _).1;omega)).2.1;grind[CX];rw[a0];have u:=f.uq i hi a2;have a6:(w.fwd v).1.Q.getD i M∈(w.fwd v).1.Q:=ZT.2 ⟨i,by omega,rfl⟩;have ey:Zl (w.fwd v).1.j.W ((w.fwd v).1.Q.getD i M)=Zl h.W ((C7 out v).getD i M):=by(have:=u 0 oq (Bq _ _).1;simp only[Lx]at this;grind[Zl])
 grind[nd,List.getElem?_inj];rw[wd _ oq,show q+1+m=q+(1+m) by omega,fs q (Ll _ l) (.inl l) (1+m) oq oq]
theorem RO.inn{q x:Int}{l:List Int}(r:n<out.length)(hq:w.Q.getD n M=q)(hx:out.getD n M=x)(hl:Zk (ZY h.W x)=l):∀k,k<=l.length->RO h T (Bg w q l k) (addN out (l.map λj=>(Z1 h.W (x+1+j)).1) k) (n+1)/\(∀j,j<k->CL w q l j=0)/\(Bg w q l k).Q.getD n M=q/\ZY (Bg w q l k).j.W q=ZY h.W x /\ (addN out (l.map λj=>(Z1 h.W (x+1+j)).1) k).getD n M=x/\n<(addN out (l.map λj=>(Z1 h.W (x+1+j)).1) k).length/\∀m,0<=m->m<Zl h.W x->(∀i,i<k->l.getD i M≠m)->(Z1 (Bg w q l k).j.W (q+1+m)).1=(Z1 h.W (x+1+m)).1
 |0,_=>by
  subst hq;subst hx;have u:=o.uq n (Le _) r;refine⟨⟨o.b,o.nd,o.l,o.i,o.s,o.un,λi z=>o.uq i oq⟩,λj e=>absurd e (Lu j),rfl, ?_,rfl,r,λm m0 m1 _=>?_⟩
  .have:=u 0 oq (Bq _ _).1;simp only[Lx]at this;show ZY w.j.W _=_;rw[ZY,ZY,this]
  .have:=u (1+m) oq oq;rw[<-LC,<-LC]at this;exact this
 |k+1,hk=>by
  obtain⟨t,i2,v,i4,b,f,i7⟩:=RO.inn r hq hx hl k oq;have e:l.getD k M∈Zk (ZY h.W x):=by rw[hl];exact ZT.2 ⟨k,by omega,rfl⟩
  have y:=NZ _ _ e;have nd:=Z97 (ZY h.W x);rw[hl]at nd;have s:∀i,i<k->l.getD i M≠l.getD k M:=λi z c=>by
   simp only[Lg]at c;rw[Lm oq,Lm oq]at c;have:=(List.getElem_inj nd).1 c;omega
  have ev:=i7 (l.getD k M) y.1 y.2 s;have xo:x∈(Bg w q l k).old:=by
   have:=(t.i n f).1;rw[b]at this;exact this
  have ov:=t.old g xo e;rw[<-ev]at ov;obtain⟨c1,c2,c3,c4,p⟩:=t.in1 g d (a:=n) oq f (j:=l.getD k M) (by rw[b];exact y) (by rw[v,b];exact i4) (by rw[v];exact ov);rw[v]at c1 c2 c3 c4 p;rw[b]at c4 p;rw[ev]at c2;have em:(l.map λj=>(Z1 h.W (x+1+j)).1).getD k M=(Z1 h.W (x+1+l.getD k M)).1:=by
   simp only[Lg,L3,Lm (show k<l.length by omega),Xd,LA]
  have e2:addN out (l.map λj=>(Z1 h.W (x+1+j)).1) (k+1)=C7 (addN out (l.map λj=>(Z1 h.W (x+1+j)).1) k) (Z1 h.W (x+1+l.getD k M)).1:=by rw[addN,em]
  rw[e2];refine⟨c2,λj e=>?_,c3,c4, ?_, ?_,λm m0 m1 hm=>?_⟩
  .by_cases c:j=k
   .rw[c];exact c1
   .exact i2 j oq
  .unfold C7;split
   .exact b
   .rw[Mh,if_pos f];exact b
  .unfold C7;split
   .exact f
   .rw[Lp];omega
  .show(Z1 ((Bg w q l k).in1 (q+1+l.getD k M)).j.W (q+1+m)).1=_;rw[p m m0 m1 (λc=>hm k oq c.symm)];exact i7 m m0 m1 λi z=>hm i oq
theorem RO.step(f:n<out.length)(hs:w.D=n):RO h T (B1 w).1 (addN out (HX h (out.getD n M)) (HX h (out.getD n M)).length) (n+1)/\(B1 w).2.1=La/\(B1 w).1.D=(n+1:Nat):=by
 have s:=(o.i n f).1;obtain⟨tq,k⟩:=o.b.o.c.k;obtain⟨i0,i,e⟩:=(k.old _).1 s;have m:=g.refs i e;have p:ZY w.j.W (w.Q.getD n M)=ZY h.W (out.getD n M):=by(have:=o.uq n (Le _) f 0 oq (Bq _ _).1;simp only[Lx]at this;grind[ZY])
 have l:C4 w=w.Q.getD n M:=by grind[C4]
 have r:Bj w=Zk (ZY h.W (out.getD n M)):=by unfold Bj ZB;rw[l];exact congrArg Zk p
 obtain⟨a,i2,_⟩:=o.inn g d f rfl rfl rfl _ (Le _);have q:w.D<w.Q.length:=by rw[hs,o.l];omega
 have hb:(Lf (Bj w).length).find? (λk=>Lk (CL w (C4 w) (Bj w) k≠0))=Ld:=Ly.2 λj hj=>by(grind)
 have c:B1 w=(HC (Bg w (C4 w) (Bj w) (Bj w).length) (Bj w).length,La,0):=by grind[B1]
 have b:=o.b.step g d;have so:=(PN o.b.o.c.ok b.1).2 (by rw[c]);refine⟨?_,by rw[c],by omega⟩;have b:=b.2;rw[c]at b⊢;rw[l,r]at b⊢;rw[m,Lq];exact⟨b,a.nd,a.l,a.i,a.s,a.un,a.uq⟩
end
def GA(h:Heap)(roots:List Int):Nat->List Int|0=>addN [] roots roots.length|i+1=>addN (GA h roots i) (HX h ((GA h roots i).getD i M)) (HX h ((GA h roots i).getD i M)).length
structure Z36 (h:Heap) (roots:List Int) (k:Nat):Prop where
 r:(Lf roots.length).find? (Cj roots (Zb h).1)=Ld
 o:∀i,i<k->i<(GA h roots i).length/\CQ (HX h ((GA h roots i).getD i M))/\(Lf (HX h ((GA h roots i).getD i M)).length).find? (Cj (HX h ((GA h roots i).getD i M)) (Zb h).1)=Ld
 e:(GA h roots k).length<=k
 u:∀i,i<=k->(GA h roots i).length<=1048576/\CQ (GA h roots i)
def Z5d{refs all:List Int}(h:∀r∈refs,r=0\/r∈all):(Lf refs.length).find? (Cj refs all)=Ld:=
 Ly.2 λj a=>by
  have:=h _ (ZT.2 ⟨j,Lj.1 a,rfl⟩);unfold Cj;simp only[decide_eq_true_eq,not_and,LB];exactλc=>this.resolve_left c
section
variable{h:Heap}{T:Nat->List Int}(g:Gd h T)(a:MV h){s:List Int}(hs:∀r∈s,r=0\/Ob h T r)(b:Zx h.W)
include g a hs b
theorem RO.roots:∀k,k<=s.length->RO h T (rootsN (Zr h) s k).1 (addN [] s k) 0/\(rootsN (Zr h) s k).1.D=0
 |0,_=>⟨RO.begin g b,rfl⟩
 |k+1,hk=>by
  obtain⟨c,e⟩:=RO.roots k oq;obtain⟨tq,i⟩:=c.b.o.c.k;have d:=(hs _ (ZT.2 ⟨k,by omega,rfl⟩)).imp id λq=>(i.old _).2 q;have f:=c.fwd g a d;exact⟨f.2.1,(Nt c.b.o.c.ok c.b.o.c.inv _ f.1).2.1.trans e⟩
theorem RO.it:∀k,(∀j,j<k->j<(GA h s j).length)->RO h T (Cc (rootsF (Zr h) s).1 k) (GA h s k) k/\(Cc (rootsF (Zr h) s).1 k).D=k
 |0,_=>by
  obtain⟨c,d⟩:=RO.roots g a hs b s.length (Le _);obtain⟨e,_⟩:=SW.roots g a hs b;rw[e];exact⟨c,d⟩
 |k+1,hk=>by
  obtain⟨c,d⟩:=RO.it k (λj hj=>hk j oq);obtain⟨f,_,i⟩:=c.step g a (hk k oq) d;exact⟨f,i⟩
theorem Zb9:∃k,Z36 h s k/\RO h T (ZF h s) (GA h s k) k/\(ZF h s).D=k/\(GA h s k).length=k/\ZF h s=Cc (rootsF (Zr h) s).1 k:=by
 obtain⟨e,sw⟩:=SW.roots g a hs b;obtain⟨k,hk⟩:=SC sw.o.c.ok;obtain⟨h1,h2,h3⟩:=LD.1 hk;have w:=λj=>((sw.it g a j).step g a).1;have d:∀j,j<=k->∀i,i<j->i<(GA h s i).length:=by
  intro j;induction j with
  |zero=>intro _ i f;omega
  |succ j ih =>
   intro o i f;by_cases q:i=j;subst q;obtain⟨l,u⟩:=RO.it g a hs b i (ih oq);have m:Ep (rootsF (Zr h) s).1 i=Lb:=by simpa using h3 i oq
   have:=(Z4t (Z8E m)).1;rw[u,l.l]at this;omega;exact ih oq i oq
 obtain⟨l,u⟩:=RO.it g a hs b k (d k (Le _));have m:(B1 (Cc (rootsF (Zr h) s).1 k)).2.1=Lb:=by(simp only[Ep,decide_eq_true_eq,w k]at h1;simpa using h1)
 obtain⟨n1,n2⟩:=step_end (w k) m;have v:ZF h s=Cc (rootsF (Zr h) s).1 k:=by rw[ZF,Bz,hk];simp only[if_pos (w k)];exact n2
 have sc:=l.b.o.c.ok.sc;have il:=l.l;rw[u,l.l]at n1;rw[u,l.l]at sc;have t:∀{i:Nat},i<=k->∀x∈(Cc (rootsF (Zr h) s).1 i).old,x∈(Zb h).1:=λ{i} f x z=>by(obtain⟨tq,ki⟩:=(sw.it g a i).o.c.k;exact((KI.begin g).old x).2 ((ki.old x).1 z))
 refine⟨k,⟨Z5d λr p=>(hs r p).imp id λq=>((KI.begin g).old r).2 q,λi f=>(λq=>⟨d k (Le _) i f,λr p=>(q r p).elim (λc=>by omega) (λc=>by have:=Iq h r c;omega),Z5d q⟩) λr p=>?_,by omega,λi f=>?_⟩,by rw[v];exact l,by rw[v];exact u,by omega,v⟩;obtain⟨n,j2⟩:=RO.it g a hs b i (λj o=>d k (Le _) j oq);have xo:=(n.i i (d k (Le _) i f)).1;obtain⟨tq,ki⟩:=n.b.o.c.k;obtain⟨i0,a0,y⟩:=(ki.old _).1 xo;rw[g.refs a0 y]at p;obtain⟨j,o,rfl⟩:=LH.1 p;exact(n.old g xo o).imp id (t oq _);obtain⟨n,j2⟩:=RO.it g a hs b i (λj o=>d k (Le _) j oq);have ln:=n.b.o.c.ck.ln;refine⟨by rw[<-n.l];exact ln.ql,λx z=>?_⟩;obtain⟨j,o,rfl⟩:=ZT.1 z;have:=Iq h _ (t f _ (n.i j o).1);omega
end
end Go.Proofs.YtgedmeaemofdkaaGreat
