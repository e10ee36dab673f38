/-
 The statement CollectWeak: part 17.
 Conditions: none.
-/
import Derived.Test.YtgedmeaemofdkaaGreatW16
set_option maxRecDepth 100000
set_option maxHeartbeats 2000000
set_option linter.all false
open Inhabited renaming default->M
open Bool renaming true->O,false->La
open List renaming map->Lb,mem_append_right->Ld,range->Le,replicate->Lf,getD_eq_getElem?_getD->Lg,mem_range->Lh,getElem?_eq_getElem->Lk,mem_append_left->Ll,mem_append->Lo,find?_eq_none->Lq,mem_singleton->Lr,length_append->Lt,length_singleton->Lu,map_cons->Lv,mem_cons_of_mem->Lw,sum_cons->Lx,getElem?_append_left->LD,getElem_of_mem->LF,nodup_nil->LG,range_succ->LH,ext_getElem->LN,find?_range_eq_some->LO,getElem?_append_right->LQ,getElem?_map->LR,length_map->LS,mem_cons->LU,nodup_append->LV
open Nat renaming le_refl->Lc,not_lt_zero->Lj,zero_le->Lz,le_trans->LW
open Option renaming none->Li,getD_some->LA,map_some->LY
open Decidable renaming decide->Lm,not_not->Ln
open Int renaming add_zero->Lp,add_assoc->Ls,mul_le_mul_of_nonneg_right->Ly,mul_nonneg->LB,toNat_natCast->LC,le_refl->LI,mul_comm->LL,tmod_eq_emod_of_nonneg->LM
open Go.Proofs.Tryz
namespace Go.Proofs.YtgedmeaemofdkaaGreat
open Go.Sx
section
variable {B:Int} (hB:0<=B) {h:Heap} {T:Nat->List Int} (g:Gd h T) {s k:List Int} (hw:Zy h.W) (hb:∀p∈h.P,p.N<=B) (e1:(rootsF (Zo h) s).2.2=0) (e2:(Bu (rootsF (Zo h) s).1).2=0)(gs:GQ h T s) (gk:GQ h T k) (sl:s.length<=1000) (kl:k.length<=1000) (ks:E7 k) (rt:Z3o (Zo h) s) (ln:SG (Zo h)) (al:Z37 (rootsF (Zo h) s).1)
include hB g hw hb e1 e2 gs gk sl kl ks rt ln al
theorem Zek:Z5N h s k (Zo h) (rootsF (Zo h) s).1 (ZF h s) (Cr h s k) (Cw h s k) (Bz h s k) (rootsF (Zo h) s).2.1 (Ec (ZF h s) k k.length):=by
 have ck:=cOk h s k hw g.p e1 e2;obtain⟨q1,q2,q3,q4,q5⟩:=Z17 h s k hw g.p e1 e2;obtain⟨tq,ce,_⟩:=Mt hB g hw hb e1 e2 (k:=k);have ok1:=(RS (roots:=s) (R1 hw g.p) (RB g.p) e1).1;have f2:=ck.w2.fok;refine⟨Zes h hw g.p g.good, ?_, ?_, ?_,ZeC _ k ⟨f2.W,f2.wl,by have:=f2.ql;omega,ck.i2.L,kl,ks,ck.w2.r0.2.2,λx hx=>(gk x hx).imp id λ⟨i,hi,_⟩=>?_⟩, ?_,Zk3 _ q1 ⟨q2,q3⟩ q4 q5 ck.h4.2.2.2.2 (Zhb hB g k hw hb e1 e2),sl,kl,ck.f4.tl, ?_⟩
 .have:=Zab h (s++k) hw qo;rw[g.refers (λx hx=>(Lo.1 hx).elim (gs x) (gk x))]at this;exact this
 .have:=Zdb (Zo h) s rt oq ln;rw[e1]at this;exact this
 .exact Zk5 _ ok1 al
 .have:=ZfF (Cr h s k) (Z8h hB g k hw hb e1 e2).fiOk;rw[Zbg hB g k hw hb e1 e2]at this;exact this
 .have sp:=ck.w2.sp;rw[<-ck.h4.2.2.1]at sp;exact sp
 .rw[ce.k.c,g.ofx hi]
theorem Zap:GP 35 [h.av,Z3 s,Z3 k] La (.tu [(collectF h s k).1.av,Z3 (collectF h s k).2.1,Z3 (collectF h s k).2.2.1,.ag (collectF h s k).2.2.2.1.cells,int (collectF h s k).2.2.2.2]) []:=by
 have a:collectF h s k=(Eo (Bz h s k),(rootsF (Zo h) s).2.1,Ec (ZF h s) k k.length,(Bz h s k).rep,0):=by rw[collectF,if_pos g.p,if_pos ⟨g.refers gs,g.refers gk⟩,if_pos e1,if_pos e2]
 rw[a];exact Zbf (Zek hB g hw hb e1 e2 gs gk sl kl ks rt ln al)
end
def Bn(f:Z0->Int)(l:List Z0):Int:=(l.map f).sum
def C6(p:Z0):Int:=if p.K=0 then 0 else 1
def Cb(p:Z0):Int:=if p.K=1 then p.U else 0
def unP(p:Z0):Int:=if p.K=1/\¬ 0<p.N then p.U else 0
def Gz(p:Z0):Int:=if p.K=2\/p.K=3 then 1 else 0
def AT f(p:Z0):∀(l:List Z0) (i:Nat),i<l.length->Bn f (l.set i p)+f (l.getD i M)=Bn f l+f p
 |[],i,h=>by simp at h
 |x::l,0,_=>by grind[Bn]
 |x::l,i+1,h=>by
  have:=AT f p l i (by simpa using h);grind[Bn]
def SC(f:Z0->Int){l a:List Z0}(hl:a.length=l.length)(h:∀i,i<l.length->f (a.getD i M)=f (l.getD i M)):Bn f a=Bn f l:=by unfold Bn;congr 1;refine LN (by simpa using hl) λi h1 h2=>?_;grind
theorem Ir f(l:List Z0):Bn f l=((Le l.length).map λi=>f (l.getD i M)).sum:=by unfold Bn;congr 1;refine LN pq λi h1 h2=>?_;grind
def IS{α:Type}{f g:α->Int}:∀{l:List α},(∀x∈l,f x<=g x)->(l.map f).sum<=(l.map g).sum
 |[],_=>by simp
 |x::l,h=>by
  have:=IS (l:=l) λy a=>h y (Lw _ a);grind
def Z2B{α:Type}{f g:α->Int}{n:Int}{r:α}:∀{l:List α},(∀x∈l,f x<=g x)->r∈l->f r+n<=g r->(l.map f).sum+n<=(l.map g).sum
 |[],_,hr,_=>by simp at hr
 |x::l,h,hr,hn=>by
  have h0:=h x pq;have a:∀y∈l,f y<=g y:=λy b=>h y (Lw _ b);simp only[Lv,Lx];rcases LU.1 hr with rfl|hr
  .have:=IS a;omega
  .have:=Z2B a hr hn;omega
def RP{α:Type}{f:α->Int}:∀{l:List α},(∀x∈l,0<=f x)->0<=(l.map f).sum
 |[],_=>by simp
 |x::l,h=>by
  have:=RP (l:=l) λy a=>h y (Lw _ a);grind
def Z45{ws}:∀{l:List Int} {a b:Int},EE ws a b l->(l.map λx=>Zk ws x+1).sum=b-a
 |[],a,b,h=>by grind[EE]
 |x::l,a,b,h=>by
  have:=Z45 h.2.2;simp only[Lv,Lx,this,h.1];omega
def Z6A(l:List Z0):∀i,i<=l.length->(∃j,j<i/\(l.getD j M).K=0)->Zf l i≠[]
 |0,_,⟨j,b,_⟩=>by omega
 |i+1,hi,⟨j,b,d⟩=>by
  have a:CQ l i=l.getD i M:=by grind[Mx]
  simp only[Zf,NQ];split
  .split<;>simp
  .rename_i c;rw[a]at c;exact Z6A l i oq ⟨j,by
    grind,d⟩
def Zaw{l}(h:¬ 0<=first l 1):∀j,j<l.length->(l.getD j M).K≠0:=by
 intro j a b;have hn:=Z6A l l.length (Lc _) ⟨j,a,b⟩;unfold first at h
 rw[if_neg oq]at h;have ok:=(Nc l l.length).2;cases hr:Zf l l.length<;>grind[Zf,runs,HU]
def Zff{l:List Z0}(h:∀j,j<l.length->(l.getD j M).K≠0):Bn C6 l=l.length:=by
 rw[Ir];have:∀n,n<=l.length->((Le n).map λi=>C6 (l.getD i M)).sum=n:=by
  intro n;induction n with|zero=>simp|succ n ih =>grind[LH,C6]
 grind
def wtW(h:Heap)(w:Z6)(x:Int):Int:=if(ZD (Z1 w.heap.W x).1).2=O then 0 else Zk h.W x+1
def N8(h:Heap)(T:Nat->List Int)(w:Z6)(i:Nat):Int:=if(h.P.getD i M).K=1/\¬ 0<(h.P.getD i M).N then((T i).map (wtW h w)).sum else 0
def HJ(h:Heap)(T:Nat->List Int)(w:Z6):Int:=((Le h.P.length).map (N8 h T w)).sum
structure MI (h:Heap) (T:Nat->List Int) (w:Z6):Prop where
 m0:w.heap.P.length=h.P.length/\w.heap.C=h.C
 m1:Bn Cb h.P<=Bn Cb w.heap.P
 m2:0<w.T.length->((w.T.length:Int)-1)*(h.C.pw/4*3+1)+(w.heap.P.getD (ZG w).toNat M).U<=Bn Cb w.heap.P-Bn Cb h.P
 m3:Bn Cb w.heap.P+HJ h T w<=Bn Cb h.P+Bn unP h.P
 m4:Bn C6 w.heap.P=Bn C6 h.P+w.T.length
 m5:∀i,i<h.P.length->(h.P.getD i M).K=1->((w.heap.P.getD i M).S=w.heap.S↔¬ 0<(h.P.getD i M).N)
def Z0k(h:Heap) w(x:Int):0<=wtW h w x/\wtW h w x<=Zk h.W x+1:=by have:=Bo h.W x;grind[wtW]
def Zeu{h T}{w w':Z6}(e:w'.heap.W=w.heap.W):HJ h T w'=HJ h T w:=by unfold HJ N8 wtW;rw[e]
def Zlb{h T}(g:Gd h T)(w:Z6):HJ h T w<=Bn unP h.P:=by rw[Ir];refine IS λi a=>?_;have a:=Lh.1 a;unfold N8 unP;split;rename_i k;have t:=Z45 (g.t1 i a k.1).1;have:=IS (l:=T i) (f:=wtW h w) (g:=λx=>Zk h.W x+1) λx _=>(Z0k h w x).2;omega;omega
def Zj2(h:Heap) T w:0<=HJ h T w:=by refine RP λi _=>?_;unfold N8;split;exact RP λx _=>(Z0k h w x).1;omega
def ZjW{h:Heap}{T:Nat->List Int}{w w'}{n r:Int}{a:Nat}(d:a<h.P.length)(e:(h.P.getD a M).K=1/\¬ 0<(h.P.getD a M).N)(g:r∈T a)(c:∀i x,x∈T i->wtW h w' x<=wtW h w x)(f:wtW h w' r+n<=wtW h w r):HJ h T w'+n<=HJ h T w:=by refine Z2B (r:=a) (λi d=>?_) (Lh.2 d) ?_;unfold N8;split;exact IS λx b=>c i x b;omega;unfold N8;rw[if_pos e,if_pos e];exact Z2B (λx b=>c a x b) g f
def MI.begin{h T}(g:Gd h T):MI h T (Zo h):=by
 have e:∀i,i<h.P.length->(((Zo h).heap.P.getD i M).K=(h.P.getD i M).K/\((Zo h).heap.P.getD i M).U=(h.P.getD i M).U):=by grind[Zo,Zp]
 have l:(Zo h).heap.P.length=h.P.length:=by simp[Zo]
 have e1:Bn Cb (Zo h).heap.P=Bn Cb h.P:=SC Cb l λi a=>by grind[Cb]
 have e2:Bn C6 (Zo h).heap.P=Bn C6 h.P:=SC C6 l λi a=>by grind[C6]
 have r:=Zlb g (Zo h);refine⟨⟨l,rfl⟩,by omega,by simp[Zo],by omega,by grind[Zo],λi a hk=>?_⟩;have sp:=g.sp i a oq;grind[Zo,Zp]
def MI.keep{h T w}(m:MI h T w) r:MI h T (w.keep r):=⟨m.m0,m.m1,m.m2,m.m3,m.m4,m.m5⟩
def MI.flip{h T r w}(m:MI h T w)(k:KI h T r w){i:Nat}(h2:(w.heap.P.getD i M).K=2):MI h T (w.flip i):=by
 have e:∀j,((w.flip i).heap.P.getD j M).K=(w.heap.P.getD j M).K/\((w.flip i).heap.P.getD j M).U=(w.heap.P.getD j M).U:=by(intro j;simp only[Z6.flip];by_cases b:j<w.heap.P.length;rw[HB b];split<;>exact⟨rfl,rfl⟩;grind[H2])
 have l:(w.flip i).heap.P.length=w.heap.P.length:=by simp[Z6.flip,H2]
 have a:Bn Cb (w.flip i).heap.P=Bn Cb w.heap.P:=SC Cb l λj _=>by grind[Cb]
 have f:Bn C6 (w.flip i).heap.P=Bn C6 w.heap.P:=SC C6 l λj _=>by grind[C6]
 have g:HJ h T (w.flip i)=HJ h T w:=Zeu rfl;have c:(w.flip i).T=w.T:=rfl;have el:ZG (w.flip i)=ZG w:=rfl;refine⟨⟨by rw[l];exact m.m0.1,m.m0.2⟩,by rw[a];exact m.m1, ?_,by rw[a,g];exact m.m3,by rw[f,c];exact m.m4,λj b d=>?_⟩;rotate_left;have n:=m.m0.1;have o:(j:Int)∉w.T:=λq=>by have:=(k.tk j q).2.1;omega
 have p:=(k.pg j o).1;rw[d]at p;have:(w.flip i).heap.P.getD j M=w.heap.P.getD j M:=by(simp only[Z6.flip];rw[HB oq,if_neg];rintro⟨q1,q2⟩;by_cases q:j=i;subst q;omega;have:=(Rp (l:=w.heap.P) (i:=i) (m:=j-i-1) oq).2;grind)
 rw[this];exact m.m5 j b d;intro q;rw[c,el,(e _).2,a];exact m.m2 q
def MI.copy{h T tq w}(g:Gd h T)(m:MI h T w)(k:KI h T tq w)(hw:B8 w){r n:Int}{s}(o:r∈T s)(h1:(h.P.getD s M).K=1)(a3:¬ 0<(h.P.getD s M).N)(ht:(ZD (Z1 w.heap.W r).1).2=La)(hn:n=Zk w.heap.W r+1)(hc:(w.place n).2.2=O):MI h T ((w.place n).1.copy r (w.place n).2.1 n):=by
 have he:(Z1 w.heap.W r).1=(Z1 h.W r).1:=by(rcases k.hd s r o with q|q;exact q;grind)
 have a8:=Bo w.heap.W r;have a5:Zk w.heap.W r=Zk h.W r:=(Ee he).2.1;have y:=(g.t0 s r o).1;have b2:=(g.t1 s y h1).2 r o;have po:=B4 g.p;have sw:=RE po.1;have hv:=BG.1 po.1;have a1:n<=w.heap.C.pw:=by rw[k.c];omega
 obtain⟨i,p,t,p1,p2,p3,p4,p5,p6,p7,e⟩:=P3 hw ⟨by omega,a1⟩ hc;have v:=k.c;have a7:=g.inw o;have d:(h.P.getD i M).K=0:=by(rcases p2 with q|q;by_cases c:(i:Int)∈w.T;exact(k.tk i c).2.1;rw[<-(k.pg i c).1];exact q.1;exact(k.tk i q.1).2.1)
 have b0:=k.pl;have b3:=k.wl;have a0:=EJ (i:=i) (j:=h.C.pg) (pw:=h.C.pw) oq oq;rw[LL h.C.pg]at a0;have a6:0<=(i:Int)*h.C.pw:=LB oq oq;have hx:∀j x,x∈T j->x≠r->(Z1 (BL (moveA w.heap.W (w.place n).2.1 r n).1 r (4*(w.place n).2.1+2)).1 x).1=(Z1 w.heap.W x).1:=by(intro j x hx a9;have u:=g.free (show i<h.P.length by omega) (Or.inl d) hx;rw[BZ,if_pos d]at u;have r1:=Bo h.W x;unfold ZB at u;rw[p7,v];rw[v]at p5;have f:=g.free (show i<h.P.length by omega) (Or.inl d) o;rw[BZ,if_pos d]at f;unfold ZB at f;obtain⟨m1,m2,m3⟩:=Sj (ws:=w.heap.W) (a:=4+4092+(i:Int)*h.C.pw+BZ (w.heap.P.getD i M)) (b:=r) (n:=n) oq oq oq;rw[show(4:Int)+4092+(i:Int)*h.C.pw=4096+(i:Int)*h.C.pw by omega]at m1 m2 m3;grind[Gi])
 have b1:(ZD (Z1 (BL (moveA w.heap.W (w.place n).2.1 r n).1 r (4*(w.place n).2.1+2)).1 r).1).2=O:=by grind[Sj,Rl,Pk]
 have ew:((w.place n).1.copy r (w.place n).2.1 n).heap.W=(BL (moveA w.heap.W (w.place n).2.1 r n).1 r (4*(w.place n).2.1+2)).1:=by(rw[e];rfl)
 have a2:HJ h T ((w.place n).1.copy r (w.place n).2.1 n)+n<=HJ h T w:=by(refine ZjW y ⟨h1,a3⟩ o (λj x b4=>?_) ?_;grind[wtW];grind[wtW])
 have l:((w.place n).1.copy r (w.place n).2.1 n).heap.P=w.heap.P.set i p:=by rw[e];rfl
 have eT:((w.place n).1.copy r (w.place n).2.1 n).T=t:=by rw[e];rfl
 have eL:ZG ((w.place n).1.copy r (w.place n).2.1 n)=t.getD ((t.length:Int)-1).toNat M:=by grind[ZG]
 have s1:=AT Cb p w.heap.P i p1;have s2:=AT C6 p w.heap.P i p1;have u1:Cb p=p.U:=by grind[Cb]
 have z1:C6 p=1:=by rw[C6,if_neg oq]
 have m1:=m.m1;have m3:=m.m3;have m4:=m.m4;have a4:0<=((w.T.length:Int))*(h.C.pw/4*3+1):=LB oq oq;have h5:∀j,j<h.P.length->(h.P.getD j M).K=1->((((w.place n).1.copy r (w.place n).2.1 n).heap.P.getD j M).S=((w.place n).1.copy r (w.place n).2.1 n).heap.S↔¬ 0<(h.P.getD j M).N):=by
  intro j hj hk;have eS:((w.place n).1.copy r (w.place n).2.1 n).heap.S=w.heap.S:=by rw[e];rfl
  rw[l,eS,Cl p1,if_neg (by grind)];exact m.m5 j hj hk
 rcases p2 with⟨q1,q2,q3⟩|⟨q1,q2,q3,q4⟩;have u2:Cb (w.heap.P.getD i M)=0:=by rw[Cb,if_neg oq]
 have z2:C6 (w.heap.P.getD i M)=0:=by grind[C6]
 have oc:BZ (w.heap.P.getD i M)=0:=by grind[BZ]
 rw[oc]at p4;have hu:Bn Cb (w.heap.P.set i p)=Bn Cb w.heap.P+n:=by omega
 refine⟨⟨by grind,by rw[e];exact m.m0.2⟩,by rw[l];omega, ?_,by rw[l];omega,by grind[Lu],h5⟩;intro _;rw[eL,l,eT,hu,q2];have el:(w.T++[(i:Int)]).getD ((((w.T++[(i:Int)]).length:Nat):Int)-1).toNat M=i:=by simp_all
 rw[el,LC,Cl p1,if_pos rfl,Lt,Lu];rw[show(((w.T.length+1:Nat):Int)-1)=w.T.length by omega];by_cases z:0<w.T.length;have m2:=m.m2 z;have nf:¬ Eb w n:=by grind[Z6.place]
 grind[Eb];grind
 .have u2:Cb (w.heap.P.getD i M)=(w.heap.P.getD i M).U:=by grind[Cb]
  have z2:C6 (w.heap.P.getD i M)=1:=by rw[C6,if_neg oq]
  have oc:BZ (w.heap.P.getD i M)=(w.heap.P.getD i M).U:=by rw[BZ,if_neg oq]
  rw[oc]at p4;have hu:Bn Cb (w.heap.P.set i p)=Bn Cb w.heap.P+n:=by omega
  refine⟨⟨by grind,by rw[e];exact m.m0.2⟩,by rw[l];omega, ?_,by rw[l];omega,by grind,h5⟩;intro z;rw[eT,q3]at z;have m2:=m.m2 z;rw[eL,l,eT,hu,q3];rw[Cl p1];show((w.T.length:Int)-1)*_+Z0.U (if i=(ZG w).toNat then p else w.heap.P.getD (ZG w).toNat M)<=_;split;all_goals grind
structure MV (h:Heap):Prop where
 v:Bn Cb h.P+Bn Gz h.P*h.C.pw<=h.C.pg/4*h.C.pw
 n:∃t:Int,Bn C6 h.P<=h.C.pg/4+Bn Gz h.P+t/\(t-1)*(h.C.pw/4*3+1)<=Bn Cb h.P
def Z1z{α:Type}{f:α->Int}{r:α}:∀{l:List α},(∀x∈l,0<=f x)->r∈l->f r<=(l.map f).sum
 |[],_,hr=>by simp at hr
 |x::l,h,hr=>by
  have h0:=h x pq;have a:∀y∈l,0<=f y:=λy b=>h y (Lw _ b);simp only[Lv,Lx];rcases LU.1 hr with rfl|hr
  .have:=RP a;omega
  .have:=Z1z a hr;omega
def ZbE{t t' s q L U nz pg:Int}(hs:4<=s)(hq:2<=q)(a:4*q<=pg)(hL:0<=L)(ht:0<=t)(h1:pg=nz+t)(h2:t*(s*3+1)<=U-1)(h3:nz<=q+L+t')(h4:(t'-1)*(s*3+1)<=U)(h5:U+L*(s*4)<=q*(s*4)):False:=by
 have e2:t*(s*3+1)=3*t*s+t:=by grind
 have e4:(t'-1)*(s*3+1)=3*(t'-1)*s+(t'-1):=by grind
 have e5:q*(s*4)-L*(s*4)=4*(q-L)*s:=by grind
 have a1:3*t<4*(q-L):=by(by_cases c:3*t<4*(q-L);exact c;have:=Ly (show 4*(q-L)<=3*t by omega) (show 0<=s by omega);omega)
 have a2:3*(t'-1)<4*(q-L):=by(by_cases c:3*(t'-1)<4*(q-L);exact c;have:=Ly (show 4*(q-L)<=3*(t'-1) by omega) (show 0<=s by omega);omega)
 omega
def MI.unp{h T g w}(m:MI h T w)(k:KI h T g w){r o:Int}{a:Nat}(b:Z2 w.heap.C r=((a:Int),o,0))(d:(a:Int)∉w.T)(e:a<h.P.length)(k1:(h.P.getD a M).K=1)(c4:¬ ZI w (Z2 w.heap.C r).1=O):¬ 0<(h.P.getD a M).N:=by intro hp;apply c4;have f:=m.m0.1;have q:=(m.m5 a e k1);have kk:=(k.pg a d).1;simp only[ZI,decide_eq_true_eq];rw[b];simp only[LC];exact⟨by omega,by omega,by omega,λc=>(q.1 c) hp,d⟩
section
variable {h:Heap} {T tq:Nat->List Int} {w:Z6} (g:Gd h T) (m:MI h T w) (k:KI h T tq w) (hw:B8 w) (d:MV h)
include g m k hw d
theorem MI.room{r n:Int}{e}(u:r∈T e)(h1:(h.P.getD e M).K=1)(a2:¬ 0<(h.P.getD e M).N)(ht:(ZD (Z1 w.heap.W r).1).2=La)(hn:n=Zk w.heap.W r+1):(w.place n).2.2=O:=by
 have he:(Z1 w.heap.W r).1=(Z1 h.W r).1:=by(rcases k.hd e r u with q|q;exact q;rw[q.1]at ht;cases ht)
 have a4:=Bo w.heap.W r;have a3:Zk w.heap.W r=Zk h.W r:=(Ee he).2.1;have f:=(g.t0 e r u).1;have a5:=(g.t1 e f h1).2 r u;have po:=B4 g.p;have sw:=RE po.1;have hv:=BG.1 po.1;have a0:h.C.pw=h.C.pw/4*4:=by(have:=hv.2.2.1;rw[LM oq]at this;omega)
 by_cases o:Eb w n;rw[Z6.place,if_pos o];by_cases hg:0<=ZQ w;rw[Z6.place,if_neg o,if_pos hg];exfalso;have nz:=Zff (Zaw (l:=w.heap.P) hg);have m0:=m.m0;have m1:=m.m1;have m3:=m.m3;have m4:=m.m4;have y:=hw.pl;rw[m0.2]at y;have a1:n<=HJ h T w:=by
  have a:N8 h T w e<=HJ h T w:=Z1z (λi _=>by
   unfold N8;split;exact RP λx _=>(Z0k h w x).1;exact LI _) (Lh.2 f)
  have b:wtW h w r<=N8 h T w e:=by(unfold N8;rw[if_pos ⟨h1,a2⟩];exact Z1z (λx _=>(Z0k h w x).1) u)
  unfold wtW at b;rw[if_neg (by rw[ht];simp)]at b;omega
 have a6:Bn unP h.P<=Bn Cb h.P:=IS λp hp=>by(obtain⟨j,hj,rfl⟩:=LF hp;have pp:=Eh g.p hj;rw[Lg,Lk hj,LA]at pp;unfold unP Cb;split;rename_i c;rw[if_pos c.1];omega;split<;>omega)
 have hL:0<=Bn Gz h.P:=RP λp _=>by unfold Gz;split<;>omega
 have h2:(w.T.length:Int)*(h.C.pw/4*3+1)<=Bn Cb h.P-1:=by
  by_cases z:0<w.T.length;have m2:=m.m2 z;unfold Eb at o;rw[m0.2]at o;have hq:h.C.pw/4*3+1<=(w.heap.P.getD (ZG w).toNat M).U:=by omega
  rw[show(w.T.length:Int)*(h.C.pw/4*3+1)=((w.T.length:Int)-1)*(h.C.pw/4*3+1)+(h.C.pw/4*3+1) by rw[Int.sub_mul];omega];omega;have:w.T.length=0:=by omega
  rw[this];simp;omega
 obtain⟨t',n1,n2⟩:=d.n;have v:=d.v;exact ZbE (s:=h.C.pw/4) (q:=h.C.pg/4) (pg:=h.C.pg) (nz:=Bn C6 h.P) (L:=Bn Gz h.P) (U:=Bn Cb h.P) (t:=w.T.length) (t':=t') oq oq oq hL oq oq h2 n1 n2 (by rw[<-a0];exact v)
theorem MI.fwd_ok(hi:Bv w){r:Int}(l:r=0\/r∈w.Q\/r∈w.old):(w.fwd r).2.2=0:=by
 unfold Z6.fwd;by_cases c1:r=0\/r∈w.Q;rw[if_pos c1];rw[if_neg c1];have c2:r∈w.old:=by(rcases l with q|q|q;exact absurd (Or.inl q) c1;exact absurd (Or.inr q) c1;exact q)
 rw[if_neg (by simpa using c2)];obtain⟨a,c,j⟩:=(k.old r).1 c2;have b:Z2 w.heap.C r=((a:Int),r-ZB h a,0):=by rw[k.c];exact g.ofx c
 by_cases c3:(ZD (Z1 w.heap.W r).1).2=O;rw[if_pos c3];rw[if_neg c3,if_neg (by rw[b];simp)];by_cases c4:ZI w (Z2 w.heap.C r).1=O;rw[if_pos c4];rw[if_neg c4];by_cases e:(w.heap.P.getD (Cz w r) M).K=2;rw[if_pos e];rw[if_neg e];have f:Cz w r=a:=by rw[Cz,b];simp
 rw[f]at e;have i:=k.nt g c;have k1:(h.P.getD a M).K=1:=by(have:=(g.t0 a r c).2;rw[<-(k.pg a i).1]at this⊢;omega)
 have:=m.room g k hw d c k1 (m.unp k b i (g.t0 a r c).1 k1 c4) (by simpa using c3) rfl;rw[<-GH w r]at this;rw[if_neg (by rw[this];simp)]
theorem MI.fwd(hi:Bv w){r}(e:(w.fwd r).2.2=0):MI h T (w.fwd r).1:=by
 unfold Z6.fwd at e⊢;by_cases c1:r=0\/r∈w.Q;rw[if_pos c1];exact m;rw[if_neg c1]at e⊢;by_cases c2:r∈w.old;rw[if_neg (by simpa using c2)]at e⊢;obtain⟨a,c,o⟩:=(k.old r).1 c2;have b:Z2 w.heap.C r=((a:Int),r-ZB h a,0):=by rw[k.c];exact g.ofx c
 by_cases c3:(ZD (Z1 w.heap.W r).1).2=O;rw[if_pos c3];exact m;rw[if_neg c3,if_neg (by rw[b];simp)]at e⊢;by_cases c4:ZI w (Z2 w.heap.C r).1=O;rw[if_pos c4];exact m.keep r;rw[if_neg c4]at e⊢;by_cases i:(w.heap.P.getD (Cz w r) M).K=2;rw[if_pos i];exact(m.flip k i).keep r;rw[if_neg i]at e⊢;have l:Cz w r=a:=by rw[Cz,b];simp
 rw[l]at i;have n:=k.nt g c;have k1:(h.P.getD a M).K=1:=by(have:=(g.t0 a r c).2;rw[<-(k.pg a n).1]at this⊢;omega)
 have f:=m.unp k b n (g.t0 a r c).1 k1 c4;have j:=m.room g k hw d c k1 f (by simpa using c3) rfl;rw[<-GH w r]at j;rw[if_neg (by rw[j];simp)];exact m.copy g k hw c k1 f (by simpa using c3) (GH w r) j;rw[if_pos c2]at e;simp at e
end
def Zch{ws:List Int}{a b n k:Int}(ha:4096<=a/\a-4096+n<=ws.length)(e:4096<=b/\b-4096+n<=ws.length)(hk:0<=k/\k<n):Z1 (moveA ws a b n).1 (a+k)=((Z1 ws (b+k)).1,0):=by
 have c:BY ws b n=((ws.drop (b-4096).toNat).take n.toNat,0):=by rw[BY,if_neg oq,if_pos e]
 have d:moveA ws a b n=ZT ws a ((ws.drop (b-4096).toNat).take n.toNat):=by rw[moveA,c];simp
 have hl:((ws.drop (b-4096).toNat).take n.toNat).length=n.toNat:=by simp;omega
 rw[d,SA oq oq];congr 1;unfold Z1;rw[if_pos oq];simp only[Lg];rw[show a+k-a=k by omega,List.getElem?_take_of_lt oq,List.getElem?_drop];rw[show(b-4096).toNat+k.toNat=(b+k-4096).toNat by omega]
def CK(w:Z6)(y:Int):Int:=if y∈w.Q then y else if(ZD (Z1 w.heap.W y).1).2=O then(ZD (Z1 w.heap.W y).1).1 else 0
structure Mm (h:Heap) (T:Nat->List Int) (w:Z6) (r:Int) (i0:Nat) (w':Z6) (a:Int):Prop where
 b:4096<=a
 q:w'.Q=w.Q++[a]
 n:w'.rep.copied+w'.rep.kept=w.rep.copied+w.rep.kept+1
 o:w'.old=w.old
 l:w'.heap.W.length=w.heap.W.length
 s:((h.P.getD i0 M).K=2\/0<(h.P.getD i0 M).N)↔a=r
 e:a-4096+Zk h.W r<w.heap.W.length
 f:a=r->w'.heap.W=w.heap.W
 c:a≠r->ZD (Z1 w'.heap.W r).1=(a,O)
 t:∀j x,x∈T j->x≠r->a≠x/\Z1 w'.heap.W x=Z1 w.heap.W x
 x:∀k,0<=k->k<=Zk h.W r->(Z1 w'.heap.W (a+k)).1=(Z1 w.heap.W (r+k)).1
section
variable {h:Heap} {T tq:Nat->List Int} {w:Z6} (g:Gd h T) (m:MI h T w) (k:KI h T tq w) (hw:B8 w) (d:MV h)
include g m k hw d
theorem Zep{r:Int}{f}(v:r∈T f)(a7:Cy h.W r≠0)(hq:r∉w.Q)(z:(ZD (Z1 w.heap.W r).1).2=La) :(w.fwd r).2.2=0/\Mm h T w r f (w.fwd r).1 (w.fwd r).2.1:=by
 have ho:r∈w.old:=(k.old r).2 ⟨f,v,a7⟩;have b6:=g.inw v;have on:=g.on v;have b7:=Bo h.W r;have he:(Z1 w.heap.W r).1=(Z1 h.W r).1:=by(rcases k.hd f r v with q|q;exact q;rw[q.1]at z;cases z)
 have b2:Zk w.heap.W r=Zk h.W r:=(Ee he).2.1;have nt:=k.nt g v;have pg:=k.pg f nt;have wl:=k.wl;have c1:¬ (r=0\/r∈w.Q):=by(rintro(q|q);omega;exact hq q)
 have o:Z2 w.heap.C r=((f:Int),r-ZB h f,0):=by rw[k.c];exact g.ofx v
 have a0:Cz w r=f:=by rw[Cz,o];simp
 by_cases c4:ZI w (Z2 w.heap.C r).1=O;have ef:w.fwd r=(w.keep r,r,0):=by rw[Z6.fwd,if_neg c1,if_neg (by simpa using ho),if_neg (by rw[z];simp),if_neg (by rw[o];simp),if_pos c4]
 rw[ef];show(0:Int)=0/\Mm h T w r f (w.keep r) r;have hs:(h.P.getD f M).K=2\/0<(h.P.getD f M).N:=by
  rw[o]at c4;simp only[ZI,decide_eq_true_eq,LC]at c4;have k1:(h.P.getD f M).K=1:=by rw[<-pg.1];exact c4.2.2.1
  have:=m.m5 f on.1 k1;by_cases q:0<(h.P.getD f M).N;exact .inr q;exact absurd (this.2 q) c4.2.2.2.1
 exact⟨rfl,by omega,rfl,by simp only[Z6.keep];omega,rfl,rfl,⟨λ_=>rfl,λ_=>hs⟩,by omega,λ_=>rfl,λq=>absurd rfl q,λj x _ l=>⟨λq=>l q.symm,rfl⟩,λ_ _ _=>rfl⟩;by_cases c5:(w.heap.P.getD (Cz w r) M).K=2;have ef:w.fwd r=((w.flip (Cz w r)).keep r,r,0):=by rw[Z6.fwd,if_neg c1,if_neg (by simpa using ho),if_neg (by rw[z];simp),if_neg (by rw[o];simp),if_neg c4,if_pos c5]
 rw[ef];show(0:Int)=0/\Mm h T w r f ((w.flip (Cz w r)).keep r) r;have hs:(h.P.getD f M).K=2\/0<(h.P.getD f M).N:=by(rw[a0,pg.1]at c5;exact .inl c5)
 exact⟨rfl,by omega,rfl,by simp only[Z6.keep,Z6.flip];omega,rfl,rfl,⟨λ_=>rfl,λ_=>hs⟩,by omega,λ_=>rfl,λq=>absurd rfl q,λj x _ l=>⟨λq=>l q.symm,rfl⟩,λ_ _ _=>rfl⟩;have k1:(h.P.getD f M).K=1:=by(have:=on.2.1;rw[a0]at c5;rw[<-pg.1]at this⊢;omega)
 have a3:=m.unp k o nt on.1 k1 c4;have s:=m.room g k hw d v k1 a3 z rfl;have a8:=GH w r;have ef:w.fwd r=((w.place (Zk w.heap.W r+1)).1.copy r (w.place (Zk w.heap.W r+1)).2.1 (Zk w.heap.W r+1),(w.place (Zk w.heap.W r+1)).2.1,0):=by(rw[Z6.fwd,if_neg c1,if_neg (by simpa using ho),if_neg (by rw[z];simp),if_neg (by rw[o];simp),if_neg c4,if_neg c5,a8,if_neg (by rw[s];simp)])
 rw[ef];show(0:Int)=0/\Mm h T w r f ((w.place (Zk w.heap.W r+1)).1.copy r (w.place (Zk w.heap.W r+1)).2.1 (Zk w.heap.W r+1)) (w.place (Zk w.heap.W r+1)).2.1;have po:=B4 g.p;have b9:=(g.t1 f on.1 k1).2 r v;have c0:=RE po.1;have b4:=BG.1 po.1;obtain⟨i,p,t,p1,p2,p3,p4,p5,p6,p7,e⟩:=P3 hw ⟨by omega,by rw[k.c];omega⟩ s;have a5:=k.c;have b8:=k.pl;have a2:(h.P.getD i M).K=0:=by(rcases p2 with q|q;by_cases c:(i:Int)∈w.T;exact(k.tk i c).2.1;rw[<-(k.pg i c).1];exact q.1;exact(k.tk i q.1).2.1)
 have a6:=EJ (i:=i) (j:=h.C.pg) (pw:=h.C.pw) oq oq;rw[LL h.C.pg]at a6;have b5:0<=(i:Int)*h.C.pw:=LB oq oq;rw[a5]at p5 p7;have a4:4096+(i:Int)*h.C.pw=ZB h i:=rfl;rw[e,p7,a4];generalize hu:BZ (w.heap.P.getD i M)=u at *;generalize ha:ZB h i+u=a;have b3:4096<=a/\a+(Zk w.heap.W r+1)<=4096+w.heap.W.length:=by omega
 have a1:∀j x,x∈T j->x+Zk h.W x<ZB h i\/ZB h i+h.C.pw<=x:=by(intro j x v;have:=g.free (show i<h.P.length by omega) (Or.inl a2) v;rw[BZ,if_pos a2]at this;omega)
 have b1:=a1 f r v;obtain⟨m1,m2,m3⟩:=Sj (ws:=w.heap.W) (a:=a) (b:=r) (n:=Zk w.heap.W r+1) oq oq oq;have y:4096<=r/\r<4096+(moveA w.heap.W a r (Zk w.heap.W r+1)).1.length:=by omega
 have l:a≠r:=by omega
 refine⟨rfl,by omega,rfl,by simp only[Z6.copy];omega,rfl, ?_,⟨λq=>?_,λq=>absurd q l⟩,by omega,λq=>absurd q l,λ_=>?_,λj x a9 b0=>?_,λj j0 j1=>?_⟩;simp only[Z6.copy];rw[SV y,m1];rcases q with q|q;omega;exact absurd q a3;simp only[Z6.copy];rw[Rl y,Pk oq oq];have fx:=a1 j x a9;have rx:=Bo h.W x;simp only[Z6.copy];exact⟨by omega,by rw[Gi y b0,m3 x oq]⟩;simp only[Z6.copy];rw[Gi y oq,Zch oq oq oq]
end
theorem Sy(l:List Z0):Bn C6 l=Cm l:=by
 rw[Ir];unfold Cm;have:∀n,((Le n).map λi=>C6 (l.getD i M)).sum=Eu l n:=by
  intro n;induction n with|zero=>simp[Eu]|succ n ih =>grind[Mx,LH,Eu,C6]
 exact this _
def Z6L{pw:Int}:∀{l:List Z0},(∀p∈l,Cb p+Gz p*pw<=C6 p*pw)->Bn Cb l+Bn Gz l*pw<=Bn C6 l*pw
 |[],_=>by simp[Bn]
 |x::l,h=>by
  have a:=Z6L (l:=l) λp hp=>h p (Lw _ hp);have b:=h x pq;simp only[Bn,Lv,Lx,Int.add_mul]at a b⊢;omega
def Z8L{h:Heap}(hp:Z8 h=O):0<=Bn Cb h.P:=RP λp b=>by
 obtain⟨j,a,rfl⟩:=LF b;have pp:=Eh hp a;grind[Cb]
def ZjY l:0<=Bn Gz l:=RP λp _=>by grind[Gz]
def MV.few{h:Heap}(hp:Z8 h=O)(a:(Cm h.P:Int)<=h.C.pg/4):MV h:=by
 have po:=B4 hp;rw[<-Sy]at a;have u0:=Z8L hp;have l0:=ZjY h.P;refine⟨?_,0,by omega,by omega⟩;have:=Z6L (pw:=h.C.pw) (l:=h.P) λp c=>by(obtain⟨j,b,rfl⟩:=LF c;have pp:=Eh hp b;grind[Cb,Gz,C6])
 have:=Ly a (show 0<=h.C.pw by omega);omega
def MV.same{h h':Heap}(m:MV h)(c:h'.C=h.C)(hl:h'.P.length=h.P.length)(hk:∀i,i<h.P.length->(h'.P.getD i M).K=(h.P.getD i M).K/\(h'.P.getD i M).U=(h.P.getD i M).U):MV h':=by
 have a:Bn Cb h'.P=Bn Cb h.P:=SC Cb hl λi d=>by grind[Cb]
 have e:Bn C6 h'.P=Bn C6 h.P:=SC C6 hl λi d=>by grind[C6]
 have b:Bn Gz h'.P=Bn Gz h.P:=SC Gz hl λi d=>by grind[Gz]
 refine⟨by rw[a,b,c];exact m.v, ?_⟩;rw[a,e,b,c];exact m.n
def Z6S{l m:List Z0}{i:Nat}(h:i+m.length<=l.length):∀k,k<=m.length->Bn C6 (wr l m i k)<=Bn C6 l+k
 |0,_=>by rw[AG];simp
 |k+1,hk=>by
  have ih:=Z6S h k oq;have e:=TT h oq (M:Z0) (k:=k);rw[<-e];have s:=AT C6 (m.getD k M) (wr l m i k) (i+k) (by grind[Iw]);grind[C6]
def Zdx{l:List Z0}{i k:Nat}{p q:Z0}(hk:1<=k)(h:i+k<=l.length)(hq:q.K≠0):Bn C6 (ZM l i k p q)<=Bn C6 l+k:=by
 have a:i+(Lf k q).length<=l.length:=by grind
 have w:=Z6S a k pq;have s:=AT C6 p (wr l (Lf k q) i k) i (by grind[Iw]);grind[SU,C6,ZM]
def Zd5{h:Heap}{hd:Zw}(hp:Z8 h=O)(hc:(Cd h hd).2.2=O):(Cm (Cd h hd).1.P:Int)<=h.C.pg/4:=by
 have po:=B4 hp;have hv:=BG.1 po.1;have li:CX h.C=h.C.pg/4:=by grind[CX]
 unfold Cd at hc⊢;split at hc
 .rename_i c;rw[if_pos c];unfold BE at hc⊢;split at hc
  .rename_i c2;rw[if_pos c2];have ff:=HL c2.1;rw[<-Sy];simp only;have e:(GG h.C h.P (first h.P (need h.C (Z5 hd))) h.S (Z5 hd)).1=ZM h.P (first h.P (need h.C (Z5 hd))).toNat (need h.C (Z5 hd)).toNat ⟨2,h.S,Z5 hd,0⟩ ⟨3,h.S,0,0⟩:=by grind[GG,EF]
   rw[e];have:=Zdx (l:=h.P) (i:=(first h.P (need h.C (Z5 hd))).toNat) (k:=(need h.C (Z5 hd)).toNat) (p:=⟨2,h.S,Z5 hd,0⟩) (q:=⟨3,h.S,0,0⟩) oq oq pq;grind[Sy]
  .simp at hc
 .rename_i c;rw[if_neg c];unfold Bj at hc⊢;split at hc
  .rename_i c2;rw[if_pos c2];rw[<-Sy];simp only;have e:Bn C6 (Cs h.P h.B.toNat (Z5 hd))=Bn C6 h.P:=SC C6 (by simp[Cs]) λi hi=>by
    rw[RY];by_cases hb:h.B.toNat<h.P.length
    .rw[Cl hb];split
     .rename_i q;rw[<-q];rfl
     .rfl
    grind
   rw[e,Sy];have:=c2.2.2.2;omega
  .rename_i c2;rw[if_neg c2];split at hc
   .rename_i c3;rw[if_pos c3];obtain⟨g1,g2,g3⟩:=SN po.2.2.2.2.2.2.2.2 c3.1 (Z5 hd);rw[<-Sy];simp only;rw[g1];have s:=AT C6 ⟨1,h.S,Z5 hd,0⟩ h.P (first h.P 1).toNat g3;grind[C6,Sy]
   .simp at hc
def MV.put{w:Zj}(m:MV w.heap)(hw:Zy w.heap.W){a:Zw}(b:0<=a.map/\a.map<=4294967295):MV (w.put a).heap:=by unfold Zj.put;split;rename_i e;obtain⟨k1,k2,c,d,k5,g,h,k8⟩:=Oq hw b e;have f:=Zd5 k1 d;refine MV.few h ?_;rw[g];simp only;rw[c.c];exact f;exact m
def MV.setf{h}{a i v:Int}(m:MV h)(hw:Zy h.W)(c:0<=v/\v<=18446744073709551615)(e:(Zs h a).2=0)(b:0<=i/\i<(Zs h a).1.length):MV (CY h a i v).1:=by obtain⟨s1,s2,s3⟩:=Z0G hw c (a:=a) (i:=i) e b;rw[s1];exact m.same rfl rfl λ_ _=>⟨rfl,rfl⟩
def MV.link{w:Zj}{n}(m:MV w.heap)(b:C3 w n)(d:n<=1000000) t:MV (w.link t).heap:=by
 unfold Zj.link;split;rename_i a;have hw:=b.wm d;have f:=GB (w.pickT (w.pickT t)) (n:=8) dd;have gg:=NA a.1;have c:0<=Hq w t/\Hq w t<(Zs w.heap (w.pick t)).1.length:=by(unfold Hq;rw[LM f.1];exact⟨Int.emod_nonneg _ oq,Int.emod_lt_of_pos _ oq⟩)
 have e:0<=Ht w t/\Ht w t<=18446744073709551615:=by(unfold Ht;split;exact A9 hw _;have:=GB ((w.pickT (w.pickT t)).step 8) (n:=1048576) dd;omega)
 exact m.setf b.W e a.1 c;exact m
def MV.pinB{w:Zj}(m:MV w.heap) i d:MV (Go.Proofs.YtgedmeaemofdkaaGreat.pinB w i d).heap:=by refine m.same rfl (by simp[Go.Proofs.YtgedmeaemofdkaaGreat.pinB]) λj hj=>?_;simp only[Go.Proofs.YtgedmeaemofdkaaGreat.pinB];by_cases a:i<w.heap.P.length;rw[Cl a];split;rename_i q;subst q;exact⟨rfl,rfl⟩;exact⟨rfl,rfl⟩;rw[List.set_eq_of_length_le oq];exact⟨rfl,rfl⟩
def MV.pin{w:Zj}(m:MV w.heap) t:MV (w.pin t).heap:=by
 unfold Zj.pin;repeat' split
 exact m.pinB _ _;exact m.pinB _ _;all_goals omega
def MV.drop{w:Zj}(m:MV w.heap) t:MV (w.drop t).heap:=by grind[Zj.drop]
def MI.in1{h T t}(g:Gd h T){w}(m:MI h T w)(k:KI h T t w)(s:MV h)(hw:B8 w)(c:Bv w){q j:Int}(f:q∈w.Q)(hj:0<=j/\j<Zk w.heap.W q)(e:(w.fwd (Z1 w.heap.W (q+1+j)).1).2.2=0):MI h T (w.in1 (q+1+j)):=by
 obtain⟨u,r⟩:=k.fwd g hw c _ e;have a:=m.fwd g k hw s c e;obtain⟨p,l⟩:=N6 hw c _ e;have b:=l.q q f;have n:=l.l q f;have hr:=p.r q (Ld _ b);have d:4096<=q+1+j/\q+1+j<4096+(w.fwd (Z1 w.heap.W (q+1+j)).1).1.heap.W.length:=by omega
 obtain⟨f1,f2,f3⟩:=r.field g b (j:=j) oq;have er:HJ h T (w.in1 (q+1+j))<=HJ h T (w.fwd (Z1 w.heap.W (q+1+j)).1).1:=by(refine IS λi _=>?_;unfold N8;split;refine IS λx o=>?_;unfold wtW;rw[show(w.in1 (q+1+j)).heap.W=(BL (w.fwd (Z1 w.heap.W (q+1+j)).1).1.heap.W (q+1+j) (w.fwd (Z1 w.heap.W (q+1+j)).1).2.1).1 from rfl,Gi d (f1 i x o)];omega;omega)
 have m3:=a.m3;exact⟨a.m0,a.m1,a.m2,by show Bn Cb (w.fwd (Z1 w.heap.W (q+1+j)).1).1.heap.P+_<=_;omega,a.m4,a.m5⟩
def ZjI{h T}(g:Gd h T)(i:MV h){s}(hw:Zy h.W)(e:(rootsF (Zo h) s).2.2=0)(l:(Bu (rootsF (Zo h) s).1).2=0):(∃b,KI h T b (ZF h s))/\MI h T (ZF h s):=
 TG (λw=>(∃b,KI h T b w)/\MI h T w) (λw r hw a ⟨⟨_,k⟩,m⟩ e=>⟨k.fwd g hw a r e,m.fwd g k hw i a e⟩) (λw q j hw a ⟨⟨_,k⟩,m⟩ f c d e=>⟨k.in1 g hw a f ⟨c,d⟩ e,m.in1 g k i hw a f ⟨c,d⟩ e⟩)
  (λw n ⟨⟨b,k⟩,m⟩=>⟨⟨b,k.c,k.sp,k.old,k.pl,k.wl,k.pg,k.tk,k.tk0,k.q,k.hd,k.dt,k.lg⟩,⟨m.m0,m.m1,m.m2,m.m3,m.m4,m.m5⟩⟩) hw g.p ⟨⟨_,KI.begin g⟩,MI.begin g⟩ e l
def DI{α:Type}{f g:α->Int}:∀l:List α,(l.map λx=>f x+g x).sum=(l.map f).sum+(l.map g).sum
 |[]=>by simp
 |x::l=>by
  simp only[Lv,Lx,DI l];omega
def crP(p:Z0):Int:=if p.K=1/\0<p.N then 1 else 0
def Ze3(l:List Z0):Bn crP l=crowd l:=by
 rw[Ir];unfold crowd;have:∀n,((Le n).map λi=>crP (l.getD i M)).sum=Bp l n:=by
  intro n;induction n with|zero=>simp[Bp]|succ n ih =>grind[LH,Bp,crP]
 exact this _
def MC{f}{q:Z0->Z0}(l:List Z0):Bn f (l.map q)=((Le l.length).map λi=>f (q (l.getD i M))).sum:=by grind[Ir,List.map_congr_left]
def MI.end{h T tq}(g:Gd h T){w}(m:MI h T w)(k:KI h T tq w)(mv:MV h)(hw:B8 w)(ts:∀x∈w.T,(w.heap.P.getD x.toNat M).S=1-w.heap.S){h':Heap}(o:h'.C=h.C)(j:h'.P=w.heap.P.map (BN w.heap.S)):MV h':=by
 have n:=m.m0.1;have sp:=hw.sp;have po:=B4 g.p;have e:∀i,i<h.P.length->((i:Int)∈w.T/\(h.P.getD i M).K=0/\(w.heap.P.getD i M).K=1/\(w.heap.P.getD i M).S=1-w.heap.S)\/((w.heap.P.getD i M).K=(h.P.getD i M).K/\(w.heap.P.getD i M).U=(h.P.getD i M).U/\((h.P.getD i M).K=1->((w.heap.P.getD i M).S=w.heap.S↔¬ 0<(h.P.getD i M).N))):=by(intro i d;by_cases c:(i:Int)∈w.T;have t:=k.tk i c;grind;have q:=k.pg i c;exact Or.inr ⟨q.1,q.2.1,m.m5 i d⟩)
 have l:∀i,i<h.P.length->0<=(w.heap.P.getD i M).U/\0<=(h.P.getD i M).U:=λi d=>by(have a:=hw.us i oq;have b:=Eh g.p d;omega)
 have q0:(⟨0,0,0,0⟩:Z0).K=0:=rfl;have e1:Bn Cb h'.P+Bn unP h.P<=Bn Cb w.heap.P:=by(rw[j,MC,Ir unP,Ir Cb,<-n,<-DI];refine IS λi d=>?_;have d:=Lh.1 d;have p:=e i oq;have u:=l i oq;by_cases f:Cv w.heap.S (w.heap.P.getD i M);grind[BN,Cv,Cb,unP];grind[BN,Cv,unP])
 have e2:Bn Cb w.heap.P<=Bn Cb h'.P+Bn Cb h.P:=by(rw[j,MC,Ir Cb h.P,Ir Cb,<-n,<-DI];refine IS λi d=>?_;have d:=Lh.1 d;have p:=e i oq;have u:=l i oq;by_cases f:Cv w.heap.S (w.heap.P.getD i M);grind[BN,Cv,Cb];grind[BN,Cb])
 have e3:Bn Gz h'.P<=Bn Gz h.P:=by(rw[j,MC,Ir Gz h.P,<-n];refine IS λi d=>?_;have d:=Lh.1 d;have p:=e i oq;by_cases f:Cv w.heap.S (w.heap.P.getD i M);rw[BN,if_pos f];unfold Cv at f;unfold Gz;omega;rw[BN,if_neg f];unfold Cv at f;grind[Gz])
 have e4:Bn C6 h'.P+Bn C6 h.P<=Bn C6 w.heap.P+(Bn Gz h'.P+Bn crP h.P):=by
  rw[j,MC,MC,Ir C6 h.P,Ir C6,Ir crP,<-n,<-DI,<-DI,<-DI];refine IS λi d=>?_;have d:=Lh.1 d;have p:=e i oq;have kr:0<=(h.P.getD i M).K/\(h.P.getD i M).K<=3:=by(have:=Eh g.p (show i<h.P.length by omega);omega)
  by_cases f:Cv w.heap.S (w.heap.P.getD i M);rw[BN,if_pos f];grind[Cv,C6,Gz,crP];rw[BN,if_neg f];unfold Cv at f;unfold C6 Gz crP;omega
 have y:=g.cr;rw[<-Ze3]at y;have m1:=m.m1;have m3:=m.m3;have m4:=m.m4;have r:=Zj2 h T w;have v:=mv.v;have u0:=Z8L g.p;have s:0<=h.C.pw:=by omega
 refine⟨?_,w.T.length,by rw[o];omega, ?_⟩;rw[o];have:=Ly e3 s;omega;rw[o];by_cases z:0<w.T.length;have m2:=m.m2 z;have:=hw.us (ZG w).toNat (by have:=hw.tk _ (H1 z);omega);omega;grind
def MV.collectF{B:Int}(hB:0<=B){h:Heap}{T:Nat->List Int}(g:Gd h T)(mv:MV h){s k:List Int}(hw:Zy h.W)(hb:∀p∈h.P,p.N<=B)(hs:GQ h T s)(hk:GQ h T k)(e:(Go.Proofs.YtgedmeaemofdkaaGreat.collectF h s k).2.2.2.2=0):MV (Go.Proofs.YtgedmeaemofdkaaGreat.collectF h s k).1:=by
 have hp:=g.p;have hr:=g.refers hs;have hr':=g.refers hk;by_cases e1:(rootsF (Zo h) s).2.2=0
 .by_cases e2:(Bu (rootsF (Zo h) s).1).2=0
  .have e7:Go.Proofs.YtgedmeaemofdkaaGreat.collectF h s k=(Eo (Bz h s k),(rootsF (Zo h) s).2.1,Ec (ZF h s) k k.length,(Bz h s k).rep,0):=by rw[Go.Proofs.YtgedmeaemofdkaaGreat.collectF,if_pos hp,if_pos ⟨hr,hr'⟩,if_pos e1,if_pos e2]
   rw[e7];have ck:=cOk h s k hw hp e1 e2;obtain⟨g1,g2,g3,g4,g5⟩:=ck.h4;have pr:=Z1l hB hw hp hb e1 e2;obtain⟨⟨tq,ki⟩,mi⟩:=ZjI g mv hw e1 e2;refine mi.end g ki mv ck.w2 pr.tab.tk (h':=Eo (Bz h s k)) ?_ ?_;all_goals grind[Eo,Bz,H5]
  .rw[Go.Proofs.YtgedmeaemofdkaaGreat.collectF,if_pos hp,if_pos ⟨hr,hr'⟩,if_pos e1,if_neg e2]at e;exact absurd e e2
 .rw[Go.Proofs.YtgedmeaemofdkaaGreat.collectF,if_pos hp,if_pos ⟨hr,hr'⟩,if_neg e1]at e;exact absurd e e1
def MV.collect{w:Zj}{n}(m:MV w.heap)(h:WG w)(a:C3 w n):MV w.collect.heap:=by unfold Zj.collect;split;rename_i e;obtain⟨T,g,b,c⟩:=h;exact MV.collectF (B:=n) oq g m a.W (λp hp=>(a.pin_mem p hp).2) b c e;exact m
def MV.step{w:Zj}{n}(m:MV w.heap)(h:WG w)(a:C3 w n)(b:n<=1000000) t:MV (w.step t).heap:=by
 unfold Zj.step;repeat' split
 exact m.put a.W (PD _ _);exact m.link a b _;exact m.pin _;exact m.drop _;exact m.collect h a;exact m
def Z9H{w:Zj}{n}(m:MV w.heap)(h:WG w)(a:C3 w n) t:∀k,n+k<=1000000->MV (G9 w t k).1.heap|0,_=>m|k+1,hk=>(Z9H m h a t k oq).step (Z2f h a t k oq) (D8 a t k oq) oq _
def Z26 l:MV (ZA l).heap:=by
 have e:=OV l;have hl:(((EL l).step 4).step 5).l.length<=300:=by grind
 have hk:=Mv (EL l).empty (((EL l).step 4).step 5) oq;obtain⟨_,ge,_⟩:=Z2w (EL l);have hp:=ge.p;refine Z9H (MV.few hp ?_) (Z2w (EL l)) (Py (EL l)) _ _ oq;have hv:=BG.1 (B4 hp).1;have z:Bn C6 (EL l).empty.heap.P=0:=by simp[Bn,Tape.empty,Ia,C6]
 grind[Sy]
def Z4T{w}(h:(Z7 w).2=O):(ZD w).2=La:=by unfold Z7 at h;split at h;rename_i c;unfold Zt at c;split at c;simp only at c;unfold ZD;rw[if_neg oq];simp at c;cases h
structure OnW (h:Heap) (T:Nat->List Int) (w:Z6):Prop where
 c:G4 h T w
 m:MI h T w
 q:∀y∈w.old,CK w y≠0->CK w y∈w.Q
 z:∀y∈w.old,CK w y=0->y∉w.Q/\(ZD (Z1 w.heap.W y).1).2=La
 n:w.rep.copied+w.rep.kept=w.Q.length
def Z1T{h T}(g:Gd h T){y:Int}(b:y∈(Zo h).old):CK (Zo h) y=0/\(ZD (Z1 h.W y).1).2=La:=by obtain⟨i,a,hk⟩:=((KI.begin g).old y).1 b;have t:=Z4T (g.on a).2.2.2.2.2.1;refine⟨?_,t⟩;unfold CK;rw[if_neg (by simp[Zo]),if_neg (by show¬ (ZD (Z1 h.W y).1).2=O;rw[t];simp)]
def OnW.begin{h T}(g:Gd h T)(hw:Zy h.W):OnW h T (Zo h):=
 ⟨G4.begin g hw,MI.begin g,λy a q=>absurd (Z1T g a).1 q,λy a _=>⟨by simp[Zo],(Z1T g a).2⟩,rfl⟩
section
variable {h:Heap} {T:Nat->List Int} {w:Z6} (o:OnW h T w) (g:Gd h T) (mv:MV h) {r:Int} (hr:r∈w.old)
include o g mv hr
theorem OnW.new(hs:CK w r=0):∃i0,r∈T i0/\(w.fwd r).2.2=0/\Mm h T w r i0 (w.fwd r).1 (w.fwd r).2.1:=by
 obtain⟨tq,k⟩:=o.c.k;obtain⟨i0,hx,hk⟩:=(k.old r).1 hr;have z:=o.z r hr hs;exact⟨i0,hx,Zep g o.m k o.c.ok mv hx hk z.1 z.2⟩
theorem OnW.same(hs:CK w r≠0):w.fwd r=(w,CK w r,0):=by
 unfold Z6.fwd CK at *;split at hs;rename_i q;rw[if_pos (.inr q),if_pos q];rename_i q;split at hs;rename_i a;obtain⟨tq,k⟩:=o.c.k;obtain⟨i0,b,hk⟩:=(k.old r).1 hr;have:=g.inw b;have c:¬ (r=0\/r∈w.Q):=by(rintro(c|c);omega;exact q c)
 rw[if_neg c,if_neg (by simpa using hr),if_pos a,if_neg q,if_pos a];exact absurd rfl hs
theorem OnW.seen:(w.fwd r).2.1≠0/\CK (w.fwd r).1 r=(w.fwd r).2.1/\(∀y∈w.old,y≠r->CK (w.fwd r).1 y=CK w y)/\(w.fwd r).1.old=w.old /\ ((w.fwd r).1.Q.length:Int)=w.Q.length+(if CK w r=0 then 1 else 0):=by
 by_cases a:CK w r=0;obtain⟨i0,hx,e,N⟩:=o.new g mv hr a;have z:=o.z r hr a;have b:=N.b;obtain⟨tq,k⟩:=o.c.k;refine⟨by omega, ?_,λy i d=>?_,N.o,by rw[if_pos a,N.q];simp⟩;unfold CK;rw[N.q];by_cases q:(w.fwd r).2.1=r;rw[if_pos (by rw[q];simp)];exact q.symm;rw[if_neg (by simp only[Lo,Lr];rintro(c|c);exact z.1 c;exact q c.symm),N.c q];simp;obtain⟨j,f,_⟩:=(k.old y).1 i;have t:=N.t j y f d;unfold CK;rw[N.q,t.2];have:(y∈w.Q++[(w.fwd r).2.1])↔y∈w.Q:=by(simp only[Lo,Lr];exact⟨λc=>c.elim id λc=>absurd c.symm t.1,.inl⟩)
 simp only[this];rw[o.same g mv hr a];exact⟨a,rfl,λ_ _ _=>rfl,rfl,by rw[if_neg a];simp⟩
theorem OnW.fwd:OnW h T (w.fwd r).1:=by by_cases f:CK w r=0;obtain⟨i0,hx,e,N⟩:=o.new g mv hr f;obtain⟨s1,i,l,m,s5⟩:=o.seen g mv hr;obtain⟨tq,k⟩:=o.c.k;refine⟨o.c.fwd g e,o.m.fwd g k o.c.ok mv o.c.inv e,λy a b=>?_,λy a d=>?_,by rw[N.n,o.n,N.q];simp⟩;rw[m]at a;rw[N.q];by_cases q:y=r;subst q;rw[i];simp;rw[l y a q]at b⊢;exact Ll _ (o.q y a b);rw[m]at a;by_cases q:y=r;subst q;rw[i]at d;exact absurd d s1;rw[l y a q]at d;have z:=o.z y a d;obtain⟨j,n,_⟩:=(k.old y).1 a;have t:=N.t j y n q;rw[N.q,t.2];refine⟨?_,z.2⟩;simp only[Lo,Lr];rintro(c|c);exact z.1 c;exact t.1 c.symm;rw[o.same g mv hr f];exact o
end
def AF(w:Z6):Prop:=∀x∈w.old++w.Q,(ZD (Z1 w.heap.W x).1).2=La->∀j,0<=j->j<Zk w.heap.W x->Bl (B2 w.heap.W x) j=O->(Z1 w.heap.W (x+1+j)).1=0\/(Z1 w.heap.W (x+1+j)).1∈w.old++w.Q
structure SW (h:Heap) (T:Nat->List Int) (w:Z6):Prop where
 o:OnW h T w
 a:AF w
def SW.begin{h T}(g:Gd h T)(hw:Zy h.W):SW h T (Zo h):=by
 refine⟨OnW.begin g hw,λx m ht j b c hp=>?_⟩;have a:x∈(Zo h).old:=by simpa[Zo]using m
 obtain⟨i,f,l⟩:=((KI.begin g).old x).1 a;refine(g.q i x j f l b c hp).imp id λ⟨k,d,e⟩=>?_;exact Ll _ (((KI.begin g).old _).2 ⟨k,d,e⟩)
section
variable {h:Heap} {T:Nat->List Int} {w:Z6} (s:SW h T w) (g:Gd h T) (d:MV h)
include s g d
theorem SW.fwd{r:Int}(a:r=0\/r∈w.Q\/r∈w.old):(w.fwd r).2.2=0/\SW h T (w.fwd r).1/\NV (w.fwd r).1 (w.fwd r).2.1:=by
 by_cases c1:r=0\/r∈w.Q;rw[Z6.fwd,if_pos c1];exact⟨rfl,s,c1⟩;have a:r∈w.old:=(a.resolve_left λq=>c1 (.inl q)).resolve_left λq=>c1 (.inr q);by_cases n:CK w r=0;obtain⟨i0,hx,e,N⟩:=s.o.new g d a n;refine⟨e,⟨s.o.fwd g d a, ?_⟩,Or.inr (by rw[N.q];simp)⟩;obtain⟨tq,k⟩:=s.o.c.k;have z:=s.o.z r a n;have b:=(N2 s.o.c.ok s.o.c.inv r e).2.2;have he:(Z1 w.heap.W r).1=(Z1 h.W r).1:=by(rcases k.hd i0 r hx with q|q;exact q;rw[q.1]at z;cases z.2)
 have a0:Zk w.heap.W r=Zk h.W r:=(Ee he).2.1;intro x u o j y m hp;rw[N.o,N.q]at u⊢;have more:∀v,v∈w.old++w.Q->v∈w.old++(w.Q++[(w.fwd r).2.1]):=λv hv=>by(rw[<-List.append_assoc];exact Ll _ hv)
 by_cases p:x=(w.fwd r).2.1;have f:=N.x 0 oq (Bo _ _).1;simp only[Lp]at f;have l:B2 (w.fwd r).1.heap.W x=B2 w.heap.W r:=by rw[B2,p,f];rfl
 have el:Zk (w.fwd r).1.heap.W x=Zk w.heap.W r:=congrArg Zw.length l;rw[l]at hp;rw[el]at m;have i:=N.x (1+j) oq oq;rw[<-Ls,<-Ls,<-p]at i;rw[i];exact(s.a r (Ll _ a) z.2 j y m hp).imp id (more _);have c:x∈w.old++w.Q:=by(simp only[Lo,Lr]at u⊢;rcases u with q|q|q;exact .inl q;exact .inr q;exact absurd q p)
 by_cases t:x=r;exfalso;have:=N.c λq=>p (t.trans q.symm);rw[t,this]at o;cases o;have f:=b x c (.inr t) 0 oq (Bo _ _).1;rw[Lp]at f;have l:B2 (w.fwd r).1.heap.W x=B2 w.heap.W x:=by rw[B2,B2,f]
 have el:Zk (w.fwd r).1.heap.W x=Zk w.heap.W x:=congrArg Zw.length l;rw[l]at hp;rw[el]at m;rw[f]at o;have i:=b x c (.inr t) (1+j) oq oq;rw[<-Ls]at i;rw[i];exact(s.a x c o j y m hp).imp id (more _);rw[s.o.same g d a n];exact⟨rfl,s,Or.inr (s.o.q r a n)⟩
omit g d in
theorem SW.dec(g:Gd h T){q:Int}(a:q∈w.Q):(ZD (Z1 w.heap.W q).1).2=La:=Z4T (s.o.c.dec g a)
omit s g d in
theorem ZfQ{w:Z6}{r}(e:(w.fwd r).2.2=0):r=0\/r∈w.Q\/r∈w.old:=by unfold Z6.fwd at e;split at e;rename_i c;exact c.imp id .inl;split at e;simp at e;rename_i c;exact .inr (.inr (Ln.1 c))
theorem SW.in1{q j:Int}(t:q∈w.Q)(h0:0<=j)(h1:j<Zk w.heap.W q)(e:(w.fwd (Z1 w.heap.W (q+1+j)).1).2.2=0):SW h T (w.in1 (q+1+j))/\∀x∈w.Q,x∈(w.in1 (q+1+j)).Q/\B2 (w.in1 (q+1+j)).heap.W x=B2 w.heap.W x:=by
 obtain⟨_,s1,to⟩:=s.fwd g d (ZfQ e);have hw:=s.o.c.ok;have iv:=s.o.c.inv;obtain⟨tq,k⟩:=s.o.c.k;obtain⟨z,x1⟩:=N6 hw iv _ e;have m:=T9 hw iv _ e;have n:=x1.q q t;have a0:=x1.l q t;have hr:=z.r q (Ld _ n);have l:4096<=q+1+j/\q+1+j<4096+(w.fwd (Z1 w.heap.W (q+1+j)).1).1.heap.W.length:=by omega
 have v:∀x∈(w.fwd (Z1 w.heap.W (q+1+j)).1).1.old++(w.fwd (Z1 w.heap.W (q+1+j)).1).1.Q,∀i,0<=i->i<=Zk (w.fwd (Z1 w.heap.W (q+1+j)).1).1.heap.W x->x+i=q+1+j->x=q:=by(intro x f i a b c;have l1:=z.s q (Ld _ n) x f;have l2:=z.s x f q (Ld _ n);omega)
 have p:∀x∈(w.fwd (Z1 w.heap.W (q+1+j)).1).1.old++(w.fwd (Z1 w.heap.W (q+1+j)).1).1.Q,Z1 (w.in1 (q+1+j)).heap.W x=Z1 (w.fwd (Z1 w.heap.W (q+1+j)).1).1.heap.W x:=by(intro x f;simp only[Z6.in1];rw[Gi l λc=>?_];have:=v x f 0 oq (Bo _ _).1 oq;omega)
 refine⟨⟨⟨s.o.c.in1 g t h0 h1 e,s.o.m.in1 g k d hw iv t ⟨h0,h1⟩ e,λy o r=>?_,λy o hz=>?_,s1.o.n⟩, ?_⟩,λx f=>⟨m.mem f, ?_⟩⟩;have u:CK (w.in1 (q+1+j)) y=CK (w.fwd (Z1 w.heap.W (q+1+j)).1).1 y:=by(unfold CK;rw[p y (Ll _ o)];rfl)
 rw[u]at r⊢;exact s1.o.q y o r;have u:CK (w.in1 (q+1+j)) y=CK (w.fwd (Z1 w.heap.W (q+1+j)).1).1 y:=by(unfold CK;rw[p y (Ll _ o)];rfl)
 rw[u]at hz;rw[p y (Ll _ o)];exact s1.o.z y o hz;intro x f ht i a b hp;have f:x∈(w.fwd (Z1 w.heap.W (q+1+j)).1).1.old++(w.fwd (Z1 w.heap.W (q+1+j)).1).1.Q:=f;show _\/_∈(w.fwd (Z1 w.heap.W (q+1+j)).1).1.old++(w.fwd (Z1 w.heap.W (q+1+j)).1).1.Q;have e0:=p x f;have eh:B2 (w.in1 (q+1+j)).heap.W x=B2 (w.fwd (Z1 w.heap.W (q+1+j)).1).1.heap.W x:=by rw[B2,B2,e0]
 have el:Zk (w.in1 (q+1+j)).heap.W x=Zk (w.fwd (Z1 w.heap.W (q+1+j)).1).1.heap.W x:=congrArg Zw.length eh;rw[eh]at hp;rw[el]at b;rw[e0]at ht;by_cases c:x+1+i=q+1+j;have:(Z1 (w.in1 (q+1+j)).heap.W (x+1+i)).1=(w.fwd (Z1 w.heap.W (q+1+j)).1).2.1:=by(rw[c];simp only[Z6.in1];rw[Rl l])
 rw[this];exact to.imp id (Ld _);have:Z1 (w.in1 (q+1+j)).heap.W (x+1+i)=Z1 (w.fwd (Z1 w.heap.W (q+1+j)).1).1.heap.W (x+1+i):=by(simp only[Z6.in1];rw[Gi l c])
 rw[this];exact s1.a x f ht i a b hp;rw[B2,p x (Ld _ (m.mem f))];exact m.h x f
omit s g d in
theorem Z2Z(h:Zw):∀n:Nat,∀x∈C4 h n,Bl h x=O
 |0,x,hx=>by cases hx
 |n+1,x,hx=>by
  unfold C4 at hx;split at hx
  .rename_i c;rcases Lo.1 hx with q|q
   .exact Z2Z h n x q
   .rw[Lr.1 q];exact c
  .exact Z2Z h n x hx
omit s g d in
theorem Z2J(h:Zw):∀x∈Zz h,Bl h x=O:=by unfold Zz;split;exact Z2Z h _;intro x a;cases a
theorem SW.inn{q:Int}(o:q∈w.Q){l:List Int}(hl:∀x∈l,(0<=x/\x<Zk w.heap.W q)/\Bl (B2 w.heap.W q) x=O):∀k,k<=l.length->(∀j,j<k->CC w q l j=0)/\SW h T (Bd w q l k)/\q∈(Bd w q l k).Q/\B2 (Bd w q l k).heap.W q=B2 w.heap.W q
 |0,_=>⟨λj m=>absurd m (Lj j),s,o,rfl⟩
 |k+1,hk=>by
  obtain⟨r,f,b,i⟩:=SW.inn o hl k oq;have a:=hl _ (Be.2 ⟨k,by omega,rfl⟩);have el:Zk (Bd w q l k).heap.W q=Zk w.heap.W q:=congrArg Zw.length i;have p:=f.a q (Ld _ b) (f.dec g b) (l.getD k M) a.1.1 (by rw[el];exact a.1.2) (by rw[i];exact a.2);have e:CC w q l k=0:=(f.fwd g d (p.imp id λc=>(Lo.1 c).symm)).1;have n:=f.in1 g d b a.1.1 (by rw[el];exact a.1.2) e;refine⟨λj m=>?_,n.1,(n.2 q b).1,(n.2 q b).2.trans i⟩;by_cases c:j=k
  .rw[c];exact e
  .exact r j oq
theorem SW.step:(ZX w).2.2=0/\SW h T (ZX w).1:=by
 by_cases e:w.D<w.Q.length;have o:=s.o.c.ok.sc;have n:C2 w∈w.Q:=Be.2 ⟨w.D.toNat,by omega,rfl⟩;obtain⟨p,a,_,_⟩:=s.inn g d n (l:=Bf w) (λx f=>⟨NG (Zv w (C2 w)) x f,Z2J (Zv w (C2 w)) x f⟩) (Bf w).length (Lc _);have i:(Le (Bf w).length).find? (λk=>Lm (CC w (C2 w) (Bf w) k≠0))=Li:=Lq.2 λj m=>by simp[p j (Lh.1 m)]
 have b:ZX w=(He (Bd w (C2 w) (Bf w) (Bf w).length) (Bf w).length,O,0):=by unfold ZX;rw[if_pos e,i]
 have c:=s.o.c.step g (by rw[b]);rw[b]at c⊢;exact⟨rfl,⟨c,⟨a.o.m.m0,a.o.m.m1,a.o.m.m2,a.o.m.m3,a.o.m.m4,a.o.m.m5⟩,a.o.q,a.o.z,a.o.n⟩,a.a⟩;have b:ZX w=(w,La,0):=by rw[ZX,if_neg e]
 rw[b];exact⟨rfl,s⟩
theorem SW.it:∀k,SW h T (C7 w k)|0=>s|k+1=>(SW.step (SW.it k) g d).2
theorem SW.all:(Bu w).2=0/\SW h T (Bu w).1:=by
 obtain⟨k,b⟩:=Sz s.o.c.ok;have e:=(s.it g d k).step g d;have a:Bu w=((ZX (C7 w k)).1,0):=by rw[Bu,b];simp only[if_pos e.1]
 rw[a];exact⟨rfl,e.2⟩
end
section
variable {h:Heap} {T:Nat->List Int} (g:Gd h T) (a:MV h) {s:List Int} (hs:∀r∈s,r=0\/Ob h T r)
include g a hs
theorem SW.rootsN(hw:Zy h.W):∀k,k<=s.length->(∀j,j<k->E0 (Zo h) s j=0)/\SW h T (Go.Proofs.YtgedmeaemofdkaaGreat.rootsN (Zo h) s k).1/\∀i,i<k->NV (Go.Proofs.YtgedmeaemofdkaaGreat.rootsN (Zo h) s k).1 ((Go.Proofs.YtgedmeaemofdkaaGreat.rootsN (Zo h) s k).2.getD i M)/\((Go.Proofs.YtgedmeaemofdkaaGreat.rootsN (Zo h) s k).2.getD i M=0↔s.getD i M=0)
 |0,_=>⟨λj m=>absurd m (Lj j),SW.begin g hw,λi l=>absurd l (Lj i)⟩
 |k+1,hk=>by
  obtain⟨p,d,r⟩:=SW.rootsN hw k oq;have f:=hs _ (Be.2 ⟨k,by omega,rfl⟩);obtain⟨tq,n⟩:=d.o.c.k;have b:s.getD k M=0\/s.getD k M∈(Go.Proofs.YtgedmeaemofdkaaGreat.rootsN (Zo h) s k).1.Q\/s.getD k M∈(Go.Proofs.YtgedmeaemofdkaaGreat.rootsN (Zo h) s k).1.old:=f.imp id λq=>.inr ((n.old _).2 q);obtain⟨e,f1,f2⟩:=d.fwd g a b;have t:=T9 d.o.c.ok d.o.c.inv _ e;have o:=Ni (Zo h) s k;refine⟨λj m=>?_,f1,λi l=>?_⟩
  .by_cases q:j=k
   .rw[q];exact e
   .exact p j oq
  .simp only[Go.Proofs.YtgedmeaemofdkaaGreat.rootsN,Lg];by_cases q:i=k
   .subst q;rw[LQ oq,o];simp only[Nat.sub_self,List.getElem?_cons_zero,LA];simp only[Lg]at f b f2;refine⟨f2,λc=>?_,λc=>?_⟩
    .rcases f with q|q
     .exact q
     .have:=(d.o.seen g a ((n.old _).2 q)).1;exact absurd c this
    .rw[c,Z6.fwd,if_pos (.inl rfl)]
   .rw[LD oq];have:=r i oq;simp only[Lg]at this;exact⟨t.to this.1,this.2⟩
theorem SW.roots(hw:Zy h.W):rootsF (Zo h) s=((Go.Proofs.YtgedmeaemofdkaaGreat.rootsN (Zo h) s s.length).1,(Go.Proofs.YtgedmeaemofdkaaGreat.rootsN (Zo h) s s.length).2,0)/\SW h T (rootsF (Zo h) s).1:=by
 obtain⟨c,d,i3⟩:=SW.rootsN g a hs hw s.length (Lc _);have e:rootsF (Zo h) s=((Go.Proofs.YtgedmeaemofdkaaGreat.rootsN (Zo h) s s.length).1,(Go.Proofs.YtgedmeaemofdkaaGreat.rootsN (Zo h) s s.length).2,0):=by(unfold rootsF;rw[Lq.2 λj b=>by simp[c j (Lh.1 b)]])
 rw[e];exact⟨rfl,d⟩
end
def MU{ρ w Im v}(s:Nat)(h:Zh ρ w Im (.d (.sl 0 [])) v):Zh ρ w Im (.d (.sl s [])) v:=by
 cases h with
 |d h =>
  cases h with|slNil=>exact .d (.slNil _ _ _)|sl _ _ p n c f a=>cases a;exact .d (.slNil _ _ _)
def Z2v:Heap:=⟨⟨32,8⟩,Lf 256 0,Lf 8 ⟨0,0,0,0⟩,0,-1⟩
def NR:Heap:=⟨⟨32,8⟩,(Lf 256 0).set 0 29,[⟨1,0,2,0⟩,⟨0,0,0,0⟩,⟨0,0,0,0⟩,⟨0,0,0,0⟩,⟨0,0,0,0⟩,⟨0,0,0,0⟩,⟨0,0,0,0⟩,⟨0,0,0,0⟩],0,0⟩
def Z3Y:ZA []=⟨Z2v,[],[]⟩:=by kernel_rfl
def Zcl:(⟨Z2v,[],[]⟩:Zj).put ⟨3,1,0⟩=⟨NR,[4096],[]⟩:=by kernel_rfl
def Zhm:Z8 NR=O:=by decide+kernel
def Zfu:Bm NR=⟨0,0,0⟩:=by decide+kernel
def Zgw:Zy NR.W:=by unfold Zy;decide+kernel
def wB0:Z6:=(⟨⟨⟨32,8⟩,(Lf 256 0).set 0 29,[⟨1,0,2,0⟩,⟨0,0,0,0⟩,⟨0,0,0,0⟩,⟨0,0,0,0⟩,⟨0,0,0,0⟩,⟨0,0,0,0⟩,⟨0,0,0,0⟩,⟨0,0,0,0⟩],0,0⟩,[4096],[],[],0,⟨0,0,0,0,0,0⟩⟩:Z6)
def Z9S:Zo NR=wB0:=by kernel_rfl
def Zkz:GP 15 [.d (.sl 0 [])] La (⟨(⟨⟨32,8⟩,Lf 256 0,Lf 8 ⟨0,0,0,0⟩,0,-1⟩:Heap),[],[]⟩:Zj).av []:=by have k:=Z70 [] pq;rw[Z3Y]at k;intro w d f a b h;refine k w d f a b λi x v c e=>?_;rcases i with _|i;cases c;exact MU 1 (h 0 _ v rfl e);simp at c
def Zk8:GP 58 [.ag [int 32,int 8,.d (.sl 1 ((Lf 256 0).map wdv)),.d (.sl 4 ((Lf 8 (⟨0,0,0,0⟩:Z0)).map Z0.dv)),int 0,int (-1),.d (.sl 0 []),.d (.sl 0 [])],.ag [int 3,int 1,.d (.sc (.int .u32 0))]] La (⟨(⟨⟨32,8⟩,(Lf 256 0).set 0 29,[⟨1,0,2,0⟩,⟨0,0,0,0⟩,⟨0,0,0,0⟩,⟨0,0,0,0⟩,⟨0,0,0,0⟩,⟨0,0,0,0⟩,⟨0,0,0,0⟩,⟨0,0,0,0⟩],0,0⟩:Heap),[4096],[]⟩:Zj).av []:=by have j:=M8 [];rw[Z3Y]at j;have k:=Tl ⟨Z2v,[],[]⟩ ⟨3,1,0⟩ (j.wm dd) dd;rw[Zcl]at k;intro w m p e f h;refine k w m p e f λi x v g l=>?_;rcases i with _|_|i;cases g;obtain⟨cs,rfl,n,o,c⟩:=Hz (h 0 _ v rfl l);refine .ag _ _ n o (λi a u b d=>?_);rcases i with _|_|_|_|_|_|_|_|i;cases b;exact c 0 _ u rfl d;cases b;exact c 1 _ u rfl d;cases b;exact c 2 _ u rfl d;cases b;exact c 3 _ u rfl d;cases b;exact c 4 _ u rfl d;cases b;exact c 5 _ u rfl d;cases b;exact MU 1 (c 6 _ u rfl d);cases b;exact MU 1 (c 7 _ u rfl d);cases (show(Li:Option AV)=some a from b);cases g;exact h 1 _ v rfl l;simp at g
def Z68{B:Int}(hB:0<=B){h:Heap}{T:Nat->List Int}(g:Gd h T)(mv:MV h){s k:List Int}(hw:Zy h.W)(hb:∀p∈h.P,p.N<=B)(gs:GQ h T s)(gk:GQ h T k)(sl:s.length<=1000)(kl:k.length<=1000)(su:E7 s)(ku:E7 k) :(collectF h s k).2.2.2.2=0/\(collectF h s k).2.1.length=s.length/\(collectF h s k).2.2.1.length=k.length/\GP 35 [h.av,Z3 s,Z3 k] La (.tu [(collectF h s k).1.av,Z3 (collectF h s k).2.1,Z3 (collectF h s k).2.2.1,.ag (collectF h s k).2.2.2.1.cells,int (collectF h s k).2.2.2.2]) []:=by
 obtain⟨er,sw⟩:=SW.roots g mv gs hw;have e1:(rootsF (Zo h) s).2.2=0:=by rw[er]
 have e2:=(sw.all g mv).1;have c0:=G4.begin g hw;have cd:=Zap hB g hw hb e1 e2 gs gk sl kl ku (c0.rts g su) c0.ck.ln λk _=>⟨(sw.it g mv k).o.c.stp g,((sw.it g mv k).step g mv).1⟩
 have e7:collectF h s k=(Eo (Bz h s k),(rootsF (Zo h) s).2.1,Ec (ZF h s) k k.length,(Bz h s k).rep,0):=by rw[collectF,if_pos g.p,if_pos ⟨g.refers gs,g.refers gk⟩,if_pos e1,if_pos e2]
 refine⟨by rw[e7], ?_,by rw[e7];exact Dn _ _ _,cd⟩;rw[e7,er];exact Ni _ _ _
def Z5D:Bu wB0=(wB0,0):=by have a:(Le (Re wB0)).find? (Eg wB0)=some 0:=LO.2 ⟨by kernel_rfl,Lh.2 (by unfold Re;omega),λj b=>absurd b (Lj j)⟩;unfold Bu;rw[a];show _=_;kernel_rfl
def ZgE:Heap:=⟨⟨32,8⟩,Lf 256 0,Lf 8 ⟨0,0,0,0⟩,1,-1⟩
def Zf8:collectF NR [] []=(ZgE,[],[],⟨0,0,0,1,0,0⟩,0):=by
 have a:rootsF (Zo NR) []=(wB0,[],0):=by rw[Z9S];kernel_rfl
 have c2:ZF NR []=wB0:=by rw[ZF,a,Z5D]
 have b:Bz NR [] []=⟨⟨⟨32,8⟩,Lf 256 0,Lf 8 ⟨0,0,0,0⟩,0,0⟩,[4096],[],[],0,⟨0,0,0,1,0,0⟩⟩:=by(unfold Bz Cw Cr;rw[c2];kernel_rfl)
 rw[collectF,if_pos Zhm,if_pos ⟨by decide+kernel,by decide+kernel⟩,if_pos (by rw[a]),if_pos (by rw[a,Z5D]),b,c2,a];show _=_;kernel_rfl
def Zku:MV NR:=⟨by decide+kernel,1,by decide+kernel⟩
def Zhj:GP 35 [(⟨⟨32,8⟩,(Lf 256 0).set 0 29,[⟨1,0,2,0⟩,⟨0,0,0,0⟩,⟨0,0,0,0⟩,⟨0,0,0,0⟩,⟨0,0,0,0⟩,⟨0,0,0,0⟩,⟨0,0,0,0⟩,⟨0,0,0,0⟩],0,0⟩:Heap).av,.d (.sl 0 []),.d (.sl 0 [])] La (.tu [(⟨⟨32,8⟩,Lf 256 0,Lf 8 ⟨0,0,0,0⟩,1,-1⟩:Heap).av,Z3 [],Z3 [],.ag (⟨0,0,0,1,0,0⟩:Rep).cells,int 0]) []:=by have k:=(Z68 (B:=0) (LI 0) (ZfD Zfu) Zku Zgw (by decide+kernel) (s:=[]) (k:=[]) (λ_ q=>by cases q) (λ_ q=>by cases q) (Lz _) (Lz _) (λ_ q=>by cases q) (λ_ q=>by cases q)).2.2.2;rw[Zf8]at k;intro w e f b c h;refine k w e f b c λi x v a d=>?_;rcases i with _|_|_|i;cases a;exact h 0 _ v rfl d;cases a;exact MU 1 (h 1 _ v rfl d);cases a;exact MU 1 (h 2 _ v rfl d);simp at a
def ZaN:GP 38 [] O (bool O) []:=by exact gF [] func38 [] (Fc 7 (@Zkz) (Fc 11 (@Zk8) (Fc 15 (@Zhj) Fz)))
def EZ(w:Zj):Rep:=(collectF w.heap w.G w.E).2.2.2.1
def ZdI{w n}(G:WG w)(a:C3 w n)(h:MV w.heap)(sl:w.G.length<=1000)(wl:w.E.length<=1000):(collectF w.heap w.G w.E).2.2.2.2=0/\w.collect=⟨(collectF w.heap w.G w.E).1,(collectF w.heap w.G w.E).2.1,(collectF w.heap w.G w.E).2.2.1⟩/\w.collect.G.length=w.G.length/\w.collect.E.length=w.E.length /\
  GP 35 [w.heap.av,Z3 w.G,Z3 w.E] La (.tu [w.collect.heap.av,Z3 w.collect.G,Z3 w.collect.E,.ag (EZ w).cells,int 0]) []:=by
 obtain⟨T,g,d,f⟩:=G;obtain⟨e,l1,l2,c⟩:=Z68 (B:=n) oq g h a.W (λp hp=>(a.pin_mem p hp).2) d f sl wl a.G a.E;have b:w.collect=⟨(collectF w.heap w.G w.E).1,(collectF w.heap w.G w.E).2.1,(collectF w.heap w.G w.E).2.2.1⟩:=by rw[Zj.collect,if_pos e]
 rw[e]at c;rw[b];exact⟨e,rfl,l1,l2,c⟩
def Z1U a:(collectF (ZA a).heap (ZA a).G (ZA a).E).2.2.2.2=0/\(ZA a).collect=⟨(collectF (ZA a).heap (ZA a).G (ZA a).E).1,(collectF (ZA a).heap (ZA a).G (ZA a).E).2.1,(collectF (ZA a).heap (ZA a).G (ZA a).E).2.2.1⟩/\(ZA a).collect.G.length=(ZA a).G.length/\(ZA a).collect.E.length=(ZA a).E.length /\
  GP 35 [(ZA a).heap.av,Z3 (ZA a).G,Z3 (ZA a).E] La (.tu [(ZA a).collect.heap.av,Z3 (ZA a).collect.G,Z3 (ZA a).collect.E,.ag (EZ (ZA a)).cells,int 0]) []:=ZdI (Z4l a) (M8 a) (Z26 a) (M8 a).sl (M8 a).wl
def ZjM a:GP 35 [(ZA a).heap.av,Z3 (ZA a).G,Z3 (ZA a).E] La (.tu [(ZA a).collect.heap.av,Z3 (ZA a).collect.G,Z3 (ZA a).collect.E,.ag (EZ (ZA a)).cells,int 0]) []:=(Z1U a).2.2.2.2
def ZfP(a:List Int)(h1:a.length<=140737488355328):GP 39 [ZE a] La (.tu [(ZA a).av,(ZA a).collect.av,.ag (EZ (ZA a)).cells,bool O]) []:=by have b:=M8 a;have sl:=b.sl;have wl:=b.wl;obtain⟨_,_,l1,l2,_⟩:=Z1U a;let c:=(0:Int)==0&&(↑(ZA a).collect.G.length:Int)==(↑(ZA a).G.length:Int);exact gF [] func39 (fO 12) (Fc 13 (@Z70 a aa) (Fc 21 (@ZjM a) (FlG 37 ((0:Int)==0) wdv (ZA a).collect.G (FlG 40 ((0:Int)==0) wdv (ZA a).G (FlG 45 c wdv (ZA a).collect.E (FlG 48 c wdv (ZA a).E (Fr ((ZA a).heap.C.pw) (Fr ((ZA a).heap.C.pg) (Fr (Lb wdv (ZA a).heap.W) (Fr (Lb Z0.dv (ZA a).heap.P) (Fr ((ZA a).heap.S) (Fr ((ZA a).heap.B) (Fr (Lb wdv (ZA a).G) (Fr (Lb wdv (ZA a).E) (Fr ((ZA a).collect.heap.C.pw) (Fr ((ZA a).collect.heap.C.pg) (Fr (Lb wdv (ZA a).collect.heap.W) (Fr (Lb Z0.dv (ZA a).collect.heap.P) (Fr ((ZA a).collect.heap.S) (Fr ((ZA a).collect.heap.B) (Fr (Lb wdv (ZA a).collect.G) (Fr (Lb wdv (ZA a).collect.E) (Fr ((EZ (ZA a)).copied) (Fr ((EZ (ZA a)).kept) (Fr ((EZ (ZA a)).filled) (Fr ((EZ (ZA a)).freed) (Fr ((EZ (ZA a)).cleared) (Fr ((EZ (ZA a)).steps) (Fb (((↑(ZA a).collect.G.length:Int)==(↑(ZA a).G.length:Int)&&(↑(ZA a).collect.E.length:Int)==(↑(ZA a).E.length:Int))=O) Fz)))))))))))))))))))))))))))))
def GA(b:Zw)(a:List Int):Nat->List Int|0=>[]|i+1=>if Bl b (i:Int)=O then GA b a i++[a.getD i M]else GA b a i
def Z18 b a:∀i,(GA b a i).length<=i
 |0=>Lc _
 |i+1=>by
  have:=Z18 b a i;unfold GA;split
  .rw[Lt,Lu];omega
  .omega
def Gp(h:Heap)(a:Int):List Int:=GA (Zs h a).1 (BW h a).1 (BW h a).1.length
def EB(out:List Int)(r:Int):List Int:=if r=0\/r∈out then out else out++[r]
def addN(out refs:List Int):Nat->List Int|0=>out|i+1=>EB (addN out refs i) (refs.getD i M)
def Z0N out refs{i}:∀k,(addN out refs i).length<=(addN out refs (i+k)).length
 |0=>Lc _
 |k+1=>by
  refine LW (Z0N out refs k) ?_;show _<=(EB _ _).length;unfold EB;split
  .exact Lc _
  .rw[Lt];exact Nat.le_add_right _ _
def a8L(a out refs:List Int)(i:Nat):Tg:=⟨tm 42 [(0,Z3 a),(1,.ow 8000),(2,Z3 refs),(6,.d (.sl 0 [])),(7,bool La),(8,int i)],[(8000,.arr 35 1 ((addN out refs i).map wdv))],4⟩
section
variable (a out refs:List Int) (hl:refs.length<=1048576) (d:a.length<=1048576) (ho:(addN out refs refs.length).length<=1048576) (b:E7 refs)
include hl d ho b
theorem Zho(i:Nat)(j:i<refs.length)(f:EM refs a i=La):CP (Zm f66 0) (a8L a out refs i).st .nrm (a8L a out refs (i+1)).st:=by
 have ln:=LW (Z0N out refs (i:=i) (refs.length-i)) (by rw[show i+(refs.length-i)=refs.length by omega];exact ho);have r:=b _ (Be.2 ⟨i,j,rfl⟩);unfold EM at f;have f:=of_decide_eq_false f;by_cases g:refs.getD i M=0;have e:addN out refs (i+1)=addN out refs i:=by rw[addN,EB,if_pos (.inl g)]
 unfold a8L;rw[e];exact sF [] [] (FN 11 12 17 wdv refs i (Ftb 19 (refs.getD i M==0) (Fx 14 i Fz)));have f:refs.getD i M∈a:=Ln.1 λc=>f ⟨g,c⟩;by_cases h:refs.getD i M∈addN out refs i;have e:addN out refs (i+1)=addN out refs i:=by rw[addN,EB,if_pos (.inr h)]
 unfold a8L;rw[e];exact sF [] [] (FN 11 12 17 wdv refs i (Ffb 19 (refs.getD i M==0) (Fek 23 wdv refs (↑i) i (Fc 25 (@CN a (refs.getD i M) aa) (Ffb 26 (!decide (refs.getD i M∈a)) (Fek 30 wdv refs (↑i) i (Fc 32 (@CN (addN out refs i) (refs.getD i M) aa) (Ffb 33 (!decide (refs.getD i M∈addN out refs i)) (Fx 14 i Fz)))))))));have e:addN out refs (i+1)=addN out refs i++[refs.getD i M]:=by rw[addN,EB,if_neg (λc=>c.elim g h)]
 unfold a8L;rw[e];exact sF [(64040,8000)] [] (Fh 40 [.els (Lb wdv (addN out refs i++[refs.getD i M]))] (FN 11 12 17 wdv refs i (Ffb 19 (refs.getD i M==0) (Fek 23 wdv refs (↑i) i (Fc 25 (@CN a (refs.getD i M) aa) (Ffb 26 (!decide (refs.getD i M∈a)) (Fek 30 wdv refs (↑i) i (Fc 32 (@CN (addN out refs i) (refs.getD i M) aa) (Ftb 33 (!decide (refs.getD i M∈addN out refs i)) (Fek 37 wdv refs (↑i) i (Fs 39 (Lb wdv [refs.getD i M]) (Fa (by(simp[*];omega):(Lb wdv (addN out refs i)).length+(Lb wdv [refs.getD i M]).length<=2^30) (Fa (ms:Lb wdv (addN out refs i)++Lb wdv [refs.getD i M]=Lb wdv (addN out refs i++[refs.getD i M])) (Fx 14 i Fz))))))))))))))
omit hl d ho b in
theorem ZjC:CP (Zm f66 0) (a8L a out refs refs.length).st (.ext 0) (Tg.st ⟨tm 42 [(1,.ow 8000),(6,.d (.sl 0 [])),(7,bool La)],[(8000,.arr 35 1 ((addN out refs refs.length).map wdv))],4⟩):=by exact sF [] [] (FO 11 12 wdv refs Fz)
def Za6(e:(Le refs.length).find? (EM refs a)=Li)  := Bs (S:=λk=>(a8L a out refs k).st) refs.length (by kernel_rfl) (λk c=>Zho a out refs hl d ho b k c (by
  have:=Lq.1 e k (Lh.2 c);simpa using this)) (ZjC a out refs)
theorem Z9i(hb:(Le refs.length).find? (EM refs a)=Li):BP 66 [Z3 a,.ow 0,Z3 refs] [.arr 35 1 (out.map wdv)] (.tu [.ow 1,bool O]) [.dead,.arr 35 1 ((addN out refs refs.length).map wdv)]:=by have c:=Z0N out refs (i:=0) refs.length;rw[Nat.zero_add]at c;exact borF [8000] [8000] func66 [] (Fu (@Za6 a out refs aa aa aa aa aa) Fz)
end
def rfL(a:Zw)(b:List Int)(i:Nat):Tg:=⟨tm 40 [(4,.d (.sl 0 [])),(5,.pt 16005 0 0),(7,Z3 b),(9,.ow 32009),(10,int i)],[(32009,.arr 35 1 ((GA a b i).map wdv)),(16005,.box 52 [int a.K,int a.length,u32 a.map])],6⟩
section
variable (b:Zw) (a:List Int) (e:0<=b.map/\b.map<=4294967295) (d:a.length<=1048576)
include e d
theorem ZjL(i:Nat)(hi:i<a.length):CP (Zm f18 0) (rfL b a i).st .nrm (rfL b a (i+1)).st:=by
 have ln:=Z18 b a i;by_cases c:Bl b (i:Int)=O;have f:GA b a (i+1)=GA b a i++[a.getD i M]:=by rw[GA,if_pos c]
 unfold rfL;rw[f];exact sF [(64038,32009)] [] (Fh 31 [.call O (Sx.bool (Bl b (i:Int))) [],.br O] (Fh 38 [.els (Lb wdv (GA b a i++[a.getD i M]))] (FM 25 26 wdv a i (Fa (@NL b ((i:Int)) aa) (Fa ‹Bl b (i:Int)=O› (Fek 35 wdv a (↑i) i (Fs 37 (Lb wdv [a.getD i M]) (Fa (by(simp[*];omega):(Lb wdv (GA b a i)).length+(Lb wdv [a.getD i M]).length<=2^30) (Fa (ms:Lb wdv (GA b a i)++Lb wdv [a.getD i M]=Lb wdv (GA b a i++[a.getD i M])) (Fx 28 i Fz))))))))));have f:GA b a (i+1)=GA b a i:=by rw[GA,if_neg c]
 unfold rfL;rw[f];exact sF [] [] (Fh 31 [.call O (Sx.bool (Bl b (i:Int))) [],.br La] (FM 25 26 wdv a i (Fa (@NL b ((i:Int)) aa) (Fbs (Bl b (i:Int)=La) (Fx 28 i Fz)))))
theorem Zhp:CP (Zm f18 0) (rfL b a a.length).st (.ext 0) (Tg.st ⟨tm 40 [(4,.d (.sl 0 [])),(9,.ow 32009)],[(32009,.arr 35 1 ((GA b a a.length).map wdv))],6⟩):=by exact sF [] [] (FO 25 26 wdv a Fz)
def Zdg  := Bs (S:=λk=>(rfL b a k).st) a.length (by kernel_rfl) (λk c=>ZjL b a e d k c) (Zhp b a e d)
end
def Zk9(h:Heap)(a:Int)(hw:Zy h.W)(h0:0<=a/\a<=18446744073709551615):GP 18 [h.av,u64 a] La (Z3 (Gp h a)) []:=by have hm:=OU hw a;have hf:=ON h a;exact gF [] func18 [] (Fh 9 [.own] (Fc 14 (@Nf h a aa aa) (Fc 20 (@Z3F h a aa aa) (Fu (@Zdg ((Zs h a).1) ((BW h a).1) aa oq) Fz))))
theorem Z6X c:∀n:Nat,(C4 c n).Nodup
 |0=>LG
 |n+1=>by
  have d:=Z6X c n;unfold C4;split
  .rw[LV];refine⟨d,by simp,λa e b hb=>?_⟩;have:=(Z0w c n a e).2;grind
  .exact d
def Z4a a:(Zz a).Nodup:=by grind[Zz,Z6X]
def Z8D b(a:List Int)(f:Int->Int):∀n:Nat,(∀k:Nat,k<n->a.getD k M=f k)->GA b a n=(C4 b n).map f
 |0,_=>rfl
 |n+1,h=>by
  unfold GA C4;rw[Z8D b a f n (λk hk=>h k oq),h n oq];grind
def Gd.refs{h T}(g:Gd h T){i}{x:Int}(b:x∈T i)(a:Cy h.W x≠0):Gp h x=(Zz (B2 h.W x)).map λj=>(Z1 h.W (x+1+j)).1:=by obtain⟨e,l,f⟩:=g.fields b a;unfold Gp;rw[e,Z8D _ _ (λj=>(Z1 h.W (x+1+j)).1) _ (λk a=>f k oq),show(BW h x).1.length=(Zk h.W x).toNat by omega];unfold Zz;rw[if_pos (show ZR (B2 h.W x)=O from Ah _)];rfl
theorem Zkx{w}(hw:B8 w)(h:Bv w){n:Int}(f:1<=n)(hp:n<=w.heap.C.pw)(b:(w.place n).2.2=O):(w.place n).2.1∉w.Q:=by obtain⟨i,p,t,a,h2,h3,h4,h5,h6,h7,h8,e⟩:=P4 hw ⟨f,hp⟩ b;have d:=h.f i a (by grind);intro c;have q:=d _ (Ld _ c);have:=Bo w.heap.W (w.place n).2.1;omega
def Z8v{l:List Int}{a:Int}(h:l.Nodup)(ha:a∉l):(l++[a]).Nodup:=by grind
def Zej{w}(hw:B8 w)(h:Bv w){r}(e:(w.fwd r).2.2=0)(nd:w.Q.Nodup):(w.fwd r).1.Q.Nodup:=by
 unfold Z6.fwd at e⊢;split at e;grind;rename_i c1;rw[if_neg c1];have a:r∉w.Q:=λq=>c1 (.inr q);split at e;simp at e;rename_i c2;rw[if_neg c2];have d:r∈w.old:=Ln.1 c2;split at e;grind;rename_i c3;rw[if_neg c3];split at e;simp at e;rename_i c4;rw[if_neg c4];split at e;rename_i f;rw[if_pos f];exact Z8v nd a;rename_i f;rw[if_neg f];split at e;rename_i b;rw[if_pos b];exact Z8v nd a;rename_i b;rw[if_neg b];split at e;simp at e;rename_i j;rw[if_neg j];have g:(w.place (Z5 (Zv w r))).2.2=O:=by grind
 have c:=h.z r d;have l:=Bo w.heap.W r;have hd:=GH w r;have hp:Z5 (Zv w r)<=w.heap.C.pw:=by(rcases c with c|c;exact absurd c b;omega)
 obtain⟨i,p,t,p1,p2,p3,p4,p5,p6,p7,k⟩:=P3 hw ⟨by omega,hp⟩ g;have hq:(w.place (Z5 (Zv w r))).1.Q=w.Q:=by rw[k]
 show((w.place (Z5 (Zv w r))).1.Q++[_]).Nodup;grind[Zkx]
structure RO (h:Heap) (T:Nat->List Int) (w:Z6) (out:List Int) (n:Nat):Prop where
 b:SW h T w
 nd:w.Q.Nodup
 l:w.Q.length=out.length
 i:∀i,i<out.length->out.getD i M∈w.old/\CK w (out.getD i M)=w.Q.getD i M
 s:∀y∈w.old,CK w y≠0->y∈out
 un:∀y∈w.old,CK w y=0->∀m,0<=m->m<=Zk h.W y->(Z1 w.heap.W (y+m)).1=(Z1 h.W (y+m)).1
 uq:∀i,n<=i->i<out.length->∀m,0<=m->m<=Zk h.W (out.getD i M)->(Z1 w.heap.W (w.Q.getD i M+m)).1=(Z1 h.W (out.getD i M+m)).1
def RO.begin{h T}(g:Gd h T)(hw:Zy h.W):RO h T (Zo h) [] 0:=
 ⟨SW.begin g hw,LG,rfl,λi a=>absurd a (Lj i),λy b q=>absurd (Z1T g b).1 q,λy b _ m _ _=>rfl,λi _ a=>absurd a (Lj i)⟩
def D5{l:List Int}{a:Int}{k:Nat}:(l++[a]).getD k M=if k<l.length then l.getD k M else if k=l.length then a else M:=by grind
section
variable {h:Heap} {T:Nat->List Int} {w:Z6} {out:List Int} {n:Nat} (o:RO h T w out n) (g:Gd h T) (d:MV h)
include o g d
theorem RO.fwd{r:Int}(b:r=0\/r∈w.old):(w.fwd r).2.2=0/\RO h T (w.fwd r).1 (EB out r) n/\(w.fwd r).2.1=(if r=0 then 0 else CK (w.fwd r).1 r):=by
 rcases b with rfl|b;grind[Z6.fwd,EB];obtain⟨tq,k⟩:=o.b.o.c.k;obtain⟨i0,s,a1⟩:=(k.old r).1 b;have r0:r≠0:=by have:=g.inw s;omega
 rw[if_neg r0];by_cases l:CK w r=0;obtain⟨i0,hx,e,N⟩:=o.b.o.new g d b l;obtain⟨s1,v,x,z,s5⟩:=o.b.o.seen g d b;have a0:=(N2 o.b.o.c.ok o.b.o.c.inv r e).2.2;have no:r∉out:=λc=>by(obtain⟨j,i,ej⟩:=Be.1 c;have q:=(o.i j i).2;rw[ej,l]at q;have:=o.b.o.c.inv.r 0 (Ld _ (Be.2 ⟨j,by rw[o.l];exact i,q.symm⟩));omega)
 have ea:EB out r=out++[r]:=by grind[EB]
 rw[ea];have t:=o.l;refine⟨e,⟨(o.b.fwd g d (.inr (.inr b))).2.1,Zej o.b.o.c.ok o.b.o.c.inv e o.nd,by grind,λj i=>?_,λy f a=>?_,λy f a m m0 m1=>?_,λj i p m m0 m1=>?_⟩,v.symm⟩;rw[N.o,N.q,D5,D5,t];rw[Lt,Lu]at i;by_cases q:j<out.length;rw[if_pos q,if_pos q];have:=o.i j q;grind;grind;rw[z]at f;by_cases q:y=r;rw[q];simp;rw[x y f q]at a;exact Ll _ (o.s y f a);rw[z]at f;have q:y≠r:=λq=>s1 (v.symm.trans (q▸a));rw[x y f q]at a;have u:=o.un y f a;have ey:=(Ee (by have:=u 0 oq (Bo _ _).1;omega)).2.1;grind;rw[Lt,Lu]at p;rw[D5]at m1⊢;rw[N.q,D5,t];by_cases q:j<out.length;rw[if_pos q]at m1⊢;rw[if_pos q];have u:=o.uq j i q;have hq:w.Q.getD j M∈w.Q:=Be.2 ⟨j,by omega,rfl⟩;have ey:Zk w.heap.W (w.Q.getD j M)=Zk h.W (out.getD j M):=by(have:=u 0 oq (Bo _ _).1;simp only[Lp]at this;grind[Zk])
 grind;have:j=out.length:=by omega
 rw[if_neg q,if_pos this]at m1⊢;rw[if_neg q,if_pos this];rw[N.x m m0 m1];exact o.un r b l m m0 m1;rw[o.b.o.same g d b l,EB,if_pos (.inr (o.s r b l))];grind
omit d in
theorem RO.old{x j:Int}(m:x∈w.old)(f:j∈Zz (B2 h.W x)):(Z1 h.W (x+1+j)).1=0\/(Z1 h.W (x+1+j)).1∈w.old:=by obtain⟨tq,k⟩:=o.b.o.c.k;obtain⟨p,e,c⟩:=(k.old x).1 m;have b:=NG _ j f;refine(g.q p x j e c b.1 b.2 (Z2J _ j f)).imp id λ⟨a,i,l⟩=>(k.old _).2 ⟨a,i,l⟩
theorem RO.in1{a:Nat}(ha:a<n)(hn:a<out.length){j:Int}(hj:0<=j/\j<Zk h.W (out.getD a M))(hq:B2 w.heap.W (w.Q.getD a M)=B2 h.W (out.getD a M))(hv:(Z1 w.heap.W (w.Q.getD a M+1+j)).1=0\/(Z1 w.heap.W (w.Q.getD a M+1+j)).1∈w.old) :(w.fwd (Z1 w.heap.W (w.Q.getD a M+1+j)).1).2.2=0/\RO h T (w.in1 (w.Q.getD a M+1+j)) (EB out (Z1 w.heap.W (w.Q.getD a M+1+j)).1) n/\(w.in1 (w.Q.getD a M+1+j)).Q.getD a M=w.Q.getD a M /\
  B2 (w.in1 (w.Q.getD a M+1+j)).heap.W (w.Q.getD a M)=B2 h.W (out.getD a M)/\(∀m,0<=m->m<Zk h.W (out.getD a M)->m≠j->Z1 (w.in1 (w.Q.getD a M+1+j)).heap.W (w.Q.getD a M+1+m)=Z1 w.heap.W (w.Q.getD a M+1+m)):=by
 obtain⟨e,f,_⟩:=o.fwd g d hv;have l:w.Q.getD a M∈w.Q:=Be.2 ⟨a,by have:=o.l;omega,rfl⟩;generalize a3:w.Q.getD a M=q at *;have hl:Zk w.heap.W q=Zk h.W (out.getD a M):=congrArg Zw.length hq;have hw:=o.b.o.c.ok;have iv:=o.b.o.c.inv;have S:=o.b.in1 g d l hj.1 oq e;obtain⟨tq,k⟩:=o.b.o.c.k;obtain⟨i1,x1⟩:=N6 hw iv _ e;have sm:=T9 hw iv _ e;have fs:=(N2 hw iv _ e).2.2;have s:=x1.q q l;have a5:=x1.l q l;have hr:=i1.r q (Ld _ s);generalize a7:(Z1 w.heap.W (q+1+j)).1=v at *;have a4:4096<=q+1+j/\q+1+j<4096+(w.fwd v).1.heap.W.length:=by omega
 have a1:∀x∈(w.fwd v).1.old++(w.fwd v).1.Q,∀i,0<=i->i<=Zk (w.fwd v).1.heap.W x->x+i=q+1+j->x=q:=by(intro x hx i y0 b c;have l1:=i1.s q (Ld _ s) x hx;have l2:=i1.s x hx q (Ld _ s);omega)
 have wd:∀z,z≠q+1+j->Z1 (w.in1 (q+1+j)).heap.W z=Z1 (w.fwd v).1.heap.W z:=λz hz=>by(grind[Z6.in1,Gi])
 have hh:∀x∈(w.fwd v).1.old++(w.fwd v).1.Q,Z1 (w.in1 (q+1+j)).heap.W x=Z1 (w.fwd v).1.heap.W x:=λx hx=>wd x λc=>by(have:=a1 x hx 0 oq (Bo _ _).1 oq;omega)
 have a0:(w.in1 (q+1+j)).Q=(w.fwd v).1.Q:=by grind[Z6.in1]
 have t:(w.in1 (q+1+j)).old=(w.fwd v).1.old:=by grind[Z6.in1]
 have se:∀y∈(w.fwd v).1.old,CK (w.in1 (q+1+j)) y=CK (w.fwd v).1 y:=λy r=>by(grind[CK])
 have fl:=f.l;have ln:=o.l;have gq:(w.fwd v).1.Q.getD a M=q:=by rw[sm.get oq];exact a3
 have ao:a<(EB out v).length:=by grind[EB]
 refine⟨e,⟨S.1,by rw[a0];exact f.nd,by grind,λi hi=>?_,λy r p=>?_,λy r p m m0 m1=>?_,λi hi a2 m m0 m1=>?_⟩,by grind,(S.2 q l).2.trans hq,λm m0 m1 hm=>?_⟩;grind[i];rw[t]at r;rw[se y r]at p;exact f.s y r p;rw[t]at r;rw[se y r]at p;have u:=f.un y r p;have ey:=(Ee (by have:=u 0 oq (Bo _ _).1;omega)).2.1;grind[CK];rw[a0];have u:=f.uq i hi a2;have a6:(w.fwd v).1.Q.getD i M∈(w.fwd v).1.Q:=Be.2 ⟨i,by omega,rfl⟩;have ey:Zk (w.fwd v).1.heap.W ((w.fwd v).1.Q.getD i M)=Zk h.W ((EB out v).getD i M):=by(have:=u 0 oq (Bo _ _).1;simp only[Lp]at this;grind[Zk])
 grind[nd,List.getElem?_inj];rw[wd _ oq,show q+1+m=q+(1+m) by omega,fs q (Ld _ l) (.inl l) (1+m) oq oq]
theorem RO.inn{q x:Int}{l:List Int}(r:n<out.length)(hq:w.Q.getD n M=q)(hx:out.getD n M=x)(hl:Zz (B2 h.W x)=l):∀k,k<=l.length->RO h T (Bd w q l k) (addN out (l.map λj=>(Z1 h.W (x+1+j)).1) k) (n+1)/\(∀j,j<k->CC w q l j=0)/\(Bd w q l k).Q.getD n M=q/\B2 (Bd w q l k).heap.W q=B2 h.W x /\ (addN out (l.map λj=>(Z1 h.W (x+1+j)).1) k).getD n M=x/\n<(addN out (l.map λj=>(Z1 h.W (x+1+j)).1) k).length/\∀m,0<=m->m<Zk h.W x->(∀i,i<k->l.getD i M≠m)->(Z1 (Bd w q l k).heap.W (q+1+m)).1=(Z1 h.W (x+1+m)).1
 |0,_=>by
  subst hq;subst hx;have u:=o.uq n (Lc _) r;refine⟨⟨o.b,o.nd,o.l,o.i,o.s,o.un,λi z=>o.uq i oq⟩,λj e=>absurd e (Lj j),rfl, ?_,rfl,r,λm m0 m1 _=>?_⟩
  .have:=u 0 oq (Bo _ _).1;simp only[Lp]at this;show B2 w.heap.W _=_;rw[B2,B2,this]
  .have:=u (1+m) oq oq;rw[<-Ls,<-Ls]at this;exact this
 |k+1,hk=>by
  obtain⟨t,i2,v,i4,b,f,i7⟩:=RO.inn r hq hx hl k oq;have e:l.getD k M∈Zz (B2 h.W x):=by rw[hl];exact Be.2 ⟨k,by omega,rfl⟩
  have y:=NG _ _ e;have nd:=Z4a (B2 h.W x);rw[hl]at nd;have s:∀i,i<k->l.getD i M≠l.getD k M:=λi z c=>by
   simp only[Lg]at c;rw[Lk oq,Lk oq]at c;have:=(List.getElem_inj nd).1 c;omega
  have ev:=i7 (l.getD k M) y.1 y.2 s;have xo:x∈(Bd w q l k).old:=by
   have:=(t.i n f).1;rw[b]at this;exact this
  have ov:=t.old g xo e;rw[<-ev]at ov;obtain⟨c1,c2,c3,c4,p⟩:=t.in1 g d (a:=n) oq f (j:=l.getD k M) (by rw[b];exact y) (by rw[v,b];exact i4) (by rw[v];exact ov);rw[v]at c1 c2 c3 c4 p;rw[b]at c4 p;rw[ev]at c2;have em:(l.map λj=>(Z1 h.W (x+1+j)).1).getD k M=(Z1 h.W (x+1+l.getD k M)).1:=by
   simp only[Lg,LR,Lk (show k<l.length by omega),LY,LA]
  have e2:addN out (l.map λj=>(Z1 h.W (x+1+j)).1) (k+1)=EB (addN out (l.map λj=>(Z1 h.W (x+1+j)).1) k) (Z1 h.W (x+1+l.getD k M)).1:=by rw[addN,em]
  rw[e2];refine⟨c2,λj e=>?_,c3,c4, ?_, ?_,λm m0 m1 hm=>?_⟩
  .by_cases c:j=k
   .rw[c];exact c1
   .exact i2 j oq
  .unfold EB;split
   .exact b
   .rw[D5,if_pos f];exact b
  .unfold EB;split
   .exact f
   .rw[Lt];omega
  .show(Z1 ((Bd w q l k).in1 (q+1+l.getD k M)).heap.W (q+1+m)).1=_;rw[p m m0 m1 (λc=>hm k oq c.symm)];exact i7 m m0 m1 λi z=>hm i oq
theorem RO.step(f:n<out.length)(hs:w.D=n):RO h T (ZX w).1 (addN out (Gp h (out.getD n M)) (Gp h (out.getD n M)).length) (n+1)/\(ZX w).2.1=O/\(ZX w).1.D=(n+1:Nat):=by
 have r:=(o.i n f).1;obtain⟨tq,k⟩:=o.b.o.c.k;obtain⟨i0,i,e⟩:=(k.old _).1 r;have m:=g.refs i e;have p:B2 w.heap.W (w.Q.getD n M)=B2 h.W (out.getD n M):=by(have:=o.uq n (Lc _) f 0 oq (Bo _ _).1;simp only[Lp]at this;grind[B2])
 have l:C2 w=w.Q.getD n M:=by grind[C2]
 have hp:Bf w=Zz (B2 h.W (out.getD n M)):=by unfold Bf Zv;rw[l];exact congrArg Zz p
 obtain⟨a,i2,_⟩:=o.inn g d f rfl rfl rfl _ (Lc _);have q:w.D<w.Q.length:=by rw[hs,o.l];omega
 have hb:(Le (Bf w).length).find? (λk=>Lm (CC w (C2 w) (Bf w) k≠0))=Li:=Lq.2 λj hj=>by(grind)
 have c:ZX w=(He (Bd w (C2 w) (Bf w) (Bf w).length) (Bf w).length,O,0):=by grind[ZX]
 have b:=o.b.step g d;have so:=(PV o.b.o.c.ok b.1).2 (by rw[c]);refine⟨?_,by rw[c],by omega⟩;have b:=b.2;rw[c]at b⊢;rw[l,hp]at b⊢;rw[m,LS];exact⟨b,a.nd,a.l,a.i,a.s,a.un,a.uq⟩
end
def ZL(h:Heap)(roots:List Int):Nat->List Int|0=>addN [] roots roots.length|i+1=>addN (ZL h roots i) (Gp h ((ZL h roots i).getD i M)) (Gp h ((ZL h roots i).getD i M)).length
structure RF (h:Heap) (roots:List Int) (k:Nat):Prop where
 r:(Le roots.length).find? (EM roots (Zq h).1)=Li
 o:∀i,i<k->i<(ZL h roots i).length/\E7 (Gp h ((ZL h roots i).getD i M))/\(Le (Gp h ((ZL h roots i).getD i M)).length).find? (EM (Gp h ((ZL h roots i).getD i M)) (Zq h).1)=Li
 e:(ZL h roots k).length<=k
 u:∀i,i<=k->(ZL h roots i).length<=1048576/\E7 (ZL h roots i)
def MX(h:Heap)(roots:List Int):Nat->Nat->Nat|0,i=>i|f+1,i=>if(ZL h roots i).length<=i then i else MX h roots f (i+1)
def BQ(h:Heap)(roots:List Int):Nat:=MX h roots (1048577+roots.length) 0
def Z7q{h roots k}(E:RF h roots k):∀f i,i<=k->k<=i+f->MX h roots f i=k
 |0,i,h1,h2=>by unfold MX;omega
 |f+1,i,h1,h2=>by
  unfold MX;by_cases q:i=k
  .rw[q,if_pos E.e]
  .have:=(E.o i oq).1;rw[if_neg oq];exact Z7q E f (i+1) oq oq
def Z5M{h roots k}(E:RF h roots k):BQ h roots=k:=by refine Z7q E _ 0 (Lz _) ?_;by_cases q:k=0;omega;have h1:=(E.o (k-1) oq).1;have h2:=(E.u (k-1) oq).1;omega
def ZjO(a refs:List Int)(hl:refs.length<=1048576)(b:a.length<=1048576)(ho:(addN [] refs refs.length).length<=1048576)(d:E7 refs)(c:(Le refs.length).find? (EM refs a)=Li):BP 66 [Z3 a,.ow 0,Z3 refs] [.arr 35 1 []] (.tu [.ow 1,bool O]) [.dead,.arr 35 1 ((addN [] refs refs.length).map wdv)]:=
 Z9i a [] refs hl b ho d c
def orL(h:Heap)(roots:List Int)(i:Nat):Tg:=⟨tm 52 [(2,.pt 8002 0 0),(4,.d (.sl 0 [])),(5,int 0),(6,Z3 (Zq h).1),(8,.ow 41025),(9,bool O),(10,int i)],[(41025,.arr 35 1 ((ZL h roots i).map wdv)),(8002,.box 28 [int h.C.pw,int h.C.pg,.d (.sl 1 (h.W.map wdv)),.d (.sl 4 (h.P.map Z0.dv)),int h.S,int h.B])],7⟩
section
variable (h:Heap) (roots:List Int) (k:Nat) (E:RF h roots k) (hw:Zy h.W)
include E hw
theorem Ze8(i:Nat)(c:i<k):CP (Zm f25 0) (orL h roots i).st .nrm (orL h roots (i+1)).st:=by
 have ol:=RA h;obtain⟨d,o2,o3⟩:=E.o i c;have u0:=E.u i oq;have e:=(E.u (i+1) oq).1;have ux:=u0.2 _ (Be.2 ⟨i,d,rfl⟩);have ul:=u0.1;have rl:(Gp h ((ZL h roots i).getD i M)).length<=1048576:=by(have:=Z18 (Zs h ((ZL h roots i).getD i M)).1 (BW h ((ZL h roots i).getD i M)).1 (BW h ((ZL h roots i).getD i M)).1.length;have:=ON h ((ZL h roots i).getD i M);unfold Gp;omega)
 have a:ZL h roots (i+1)=addN (ZL h roots i) (Gp h ((ZL h roots i).getD i M)) (Gp h ((ZL h roots i).getD i M)).length:=rfl;rw[a]at e;unfold orL;rw[a];let b:=(ZL h roots i).getD (i:Int).toNat M;exact sF [(65046,41025)] [] (FlG 32 O wdv (ZL h roots i) (Ftb 34 (Lm ((i:Int)<(↑(ZL h roots i).length:Int))) (Fmq 44 wdv (ZL h roots i) (↑i) (Fc 45 (@Zk9 h b aa aa) (Fbr 46 [41025] (@Z9i ((Zq h).1) (ZL h roots i) (Gp h b) aa oq aa aa aa) (Fx 36 i Fz))))))
theorem Zd0:CP (Zm f25 0) (orL h roots k).st (.ext 0) (Tg.st ⟨tm 52 [(4,.d (.sl 0 [])),(5,int 0),(8,.ow 41025),(9,bool O)],[(41025,.arr 35 1 ((ZL h roots k).map wdv))],7⟩):=by have e:=E.e;exact sF [] [] (FlG 32 O wdv (ZL h roots k) (Ffb 34 (Lm ((k:Int)<(↑(ZL h roots k).length:Int))) Fz))
def Zah  := Bs (S:=λi=>(orL h roots i).st) k (by kernel_rfl) (λi a=>Ze8 h roots k E hw i a) (Zd0 h roots k E hw)
theorem Zim(hl:roots.length<=1000)(hr:E7 roots)(hp:Z8 h=O)(ho:(Zq h).2=0):GP 25 [h.av,Z3 roots] La (.tu [Z3 (ZL h roots k),int 0]) []:=by have ol:=RA h;have Er:=E.r;have u0:(addN [] roots roots.length).length<=1048576:=(E.u 0 (Lz _)).1;exact gF [] func25 [] (Fh 25 [.gh 35 1,.bor [47025] (AV.tu [AV.ow 1,Sx.bool O]) [Z4.dead,Z4.arr 35 1 (Lb wdv (addN [] roots roots.length))]] (Fc 12 (@CJ h) (Ffb 13 (!Z8 h) (Fc 16 (@Df h aa) (Ffb 20 ((Zq h).2 != 0) (Fa (@ZjO ((Zq h).1) roots oq oq aa aa aa) (Fu (@Zah h roots k aa aa) Fz)))))))
end
def ZaV(h:Heap) roots(E:RF h roots (BQ h roots))(hw:Zy h.W)(hl:roots.length<=1000)(a:E7 roots)(hp:Z8 h=O)(ho:(Zq h).2=0):GP 25 [h.av,Z3 roots] La (.tu [Z3 (ZL h roots (BQ h roots)),int 0]) []:=Zim h roots _ E hw hl a hp ho
def Z4X{refs a:List Int}(h:∀r∈refs,r=0\/r∈a):(Le refs.length).find? (EM refs a)=Li:=
 Lq.2 λj b=>by
  have:=h _ (Be.2 ⟨j,Lh.1 b,rfl⟩);unfold EM;simp only[decide_eq_true_eq,not_and,Ln];exactλc=>this.resolve_left c
section
variable {h:Heap} {T:Nat->List Int} (g:Gd h T) (a:MV h) {s:List Int} (hs:∀r∈s,r=0\/Ob h T r) (hw:Zy h.W)
include g a hs hw
theorem RO.roots:∀k,k<=s.length->RO h T (rootsN (Zo h) s k).1 (addN [] s k) 0/\(rootsN (Zo h) s k).1.D=0
 |0,_=>⟨RO.begin g hw,rfl⟩
 |k+1,hk=>by
  obtain⟨b,d⟩:=RO.roots k oq;obtain⟨tq,e⟩:=b.b.o.c.k;have c:=(hs _ (Be.2 ⟨k,by omega,rfl⟩)).imp id λq=>(e.old _).2 q;have f:=b.fwd g a c;exact⟨f.2.1,(N2 b.b.o.c.ok b.b.o.c.inv _ f.1).2.1.trans d⟩
theorem RO.it:∀k,(∀j,j<k->j<(ZL h s j).length)->RO h T (C7 (rootsF (Zo h) s).1 k) (ZL h s k) k/\(C7 (rootsF (Zo h) s).1 k).D=k
 |0,_=>by
  obtain⟨b,c⟩:=RO.roots g a hs hw s.length (Lc _);obtain⟨e,_⟩:=SW.roots g a hs hw;rw[e];exact⟨b,c⟩
 |k+1,hk=>by
  obtain⟨b,c⟩:=RO.it k (λj hj=>hk j oq);obtain⟨d,_,f⟩:=b.step g a (hk k oq) c;exact⟨d,f⟩
theorem Z9C:∃k,RF h s k/\RO h T (ZF h s) (ZL h s k) k/\(ZF h s).D=k/\(ZL h s k).length=k/\ZF h s=C7 (rootsF (Zo h) s).1 k:=by
 obtain⟨e,sw⟩:=SW.roots g a hs hw;obtain⟨k,hk⟩:=Sz sw.o.c.ok;obtain⟨h1,h2,h3⟩:=LO.1 hk;have v:=λj=>((sw.it g a j).step g a).1;have b:∀j,j<=k->∀i,i<j->i<(ZL h s i).length:=by
  intro j;induction j with
  |zero=>intro _ i d;omega
  |succ j ih =>
   intro n i d;by_cases q:i=j;subst q;obtain⟨f,t⟩:=RO.it g a hs hw i (ih oq);have m:Eg (rootsF (Zo h) s).1 i=La:=by simpa using h3 i oq
   have:=(Z8a (Z6s m)).1;rw[t,f.l]at this;omega;exact ih oq i oq
 obtain⟨f,t⟩:=RO.it g a hs hw k (b k (Lc _));have m:(ZX (C7 (rootsF (Zo h) s).1 k)).2.1=La:=by(simp only[Eg,decide_eq_true_eq,v k]at h1;simpa using h1)
 obtain⟨n1,n2⟩:=step_end (v k) m;have u:ZF h s=C7 (rootsF (Zo h) s).1 k:=by rw[ZF,Bu,hk];simp only[if_pos (v k)];exact n2
 have sc:=f.b.o.c.ok.sc;have il:=f.l;rw[t,f.l]at n1;rw[t,f.l]at sc;have p:∀{i:Nat},i<=k->∀x∈(C7 (rootsF (Zo h) s).1 i).old,x∈(Zq h).1:=λ{i} d x y=>by(obtain⟨tq,ki⟩:=(sw.it g a i).o.c.k;exact((KI.begin g).old x).2 ((ki.old x).1 y))
 refine⟨k,⟨Z4X λr o=>(hs r o).imp id λq=>((KI.begin g).old r).2 q,λi d=>(λq=>⟨b k (Lc _) i d,λr o=>(q r o).elim (λc=>by omega) (λc=>by have:=Ma h r c;omega),Z4X q⟩) λr o=>?_,by omega,λi d=>?_⟩,by rw[u];exact f,by rw[u];exact t,by omega,u⟩;obtain⟨l,j2⟩:=RO.it g a hs hw i (λj n=>b k (Lc _) j oq);have xo:=(l.i i (b k (Lc _) i d)).1;obtain⟨tq,ki⟩:=l.b.o.c.k;obtain⟨i0,z,w⟩:=(ki.old _).1 xo;rw[g.refs z w]at o;obtain⟨j,n,rfl⟩:=List.mem_map.1 o;exact(l.old g xo n).imp id (p oq _);obtain⟨l,j2⟩:=RO.it g a hs hw i (λj n=>b k (Lc _) j oq);have ln:=l.b.o.c.ck.ln;refine⟨by rw[<-l.l];exact ln.ql,λx y=>?_⟩;obtain⟨j,n,rfl⟩:=Be.1 y;have:=Ma h _ (p d _ (l.i j n).1);omega
theorem Zjy:∃k,RF h s k/\RO h T (ZF h s) (ZL h s k) k/\(ZF h s).D=k/\(ZL h s k).length=k:=by obtain⟨k,b,c,d,e,_⟩:=Z9C g a hs hw;exact⟨k,b,c,d,e⟩
end
section
variable {B:Int} (hB:0<=B) {h:Heap} {T:Nat->List Int} (g:Gd h T) (mv:MV h) {s k0:List Int} (hw:Zy h.W) (hb:∀p∈h.P,p.N<=B) (gs:GQ h T s) (gk:GQ h T k0) (e:(collectF h s k0).2.2.2.2=0)
include hB g mv hw hb gs gk e
theorem Zkd:∃tq l5,CE h T tq (ZF h s) (Cw h s k0).heap.W l5/\OnW h T (ZF h s)/\(collectF h s k0).1=⟨(ZF h s).heap.C,l5,(ZF h s).heap.P.map (BN (ZF h s).heap.S),1-(ZF h s).heap.S,(collectF h s k0).1.B⟩/\Gd (collectF h s k0).1 (tE T tq (ZF h s))/\(collectF h s k0).2.1=(rootsF (Zo h) s).2.1/\(collectF h s k0).2.2.1=Ec (ZF h s) k0 k0.length/\(collectF h s k0).2.2.2.1=(Bz h s k0).rep:=by
 obtain⟨er,sw⟩:=SW.roots g mv gs hw;have e1:(rootsF (Zo h) s).2.2=0:=by rw[er]
 have e2:=(sw.all g mv).1;have pr1:=(Z2U hB hw hb e).p1;obtain⟨tq,ce,eh⟩:=Mt hB g hw hb e1 e2 (k:=k0);have e7:collectF h s k0=(Eo (Bz h s k0),(rootsF (Zo h) s).2.1,Ec (ZF h s) k0 k0.length,(Bz h s k0).rep,0):=by rw[collectF,if_pos g.p,if_pos ⟨g.refers gs,g.refers gk⟩,if_pos e1,if_pos e2]
 rw[e7]at pr1⊢;refine⟨tq,_,ce,(sw.all g mv).2.o,eh, ?_,rfl,rfl,rfl⟩;simp only at pr1⊢;rw[eh]at pr1⊢;exact ce.good pr1
end
def P9(h:Heap)(a:Int):List Int:=(Zz (Z9 h a).1).map λj=>(Z1 h.W (a+1+j)).1
def Zgi{l:List Int}{a:Int}(h:l.Nodup)(e:a∉l):(l++[a]).Nodup:=by rw[LV];refine⟨h,by simp,λb f c d=>?_⟩;rw[Lr]at d;rintro rfl;exact e (d▸f)
def Zhy{a out:List Int}{r:Int}(h:out.Nodup/\∀x∈out,x∈a)(d:r=0\/r∈a):(EB out r).Nodup/\∀x∈EB out r,x∈a:=by unfold EB;split;exact h;rename_i c;refine⟨Zgi h.1 (λq=>c (.inr q)),λx b=>?_⟩;rcases Lo.1 b with b|b;exact h.2 x b;rw[Lr.1 b];exact d.resolve_left λq=>c (.inl q)
def ZcE{refs a}{i:Nat}(h:EM refs a i=La):refs.getD i M=0\/refs.getD i M∈a:=by have:=of_decide_eq_false h;by_cases c:refs.getD i M=0;exact .inl c;exact .inr (Ln.1 λq=>this ⟨c,q⟩)
def Z3i{a out refs:List Int}(h:out.Nodup/\∀x∈out,x∈a):∀n,(∀j,j<n->EM refs a j=La)->(addN out refs n).Nodup/\∀x∈addN out refs n,x∈a|0,_=>h|n+1,hb=>Zhy (Z3i h n λj hj=>hb j oq) (ZcE (hb n oq))
def Z6F{refs a:List Int}(h:(Le refs.length).find? (EM refs a)=Li):∀j,j<refs.length->EM refs a j=La:=λj b=>by
 simpa using Lq.1 h j (Lh.2 b)
def Ri(h:Heap)(roots:List Int):Nat->List Int|0=>addN [] roots roots.length|i+1=>addN (Ri h roots i) (P9 h ((Ri h roots i).getD i M)) (P9 h ((Ri h roots i).getD i M)).length
def Z1s(h:Heap)(roots:List Int)(i:Nat):Bool:=((Le (P9 h ((Ri h roots i).getD i M)).length).find? (EM (P9 h ((Ri h roots i).getD i M)) (Zq h).1)).isSome
def Z85(h:Heap)(roots:List Int):Bool:=((Le roots.length).find? (EM roots (Zq h).1)).isSome
structure Tu (h:Heap) (roots:List Int) (k:Nat):Prop where
 lo:∀i,i<k->i<(Ri h roots i).length/\Z1s h roots i=La
 el:∀i,i<=k->(Ri h roots i).Nodup/\∀x∈Ri h roots i,x∈(Zq h).1
def Tu.zero{h}{roots:List Int}(b:Z85 h roots=La):Tu h roots 0:=by
 refine⟨λi a=>by omega,λi a=>?_⟩;obtain rfl:i=0:=by omega
 exact Z3i ⟨LG,by simp⟩ _ (Z6F (by simpa[Z85]using b))
def Tu.succ{h roots k}(I:Tu h roots k)(b:k<(Ri h roots k).length)(a:Z1s h roots k=La):Tu h roots (k+1):=by refine⟨λi c=>?_,λi c=>?_⟩;by_cases q:i=k;rw[q];exact⟨b,a⟩;exact I.lo i oq;by_cases q:i=k+1;rw[q];exact Z3i (I.el k (Lc _)) _ (Z6F (by simpa[Z1s]using a));exact I.el i oq
def Za1(out:List Int) r{k:Nat}(a:k<out.length):k<(EB out r).length/\(EB out r).getD k M=out.getD k M:=by unfold EB;split;exact⟨a,rfl⟩;refine⟨by simp;omega, ?_⟩;simp only[Lg];rw[LD a]
def Tr(w:Z6)(v x:Int):Prop:=(v=0/\x=0)\/(v∈w.old/\CK w v≠0/\x=CK w v)
def FT(h:Heap)(w:Z6)(a q m:Int):Prop:=if Bl (B2 h.W a) m=O then Tr w (Z1 h.W (a+1+m)).1 (Z1 w.heap.W (q+1+m)).1 else(Z1 w.heap.W (q+1+m)).1=(Z1 h.W (a+1+m)).1
def FT.mono{h}{w w':Z6}{a q m:Int}(hl:Z1 w'.heap.W (q+1+m)=Z1 w.heap.W (q+1+m))(ht:∀v x,Tr w v x->Tr w' v x)(f:FT h w a q m):FT h w' a q m:=by grind[FT]
structure RT (h:Heap) (w:Z6) (out:List Int) (n:Nat):Prop where
 f:∀i,i<n->i<out.length->B2 w.heap.W (w.Q.getD i M)=B2 h.W (out.getD i M)/\∀m,0<=m->m<Zk h.W (out.getD i M)->FT h w (out.getD i M) (w.Q.getD i M) m
section
variable {h:Heap} {T:Nat->List Int} {w:Z6} {out:List Int} {n:Nat} (o:RO h T w out n) (g:Gd h T) (d:MV h)
include o g d
theorem RO.trOld{r v x:Int}(a:r=0\/r∈w.old)(t:Tr w v x):Tr (w.fwd r).1 v x:=by rcases t with t|⟨t1,t2,c⟩;exact .inl t;rcases a with rfl|a;rw[Z6.fwd,if_pos (.inl rfl)];exact .inr ⟨t1,t2,c⟩;by_cases b:CK w r=0;obtain⟨s1,s2,s3,s4,s5⟩:=o.b.o.seen g d a;have ne:v≠r:=λq=>t2 (q▸b);exact .inr ⟨by grind,by grind,by grind⟩;rw[o.b.o.same g d a b];exact .inr ⟨t1,t2,c⟩
theorem RO.trNew{r:Int}(a:r=0\/r∈w.old):Tr (w.fwd r).1 r (w.fwd r).2.1:=by rcases a with rfl|a;rw[Z6.fwd,if_pos (.inl rfl)];exact .inl ⟨rfl,rfl⟩;obtain⟨s1,b,s3,s4,s5⟩:=o.b.o.seen g d a;exact .inr ⟨by grind,by omega,b.symm⟩
theorem RT.fwd{p}(t:RT h w out p)(hn:p<=out.length){r:Int}(c:r=0\/r∈w.old):RT h (w.fwd r).1 (EB out r) p:=by
 obtain⟨e,f,_⟩:=o.fwd g d c;have b:=N2 o.b.o.c.ok o.b.o.c.inv r e;obtain⟨qm,s⟩:=b.1;have ol:=o.l;refine⟨λi l q=>?_⟩;obtain⟨a1,j⟩:=Za1 out r (k:=i) oq;have u:(w.fwd r).1.Q.getD i M=w.Q.getD i M:=by grind
 rw[j,u];obtain⟨t1,t2⟩:=t.f i l oq;have mem:w.Q.getD i M∈w.Q:=Be.2 ⟨i,by omega,rfl⟩;have hl:Zk w.heap.W (w.Q.getD i M)=Zk h.W (out.getD i M):=congrArg Zw.length t1;have a:=b.2.2 _ (Ld _ mem) (.inl mem);refine⟨?_,λm m0 m1=>?_⟩;have:=a 0 oq (Bo _ _).1;grind[B2];refine FT.mono ?_ (λv x=>o.trOld g d c) (t2 m m0 m1);have:=a (1+m) oq oq;grind
theorem RO.in1f{a:Nat}(hn:a<out.length){j:Int}(hj:0<=j/\j<Zk h.W (out.getD a M))(hq:B2 w.heap.W (w.Q.getD a M)=B2 h.W (out.getD a M))(hv:(Z1 w.heap.W (w.Q.getD a M+1+j)).1=0\/(Z1 w.heap.W (w.Q.getD a M+1+j)).1∈w.old) :(∀z,z≠w.Q.getD a M+1+j->Z1 (w.in1 (w.Q.getD a M+1+j)).heap.W z=Z1 (w.fwd (Z1 w.heap.W (w.Q.getD a M+1+j)).1).1.heap.W z) /\ (Z1 (w.in1 (w.Q.getD a M+1+j)).heap.W (w.Q.getD a M+1+j)).1=(w.fwd (Z1 w.heap.W (w.Q.getD a M+1+j)).1).2.1 /\ (∀v x,Tr (w.fwd (Z1 w.heap.W (w.Q.getD a M+1+j)).1).1 v x->Tr (w.in1 (w.Q.getD a M+1+j)) v x)/\(w.in1 (w.Q.getD a M+1+j)).Q=(w.fwd (Z1 w.heap.W (w.Q.getD a M+1+j)).1).1.Q /\
  ∀x∈(w.fwd (Z1 w.heap.W (w.Q.getD a M+1+j)).1).1.Q,∀i,0<=i->i<=Zk (w.fwd (Z1 w.heap.W (w.Q.getD a M+1+j)).1).1.heap.W x->x+i=w.Q.getD a M+1+j->x=w.Q.getD a M:=by
 obtain⟨e,f,_⟩:=o.fwd g d hv;have p:w.Q.getD a M∈w.Q:=Be.2 ⟨a,by have:=o.l;omega,rfl⟩;generalize a3:w.Q.getD a M=q at *;have hl:Zk w.heap.W q=Zk h.W (out.getD a M):=congrArg Zw.length hq;have hw:=o.b.o.c.ok;have iv:=o.b.o.c.inv;obtain⟨s,x1⟩:=N6 hw iv _ e;have k:=x1.q q p;have a2:=x1.l q p;have hr:=s.r q (Ld _ k);generalize a4:(Z1 w.heap.W (q+1+j)).1=v at *;have a1:4096<=q+1+j/\q+1+j<4096+(w.fwd v).1.heap.W.length:=by omega
 have m:∀x∈(w.fwd v).1.old++(w.fwd v).1.Q,∀i,0<=i->i<=Zk (w.fwd v).1.heap.W x->x+i=q+1+j->x=q:=by(intro x l i y0 b c;have l1:=s.s q (Ld _ k) x l;have l2:=s.s x l q (Ld _ k);omega)
 have wd:∀z,z≠q+1+j->Z1 (w.in1 (q+1+j)).heap.W z=Z1 (w.fwd v).1.heap.W z:=λz hz=>by(grind[Z6.in1,Gi])
 have hh:∀x∈(w.fwd v).1.old++(w.fwd v).1.Q,Z1 (w.in1 (q+1+j)).heap.W x=Z1 (w.fwd v).1.heap.W x:=λx l=>wd x λc=>by(have:=m x l 0 oq (Bo _ _).1 oq;omega)
 have r:(w.in1 (q+1+j)).Q=(w.fwd v).1.Q:=by grind[Z6.in1]
 have a0:(w.in1 (q+1+j)).old=(w.fwd v).1.old:=by grind[Z6.in1]
 have se:∀y∈(w.fwd v).1.old,CK (w.in1 (q+1+j)) y=CK (w.fwd v).1 y:=λy hy=>by(grind[CK])
 refine⟨wd, ?_,λu x t=>?_,r,λx l=>m x (Ld _ l)⟩;grind[Z6.in1,Rl];rcases t with t|⟨t1,t2,t3⟩;exact .inl t;exact .inr ⟨by grind,by grind,by grind⟩
theorem RT.in1{p}(t:RT h w out p){a:Nat}(ha:p<=a)(hn:a<out.length){j:Int}(hj:0<=j/\j<Zk h.W (out.getD a M))(hq:B2 w.heap.W (w.Q.getD a M)=B2 h.W (out.getD a M))(l:(Z1 w.heap.W (w.Q.getD a M+1+j)).1=0\/(Z1 w.heap.W (w.Q.getD a M+1+j)).1∈w.old) :RT h (w.in1 (w.Q.getD a M+1+j)) (EB out (Z1 w.heap.W (w.Q.getD a M+1+j)).1) p:=by
 have t1:=RT.fwd o g d t oq l;obtain⟨s,_,tr,eq,b⟩:=o.in1f g d hn hj hq l;obtain⟨e,f,_⟩:=o.fwd g d l;have fl:=f.l;have u:=N2 o.b.o.c.ok o.b.o.c.inv _ e;obtain⟨qm,a0⟩:=u.1;have ol:=o.l;have v:∀i,i<out.length->(w.fwd (Z1 w.heap.W (w.Q.getD a M+1+j)).1).1.Q.getD i M=w.Q.getD i M:=λi q=>by(grind)
 refine⟨λi q k=>?_⟩;obtain⟨u1,u2⟩:=t1.f i q k;rw[eq];have mem:(w.fwd (Z1 w.heap.W (w.Q.getD a M+1+j)).1).1.Q.getD i M∈(w.fwd (Z1 w.heap.W (w.Q.getD a M+1+j)).1).1.Q:=Be.2 ⟨i,by omega,rfl⟩;have r:∀m,0<=m->m<=Zk (w.fwd (Z1 w.heap.W (w.Q.getD a M+1+j)).1).1.heap.W ((w.fwd (Z1 w.heap.W (w.Q.getD a M+1+j)).1).1.Q.getD i M)->(w.fwd (Z1 w.heap.W (w.Q.getD a M+1+j)).1).1.Q.getD i M+m≠w.Q.getD a M+1+j:=by
  intro m m0 m1 c;have z:=b _ mem m m0 m1 c;rw[v i oq]at z;have x:w.Q[i]?=some (w.Q.getD a M):=by grind
  have y:w.Q[a]?=some (w.Q.getD a M):=by grind
  have:=(List.getElem?_inj oq o.nd).1 (x.trans y.symm);omega
 have hl:Zk (w.fwd (Z1 w.heap.W (w.Q.getD a M+1+j)).1).1.heap.W ((w.fwd (Z1 w.heap.W (w.Q.getD a M+1+j)).1).1.Q.getD i M)=Zk h.W ((EB out (Z1 w.heap.W (w.Q.getD a M+1+j)).1).getD i M):=congrArg Zw.length u1;have r0:=(Bo (w.fwd (Z1 w.heap.W (w.Q.getD a M+1+j)).1).1.heap.W ((w.fwd (Z1 w.heap.W (w.Q.getD a M+1+j)).1).1.Q.getD i M)).1;refine⟨?_,λm m0 m1=>FT.mono (s _ ?_) tr (u2 m m0 m1)⟩;have:=s _ (λc=>r 0 oq r0 oq);grind[B2];have:=r (1+m) oq oq;omega
theorem RT.inn(t:RT h w out n){q x:Int}{l:List Int}(hn:n<out.length)(hq:w.Q.getD n M=q)(hx:out.getD n M=x)(hl:Zz (B2 h.W x)=l):∀k,k<=l.length->RT h (Bd w q l k) (addN out (l.map λj=>(Z1 h.W (x+1+j)).1) k) n/\(∀i,i<k->Tr (Bd w q l k) (Z1 h.W (x+1+l.getD i M)).1 (Z1 (Bd w q l k).heap.W (q+1+l.getD i M)).1)/\∀v y,Tr w v y->Tr (Bd w q l k) v y
 |0,_=>⟨t,λi hi=>absurd hi (Lj i),λ_ _ t=>t⟩
 |k+1,hk=>by
  obtain⟨t1,t2,t3⟩:=RT.inn t hn hq hx hl k oq;obtain⟨b,i2,i3,i4,i5,i6,i7⟩:=o.inn g d hn hq hx hl k oq;have hj:l.getD k M∈Zz (B2 h.W x):=by rw[hl];exact Be.2 ⟨k,by omega,rfl⟩
  have jb:=NG _ _ hj;have nd:=Z4a (B2 h.W x);rw[hl]at nd;have u:∀i,i<k->l.getD i M≠l.getD k M:=λi hi c=>by
   simp only[Lg]at c;rw[Lk oq,Lk oq]at c;have:=(List.getElem_inj nd).1 c;omega
  have ev:=i7 (l.getD k M) jb.1 jb.2 u;have xo:x∈(Bd w q l k).old:=by
   have:=(b.i n i6).1;rw[i5]at this;exact this
  have ov:=b.old g xo hj;have em:(l.map λj=>(Z1 h.W (x+1+j)).1).getD k M=(Z1 h.W (x+1+l.getD k M)).1:=by
   simp only[Lg,LR,Lk (show k<l.length by omega),LY,LA]
  have e2:addN out (l.map λj=>(Z1 h.W (x+1+j)).1) (k+1)=EB (addN out (l.map λj=>(Z1 h.W (x+1+j)).1) k) (Z1 h.W (x+1+l.getD k M)).1:=by rw[addN,em]
  have z:(Z1 (Bd w q l k).heap.W ((Bd w q l k).Q.getD n M+1+l.getD k M)).1=0\/(Z1 (Bd w q l k).heap.W ((Bd w q l k).Q.getD n M+1+l.getD k M)).1∈(Bd w q l k).old:=by
   rw[i3,ev];exact ov
  have s:0<=l.getD k M/\l.getD k M<Zk h.W ((addN out (l.map λj=>(Z1 h.W (x+1+j)).1) k).getD n M):=by rw[i5];exact jb
  have r:B2 (Bd w q l k).heap.W ((Bd w q l k).Q.getD n M)=B2 h.W ((addN out (l.map λj=>(Z1 h.W (x+1+j)).1) k).getD n M):=by rw[i3,i5];exact i4
  have r1:=RT.in1 b g d t1 (a:=n) (Lc n) i6 s r z;obtain⟨wd,wq,tr,eq,a0⟩:=b.in1f g d i6 s r z;have m:=λv y=>b.trOld g d (v:=v) (x:=y) z;have p:=b.trNew g d z;obtain⟨e,f,_⟩:=b.fwd g d z;have fs:=(N2 b.b.o.c.ok b.b.o.c.inv _ e).2.2;rw[i3]at r1 wd wq tr m p fs;rw[ev]at r1 p tr m;rw[e2];refine⟨r1,λi hi=>?_,λv y t=>tr v y (m v y (t3 v y t))⟩;show Tr ((Bd w q l k).in1 (q+1+l.getD k M)) _ (Z1 ((Bd w q l k).in1 (q+1+l.getD k M)).heap.W (q+1+l.getD i M)).1;by_cases c:i=k
  .rw[c,wq,ev];exact tr _ _ p
  .have lb:=NG _ _ (show l.getD i M∈Zz (B2 h.W x) by rw[hl];exact Be.2 ⟨i,by omega,rfl⟩);have qm:q∈(Bd w q l k).Q:=by have e0:=b.l;exact Be.2 ⟨n,by omega,i3⟩
   have a1:Zk (Bd w q l k).heap.W q=Zk h.W x:=congrArg Zw.length i4;have a2:l.getD i M<Zk h.W x:=lb.2;rw[wd _ (by have:=u i oq;omega),show q+1+l.getD i M=q+(1+l.getD i M) by omega,fs q (Ld _ qm) (.inl qm) (1+l.getD i M) oq oq,<-Ls];exact tr _ _ (m _ _ (t2 i oq))
theorem RT.step(t:RT h w out n)(a:n<out.length)(hs:w.D=n):RT h (ZX w).1 (addN out (Gp h (out.getD n M)) (Gp h (out.getD n M)).length) (n+1)/\∀v y,Tr w v y->Tr (ZX w).1 v y:=by
 have u:=(o.i n a).1;obtain⟨tq,k⟩:=o.b.o.c.k;obtain⟨i0,f,e⟩:=(k.old _).1 u;have p:=g.refs f e;have r:B2 w.heap.W (w.Q.getD n M)=B2 h.W (out.getD n M):=by(have:=o.uq n (Lc _) a 0 oq (Bo _ _).1;simp only[Lp]at this;grind[B2])
 have l:C2 w=w.Q.getD n M:=by grind[C2]
 have hp:Bf w=Zz (B2 h.W (out.getD n M)):=by unfold Bf Zv;rw[l];exact congrArg Zz r
 obtain⟨i1,i2,x,i4,z,i6,i7⟩:=o.inn g d a rfl rfl rfl (Zz (B2 h.W (out.getD n M))).length (Lc _);obtain⟨t1,t2,t3⟩:=RT.inn o g d t a rfl rfl rfl (Zz (B2 h.W (out.getD n M))).length (Lc _);have s:w.D<w.Q.length:=by rw[hs,o.l];omega
 have hb:(Le (Bf w).length).find? (λk=>Lm (CC w (C2 w) (Bf w) k≠0))=Li:=Lq.2 λj hj=>by(grind)
 have q:ZX w=(He (Bd w (C2 w) (Bf w) (Bf w).length) (Bf w).length,O,0):=by grind[ZX]
 rw[q,l,hp,p,LS];refine⟨⟨λi hi b=>?_⟩,λv y t=>t3 v y t⟩;by_cases c:i=n;subst c;show B2 (Bd w _ _ _).heap.W ((Bd w _ _ _).Q.getD i M)=_/\_;rw[z];refine⟨by grind,λm m0 m1=>?_⟩;show FT h (Bd w _ _ _) _ ((Bd w _ _ _).Q.getD i M) m;rw[x];unfold FT;grind[Bl,Be,Z7l,Z2J];exact t1.f i oq b
end
section
variable {h:Heap} {T:Nat->List Int} (g:Gd h T) (a:MV h) {s:List Int} (hs:∀r∈s,r=0\/Ob h T r) (hw:Zy h.W)
include g a hs hw
theorem RT.roots:∀k,k<=s.length->RT h (rootsN (Zo h) s k).1 (addN [] s k) 0/\∀i,i<k->Tr (rootsN (Zo h) s k).1 (s.getD i M) ((rootsN (Zo h) s k).2.getD i M)
 |0,_=>⟨⟨λi b=>absurd b (Lj i)⟩,λi b=>absurd b (Lj i)⟩
 |k+1,hk=>by
  obtain⟨t1,t2⟩:=RT.roots k oq;obtain⟨d,i2⟩:=RO.roots g a hs hw k oq;obtain⟨tq,f⟩:=d.b.o.c.k;have e:=(hs _ (Be.2 ⟨k,by omega,rfl⟩)).imp id λq=>(f.old _).2 q;have j:=Ni (Zo h) s k;refine⟨⟨λi b=>absurd b (Lj i)⟩,λi b=>?_⟩;show Tr ((rootsN (Zo h) s k).1.fwd _).1 _ (((rootsN (Zo h) s k).2++[_]).getD i M);rw[D5,j];by_cases c:i<k
  .rw[if_pos c];exact d.trOld g a e (t2 i c)
  .have c:i=k:=by omega
   rw[if_neg oq,if_pos c,c];exact d.trNew g a e
theorem RT.it:∀k,(∀j,j<k->j<(ZL h s j).length)->RT h (C7 (rootsF (Zo h) s).1 k) (ZL h s k) k/\∀i,i<s.length->Tr (C7 (rootsF (Zo h) s).1 k) (s.getD i M) ((rootsF (Zo h) s).2.1.getD i M)
 |0,_=>by
  obtain⟨t1,t2⟩:=RT.roots g a hs hw s.length (Lc _);obtain⟨e,_⟩:=SW.roots g a hs hw;rw[e];exact⟨t1,t2⟩
 |k+1,hk=>by
  obtain⟨t1,t2⟩:=RT.it k (λj c=>hk j oq);obtain⟨d,f⟩:=RO.it g a hs hw k (λj c=>hk j oq);obtain⟨l,m⟩:=RT.step d g a t1 (hk k oq) f;exact⟨l,λi b=>m _ _ (t2 i b)⟩
theorem Za4:∃k,RF h s k/\RO h T (ZF h s) (ZL h s k) k/\(ZL h s k).length=k/\RT h (ZF h s) (ZL h s k) k/\∀i,i<s.length->Tr (ZF h s) (s.getD i M) ((rootsF (Zo h) s).2.1.getD i M):=by obtain⟨k,E,ro,sc,ln,e7⟩:=Z9C g a hs hw;obtain⟨t1,t2⟩:=RT.it g a hs hw k (λj b=>(E.o j b).1);grind
end
def Z6R w(r:Int):BR w r=CK w r:=by
 unfold BR CK;split;rfl;cases ht:(ZD (Z1 w.heap.W r).1).2 with|true=>rw[if_pos rfl]|false =>rw[if_neg pq];unfold ZD at ht⊢;split at ht;simp at ht;rename_i a;rw[if_neg a]
def E8(L k:List Int):Nat->Int|0=>0|i+1=>if k.getD i M≠0/\k.getD i M∉L then E8 L k i+1 else E8 L k i
def Z4b L k:∀i:Nat,0<=E8 L k i/\E8 L k i<=i
 |0=>by simp[E8]
 |i+1=>by
  have:=Z4b L k i;unfold E8;split<;>omega
section
variable {B:Int} (v:0<=B) {h:Heap} {T:Nat->List Int} (g:Gd h T) (u:MV h) {s d:List Int} (hw:Zy h.W) (f:∀p∈h.P,p.N<=B) (t:GQ h T s) (o:GQ h T d) (e:(collectF h s d).2.2.2.2=0)
include v g u hw f t o e
theorem Zje:(∀i,i<d.length->((collectF h s d).2.2.1.getD i M≠0↔d.getD i M∈ZL h s (BQ h s))/\∀j,j<s.length->d.getD i M∈ZL h s (BQ h s)->(d.getD i M=s.getD j M↔(collectF h s d).2.2.1.getD i M=(collectF h s d).2.1.getD j M))/\(collectF h s d).2.2.2.1.cleared=E8 (ZL h s (BQ h s)) d d.length:=by
 obtain⟨k,E,w,ln,rt,tr⟩:=Za4 g u t hw;rw[Z5M E];obtain⟨tq,l5,ce,on,eh,gd,es,ew,er⟩:=Zkd v g u hw f t o e;have ki:=ce.k;have q0:∀i,i<(ZL h s k).length->(ZF h s).Q.getD i M≠0:=λi p=>by(have:=ce.i.r _ (Ld _ (Be.2 ⟨i,by rw[w.l];exact p,rfl⟩));omega)
 have z:(0:Int)∉ZL h s k:=λc=>by(obtain⟨i,p,c⟩:=Be.1 c;have:=ce.i.r _ (Ll _ (w.i i p).1);omega)
 have sn:∀r,r=0\/Ob h T r->(GD (ZF h s) r≠0↔r∈ZL h s k):=λr hr=>by(unfold GD;by_cases c:r=0;rw[if_pos c,c];exact⟨λq=>absurd rfl q,λq=>absurd q z⟩;rw[if_neg c,Z6R];refine⟨w.s r ((ki.old r).2 (hr.resolve_left c)),λq=>?_⟩;obtain⟨i,p,rfl⟩:=Be.1 q;rw[(w.i i p).2];exact q0 i p)
 have a0:∀n,n<=d.length->∀i,i<n->(Ec (ZF h s) d n).getD i M=GD (ZF h s) (d.getD i M):=by
  intro n;induction n with
  |zero=>intro _ i p;omega
  |succ n x =>
   intro hn i p;have l:=Dn (ZF h s) d n;have y:=NY (ZF h s) d n;have e1:GD (Ed (ZF h s) d n) (d.getD n M)=GD (ZF h s) (d.getD n M):=by unfold GD BR;rw[y.1,y.2.2.2.1]
   rw[Ec,e1,Lg];by_cases c:i=n;rw[c,LQ oq,l];simp;rw[LD oq,<-Lg];exact x oq i oq
 have cl:∀n,n<=d.length->(Ed (ZF h s) d n).rep.cleared=E8 (ZL h s k) d n:=by
  intro n;induction n with
  |zero=>intro _;exact on.c.ok.r0.2.2
  |succ n x =>
   intro hn;have x:=x oq;have y:=NY (ZF h s) d n;have r:=sn _ (o _ (Be.2 ⟨n,by omega,rfl⟩));unfold GD at r;have e2:BR (Ed (ZF h s) d n) (d.getD n M)=BR (ZF h s) (d.getD n M):=by unfold BR;rw[y.1,y.2.2.2.1]
   rw[Ed,Hi,E8,e2];by_cases c:d.getD n M≠0/\d.getD n M∉ZL h s k;rw[if_neg c.1]at r;rw[if_pos c,if_pos ⟨c.1,Ln.1 λq=>c.2 (r.1 q)⟩];simp only;rw[x];rw[if_neg c,if_neg λq=>?_,x];rw[if_neg q.1]at r;exact c ⟨q.1,λm=>r.2 m q.2⟩
 refine⟨λi p=>?_, ?_⟩;have mk:=o _ (Be.2 ⟨i,p,rfl⟩);rw[ew,a0 _ (Lc _) i p];refine⟨sn _ mk,λj hj m=>?_⟩;rw[es];obtain⟨a,ha,ea⟩:=Be.1 m;have wa:GD (ZF h s) (d.getD i M)=(ZF h s).Q.getD a M:=by(have c0:¬ d.getD i M=0:=λc=>z (by rw[c]at m;exact m);rw[GD,if_neg c0,Z6R,<-ea,(w.i a ha).2])
 rw[wa];rcases tr j hj with⟨t1,t2⟩|⟨t1,t2,t3⟩;rw[t1,t2];exact⟨λc=>(z (by rw[c]at m;exact m)).elim,λc=>absurd c (q0 a ha)⟩;obtain⟨b,f,eb⟩:=Be.1 (w.s _ t1 t2);rw[t3,<-eb,(w.i b f).2,<-ea];refine⟨λc=>?_,λc=>?_⟩;rw[<-(w.i a ha).2,<-(w.i b f).2,c];have hl:=w.l;simp only[Lg]at c;rw[Lk oq,Lk oq]at c;have:a=b:=(List.getElem_inj w.nd).1 c;rw[this];rw[er,<-cl _ (Lc _)];exact(HF (Cr h s d) (Z1i on.c.ok.fok d _) _).2.2.2.2.2.2.2.2.2.1
end
def Z5A(h:Heap) roots a(E:RF h roots (BQ h roots))(hw:Zy h.W)(hl:roots.length<=1000)(hr:E7 roots)(hp:Z8 h=O)(ho:(Zq h).2=0)(l1:(ZL h roots (BQ h roots)).length<=1048576):GP 32 [h.av,Z3 roots,u64 a] O (bool (Lm (a∈ZL h roots (BQ h roots)))) []:=by exact gF [] func32 [] (Fc 12 (@ZaV h roots aa aa aa aa aa aa) (Fc 17 (@CN (ZL h roots (BQ h roots)) a aa) Fz))
structure Z5W (w x:Zj) (L:List Int):Prop where
 e:L=ZL w.heap w.G (BQ w.heap w.G)
 E:RF w.heap w.G (BQ w.heap w.G)
 hw:Zy w.heap.W
 su:E7 w.G
 wu:E7 w.E
 xs:E7 x.G
 xw:E7 x.E
 hp:Z8 w.heap=O
 ho:(Zq w.heap).2=0
 sl:w.G.length<=1000
 wl:w.E.length<=1000
 l1:x.G.length=w.G.length
 l2:x.E.length=w.E.length
 ll:L.length<=1048576
 f1:∀i,i<w.E.length->(x.E.getD i M≠0↔w.E.getD i M∈L)
 f2:∀i,i<w.E.length->∀j,j<w.G.length->w.E.getD i M∈L->(w.E.getD i M=w.G.getD j M↔x.E.getD i M=x.G.getD j M)
def waL(w x:Zj)(r:Rep)(L:List Int)(i:Nat):Tg:=⟨tm 97 [(2,bool La),(3,.pt 16003 0 0),(4,.pt 16004 0 0),(5,.pt 16005 0 0),(7,int (E8 L w.E i)),(8,int i)],[(16005,.box 73 r.cells),(16004,.box 30 x.cells),(16003,.box 30 w.cells)],7⟩
def wbL(w x:Zj)(r:Rep)(n:Int)(i:Nat)(b:Bool)(j:Nat):Tg:=⟨tm 97 [(2,bool La),(3,.pt 16003 0 0),(4,.pt 16004 0 0),(5,.pt 16005 0 0),(7,int n),(8,int i),(9,bool b),(10,int j)],[(16005,.box 73 r.cells),(16004,.box 30 x.cells),(16003,.box 30 w.cells)],16⟩
section
variable (w x:Zj) (r:Rep) (L:List Int) (k:Z5W w x L)
include k
theorem Zd3 n(i j:Nat)(b:Bool)(a:b=Lm (w.E.getD i M∈L))(g:i<w.E.length)(h:j<w.G.length):CP (Zm f11 2) (wbL w x r n i b j).st .nrm (wbL w x r n i b (j+1)).st:=by
 have sl:=k.sl;have wl:=k.wl;have l1:=k.l1;have l2:=k.l2;have f2:=k.f2 i g j h;have hz:(b&&((w.E.getD i M==w.G.getD j M) != (x.E.getD i M==x.G.getD j M)))=La:=by(rw[a];by_cases c:w.E.getD i M∈L;have f:=f2 c;rw[decide_eq_true c,Bool.true_and];by_cases d:w.E.getD i M=w.G.getD j M;rw[beq_iff_eq.2 d,beq_iff_eq.2 (f.1 d)];rfl;have e:¬ x.E.getD i M=x.G.getD j M:=λq=>d (f.2 q);rw[beq_eq_false_iff_ne.2 d,beq_eq_false_iff_ne.2 e];rfl;rw[decide_eq_false c];rfl)
 clear a;exact sF [] [] (FM 60 61 wdv w.G j (FeG 69 b wdv w.E (↑i) i (FeG 74 b wdv w.G (↑j) j (FeG 80 b wdv x.E (↑i) i (FeG 85 b wdv x.G (↑j) j (Ff 89 ‹(b&&!(w.E.getD i M==w.G.getD j M)==(x.E.getD i M==x.G.getD j M))=La› (Fx 63 j Fz)))))))
omit k in
theorem Zg2 n i b:CP (Zm f11 2) (wbL w x r n i b w.G.length).st (.ext 2) (Tg.st ⟨tm 97 [(2,bool La),(3,.pt 16003 0 0),(4,.pt 16004 0 0),(5,.pt 16005 0 0),(7,int n),(8,int i)],[(16005,.box 73 r.cells),(16004,.box 30 x.cells),(16003,.box 30 w.cells)],16⟩):=by exact sF [] [] (FO 60 61 wdv w.G Fz)
def Z7Z(n:Int)(i:Nat)(c:i<w.E.length)(b:Bool)(a:b=Lm (w.E.getD i M∈L))  := Bs (S:=λj=>(wbL w x r n i b j).st) w.G.length (by kernel_rfl) (λj d=>Zd3 w x r L k n i j b a c d) (Zg2 w x r n i b)
theorem Zeq(i:Nat)(g:i<w.E.length):CP (Zm f11 0) (waL w x r L i).st .nrm (waL w x r L (i+1)).st:=by
 have sl:=k.sl;have wl:=k.wl;have l1:=k.l1;have l2:=k.l2;have hw:=k.hw;have su:=k.su;have E:=k.E;have hp:=k.hp;have ho:=k.ho;have ll:=k.ll;have f1:=k.f1 i g;have hx:=k.wu _ (Be.2 ⟨i,g,rfl⟩);have cr:=Z4b L w.E i;have h:=k.e;subst h;have h1:((x.E.getD i M != 0) != Lm (w.E.getD i M∈ZL w.heap w.G (BQ w.heap w.G)))=La:=by(by_cases c:w.E.getD i M∈ZL w.heap w.G (BQ w.heap w.G);rw[decide_eq_true c,bne_iff_ne.2 (f1.2 c)];rfl;rw[decide_eq_false c,show x.E.getD i M=0 from Ln.1 λq=>c (f1.1 q)];rfl)
 by_cases c:w.E.getD i M≠0/\w.E.getD i M∉ZL w.heap w.G (BQ w.heap w.G);have a:E8 (ZL w.heap w.G (BQ w.heap w.G)) w.E (i+1)=E8 (ZL w.heap w.G (BQ w.heap w.G)) w.E i+1:=by rw[E8,if_pos c]
 have j:(w.E.getD i M != 0&&!decide (w.E.getD i M∈ZL w.heap w.G (BQ w.heap w.G)))=O:=by rw[bne_iff_ne.2 c.1,decide_eq_false c.2];rfl
 unfold waL;rw[a];let b:=w.E.getD i M∈ZL w.heap w.G (BQ w.heap w.G);let e:=ZL w.heap w.G (BQ w.heap w.G);exact sF [] [] (FN 23 24 34 wdv w.E i (Fc 36 (@Z5A w.heap w.G (w.E.getD i M) aa aa aa aa aa aa aa) (Fek 40 wdv x.E (↑i) i (Ff 44 ‹(!(x.E.getD i M != 0)==decide b)=La› (Fek 48 wdv w.E (↑i) i (Ft 54 ‹(w.E.getD i M != 0&&!decide b)=O› (Fi 56 (E8 e w.E i+1) (Fu (@Z7Z w x r e k (E8 e w.E i+1) i aa (decide b) (by rfl)) (Fx 26 i Fz)))))))));have a:E8 (ZL w.heap w.G (BQ w.heap w.G)) w.E (i+1)=E8 (ZL w.heap w.G (BQ w.heap w.G)) w.E i:=by rw[E8,if_neg c]
 have j:(w.E.getD i M != 0&&!decide (w.E.getD i M∈ZL w.heap w.G (BQ w.heap w.G)))=La:=by(by_cases d:w.E.getD i M=0;rw[d];rfl;have:w.E.getD i M∈ZL w.heap w.G (BQ w.heap w.G):=Ln.1 λq=>c ⟨d,q⟩;rw[decide_eq_true this,Bool.not_true,Bool.and_false])
 unfold waL;rw[a];let f:=w.E.getD i M∈ZL w.heap w.G (BQ w.heap w.G);exact sF [] [] (FN 23 24 34 wdv w.E i (Fc 36 (@Z5A w.heap w.G (w.E.getD i M) aa aa aa aa aa aa aa) (Fek 40 wdv x.E (↑i) i (Ff 44 ‹(!(x.E.getD i M != 0)==decide f)=La› (Fek 48 wdv w.E (↑i) i (Ff 54 ‹(w.E.getD i M != 0&&!decide f)=La› (Fu (@Z7Z w x r (ZL w.heap w.G (BQ w.heap w.G)) k (E8 (ZL w.heap w.G (BQ w.heap w.G)) w.E i) i aa (decide f) (by rfl)) (Fx 26 i Fz))))))))
omit k in
theorem ZdU:CP (Zm f11 0) (waL w x r L w.E.length).st (.ext 0) (Tg.st ⟨tm 97 [(2,bool La),(5,.pt 16005 0 0),(7,int (E8 L w.E w.E.length))],[(16005,.box 73 r.cells)],60⟩):=by exact sF [] [] (FO 23 24 wdv w.E Fz)
def ZkY  := Bs (S:=λi=>(waL w x r L i).st) w.E.length (by kernel_rfl) (λi a=>Zeq w x r L k i a) (ZdU w x r L)
end
def Ze5 a:Z5W (ZA a) (ZA a).collect (ZL (ZA a).heap (ZA a).G (BQ (ZA a).heap (ZA a).G))/\(EZ (ZA a)).cleared=E8 (ZL (ZA a).heap (ZA a).G (BQ (ZA a).heap (ZA a).G)) (ZA a).E (ZA a).E.length:=by have b:=M8 a;have h:=C3.collect b;obtain⟨T,g,f,m⟩:=Z4l a;obtain⟨k,E,j,sc,lk⟩:=Zjy g (Z26 a) f b.W;have l:=Z5M E;subst l;obtain⟨e,d,l1,l2,_⟩:=Z1U a;obtain⟨c1,c2⟩:=Zje (B:=1000) oq g (Z26 a) b.W (λp hp=>(b.pin_mem p hp).2) f m e;refine⟨⟨rfl,E,b.W,b.G,b.E,h.G,h.E,g.p,g.objs.1,b.sl,b.wl,l1,l2,by rw[<-j.l];exact j.b.o.c.ck.ln.ql,λi c=>?_,λi c=>?_⟩,c2⟩;rw[d];exact(c1 i c).1;rw[d];exact(c1 i c).2
def ZhC(a:List Int)(h1:a.length<=140737488355328):GP 11 [ZE a] O (bool O) []:=by obtain⟨k,c⟩:=Ze5 a;have wl:=k.wl;let b:=ZL (ZA a).heap (ZA a).G (BQ (ZA a).heap (ZA a).G);exact gF [] func11 (fO 13) (Fc 13 (@ZfP a aa) (Fu (@ZkY (ZA a) ((ZA a).collect) (EZ (ZA a)) b aa) (Fc 90 (@ZaN) (Fb ((E8 b (ZA a).E (ZA a).E.length==(EZ (ZA a)).cleared)=O) Fz))))
end Go.Proofs.YtgedmeaemofdkaaGreat
namespace Go.Proofs.YtgedmeaemofdkaaGreat
open Go.Sx Go.RowKit
def Z9U(os:Os)(a:os.Started)(H:Type)(enc:TypeId×Value->H) :ReturnsInHanded {} Tryz.checked os 11 .any (Rows.collectWeakSpec.pre6 enc prog f11 Rows.collectWeakRow.domain La) (Rows.collectWeakSpec.post enc prog f11 La O La La):=by
 refine Zex (C:=Tryz.checked) (tb:=4) 5 Zkw a kr func11
  (ChangeSpec.witness6 (enc:=enc) (C:=Tryz.checked) La ⟨#[],#[.slice Li 0 0],[]⟩ 8 kr kr kr kr)
  ZgO kr kr kr kr rfl (λd f=>?_) (λi g h=>?_)
 .match d,f with
  |[a0],_=>rfl
 .match i,g with
  |[l0],_ =>
   obtain⟨b,rfl,c⟩:=ZkT (n:=3) (h 0 22 l0 kr rfl);have e:Ru prog Tryz.f11.params.toList [[.sl 1 (b.map idv)]]=[ZE b]:=by kernel_rfl
   exact⟨O,e▸ZhC b c⟩
def Zdi:(Rows.collectWeakRow.inPlace==Tryz.prog.inPlace 11)=O:=by kernel_rfl
def Zki:(Rows.collectWeakRow.unfollowed==Tryz.prog.unfollowed 11)=O:=by kernel_rfl
def Zks:(Rows.collectWeakRow.recurses==Tryz.prog.recurses 11)=O:=by kernel_rfl
def Zjw:(Rows.collectWeakRow.named==Tryz.prog.varsNamed 11)=O:=by kernel_rfl
def Za7:joinedFacts prog 11 f11 Rows.collectWeakSpec Rows.collectWeakRow=O:=by
 unfold joinedFacts;rw[Zdi,Zki,Zks,Zjw];kernel_rfl
theorem collectWeak_holds:Rows.CollectWeakSaid:=
 OpenClaim.holds_of_wide 11 f11 rfl rfl rfl rfl rfl rfl rfl ⟨rfl,rfl,rfl,rfl,rfl⟩ rfl rfl rfl rfl rfl kr func11 Za7
  (of_decide_eq_true kr) (by unfold Func.isWrapper;first|(rw[if_pos (by decide+kernel)];kernel_rfl)|(rw[if_neg (by decide+kernel)];exact⟨rfl,rfl⟩))
  (λos a H b _=>Z9U os a H b)
end Go.Proofs.YtgedmeaemofdkaaGreat
