/-
 The statement CollectStays: part 17.
 Conditions: none.
-/
import Derived.Test.YtgedmeaemofdkaaGreatT16
set_option maxRecDepth 100000
set_option maxHeartbeats 2000000
set_option linter.all false
open Inhabited renaming default->M
open Bool renaming true->O,false->La
open List renaming map->Lb,replicate->Lc,range->Ld,mem_append_right->Lf,mem_range->Lg,getD_eq_getElem?_getD->Lh,mem_append_left->Lj,mem_append->Lk,getElem?_eq_getElem->Ln,length_append->Lo,find?_eq_none->Lr,length_singleton->Ls,map_cons->Lt,mem_cons_of_mem->Lu,mem_singleton->Lv,sum_cons->Lw,getElem_of_mem->LF,range_succ->LG,ext_getElem->LL,find?_range_eq_some->LM,getElem?_map->LN,mem_cons->LO,nodup_nil->LQ
open Nat renaming le_refl->Le,not_lt_zero->Ll,zero_le->LA,le_trans->LR
open Option renaming none->Li,getD_some->LB,map_some->LS
open Int renaming add_zero->Lm,add_assoc->Lp,toNat_natCast->Lq,mul_le_mul_of_nonneg_right->Ly,mul_nonneg->Lz,le_refl->LD,mul_comm->LH,tmod_eq_emod_of_nonneg->LI
open Decidable renaming not_not->Lx,decide->LC
open Go.Proofs.Tryz
namespace Go.Proofs.YtgedmeaemofdkaaGreat
open Go.Sx
section
variable {B:Int} (hB:0<=B) {h:Heap} {T:Nat->List Int} (g:Gd h T) {s k:List Int} (hw:Zx h.W) (hb:∀p∈h.P,p.N<=B) (e1:(rootsF (Zq h) s).2.2=0) (e2:(Bs (rootsF (Zq h) s).1).2=0)(gs:H2 h T s) (gk:H2 h T k) (sl:s.length<=1000) (kl:k.length<=1000) (ks:EA k) (rt:Z2n (Zq h) s) (ln:Sz (Zq h)) (al:Z0D (rootsF (Zq h) s).1)
include hB g hw hb e1 e2 gs gk sl kl ks rt ln al
theorem Zje:Z6s h s k (Zq h) (rootsF (Zq h) s).1 (ZI h s) (Cs h s k) (Cw h s k) (Bv h s k) (rootsF (Zq h) s).2.1 (En (ZI h s) k k.length):=by
 have ck:=cOk h s k hw g.p e1 e2;obtain⟨q1,q2,q3,q4,q5⟩:=Z1J h s k hw g.p e1 e2;obtain⟨tq,ce,_⟩:=Mk hB g hw hb e1 e2 (k:=k);have ok1:=(Sl (roots:=s) (Nr hw g.p) (Ri g.p) e1).1;have f2:=ck.w2.fok;refine⟨Zbf h hw g.p g.good, ?_, ?_, ?_,ZfP _ k ⟨f2.W,f2.wl,by have:=f2.ql;omega,ck.i2.L,kl,ks,ck.w2.r0.2.2,λx hx=>(gk x hx).imp id λ⟨i,hi,_⟩=>?_⟩, ?_,Zht _ q1 ⟨q2,q3⟩ q4 q5 ck.h4.2.2.2.2 (ZfO hB g k hw hb e1 e2),sl,kl,ck.f4.tl, ?_⟩
 .have:=Z9w h (s++k) hw qo;rw[g.refers (λx hx=>(Lk.1 hx).elim (gs x) (gk x))]at this;exact this
 .have:=ZcF (Zq h) s rt oq ln;rw[e1]at this;exact this
 .exact Zjm _ ok1 al
 .have:=Zgl (Cs h s k) (Z7k hB g k hw hb e1 e2).fiOk;rw[ZgS hB g k hw hb e1 e2]at this;exact this
 .have sp:=ck.w2.sp;rw[<-ck.h4.2.2.1]at sp;exact sp
 .rw[ce.k.c,g.ofx hi]
theorem Zdz:GP 35 [h.av,Z3 s,Z3 k] La (.tu [(collectF h s k).1.av,Z3 (collectF h s k).2.1,Z3 (collectF h s k).2.2.1,.ag (collectF h s k).2.2.2.1.cells,int (collectF h s k).2.2.2.2]) []:=by
 have a:collectF h s k=(Eh (Bv h s k),(rootsF (Zq h) s).2.1,En (ZI h s) k k.length,(Bv h s k).rep,0):=by rw[collectF,if_pos g.p,if_pos ⟨g.refers gs,g.refers gk⟩,if_pos e1,if_pos e2]
 rw[a];exact ZkD (Zje hB g hw hb e1 e2 gs gk sl kl ks rt ln al)
end
def Bj(f:Z0->Int)(l:List Z0):Int:=(l.map f).sum
def C4(p:Z0):Int:=if p.K=0 then 0 else 1
def C9(p:Z0):Int:=if p.K=1 then p.U else 0
def unP(p:Z0):Int:=if p.K=1/\¬ 0<p.N then p.U else 0
def Gz(p:Z0):Int:=if p.K=2\/p.K=3 then 1 else 0
def Dy f(p:Z0):∀(l:List Z0) (i:Nat),i<l.length->Bj f (l.set i p)+f (l.getD i M)=Bj f l+f p
 |[],i,h=>by simp at h
 |x::l,0,_=>by grind[Bj]
 |x::l,i+1,h=>by
  have:=Dy f p l i (by simpa using h);grind[Bj]
def Sf(f:Z0->Int){l a:List Z0}(hl:a.length=l.length)(h:∀i,i<l.length->f (a.getD i M)=f (l.getD i M)):Bj f a=Bj f l:=by unfold Bj;congr 1;refine LL (by simpa using hl) λi h1 h2=>?_;grind
theorem Io f(l:List Z0):Bj f l=((Ld l.length).map λi=>f (l.getD i M)).sum:=by unfold Bj;congr 1;refine LL pq λi h1 h2=>?_;grind
def IW{α:Type}{f g:α->Int}:∀{l:List α},(∀x∈l,f x<=g x)->(l.map f).sum<=(l.map g).sum
 |[],_=>by simp
 |x::l,h=>by
  have:=IW (l:=l) λy a=>h y (Lu _ a);grind
def Z10{α:Type}{f g:α->Int}{n:Int}{r:α}:∀{l:List α},(∀x∈l,f x<=g x)->r∈l->f r+n<=g r->(l.map f).sum+n<=(l.map g).sum
 |[],_,hr,_=>by simp at hr
 |x::l,h,hr,hn=>by
  have h0:=h x pq;have a:∀y∈l,f y<=g y:=λy b=>h y (Lu _ b);simp only[Lt,Lw];rcases LO.1 hr with rfl|hr
  .have:=IW a;omega
  .have:=Z10 a hr hn;omega
def RG{α:Type}{f:α->Int}:∀{l:List α},(∀x∈l,0<=f x)->0<=(l.map f).sum
 |[],_=>by simp
 |x::l,h=>by
  have:=RG (l:=l) λy a=>h y (Lu _ a);grind
def Z8V{ws}:∀{l:List Int} {a b:Int},Ez ws a b l->(l.map λx=>Zl ws x+1).sum=b-a
 |[],a,b,h=>by grind[Ez]
 |x::l,a,b,h=>by
  have:=Z8V h.2.2;simp only[Lt,Lw,this,h.1];omega
def Z75(l:List Z0):∀i,i<=l.length->(∃j,j<i/\(l.getD j M).K=0)->Zf l i≠[]
 |0,_,⟨j,b,_⟩=>by omega
 |i+1,hi,⟨j,b,d⟩=>by
  have a:CM l i=l.getD i M:=by grind[TH]
  simp only[Zf,NP];split
  .split<;>simp
  .rename_i c;rw[a]at c;exact Z75 l i oq ⟨j,by
    grind,d⟩
def ZgG{l}(h:¬ 0<=first l 1):∀j,j<l.length->(l.getD j M).K≠0:=by
 intro j a b;have hn:=Z75 l l.length (Le _) ⟨j,a,b⟩;unfold first at h
 rw[if_neg oq]at h;have ok:=(N2 l l.length).2;cases hr:Zf l l.length<;>grind[Zf,runs,HU]
def Zgf{l:List Z0}(h:∀j,j<l.length->(l.getD j M).K≠0):Bj C4 l=l.length:=by
 rw[Io];have:∀n,n<=l.length->((Ld n).map λi=>C4 (l.getD i M)).sum=n:=by
  intro n;induction n with|zero=>simp|succ n ih =>grind[LG,C4]
 grind
def wtW(h:Heap)(w:Z7)(x:Int):Int:=if(ZD (Z1 w.heap.W x).1).2=O then 0 else Zl h.W x+1
def N8(h:Heap)(T:Nat->List Int)(w:Z7)(i:Nat):Int:=if(h.P.getD i M).K=1/\¬ 0<(h.P.getD i M).N then((T i).map (wtW h w)).sum else 0
def HD(h:Heap)(T:Nat->List Int)(w:Z7):Int:=((Ld h.P.length).map (N8 h T w)).sum
structure MI (h:Heap) (T:Nat->List Int) (w:Z7):Prop where
 m0:w.heap.P.length=h.P.length/\w.heap.C=h.C
 m1:Bj C9 h.P<=Bj C9 w.heap.P
 m2:0<w.T.length->((w.T.length:Int)-1)*(h.C.pw/4*3+1)+(w.heap.P.getD (ZF w).toNat M).U<=Bj C9 w.heap.P-Bj C9 h.P
 m3:Bj C9 w.heap.P+HD h T w<=Bj C9 h.P+Bj unP h.P
 m4:Bj C4 w.heap.P=Bj C4 h.P+w.T.length
 m5:∀i,i<h.P.length->(h.P.getD i M).K=1->((w.heap.P.getD i M).S=w.heap.S↔¬ 0<(h.P.getD i M).N)
def Z0n(h:Heap) w(x:Int):0<=wtW h w x/\wtW h w x<=Zl h.W x+1:=by have:=Bo h.W x;grind[wtW]
def ZiT{h T}{w w':Z7}(e:w'.heap.W=w.heap.W):HD h T w'=HD h T w:=by unfold HD N8 wtW;rw[e]
def ZeB{h T}(g:Gd h T)(w:Z7):HD h T w<=Bj unP h.P:=by rw[Io];refine IW λi a=>?_;have a:=Lg.1 a;unfold N8 unP;split;rename_i k;have t:=Z8V (g.t1 i a k.1).1;have:=IW (l:=T i) (f:=wtW h w) (g:=λx=>Zl h.W x+1) λx _=>(Z0n h w x).2;omega;omega
def Zgz(h:Heap) T w:0<=HD h T w:=by refine RG λi _=>?_;unfold N8;split;exact RG λx _=>(Z0n h w x).1;omega
def Zex{h:Heap}{T:Nat->List Int}{w w'}{n r:Int}{a:Nat}(c:a<h.P.length)(d:(h.P.getD a M).K=1/\¬ 0<(h.P.getD a M).N)(f:r∈T a)(h1:∀i x,x∈T i->wtW h w' x<=wtW h w x)(e:wtW h w' r+n<=wtW h w r):HD h T w'+n<=HD h T w:=by refine Z10 (r:=a) (λi c=>?_) (Lg.2 c) ?_;unfold N8;split;exact IW λx b=>h1 i x b;omega;unfold N8;rw[if_pos d,if_pos d];exact Z10 (λx b=>h1 a x b) f e
def MI.begin{h T}(g:Gd h T):MI h T (Zq h):=by
 have e:∀i,i<h.P.length->(((Zq h).heap.P.getD i M).K=(h.P.getD i M).K/\((Zq h).heap.P.getD i M).U=(h.P.getD i M).U):=by grind[Zq,Zp]
 have l:(Zq h).heap.P.length=h.P.length:=by simp[Zq]
 have e1:Bj C9 (Zq h).heap.P=Bj C9 h.P:=Sf C9 l λi a=>by grind[C9]
 have e2:Bj C4 (Zq h).heap.P=Bj C4 h.P:=Sf C4 l λi a=>by grind[C4]
 have r:=ZeB g (Zq h);refine⟨⟨l,rfl⟩,by omega,by simp[Zq],by omega,by grind[Zq],λi a hk=>?_⟩;have sp:=g.sp i a oq;grind[Zq,Zp]
def MI.keep{h T w}(m:MI h T w) r:MI h T (w.keep r):=⟨m.m0,m.m1,m.m2,m.m3,m.m4,m.m5⟩
def MI.flip{h T n w}(m:MI h T w)(k:KI h T n w){i:Nat}(h2:(w.heap.P.getD i M).K=2):MI h T (w.flip i):=by
 have e:∀j,((w.flip i).heap.P.getD j M).K=(w.heap.P.getD j M).K/\((w.flip i).heap.P.getD j M).U=(w.heap.P.getD j M).U:=by(intro j;simp only[Z7.flip];by_cases a:j<w.heap.P.length;rw[Hr a];split<;>exact⟨rfl,rfl⟩;grind[H0])
 have l:(w.flip i).heap.P.length=w.heap.P.length:=by simp[Z7.flip,H0]
 have e1:Bj C9 (w.flip i).heap.P=Bj C9 w.heap.P:=Sf C9 l λj _=>by grind[C9]
 have e2:Bj C4 (w.flip i).heap.P=Bj C4 w.heap.P:=Sf C4 l λj _=>by grind[C4]
 have e3:HD h T (w.flip i)=HD h T w:=ZiT rfl;have b:(w.flip i).T=w.T:=rfl;have el:ZF (w.flip i)=ZF w:=rfl;refine⟨⟨by rw[l];exact m.m0.1,m.m0.2⟩,by rw[e1];exact m.m1, ?_,by rw[e1,e3];exact m.m3,by rw[e2,b];exact m.m4,λj a c=>?_⟩;rotate_left;have d:=m.m0.1;have f:(j:Int)∉w.T:=λq=>by have:=(k.tk j q).2.1;omega
 have g:=(k.pg j f).1;rw[c]at g;have:(w.flip i).heap.P.getD j M=w.heap.P.getD j M:=by(simp only[Z7.flip];rw[Hr oq,if_neg];rintro⟨q1,q2⟩;by_cases q:j=i;subst q;omega;have:=(R3 (l:=w.heap.P) (i:=i) (m:=j-i-1) oq).2;grind)
 rw[this];exact m.m5 j a c;intro q;rw[b,el,(e _).2,e1];exact m.m2 q
def MI.copy{h T tq w}(g:Gd h T)(m:MI h T w)(k:KI h T tq w)(hw:B7 w){r n:Int}{s}(o:r∈T s)(h1:(h.P.getD s M).K=1)(a3:¬ 0<(h.P.getD s M).N)(ht:(ZD (Z1 w.heap.W r).1).2=La)(hn:n=Zl w.heap.W r+1)(hc:(w.place n).2.2=O):MI h T ((w.place n).1.copy r (w.place n).2.1 n):=by
 have he:(Z1 w.heap.W r).1=(Z1 h.W r).1:=by(rcases k.hd s r o with q|q;exact q;grind)
 have a8:=Bo w.heap.W r;have a5:Zl w.heap.W r=Zl h.W r:=(E9 he).2.1;have y:=(g.t0 s r o).1;have b2:=(g.t1 s y h1).2 r o;have po:=B1 g.p;have sw:=R8 po.1;have hv:=BG.1 po.1;have a1:n<=w.heap.C.pw:=by rw[k.c];omega
 obtain⟨i,p,t,p1,p2,p3,p4,p5,p6,p7,e⟩:=TJ hw ⟨by omega,a1⟩ hc;have v:=k.c;have a7:=g.inw o;have d:(h.P.getD i M).K=0:=by(rcases p2 with q|q;by_cases c:(i:Int)∈w.T;exact(k.tk i c).2.1;rw[<-(k.pg i c).1];exact q.1;exact(k.tk i q.1).2.1)
 have b0:=k.pl;have b3:=k.wl;have a0:=Ew (i:=i) (j:=h.C.pg) (pw:=h.C.pw) oq oq;rw[LH h.C.pg]at a0;have a6:0<=(i:Int)*h.C.pw:=Lz oq oq;have hx:∀j x,x∈T j->x≠r->(Z1 (BL (moveA w.heap.W (w.place n).2.1 r n).1 r (4*(w.place n).2.1+2)).1 x).1=(Z1 w.heap.W x).1:=by(intro j x hx a9;have u:=g.free (show i<h.P.length by omega) (Or.inl d) hx;rw[BW,if_pos d]at u;have r1:=Bo h.W x;unfold Zz at u;rw[p7,v];rw[v]at p5;have f:=g.free (show i<h.P.length by omega) (Or.inl d) o;rw[BW,if_pos d]at f;unfold Zz at f;obtain⟨m1,m2,m3⟩:=Sn (ws:=w.heap.W) (a:=4+4092+(i:Int)*h.C.pw+BW (w.heap.P.getD i M)) (b:=r) (n:=n) oq oq oq;rw[show(4:Int)+4092+(i:Int)*h.C.pw=4096+(i:Int)*h.C.pw by omega]at m1 m2 m3;grind[Gj])
 have b1:(ZD (Z1 (BL (moveA w.heap.W (w.place n).2.1 r n).1 r (4*(w.place n).2.1+2)).1 r).1).2=O:=by grind[Sn,Si,P5]
 have ew:((w.place n).1.copy r (w.place n).2.1 n).heap.W=(BL (moveA w.heap.W (w.place n).2.1 r n).1 r (4*(w.place n).2.1+2)).1:=by(rw[e];rfl)
 have a2:HD h T ((w.place n).1.copy r (w.place n).2.1 n)+n<=HD h T w:=by(refine Zex y ⟨h1,a3⟩ o (λj x b4=>?_) ?_;grind[wtW];grind[wtW])
 have l:((w.place n).1.copy r (w.place n).2.1 n).heap.P=w.heap.P.set i p:=by rw[e];rfl
 have eT:((w.place n).1.copy r (w.place n).2.1 n).T=t:=by rw[e];rfl
 have eL:ZF ((w.place n).1.copy r (w.place n).2.1 n)=t.getD ((t.length:Int)-1).toNat M:=by grind[ZF]
 have s1:=Dy C9 p w.heap.P i p1;have s2:=Dy C4 p w.heap.P i p1;have u1:C9 p=p.U:=by grind[C9]
 have z1:C4 p=1:=by rw[C4,if_neg oq]
 have m1:=m.m1;have m3:=m.m3;have m4:=m.m4;have a4:0<=((w.T.length:Int))*(h.C.pw/4*3+1):=Lz oq oq;have h5:∀j,j<h.P.length->(h.P.getD j M).K=1->((((w.place n).1.copy r (w.place n).2.1 n).heap.P.getD j M).S=((w.place n).1.copy r (w.place n).2.1 n).heap.S↔¬ 0<(h.P.getD j M).N):=by
  intro j hj hk;have eS:((w.place n).1.copy r (w.place n).2.1 n).heap.S=w.heap.S:=by rw[e];rfl
  rw[l,eS,Ck p1,if_neg (by grind)];exact m.m5 j hj hk
 rcases p2 with⟨q1,q2,q3⟩|⟨q1,q2,q3,q4⟩;have u2:C9 (w.heap.P.getD i M)=0:=by rw[C9,if_neg oq]
 have z2:C4 (w.heap.P.getD i M)=0:=by grind[C4]
 have oc:BW (w.heap.P.getD i M)=0:=by grind[BW]
 rw[oc]at p4;have hu:Bj C9 (w.heap.P.set i p)=Bj C9 w.heap.P+n:=by omega
 refine⟨⟨by grind,by rw[e];exact m.m0.2⟩,by rw[l];omega, ?_,by rw[l];omega,by grind[Ls],h5⟩;intro _;rw[eL,l,eT,hu,q2];have el:(w.T++[(i:Int)]).getD ((((w.T++[(i:Int)]).length:Nat):Int)-1).toNat M=i:=by simp_all
 rw[el,Lq,Ck p1,if_pos rfl,Lo,Ls];rw[show(((w.T.length+1:Nat):Int)-1)=w.T.length by omega];by_cases z:0<w.T.length;have m2:=m.m2 z;have nf:¬ E8 w n:=by grind[Z7.place]
 grind[E8];grind
 .have u2:C9 (w.heap.P.getD i M)=(w.heap.P.getD i M).U:=by grind[C9]
  have z2:C4 (w.heap.P.getD i M)=1:=by rw[C4,if_neg oq]
  have oc:BW (w.heap.P.getD i M)=(w.heap.P.getD i M).U:=by rw[BW,if_neg oq]
  rw[oc]at p4;have hu:Bj C9 (w.heap.P.set i p)=Bj C9 w.heap.P+n:=by omega
  refine⟨⟨by grind,by rw[e];exact m.m0.2⟩,by rw[l];omega, ?_,by rw[l];omega,by grind,h5⟩;intro z;rw[eT,q3]at z;have m2:=m.m2 z;rw[eL,l,eT,hu,q3];rw[Ck p1];show((w.T.length:Int)-1)*_+Z0.U (if i=(ZF w).toNat then p else w.heap.P.getD (ZF w).toNat M)<=_;split;all_goals grind
structure MV (h:Heap):Prop where
 v:Bj C9 h.P+Bj Gz h.P*h.C.pw<=h.C.pg/4*h.C.pw
 n:∃t:Int,Bj C4 h.P<=h.C.pg/4+Bj Gz h.P+t/\(t-1)*(h.C.pw/4*3+1)<=Bj C9 h.P
def Z2S{α:Type}{f:α->Int}{r:α}:∀{l:List α},(∀x∈l,0<=f x)->r∈l->f r<=(l.map f).sum
 |[],_,hr=>by simp at hr
 |x::l,h,hr=>by
  have h0:=h x pq;have a:∀y∈l,0<=f y:=λy b=>h y (Lu _ b);simp only[Lt,Lw];rcases LO.1 hr with rfl|hr
  .have:=RG a;omega
  .have:=Z2S a hr;omega
def ZgF{t t' s q L U nz pg:Int}(hs:4<=s)(hq:2<=q)(a:4*q<=pg)(hL:0<=L)(ht:0<=t)(h1:pg=nz+t)(h2:t*(s*3+1)<=U-1)(h3:nz<=q+L+t')(h4:(t'-1)*(s*3+1)<=U)(h5:U+L*(s*4)<=q*(s*4)):False:=by
 have e2:t*(s*3+1)=3*t*s+t:=by grind
 have e4:(t'-1)*(s*3+1)=3*(t'-1)*s+(t'-1):=by grind
 have e5:q*(s*4)-L*(s*4)=4*(q-L)*s:=by grind
 have a1:3*t<4*(q-L):=by(by_cases c:3*t<4*(q-L);exact c;have:=Ly (show 4*(q-L)<=3*t by omega) (show 0<=s by omega);omega)
 have a2:3*(t'-1)<4*(q-L):=by(by_cases c:3*(t'-1)<4*(q-L);exact c;have:=Ly (show 4*(q-L)<=3*(t'-1) by omega) (show 0<=s by omega);omega)
 omega
def MI.unp{h T i w}(m:MI h T w)(k:KI h T i w){r o:Int}{a:Nat}(b:Z2 w.heap.C r=((a:Int),o,0))(d:(a:Int)∉w.T)(e:a<h.P.length)(k1:(h.P.getD a M).K=1)(c4:¬ ZH w (Z2 w.heap.C r).1=O):¬ 0<(h.P.getD a M).N:=by intro f;apply c4;have g:=m.m0.1;have q:=(m.m5 a e k1);have kk:=(k.pg a d).1;simp only[ZH,decide_eq_true_eq];rw[b];simp only[Lq];exact⟨by omega,by omega,by omega,λc=>(q.1 c) f,d⟩
section
variable {h:Heap} {T tq:Nat->List Int} {w:Z7} (g:Gd h T) (m:MI h T w) (k:KI h T tq w) (d:B7 w) (f:MV h)
include g m k d f
theorem MI.room{r n:Int}{e}(y:r∈T e)(h1:(h.P.getD e M).K=1)(a3:¬ 0<(h.P.getD e M).N)(ht:(ZD (Z1 w.heap.W r).1).2=La)(hn:n=Zl w.heap.W r+1):(w.place n).2.2=O:=by
 have he:(Z1 w.heap.W r).1=(Z1 h.W r).1:=by(rcases k.hd e r y with q|q;exact q;rw[q.1]at ht;cases ht)
 have a5:=Bo w.heap.W r;have a4:Zl w.heap.W r=Zl h.W r:=(E9 he).2.1;have o:=(g.t0 e r y).1;have a6:=(g.t1 e o h1).2 r y;have po:=B1 g.p;have sw:=R8 po.1;have hv:=BG.1 po.1;have a1:h.C.pw=h.C.pw/4*4:=by(have:=hv.2.2.1;rw[LI oq]at this;omega)
 by_cases u:E8 w n;rw[Z7.place,if_pos u];by_cases hg:0<=ZP w;rw[Z7.place,if_neg u,if_pos hg];exfalso;have nz:=Zgf (ZgG (l:=w.heap.P) hg);have m0:=m.m0;have m1:=m.m1;have m3:=m.m3;have m4:=m.m4;have a0:=d.pl;rw[m0.2]at a0;have a2:n<=HD h T w:=by
  have a:N8 h T w e<=HD h T w:=Z2S (λi _=>by
   unfold N8;split;exact RG λx _=>(Z0n h w x).1;exact LD _) (Lg.2 o)
  have b:wtW h w r<=N8 h T w e:=by(unfold N8;rw[if_pos ⟨h1,a3⟩];exact Z2S (λx _=>(Z0n h w x).1) y)
  unfold wtW at b;rw[if_neg (by rw[ht];simp)]at b;omega
 have a7:Bj unP h.P<=Bj C9 h.P:=IW λp hp=>by(obtain⟨j,hj,rfl⟩:=LF hp;have pp:=Eb g.p hj;rw[Lh,Ln hj,LB]at pp;unfold unP C9;split;rename_i c;rw[if_pos c.1];omega;split<;>omega)
 have hL:0<=Bj Gz h.P:=RG λp _=>by unfold Gz;split<;>omega
 have h2:(w.T.length:Int)*(h.C.pw/4*3+1)<=Bj C9 h.P-1:=by
  by_cases z:0<w.T.length;have m2:=m.m2 z;unfold E8 at u;rw[m0.2]at u;have hq:h.C.pw/4*3+1<=(w.heap.P.getD (ZF w).toNat M).U:=by omega
  rw[show(w.T.length:Int)*(h.C.pw/4*3+1)=((w.T.length:Int)-1)*(h.C.pw/4*3+1)+(h.C.pw/4*3+1) by rw[Int.sub_mul];omega];omega;have:w.T.length=0:=by omega
  rw[this];simp;omega
 obtain⟨t',n1,n2⟩:=f.n;have v:=f.v;exact ZgF (s:=h.C.pw/4) (q:=h.C.pg/4) (pg:=h.C.pg) (nz:=Bj C4 h.P) (L:=Bj Gz h.P) (U:=Bj C9 h.P) (t:=w.T.length) (t':=t') oq oq oq hL oq oq h2 n1 n2 (by rw[<-a1];exact v)
theorem MI.fwd_ok(hi:Bu w){r:Int}(n:r=0\/r∈w.Q\/r∈w.old):(w.fwd r).2.2=0:=by
 unfold Z7.fwd;by_cases c1:r=0\/r∈w.Q;rw[if_pos c1];rw[if_neg c1];have c2:r∈w.old:=by(rcases n with q|q|q;exact absurd (Or.inl q) c1;exact absurd (Or.inr q) c1;exact q)
 rw[if_neg (by simpa using c2)];obtain⟨a,c,l⟩:=(k.old r).1 c2;have b:Z2 w.heap.C r=((a:Int),r-Zz h a,0):=by rw[k.c];exact g.ofx c
 by_cases c3:(ZD (Z1 w.heap.W r).1).2=O;rw[if_pos c3];rw[if_neg c3,if_neg (by rw[b];simp)];by_cases c4:ZH w (Z2 w.heap.C r).1=O;rw[if_pos c4];rw[if_neg c4];by_cases e:(w.heap.P.getD (Cy w r) M).K=2;rw[if_pos e];rw[if_neg e];have i:Cy w r=a:=by rw[Cy,b];simp
 rw[i]at e;have j:=k.nt g c;have k1:(h.P.getD a M).K=1:=by(have:=(g.t0 a r c).2;rw[<-(k.pg a j).1]at this⊢;omega)
 have:=m.room g k d f c k1 (m.unp k b j (g.t0 a r c).1 k1 c4) (by simpa using c3) rfl;rw[<-GD w r]at this;rw[if_neg (by rw[this];simp)]
theorem MI.fwd(hi:Bu w){r}(e:(w.fwd r).2.2=0):MI h T (w.fwd r).1:=by
 unfold Z7.fwd at e⊢;by_cases c1:r=0\/r∈w.Q;rw[if_pos c1];exact m;rw[if_neg c1]at e⊢;by_cases c2:r∈w.old;rw[if_neg (by simpa using c2)]at e⊢;obtain⟨a,c,p⟩:=(k.old r).1 c2;have b:Z2 w.heap.C r=((a:Int),r-Zz h a,0):=by rw[k.c];exact g.ofx c
 by_cases c3:(ZD (Z1 w.heap.W r).1).2=O;rw[if_pos c3];exact m;rw[if_neg c3,if_neg (by rw[b];simp)]at e⊢;by_cases c4:ZH w (Z2 w.heap.C r).1=O;rw[if_pos c4];exact m.keep r;rw[if_neg c4]at e⊢;by_cases j:(w.heap.P.getD (Cy w r) M).K=2;rw[if_pos j];exact(m.flip k j).keep r;rw[if_neg j]at e⊢;have n:Cy w r=a:=by rw[Cy,b];simp
 rw[n]at j;have o:=k.nt g c;have k1:(h.P.getD a M).K=1:=by(have:=(g.t0 a r c).2;rw[<-(k.pg a o).1]at this⊢;omega)
 have i:=m.unp k b o (g.t0 a r c).1 k1 c4;have l:=m.room g k d f c k1 i (by simpa using c3) rfl;rw[<-GD w r]at l;rw[if_neg (by rw[l];simp)];exact m.copy g k d c k1 i (by simpa using c3) (GD w r) l;rw[if_pos c2]at e;simp at e
end
def Zdj{ws:List Int}{a b n k:Int}(ha:4096<=a/\a-4096+n<=ws.length)(c:4096<=b/\b-4096+n<=ws.length)(hk:0<=k/\k<n):Z1 (moveA ws a b n).1 (a+k)=((Z1 ws (b+k)).1,0):=by
 have e1:BX ws b n=((ws.drop (b-4096).toNat).take n.toNat,0):=by rw[BX,if_neg oq,if_pos c]
 have e2:moveA ws a b n=ZS ws a ((ws.drop (b-4096).toNat).take n.toNat):=by rw[moveA,e1];simp
 have hl:((ws.drop (b-4096).toNat).take n.toNat).length=n.toNat:=by simp;omega
 rw[e2,RU oq oq];congr 1;unfold Z1;rw[if_pos oq];simp only[Lh];rw[show a+k-a=k by omega,List.getElem?_take_of_lt oq,List.getElem?_drop];rw[show(b-4096).toNat+k.toNat=(b+k-4096).toNat by omega]
def E6(w:Z7)(y:Int):Int:=if y∈w.Q then y else if(ZD (Z1 w.heap.W y).1).2=O then(ZD (Z1 w.heap.W y).1).1 else 0
structure ME (h:Heap) (T:Nat->List Int) (w:Z7) (r:Int) (i0:Nat) (w':Z7) (a:Int):Prop where
 b:4096<=a
 q:w'.Q=w.Q++[a]
 n:w'.rep.copied+w'.rep.kept=w.rep.copied+w.rep.kept+1
 o:w'.old=w.old
 l:w'.heap.W.length=w.heap.W.length
 s:((h.P.getD i0 M).K=2\/0<(h.P.getD i0 M).N)↔a=r
 e:a-4096+Zl h.W r<w.heap.W.length
 f:a=r->w'.heap.W=w.heap.W
 c:a≠r->ZD (Z1 w'.heap.W r).1=(a,O)
 t:∀j x,x∈T j->x≠r->a≠x/\Z1 w'.heap.W x=Z1 w.heap.W x
 x:∀k,0<=k->k<=Zl h.W r->(Z1 w'.heap.W (a+k)).1=(Z1 w.heap.W (r+k)).1
section
variable {h:Heap} {T tq:Nat->List Int} {w:Z7} (g:Gd h T) (m:MI h T w) (k:KI h T tq w) (d:B7 w) (f:MV h)
include g m k d f
theorem Zcd{r:Int}{l}(y:r∈T l)(a7:Cv h.W r≠0)(hq:r∉w.Q)(ht:(ZD (Z1 w.heap.W r).1).2=La) :(w.fwd r).2.2=0/\ME h T w r l (w.fwd r).1 (w.fwd r).2.1:=by
 have ho:r∈w.old:=(k.old r).2 ⟨l,y,a7⟩;have b6:=g.inw y;have on:=g.on y;have b7:=Bo h.W r;have he:(Z1 w.heap.W r).1=(Z1 h.W r).1:=by(rcases k.hd l r y with q|q;exact q;rw[q.1]at ht;cases ht)
 have b2:Zl w.heap.W r=Zl h.W r:=(E9 he).2.1;have nt:=k.nt g y;have pg:=k.pg l nt;have wl:=k.wl;have c1:¬ (r=0\/r∈w.Q):=by(rintro(q|q);omega;exact hq q)
 have s:Z2 w.heap.C r=((l:Int),r-Zz h l,0):=by rw[k.c];exact g.ofx y
 have a0:Cy w r=l:=by rw[Cy,s];simp
 by_cases c4:ZH w (Z2 w.heap.C r).1=O;have ef:w.fwd r=(w.keep r,r,0):=by rw[Z7.fwd,if_neg c1,if_neg (by simpa using ho),if_neg (by rw[ht];simp),if_neg (by rw[s];simp),if_pos c4]
 rw[ef];show(0:Int)=0/\ME h T w r l (w.keep r) r;have hs:(h.P.getD l M).K=2\/0<(h.P.getD l M).N:=by
  rw[s]at c4;simp only[ZH,decide_eq_true_eq,Lq]at c4;have k1:(h.P.getD l M).K=1:=by rw[<-pg.1];exact c4.2.2.1
  have:=m.m5 l on.1 k1;by_cases q:0<(h.P.getD l M).N;exact .inr q;exact absurd (this.2 q) c4.2.2.2.1
 exact⟨rfl,by omega,rfl,by simp only[Z7.keep];omega,rfl,rfl,⟨λ_=>rfl,λ_=>hs⟩,by omega,λ_=>rfl,λq=>absurd rfl q,λj x _ o=>⟨λq=>o q.symm,rfl⟩,λ_ _ _=>rfl⟩;by_cases c5:(w.heap.P.getD (Cy w r) M).K=2;have ef:w.fwd r=((w.flip (Cy w r)).keep r,r,0):=by rw[Z7.fwd,if_neg c1,if_neg (by simpa using ho),if_neg (by rw[ht];simp),if_neg (by rw[s];simp),if_neg c4,if_pos c5]
 rw[ef];show(0:Int)=0/\ME h T w r l ((w.flip (Cy w r)).keep r) r;have hs:(h.P.getD l M).K=2\/0<(h.P.getD l M).N:=by(rw[a0,pg.1]at c5;exact .inl c5)
 exact⟨rfl,by omega,rfl,by simp only[Z7.keep,Z7.flip];omega,rfl,rfl,⟨λ_=>rfl,λ_=>hs⟩,by omega,λ_=>rfl,λq=>absurd rfl q,λj x _ o=>⟨λq=>o q.symm,rfl⟩,λ_ _ _=>rfl⟩;have k1:(h.P.getD l M).K=1:=by(have:=on.2.1;rw[a0]at c5;rw[<-pg.1]at this⊢;omega)
 have a3:=m.unp k s nt on.1 k1 c4;have v:=m.room g k d f y k1 a3 ht rfl;have a8:=GD w r;have ef:w.fwd r=((w.place (Zl w.heap.W r+1)).1.copy r (w.place (Zl w.heap.W r+1)).2.1 (Zl w.heap.W r+1),(w.place (Zl w.heap.W r+1)).2.1,0):=by(rw[Z7.fwd,if_neg c1,if_neg (by simpa using ho),if_neg (by rw[ht];simp),if_neg (by rw[s];simp),if_neg c4,if_neg c5,a8,if_neg (by rw[v];simp)])
 rw[ef];show(0:Int)=0/\ME h T w r l ((w.place (Zl w.heap.W r+1)).1.copy r (w.place (Zl w.heap.W r+1)).2.1 (Zl w.heap.W r+1)) (w.place (Zl w.heap.W r+1)).2.1;have po:=B1 g.p;have b9:=(g.t1 l on.1 k1).2 r y;have c0:=R8 po.1;have b4:=BG.1 po.1;obtain⟨i,p,t,p1,p2,p3,p4,p5,p6,p7,e⟩:=TJ d ⟨by omega,by rw[k.c];omega⟩ v;have a5:=k.c;have b8:=k.pl;have a2:(h.P.getD i M).K=0:=by(rcases p2 with q|q;by_cases c:(i:Int)∈w.T;exact(k.tk i c).2.1;rw[<-(k.pg i c).1];exact q.1;exact(k.tk i q.1).2.1)
 have a6:=Ew (i:=i) (j:=h.C.pg) (pw:=h.C.pw) oq oq;rw[LH h.C.pg]at a6;have b5:0<=(i:Int)*h.C.pw:=Lz oq oq;rw[a5]at p5 p7;have a4:4096+(i:Int)*h.C.pw=Zz h i:=rfl;rw[e,p7,a4];generalize hu:BW (w.heap.P.getD i M)=u at *;generalize ha:Zz h i+u=a;have b3:4096<=a/\a+(Zl w.heap.W r+1)<=4096+w.heap.W.length:=by omega
 have a1:∀j x,x∈T j->x+Zl h.W x<Zz h i\/Zz h i+h.C.pw<=x:=by(intro j x y;have:=g.free (show i<h.P.length by omega) (Or.inl a2) y;rw[BW,if_pos a2]at this;omega)
 have b1:=a1 l r y;obtain⟨m1,m2,m3⟩:=Sn (ws:=w.heap.W) (a:=a) (b:=r) (n:=Zl w.heap.W r+1) oq oq oq;have z:4096<=r/\r<4096+(moveA w.heap.W a r (Zl w.heap.W r+1)).1.length:=by omega
 have o:a≠r:=by omega
 refine⟨rfl,by omega,rfl,by simp only[Z7.copy];omega,rfl, ?_,⟨λq=>?_,λq=>absurd q o⟩,by omega,λq=>absurd q o,λ_=>?_,λj x a9 b0=>?_,λj j0 j1=>?_⟩;simp only[Z7.copy];rw[An z,m1];rcases q with q|q;omega;exact absurd q a3;simp only[Z7.copy];rw[Si z,P5 oq oq];have fx:=a1 j x a9;have rx:=Bo h.W x;simp only[Z7.copy];exact⟨by omega,by rw[Gj z b0,m3 x oq]⟩;simp only[Z7.copy];rw[Gj z oq,Zdj oq oq oq]
end
theorem Ss(l:List Z0):Bj C4 l=Cm l:=by
 rw[Io];unfold Cm;have:∀n,((Ld n).map λi=>C4 (l.getD i M)).sum=Ep l n:=by
  intro n;induction n with|zero=>simp[Ep]|succ n ih =>grind[TH,LG,Ep,C4]
 exact this _
def Z7m{pw:Int}:∀{l:List Z0},(∀p∈l,C9 p+Gz p*pw<=C4 p*pw)->Bj C9 l+Bj Gz l*pw<=Bj C4 l*pw
 |[],_=>by simp[Bj]
 |x::l,h=>by
  have h1:=Z7m (l:=l) λp b=>h p (Lu _ b);have a:=h x pq;simp only[Bj,Lt,Lw,Int.add_mul]at h1 a⊢;omega
def Z5b{h:Heap}(b:Z8 h=O):0<=Bj C9 h.P:=RG λp c=>by
 obtain⟨j,a,rfl⟩:=LF c;have pp:=Eb b a;grind[C9]
def ZeG l:0<=Bj Gz l:=RG λp _=>by grind[Gz]
def MV.few{h:Heap}(a:Z8 h=O)(b:(Cm h.P:Int)<=h.C.pg/4):MV h:=by
 have po:=B1 a;rw[<-Ss]at b;have u0:=Z5b a;have l0:=ZeG h.P;refine⟨?_,0,by omega,by omega⟩;have:=Z7m (pw:=h.C.pw) (l:=h.P) λp d=>by(obtain⟨j,c,rfl⟩:=LF d;have pp:=Eb a c;grind[C9,Gz,C4])
 have:=Ly b (show 0<=h.C.pw by omega);omega
def MV.same{h h':Heap}(m:MV h)(a:h'.C=h.C)(hl:h'.P.length=h.P.length)(hk:∀i,i<h.P.length->(h'.P.getD i M).K=(h.P.getD i M).K/\(h'.P.getD i M).U=(h.P.getD i M).U):MV h':=by
 have e1:Bj C9 h'.P=Bj C9 h.P:=Sf C9 hl λi b=>by grind[C9]
 have e2:Bj C4 h'.P=Bj C4 h.P:=Sf C4 hl λi b=>by grind[C4]
 have e3:Bj Gz h'.P=Bj Gz h.P:=Sf Gz hl λi b=>by grind[Gz]
 refine⟨by rw[e1,e3,a];exact m.v, ?_⟩;rw[e1,e2,e3,a];exact m.n
def Z6h{l m:List Z0}{i:Nat}(h:i+m.length<=l.length):∀k,k<=m.length->Bj C4 (wr l m i k)<=Bj C4 l+k
 |0,_=>by rw[AC];simp
 |k+1,hk=>by
  have ih:=Z6h h k oq;have e:=ML h oq (M:Z0) (k:=k);rw[<-e];have s:=Dy C4 (m.getD k M) (wr l m i k) (i+k) (by grind[Ii]);grind[C4]
def ZiZ{l:List Z0}{i k:Nat}{p q:Z0}(hk:1<=k)(h:i+k<=l.length)(hq:q.K≠0):Bj C4 (ZL l i k p q)<=Bj C4 l+k:=by
 have a:i+(Lc k q).length<=l.length:=by grind
 have w:=Z6h a k pq;have s:=Dy C4 p (wr l (Lc k q) i k) i (by grind[Ii]);grind[SP,C4,ZL]
def Zhh{h:Heap}{hd:Zy}(hp:Z8 h=O)(hc:(Ca h hd).2.2=O):(Cm (Ca h hd).1.P:Int)<=h.C.pg/4:=by
 have po:=B1 hp;have hv:=BG.1 po.1;have li:CU h.C=h.C.pg/4:=by grind[CU]
 unfold Ca at hc⊢;split at hc
 .rename_i c;rw[if_pos c];unfold BE at hc⊢;split at hc
  .rename_i c2;rw[if_pos c2];have ff:=HL c2.1;rw[<-Ss];simp only;have e:(GG h.C h.P (first h.P (need h.C (Z5 hd))) h.S (Z5 hd)).1=ZL h.P (first h.P (need h.C (Z5 hd))).toNat (need h.C (Z5 hd)).toNat ⟨2,h.S,Z5 hd,0⟩ ⟨3,h.S,0,0⟩:=by grind[GG,EE]
   rw[e];have:=ZiZ (l:=h.P) (i:=(first h.P (need h.C (Z5 hd))).toNat) (k:=(need h.C (Z5 hd)).toNat) (p:=⟨2,h.S,Z5 hd,0⟩) (q:=⟨3,h.S,0,0⟩) oq oq pq;grind[Ss]
  .simp at hc
 .rename_i c;rw[if_neg c];unfold Be at hc⊢;split at hc
  .rename_i c2;rw[if_pos c2];rw[<-Ss];simp only;have e:Bj C4 (Cq h.P h.B.toNat (Z5 hd))=Bj C4 h.P:=Sf C4 (by simp[Cq]) λi hi=>by
    rw[Sa];by_cases hb:h.B.toNat<h.P.length
    .rw[Ck hb];split
     .rename_i q;rw[<-q];rfl
     .rfl
    grind
   rw[e,Ss];have:=c2.2.2.2;omega
  .rename_i c2;rw[if_neg c2];split at hc
   .rename_i c3;rw[if_pos c3];obtain⟨g1,g2,g3⟩:=SZ po.2.2.2.2.2.2.2.2 c3.1 (Z5 hd);rw[<-Ss];simp only;rw[g1];have s:=Dy C4 ⟨1,h.S,Z5 hd,0⟩ h.P (first h.P 1).toNat g3;grind[C4,Ss]
   .simp at hc
def MV.put{w:Zi}(m:MV w.heap)(c:Zx w.heap.W){a:Zy}(b:0<=a.map/\a.map<=4294967295):MV (w.put a).heap:=by unfold Zi.put;split;rename_i e;obtain⟨k1,k2,d,g,k5,h,i,k8⟩:=Om c b e;have f:=Zhh k1 g;refine MV.few i ?_;rw[h];simp only;rw[d.c];exact f;exact m
def MV.setf{h}{a i v:Int}(m:MV h)(d:Zx h.W)(c:0<=v/\v<=18446744073709551615)(e:(Zo h a).2=0)(b:0<=i/\i<(Zo h a).1.length):MV (CY h a i v).1:=by obtain⟨s1,s2,s3⟩:=Z2D d c (a:=a) (i:=i) e b;rw[s1];exact m.same rfl rfl λ_ _=>⟨rfl,rfl⟩
def MV.link{w:Zi}{n}(m:MV w.heap)(b:BY w n)(d:n<=1000000) t:MV (w.link t).heap:=by
 unfold Zi.link;split;rename_i a;have f:=b.wm d;have g:=Gx (w.pickT (w.pickT t)) (n:=8) dd;have gg:=Nt a.1;have c:0<=Hm w t/\Hm w t<(Zo w.heap (w.pick t)).1.length:=by(unfold Hm;rw[LI g.1];exact⟨Int.emod_nonneg _ oq,Int.emod_lt_of_pos _ oq⟩)
 have e:0<=Hp w t/\Hp w t<=18446744073709551615:=by(unfold Hp;split;exact A7 f _;have:=Gx ((w.pickT (w.pickT t)).step 8) (n:=1048576) dd;omega)
 exact m.setf b.W e a.1 c;exact m
def MV.pinB{w:Zi}(m:MV w.heap) i d:MV (Go.Proofs.YtgedmeaemofdkaaGreat.pinB w i d).heap:=by refine m.same rfl (by simp[Go.Proofs.YtgedmeaemofdkaaGreat.pinB]) λj hj=>?_;simp only[Go.Proofs.YtgedmeaemofdkaaGreat.pinB];by_cases a:i<w.heap.P.length;rw[Ck a];split;rename_i q;subst q;exact⟨rfl,rfl⟩;exact⟨rfl,rfl⟩;rw[List.set_eq_of_length_le oq];exact⟨rfl,rfl⟩
def MV.pin{w:Zi}(m:MV w.heap) t:MV (w.pin t).heap:=by
 unfold Zi.pin;repeat' split
 exact m.pinB _ _;exact m.pinB _ _;all_goals omega
def MV.drop{w:Zi}(m:MV w.heap) t:MV (w.drop t).heap:=by grind[Zi.drop]
def MI.in1{h T v}(g:Gd h T){w}(m:MI h T w)(k:KI h T v w)(u:MV h)(f:B7 w)(c:Bu w){q j:Int}(l:q∈w.Q)(hj:0<=j/\j<Zl w.heap.W q)(e:(w.fwd (Z1 w.heap.W (q+1+j)).1).2.2=0):MI h T (w.in1 (q+1+j)):=by
 obtain⟨y,t⟩:=k.fwd g f c _ e;have a:=m.fwd g k f u c e;obtain⟨s,n⟩:=NZ f c _ e;have b:=n.q q l;have p:=n.l q l;have hr:=s.r q (Lf _ b);have d:4096<=q+1+j/\q+1+j<4096+(w.fwd (Z1 w.heap.W (q+1+j)).1).1.heap.W.length:=by omega
 obtain⟨o,f2,f3⟩:=t.field g b (j:=j) oq;have er:HD h T (w.in1 (q+1+j))<=HD h T (w.fwd (Z1 w.heap.W (q+1+j)).1).1:=by(refine IW λi _=>?_;unfold N8;split;refine IW λx r=>?_;unfold wtW;rw[show(w.in1 (q+1+j)).heap.W=(BL (w.fwd (Z1 w.heap.W (q+1+j)).1).1.heap.W (q+1+j) (w.fwd (Z1 w.heap.W (q+1+j)).1).2.1).1 from rfl,Gj d (o i x r)];omega;omega)
 have m3:=a.m3;exact⟨a.m0,a.m1,a.m2,by show Bj C9 (w.fwd (Z1 w.heap.W (q+1+j)).1).1.heap.P+_<=_;omega,a.m4,a.m5⟩
def ZdQ{h T}(g:Gd h T)(f:MV h){s}(a:Zx h.W)(e:(rootsF (Zq h) s).2.2=0)(e2:(Bs (rootsF (Zq h) s).1).2=0):(∃c,KI h T c (ZI h s))/\MI h T (ZI h s):=
 Ml (λw=>(∃c,KI h T c w)/\MI h T w) (λw r a b ⟨⟨_,k⟩,m⟩ e=>⟨k.fwd g a b r e,m.fwd g k a f b e⟩) (λw q j a b ⟨⟨_,k⟩,m⟩ d h0 h1 e=>⟨k.in1 g a b d ⟨h0,h1⟩ e,m.in1 g k f a b d ⟨h0,h1⟩ e⟩)
  (λw n ⟨⟨c,k⟩,m⟩=>⟨⟨c,k.c,k.sp,k.old,k.pl,k.wl,k.pg,k.tk,k.tk0,k.q,k.hd,k.dt,k.lg⟩,⟨m.m0,m.m1,m.m2,m.m3,m.m4,m.m5⟩⟩) a g.p ⟨⟨_,KI.begin g⟩,MI.begin g⟩ e e2
def Dj{α:Type}{f g:α->Int}:∀l:List α,(l.map λx=>f x+g x).sum=(l.map f).sum+(l.map g).sum
 |[]=>by simp
 |x::l=>by
  simp only[Lt,Lw,Dj l];omega
def crP(p:Z0):Int:=if p.K=1/\0<p.N then 1 else 0
def Zba(l:List Z0):Bj crP l=crowd l:=by
 rw[Io];unfold crowd;have:∀n,((Ld n).map λi=>crP (l.getD i M)).sum=Bn l n:=by
  intro n;induction n with|zero=>simp[Bn]|succ n ih =>grind[LG,Bn,crP]
 exact this _
def Tt{f}{q:Z0->Z0}(l:List Z0):Bj f (l.map q)=((Ld l.length).map λi=>f (q (l.getD i M))).sum:=by grind[Io,List.map_congr_left]
def MI.end{h T tq}(g:Gd h T){w}(m:MI h T w)(k:KI h T tq w)(mv:MV h)(o:B7 w)(ts:∀x∈w.T,(w.heap.P.getD x.toNat M).S=1-w.heap.S){h':Heap}(s:h'.C=h.C)(j:h'.P=w.heap.P.map (BM w.heap.S)):MV h':=by
 have n:=m.m0.1;have sp:=o.sp;have po:=B1 g.p;have e:∀i,i<h.P.length->((i:Int)∈w.T/\(h.P.getD i M).K=0/\(w.heap.P.getD i M).K=1/\(w.heap.P.getD i M).S=1-w.heap.S)\/((w.heap.P.getD i M).K=(h.P.getD i M).K/\(w.heap.P.getD i M).U=(h.P.getD i M).U/\((h.P.getD i M).K=1->((w.heap.P.getD i M).S=w.heap.S↔¬ 0<(h.P.getD i M).N))):=by(intro i d;by_cases c:(i:Int)∈w.T;have t:=k.tk i c;grind;have q:=k.pg i c;exact Or.inr ⟨q.1,q.2.1,m.m5 i d⟩)
 have l:∀i,i<h.P.length->0<=(w.heap.P.getD i M).U/\0<=(h.P.getD i M).U:=λi d=>by(have a:=o.us i oq;have b:=Eb g.p d;omega)
 have q0:(⟨0,0,0,0⟩:Z0).K=0:=rfl;have e1:Bj C9 h'.P+Bj unP h.P<=Bj C9 w.heap.P:=by(rw[j,Tt,Io unP,Io C9,<-n,<-Dj];refine IW λi d=>?_;have d:=Lg.1 d;have p:=e i oq;have u:=l i oq;by_cases f:Cu w.heap.S (w.heap.P.getD i M);grind[BM,Cu,C9,unP];grind[BM,Cu,unP])
 have e2:Bj C9 w.heap.P<=Bj C9 h'.P+Bj C9 h.P:=by(rw[j,Tt,Io C9 h.P,Io C9,<-n,<-Dj];refine IW λi d=>?_;have d:=Lg.1 d;have p:=e i oq;have u:=l i oq;by_cases f:Cu w.heap.S (w.heap.P.getD i M);grind[BM,Cu,C9];grind[BM,C9])
 have e3:Bj Gz h'.P<=Bj Gz h.P:=by(rw[j,Tt,Io Gz h.P,<-n];refine IW λi d=>?_;have d:=Lg.1 d;have p:=e i oq;by_cases f:Cu w.heap.S (w.heap.P.getD i M);rw[BM,if_pos f];unfold Cu at f;unfold Gz;omega;rw[BM,if_neg f];unfold Cu at f;grind[Gz])
 have e4:Bj C4 h'.P+Bj C4 h.P<=Bj C4 w.heap.P+(Bj Gz h'.P+Bj crP h.P):=by
  rw[j,Tt,Tt,Io C4 h.P,Io C4,Io crP,<-n,<-Dj,<-Dj,<-Dj];refine IW λi d=>?_;have d:=Lg.1 d;have p:=e i oq;have kr:0<=(h.P.getD i M).K/\(h.P.getD i M).K<=3:=by(have:=Eb g.p (show i<h.P.length by omega);omega)
  by_cases f:Cu w.heap.S (w.heap.P.getD i M);rw[BM,if_pos f];grind[Cu,C4,Gz,crP];rw[BM,if_neg f];unfold Cu at f;unfold C4 Gz crP;omega
 have cr:=g.cr;rw[<-Zba]at cr;have m1:=m.m1;have m3:=m.m3;have m4:=m.m4;have r:=Zgz h T w;have v:=mv.v;have u0:=Z5b g.p;have y:0<=h.C.pw:=by omega
 refine⟨?_,w.T.length,by rw[s];omega, ?_⟩;rw[s];have:=Ly e3 y;omega;rw[s];by_cases z:0<w.T.length;have m2:=m.m2 z;have:=o.us (ZF w).toNat (by have:=o.tk _ (GV z);omega);omega;grind
def MV.collectF{B:Int}(hB:0<=B){h:Heap}{T:Nat->List Int}(g:Gd h T)(mv:MV h){s k:List Int}(hw:Zx h.W)(hb:∀p∈h.P,p.N<=B)(hs:H2 h T s)(hk:H2 h T k)(e:(Go.Proofs.YtgedmeaemofdkaaGreat.collectF h s k).2.2.2.2=0):MV (Go.Proofs.YtgedmeaemofdkaaGreat.collectF h s k).1:=by
 have hp:=g.p;have hr:=g.refers hs;have hr':=g.refers hk;by_cases e1:(rootsF (Zq h) s).2.2=0
 .by_cases e2:(Bs (rootsF (Zq h) s).1).2=0
  .have e7:Go.Proofs.YtgedmeaemofdkaaGreat.collectF h s k=(Eh (Bv h s k),(rootsF (Zq h) s).2.1,En (ZI h s) k k.length,(Bv h s k).rep,0):=by rw[Go.Proofs.YtgedmeaemofdkaaGreat.collectF,if_pos hp,if_pos ⟨hr,hr'⟩,if_pos e1,if_pos e2]
   rw[e7];have ck:=cOk h s k hw hp e1 e2;obtain⟨g1,g2,g3,g4,g5⟩:=ck.h4;have pr:=Z2R hB hw hp hb e1 e2;obtain⟨⟨tq,ki⟩,mi⟩:=ZdQ g mv hw e1 e2;refine mi.end g ki mv ck.w2 pr.tab.tk (h':=Eh (Bv h s k)) ?_ ?_;all_goals grind[Eh,Bv,H3]
  .rw[Go.Proofs.YtgedmeaemofdkaaGreat.collectF,if_pos hp,if_pos ⟨hr,hr'⟩,if_pos e1,if_neg e2]at e;exact absurd e e2
 .rw[Go.Proofs.YtgedmeaemofdkaaGreat.collectF,if_pos hp,if_pos ⟨hr,hr'⟩,if_neg e1]at e;exact absurd e e1
def MV.collect{w:Zi}{n}(m:MV w.heap)(h:WG w)(a:BY w n):MV w.collect.heap:=by unfold Zi.collect;split;rename_i e;obtain⟨T,g,b,c⟩:=h;exact MV.collectF (B:=n) oq g m a.W (λp d=>(a.pin_mem p d).2) b c e;exact m
def MV.step{w:Zi}{n}(m:MV w.heap)(h:WG w)(a:BY w n)(b:n<=1000000) t:MV (w.step t).heap:=by
 unfold Zi.step;repeat' split
 exact m.put a.W (O4 _ _);exact m.link a b _;exact m.pin _;exact m.drop _;exact m.collect h a;exact m
def Z4N{w:Zi}{n}(m:MV w.heap)(h:WG w)(a:BY w n) t:∀k,n+k<=1000000->MV (G0 w t k).1.heap|0,_=>m|k+1,hk=>(Z4N m h a t k oq).step (Z3k h a t k oq) (DK a t k oq) oq _
def P7 l:MV (ZA l).heap:=by
 have e:=ON l;have hl:(((EH l).step 4).step 5).l.length<=300:=by grind
 have hk:=Ma (EH l).empty (((EH l).step 4).step 5) oq;obtain⟨_,ge,_⟩:=Z3e (EH l);have a:=ge.p;refine Z4N (MV.few a ?_) (Z3e (EH l)) (Z0w (EH l)) _ _ oq;have hv:=BG.1 (B1 a).1;have z:Bj C4 (EH l).empty.heap.P=0:=by simp[Bj,Tape.empty,Ie,C4]
 grind[Ss]
def Z2Y{w}(h:(Z6 w).2=O):(ZD w).2=La:=by unfold Z6 at h;split at h;rename_i c;unfold Zt at c;split at c;simp only at c;unfold ZD;rw[if_neg oq];simp at c;cases h
structure OnW (h:Heap) (T:Nat->List Int) (w:Z7):Prop where
 c:G2 h T w
 m:MI h T w
 q:∀y∈w.old,E6 w y≠0->E6 w y∈w.Q
 z:∀y∈w.old,E6 w y=0->y∉w.Q/\(ZD (Z1 w.heap.W y).1).2=La
 n:w.rep.copied+w.rep.kept=w.Q.length
def Z1k{h T}(g:Gd h T){y:Int}(b:y∈(Zq h).old):E6 (Zq h) y=0/\(ZD (Z1 h.W y).1).2=La:=by obtain⟨i,a,hk⟩:=((KI.begin g).old y).1 b;have t:=Z2Y (g.on a).2.2.2.2.2.1;refine⟨?_,t⟩;unfold E6;rw[if_neg (by simp[Zq]),if_neg (by show¬ (ZD (Z1 h.W y).1).2=O;rw[t];simp)]
def OnW.begin{h T}(g:Gd h T)(b:Zx h.W):OnW h T (Zq h):=
 ⟨G2.begin g b,MI.begin g,λy a q=>absurd (Z1k g a).1 q,λy a _=>⟨by simp[Zq],(Z1k g a).2⟩,rfl⟩
section
variable {h:Heap} {T:Nat->List Int} {w:Z7} (o:OnW h T w) (g:Gd h T) (mv:MV h) {r:Int} (hr:r∈w.old)
include o g mv hr
theorem OnW.new(hs:E6 w r=0):∃i0,r∈T i0/\(w.fwd r).2.2=0/\ME h T w r i0 (w.fwd r).1 (w.fwd r).2.1:=by
 obtain⟨tq,k⟩:=o.c.k;obtain⟨i0,hx,hk⟩:=(k.old r).1 hr;have z:=o.z r hr hs;exact⟨i0,hx,Zcd g o.m k o.c.ok mv hx hk z.1 z.2⟩
theorem OnW.same(hs:E6 w r≠0):w.fwd r=(w,E6 w r,0):=by
 unfold Z7.fwd E6 at *;split at hs;rename_i q;rw[if_pos (.inr q),if_pos q];rename_i q;split at hs;rename_i a;obtain⟨tq,k⟩:=o.c.k;obtain⟨i0,b,hk⟩:=(k.old r).1 hr;have:=g.inw b;have c:¬ (r=0\/r∈w.Q):=by(rintro(c|c);omega;exact q c)
 rw[if_neg c,if_neg (by simpa using hr),if_pos a,if_neg q,if_pos a];exact absurd rfl hs
theorem OnW.seen:(w.fwd r).2.1≠0/\E6 (w.fwd r).1 r=(w.fwd r).2.1/\(∀y∈w.old,y≠r->E6 (w.fwd r).1 y=E6 w y)/\(w.fwd r).1.old=w.old /\ ((w.fwd r).1.Q.length:Int)=w.Q.length+(if E6 w r=0 then 1 else 0):=by
 by_cases a:E6 w r=0;obtain⟨i0,hx,e,N⟩:=o.new g mv hr a;have z:=o.z r hr a;have b:=N.b;obtain⟨tq,k⟩:=o.c.k;refine⟨by omega, ?_,λy i d=>?_,N.o,by rw[if_pos a,N.q];simp⟩;unfold E6;rw[N.q];by_cases q:(w.fwd r).2.1=r;rw[if_pos (by rw[q];simp)];exact q.symm;rw[if_neg (by simp only[Lk,Lv];rintro(c|c);exact z.1 c;exact q c.symm),N.c q];simp;obtain⟨j,f,_⟩:=(k.old y).1 i;have t:=N.t j y f d;unfold E6;rw[N.q,t.2];have:(y∈w.Q++[(w.fwd r).2.1])↔y∈w.Q:=by(simp only[Lk,Lv];exact⟨λc=>c.elim id λc=>absurd c.symm t.1,.inl⟩)
 simp only[this];rw[o.same g mv hr a];exact⟨a,rfl,λ_ _ _=>rfl,rfl,by rw[if_neg a];simp⟩
theorem OnW.fwd:OnW h T (w.fwd r).1:=by by_cases d:E6 w r=0;obtain⟨i0,hx,e,N⟩:=o.new g mv hr d;obtain⟨s1,f,i,l,s5⟩:=o.seen g mv hr;obtain⟨tq,k⟩:=o.c.k;refine⟨o.c.fwd g e,o.m.fwd g k o.c.ok mv o.c.inv e,λy a b=>?_,λy a h0=>?_,by rw[N.n,o.n,N.q];simp⟩;rw[l]at a;rw[N.q];by_cases q:y=r;subst q;rw[f];simp;rw[i y a q]at b⊢;exact Lj _ (o.q y a b);rw[l]at a;by_cases q:y=r;subst q;rw[f]at h0;exact absurd h0 s1;rw[i y a q]at h0;have z:=o.z y a h0;obtain⟨j,m,_⟩:=(k.old y).1 a;have t:=N.t j y m q;rw[N.q,t.2];refine⟨?_,z.2⟩;simp only[Lk,Lv];rintro(c|c);exact z.1 c;exact t.1 c.symm;rw[o.same g mv hr d];exact o
end
def AF(w:Z7):Prop:=∀x∈w.old++w.Q,(ZD (Z1 w.heap.W x).1).2=La->∀j,0<=j->j<Zl w.heap.W x->Bf (Bb w.heap.W x) j=O->(Z1 w.heap.W (x+1+j)).1=0\/(Z1 w.heap.W (x+1+j)).1∈w.old++w.Q
structure SW (h:Heap) (T:Nat->List Int) (w:Z7):Prop where
 o:OnW h T w
 a:AF w
def SW.begin{h T}(g:Gd h T)(l:Zx h.W):SW h T (Zq h):=by
 refine⟨OnW.begin g l,λx m ht j h0 h1 f=>?_⟩;have a:x∈(Zq h).old:=by simpa[Zq]using m
 obtain⟨i,d,e⟩:=((KI.begin g).old x).1 a;refine(g.q i x j d e h0 h1 f).imp id λ⟨k,b,c⟩=>?_;exact Lj _ (((KI.begin g).old _).2 ⟨k,b,c⟩)
section
variable {h:Heap} {T:Nat->List Int} {w:Z7} (s:SW h T w) (g:Gd h T) (d:MV h)
include s g d
theorem SW.fwd{r:Int}(a:r=0\/r∈w.Q\/r∈w.old):(w.fwd r).2.2=0/\SW h T (w.fwd r).1/\NI (w.fwd r).1 (w.fwd r).2.1:=by
 by_cases c1:r=0\/r∈w.Q;rw[Z7.fwd,if_pos c1];exact⟨rfl,s,c1⟩;have a:r∈w.old:=(a.resolve_left λq=>c1 (.inl q)).resolve_left λq=>c1 (.inr q);by_cases n:E6 w r=0;obtain⟨i0,hx,e,N⟩:=s.o.new g d a n;refine⟨e,⟨s.o.fwd g d a, ?_⟩,Or.inr (by rw[N.q];simp)⟩;obtain⟨tq,k⟩:=s.o.c.k;have z:=s.o.z r a n;have b:=(Sw s.o.c.ok s.o.c.inv r e).2.2;have he:(Z1 w.heap.W r).1=(Z1 h.W r).1:=by(rcases k.hd i0 r hx with q|q;exact q;rw[q.1]at z;cases z.2)
 have y:Zl w.heap.W r=Zl h.W r:=(E9 he).2.1;intro x u o j h0 h1 m;rw[N.o,N.q]at u⊢;have more:∀v,v∈w.old++w.Q->v∈w.old++(w.Q++[(w.fwd r).2.1]):=λv hv=>by(rw[<-List.append_assoc];exact Lj _ hv)
 by_cases p:x=(w.fwd r).2.1;have f:=N.x 0 oq (Bo _ _).1;simp only[Lm]at f;have l:Bb (w.fwd r).1.heap.W x=Bb w.heap.W r:=by rw[Bb,p,f];rfl
 have el:Zl (w.fwd r).1.heap.W x=Zl w.heap.W r:=congrArg Zy.length l;rw[l]at m;rw[el]at h1;have i:=N.x (1+j) oq oq;rw[<-Lp,<-Lp,<-p]at i;rw[i];exact(s.a r (Lj _ a) z.2 j h0 h1 m).imp id (more _);have c:x∈w.old++w.Q:=by(simp only[Lk,Lv]at u⊢;rcases u with q|q|q;exact .inl q;exact .inr q;exact absurd q p)
 by_cases t:x=r;exfalso;have:=N.c λq=>p (t.trans q.symm);rw[t,this]at o;cases o;have f:=b x c (.inr t) 0 oq (Bo _ _).1;rw[Lm]at f;have l:Bb (w.fwd r).1.heap.W x=Bb w.heap.W x:=by rw[Bb,Bb,f]
 have el:Zl (w.fwd r).1.heap.W x=Zl w.heap.W x:=congrArg Zy.length l;rw[l]at m;rw[el]at h1;rw[f]at o;have i:=b x c (.inr t) (1+j) oq oq;rw[<-Lp]at i;rw[i];exact(s.a x c o j h0 h1 m).imp id (more _);rw[s.o.same g d a n];exact⟨rfl,s,Or.inr (s.o.q r a n)⟩
omit g d in
theorem SW.dec(g:Gd h T){q:Int}(a:q∈w.Q):(ZD (Z1 w.heap.W q).1).2=La:=Z2Y (s.o.c.dec g a)
omit s g d in
theorem Zjf{w:Z7}{r}(e:(w.fwd r).2.2=0):r=0\/r∈w.Q\/r∈w.old:=by unfold Z7.fwd at e;split at e;rename_i c;exact c.imp id .inl;split at e;simp at e;rename_i c;exact .inr (.inr (Lx.1 c))
theorem SW.in1{q j:Int}(t:q∈w.Q)(h0:0<=j)(h1:j<Zl w.heap.W q)(e:(w.fwd (Z1 w.heap.W (q+1+j)).1).2.2=0):SW h T (w.in1 (q+1+j))/\∀x∈w.Q,x∈(w.in1 (q+1+j)).Q/\Bb (w.in1 (q+1+j)).heap.W x=Bb w.heap.W x:=by
 obtain⟨_,s1,to⟩:=s.fwd g d (Zjf e);have v:=s.o.c.ok;have iv:=s.o.c.inv;obtain⟨tq,k⟩:=s.o.c.k;obtain⟨z,x1⟩:=NZ v iv _ e;have m:=Tw v iv _ e;have n:=x1.q q t;have a0:=x1.l q t;have hr:=z.r q (Lf _ n);have l:4096<=q+1+j/\q+1+j<4096+(w.fwd (Z1 w.heap.W (q+1+j)).1).1.heap.W.length:=by omega
 have u:∀x∈(w.fwd (Z1 w.heap.W (q+1+j)).1).1.old++(w.fwd (Z1 w.heap.W (q+1+j)).1).1.Q,∀i,0<=i->i<=Zl (w.fwd (Z1 w.heap.W (q+1+j)).1).1.heap.W x->x+i=q+1+j->x=q:=by(intro x f i a b c;have l1:=z.s q (Lf _ n) x f;have l2:=z.s x f q (Lf _ n);omega)
 have p:∀x∈(w.fwd (Z1 w.heap.W (q+1+j)).1).1.old++(w.fwd (Z1 w.heap.W (q+1+j)).1).1.Q,Z1 (w.in1 (q+1+j)).heap.W x=Z1 (w.fwd (Z1 w.heap.W (q+1+j)).1).1.heap.W x:=by(intro x f;simp only[Z7.in1];rw[Gj l λc=>?_];have:=u x f 0 oq (Bo _ _).1 oq;omega)
 refine⟨⟨⟨s.o.c.in1 g t h0 h1 e,s.o.m.in1 g k d v iv t ⟨h0,h1⟩ e,λy o r=>?_,λy o hz=>?_,s1.o.n⟩, ?_⟩,λx f=>⟨m.mem f, ?_⟩⟩;have e3:E6 (w.in1 (q+1+j)) y=E6 (w.fwd (Z1 w.heap.W (q+1+j)).1).1 y:=by(unfold E6;rw[p y (Lj _ o)];rfl)
 rw[e3]at r⊢;exact s1.o.q y o r;have e3:E6 (w.in1 (q+1+j)) y=E6 (w.fwd (Z1 w.heap.W (q+1+j)).1).1 y:=by(unfold E6;rw[p y (Lj _ o)];rfl)
 rw[e3]at hz;rw[p y (Lj _ o)];exact s1.o.z y o hz;intro x f ht i a b hp;have f:x∈(w.fwd (Z1 w.heap.W (q+1+j)).1).1.old++(w.fwd (Z1 w.heap.W (q+1+j)).1).1.Q:=f;show _\/_∈(w.fwd (Z1 w.heap.W (q+1+j)).1).1.old++(w.fwd (Z1 w.heap.W (q+1+j)).1).1.Q;have e0:=p x f;have eh:Bb (w.in1 (q+1+j)).heap.W x=Bb (w.fwd (Z1 w.heap.W (q+1+j)).1).1.heap.W x:=by rw[Bb,Bb,e0]
 have el:Zl (w.in1 (q+1+j)).heap.W x=Zl (w.fwd (Z1 w.heap.W (q+1+j)).1).1.heap.W x:=congrArg Zy.length eh;rw[eh]at hp;rw[el]at b;rw[e0]at ht;by_cases c:x+1+i=q+1+j;have:(Z1 (w.in1 (q+1+j)).heap.W (x+1+i)).1=(w.fwd (Z1 w.heap.W (q+1+j)).1).2.1:=by(rw[c];simp only[Z7.in1];rw[Si l])
 rw[this];exact to.imp id (Lf _);have:Z1 (w.in1 (q+1+j)).heap.W (x+1+i)=Z1 (w.fwd (Z1 w.heap.W (q+1+j)).1).1.heap.W (x+1+i):=by(simp only[Z7.in1];rw[Gj l c])
 rw[this];exact s1.a x f ht i a b hp;rw[Bb,p x (Lf _ (m.mem f))];exact m.h x f
omit s g d in
theorem Z2w(h:Zy):∀n:Nat,∀x∈C1 h n,Bf h x=O
 |0,x,hx=>by cases hx
 |n+1,x,hx=>by
  unfold C1 at hx;split at hx
  .rename_i c;rcases Lk.1 hx with q|q
   .exact Z2w h n x q
   .rw[Lv.1 q];exact c
  .exact Z2w h n x hx
omit s g d in
theorem Z9e(h:Zy):∀x∈ZC h,Bf h x=O:=by unfold ZC;split;exact Z2w h _;intro x a;cases a
theorem SW.inn{q:Int}(o:q∈w.Q){l:List Int}(hl:∀x∈l,(0<=x/\x<Zl w.heap.W q)/\Bf (Bb w.heap.W q) x=O):∀k,k<=l.length->(∀j,j<k->CI w q l j=0)/\SW h T (Bt w q l k)/\q∈(Bt w q l k).Q/\Bb (Bt w q l k).heap.W q=Bb w.heap.W q
 |0,_=>⟨λj m=>absurd m (Ll j),s,o,rfl⟩
 |k+1,hk=>by
  obtain⟨r,f,b,i⟩:=SW.inn o hl k oq;have a:=hl _ (Bm.2 ⟨k,by omega,rfl⟩);have el:Zl (Bt w q l k).heap.W q=Zl w.heap.W q:=congrArg Zy.length i;have p:=f.a q (Lf _ b) (f.dec g b) (l.getD k M) a.1.1 (by rw[el];exact a.1.2) (by rw[i];exact a.2);have e:CI w q l k=0:=(f.fwd g d (p.imp id λc=>(Lk.1 c).symm)).1;have n:=f.in1 g d b a.1.1 (by rw[el];exact a.1.2) e;refine⟨λj m=>?_,n.1,(n.2 q b).1,(n.2 q b).2.trans i⟩;by_cases c:j=k
  .rw[c];exact e
  .exact r j oq
theorem SW.step:(ZZ w).2.2=0/\SW h T (ZZ w).1:=by
 by_cases e:w.D<w.Q.length;have o:=s.o.c.ok.sc;have n:C8 w∈w.Q:=Bm.2 ⟨w.D.toNat,by omega,rfl⟩;obtain⟨p,a,_,_⟩:=s.inn g d n (l:=Bh w) (λx f=>⟨SA (Zv w (C8 w)) x f,Z9e (Zv w (C8 w)) x f⟩) (Bh w).length (Le _);have i:(Ld (Bh w).length).find? (λk=>LC (CI w (C8 w) (Bh w) k≠0))=Li:=Lr.2 λj m=>by simp[p j (Lg.1 m)]
 have b:ZZ w=(Hn (Bt w (C8 w) (Bh w) (Bh w).length) (Bh w).length,O,0):=by unfold ZZ;rw[if_pos e,i]
 have c:=s.o.c.step g (by rw[b]);rw[b]at c⊢;exact⟨rfl,⟨c,⟨a.o.m.m0,a.o.m.m1,a.o.m.m2,a.o.m.m3,a.o.m.m4,a.o.m.m5⟩,a.o.q,a.o.z,a.o.n⟩,a.a⟩;have b:ZZ w=(w,La,0):=by rw[ZZ,if_neg e]
 rw[b];exact⟨rfl,s⟩
theorem SW.it:∀k,SW h T (Cg w k)|0=>s|k+1=>(SW.step (SW.it k) g d).2
theorem SW.all:(Bs w).2=0/\SW h T (Bs w).1:=by
 obtain⟨k,b⟩:=RQ s.o.c.ok;have e:=(s.it g d k).step g d;have a:Bs w=((ZZ (Cg w k)).1,0):=by rw[Bs,b];simp only[if_pos e.1]
 rw[a];exact⟨rfl,e.2⟩
end
section
variable {h:Heap} {T:Nat->List Int} (g:Gd h T) (a:MV h) {s:List Int} (hs:∀r∈s,r=0\/Ob h T r)
include g a hs
theorem SW.rootsN(o:Zx h.W):∀k,k<=s.length->(∀j,j<k->CW (Zq h) s j=0)/\SW h T (Go.Proofs.YtgedmeaemofdkaaGreat.rootsN (Zq h) s k).1/\∀i,i<k->NI (Go.Proofs.YtgedmeaemofdkaaGreat.rootsN (Zq h) s k).1 ((Go.Proofs.YtgedmeaemofdkaaGreat.rootsN (Zq h) s k).2.getD i M)/\((Go.Proofs.YtgedmeaemofdkaaGreat.rootsN (Zq h) s k).2.getD i M=0↔s.getD i M=0)
 |0,_=>⟨λj n=>absurd n (Ll j),SW.begin g o,λi m=>absurd m (Ll i)⟩
 |k+1,hk=>by
  obtain⟨u,d,v⟩:=SW.rootsN o k oq;have f:=hs _ (Bm.2 ⟨k,by omega,rfl⟩);obtain⟨tq,p⟩:=d.o.c.k;have b:s.getD k M=0\/s.getD k M∈(Go.Proofs.YtgedmeaemofdkaaGreat.rootsN (Zq h) s k).1.Q\/s.getD k M∈(Go.Proofs.YtgedmeaemofdkaaGreat.rootsN (Zq h) s k).1.old:=f.imp id λq=>.inr ((p.old _).2 q);obtain⟨e,r,l⟩:=d.fwd g a b;have w:=Tw d.o.c.ok d.o.c.inv _ e;have t:=NU (Zq h) s k;refine⟨λj n=>?_,r,λi m=>?_⟩
  .by_cases q:j=k
   .rw[q];exact e
   .exact u j oq
  .simp only[Go.Proofs.YtgedmeaemofdkaaGreat.rootsN,Lh];by_cases q:i=k
   .subst q;rw[List.getElem?_append_right oq,t];simp only[Nat.sub_self,List.getElem?_cons_zero,LB];simp only[Lh]at f b l;refine⟨l,λc=>?_,λc=>?_⟩
    .rcases f with q|q
     .exact q
     .have:=(d.o.seen g a ((p.old _).2 q)).1;exact absurd c this
    .rw[c,Z7.fwd,if_pos (.inl rfl)]
   .rw[List.getElem?_append_left oq];have:=v i oq;simp only[Lh]at this;exact⟨w.to this.1,this.2⟩
theorem SW.roots(c:Zx h.W):rootsF (Zq h) s=((Go.Proofs.YtgedmeaemofdkaaGreat.rootsN (Zq h) s s.length).1,(Go.Proofs.YtgedmeaemofdkaaGreat.rootsN (Zq h) s s.length).2,0)/\SW h T (rootsF (Zq h) s).1:=by
 obtain⟨d,f,i3⟩:=SW.rootsN g a hs c s.length (Le _);have e:rootsF (Zq h) s=((Go.Proofs.YtgedmeaemofdkaaGreat.rootsN (Zq h) s s.length).1,(Go.Proofs.YtgedmeaemofdkaaGreat.rootsN (Zq h) s s.length).2,0):=by(unfold rootsF;rw[Lr.2 λj b=>by simp[d j (Lg.1 b)]])
 rw[e];exact⟨rfl,f⟩
end
def Tp{ρ w Im v}(s:Nat)(h:Zh ρ w Im (.d (.sl 0 [])) v):Zh ρ w Im (.d (.sl s [])) v:=by
 cases h with
 |d h =>
  cases h with|slNil=>exact .d (.slNil _ _ _)|sl _ _ p n c f a=>cases a;exact .d (.slNil _ _ _)
def Z0U:Heap:=⟨⟨32,8⟩,Lc 256 0,Lc 8 ⟨0,0,0,0⟩,0,-1⟩
def Nz:Heap:=⟨⟨32,8⟩,(Lc 256 0).set 0 29,[⟨1,0,2,0⟩,⟨0,0,0,0⟩,⟨0,0,0,0⟩,⟨0,0,0,0⟩,⟨0,0,0,0⟩,⟨0,0,0,0⟩,⟨0,0,0,0⟩,⟨0,0,0,0⟩],0,0⟩
def Z5U:ZA []=⟨Z0U,[],[]⟩:=by kernel_rfl
def ZjC:(⟨Z0U,[],[]⟩:Zi).put ⟨3,1,0⟩=⟨Nz,[4096],[]⟩:=by kernel_rfl
def Zh7:Z8 Nz=O:=by decide+kernel
def ZiS:Bg Nz=⟨0,0,0⟩:=by decide+kernel
def Zj4:Zx Nz.W:=by unfold Zx;decide+kernel
def wB0:Z7:=(⟨⟨⟨32,8⟩,(Lc 256 0).set 0 29,[⟨1,0,2,0⟩,⟨0,0,0,0⟩,⟨0,0,0,0⟩,⟨0,0,0,0⟩,⟨0,0,0,0⟩,⟨0,0,0,0⟩,⟨0,0,0,0⟩,⟨0,0,0,0⟩],0,0⟩,[4096],[],[],0,⟨0,0,0,0,0,0⟩⟩:Z7)
def Zdd:Zq Nz=wB0:=by kernel_rfl
def Zap:GP 15 [.d (.sl 0 [])] La (⟨(⟨⟨32,8⟩,Lc 256 0,Lc 8 ⟨0,0,0,0⟩,0,-1⟩:Heap),[],[]⟩:Zi).av []:=by have k:=Z7Y [] pq;rw[Z5U]at k;intro w d f a b h;refine k w d f a b λi x v c e=>?_;rcases i with _|i;cases c;exact Tp 1 (h 0 _ v rfl e);simp at c
def Zep:GP 58 [.ag [int 32,int 8,.d (.sl 1 ((Lc 256 0).map wdv)),.d (.sl 4 ((Lc 8 (⟨0,0,0,0⟩:Z0)).map Z0.dv)),int 0,int (-1),.d (.sl 0 []),.d (.sl 0 [])],.ag [int 3,int 1,.d (.sc (.int .u32 0))]] La (⟨(⟨⟨32,8⟩,(Lc 256 0).set 0 29,[⟨1,0,2,0⟩,⟨0,0,0,0⟩,⟨0,0,0,0⟩,⟨0,0,0,0⟩,⟨0,0,0,0⟩,⟨0,0,0,0⟩,⟨0,0,0,0⟩,⟨0,0,0,0⟩],0,0⟩:Heap),[4096],[]⟩:Zi).av []:=by have g:=M4 [];rw[Z5U]at g;have k:=MM ⟨Z0U,[],[]⟩ ⟨3,1,0⟩ (g.wm dd) dd;rw[ZjC]at k;intro w l o d e h;refine k w l o d e λi x v f j=>?_;rcases i with _|_|i;cases f;obtain⟨cs,rfl,m,n,b⟩:=Hx (h 0 _ v rfl j);refine .ag _ _ m n (λi a u ha c=>?_);rcases i with _|_|_|_|_|_|_|_|i;cases ha;exact b 0 _ u rfl c;cases ha;exact b 1 _ u rfl c;cases ha;exact b 2 _ u rfl c;cases ha;exact b 3 _ u rfl c;cases ha;exact b 4 _ u rfl c;cases ha;exact b 5 _ u rfl c;cases ha;exact Tp 1 (b 6 _ u rfl c);cases ha;exact Tp 1 (b 7 _ u rfl c);cases (show(Li:Option AV)=some a from ha);cases f;exact h 1 _ v rfl j;simp at f
def Z5A{B:Int}(hB:0<=B){h:Heap}{T:Nat->List Int}(g:Gd h T)(mv:MV h){s k:List Int}(hw:Zx h.W)(hb:∀p∈h.P,p.N<=B)(gs:H2 h T s)(gk:H2 h T k)(sl:s.length<=1000)(kl:k.length<=1000)(su:EA s)(ku:EA k) :(collectF h s k).2.2.2.2=0/\(collectF h s k).2.1.length=s.length/\(collectF h s k).2.2.1.length=k.length/\GP 35 [h.av,Z3 s,Z3 k] La (.tu [(collectF h s k).1.av,Z3 (collectF h s k).2.1,Z3 (collectF h s k).2.2.1,.ag (collectF h s k).2.2.2.1.cells,int (collectF h s k).2.2.2.2]) []:=by
 obtain⟨er,sw⟩:=SW.roots g mv gs hw;have e1:(rootsF (Zq h) s).2.2=0:=by rw[er]
 have e2:=(sw.all g mv).1;have c0:=G2.begin g hw;have cd:=Zdz hB g hw hb e1 e2 gs gk sl kl ku (c0.rts g su) c0.ck.ln λk _=>⟨(sw.it g mv k).o.c.stp g,((sw.it g mv k).step g mv).1⟩
 have e7:collectF h s k=(Eh (Bv h s k),(rootsF (Zq h) s).2.1,En (ZI h s) k k.length,(Bv h s k).rep,0):=by rw[collectF,if_pos g.p,if_pos ⟨g.refers gs,g.refers gk⟩,if_pos e1,if_pos e2]
 refine⟨by rw[e7], ?_,by rw[e7];exact TT _ _ _,cd⟩;rw[e7,er];exact NU _ _ _
def Z7p:Bs wB0=(wB0,0):=by have a:(Ld (RE wB0)).find? (Ec wB0)=some 0:=LM.2 ⟨by kernel_rfl,Lg.2 (by unfold RE;omega),λj b=>absurd b (Ll j)⟩;unfold Bs;rw[a];show _=_;kernel_rfl
def Ze9:Heap:=⟨⟨32,8⟩,Lc 256 0,Lc 8 ⟨0,0,0,0⟩,1,-1⟩
def Zd0:collectF Nz [] []=(Ze9,[],[],⟨0,0,0,1,0,0⟩,0):=by
 have e1:rootsF (Zq Nz) []=(wB0,[],0):=by rw[Zdd];kernel_rfl
 have c2:ZI Nz []=wB0:=by rw[ZI,e1,Z7p]
 have a:Bv Nz [] []=⟨⟨⟨32,8⟩,Lc 256 0,Lc 8 ⟨0,0,0,0⟩,0,0⟩,[4096],[],[],0,⟨0,0,0,1,0,0⟩⟩:=by(unfold Bv Cw Cs;rw[c2];kernel_rfl)
 rw[collectF,if_pos Zh7,if_pos ⟨by decide+kernel,by decide+kernel⟩,if_pos (by rw[e1]),if_pos (by rw[e1,Z7p]),a,c2,e1];show _=_;kernel_rfl
def ZfV:MV Nz:=⟨by decide+kernel,1,by decide+kernel⟩
def ZaG:GP 35 [(⟨⟨32,8⟩,(Lc 256 0).set 0 29,[⟨1,0,2,0⟩,⟨0,0,0,0⟩,⟨0,0,0,0⟩,⟨0,0,0,0⟩,⟨0,0,0,0⟩,⟨0,0,0,0⟩,⟨0,0,0,0⟩,⟨0,0,0,0⟩],0,0⟩:Heap).av,.d (.sl 0 []),.d (.sl 0 [])] La (.tu [(⟨⟨32,8⟩,Lc 256 0,Lc 8 ⟨0,0,0,0⟩,1,-1⟩:Heap).av,Z3 [],Z3 [],.ag (⟨0,0,0,1,0,0⟩:Rep).cells,int 0]) []:=by have k:=(Z5A (B:=0) (LD 0) (Zgu ZiS) ZfV Zj4 (by decide+kernel) (s:=[]) (k:=[]) (λ_ q=>by cases q) (λ_ q=>by cases q) (LA _) (LA _) (λ_ q=>by cases q) (λ_ q=>by cases q)).2.2.2;rw[Zd0]at k;intro w e f b c h;refine k w e f b c λi x v a d=>?_;rcases i with _|_|_|i;cases a;exact h 0 _ v rfl d;cases a;exact Tp 1 (h 1 _ v rfl d);cases a;exact Tp 1 (h 2 _ v rfl d);simp at a
def Zb1:GP 38 [] O (bool O) []:=by exact gF [] func38 [] (Fc 7 (@Zap) (Fc 11 (@Zep) (Fc 15 (@ZaG) Fz)))
def GQ(w:Zi):Rep:=(collectF w.heap w.G w.E).2.2.2.1
def Zha{w n}(G:WG w)(a:BY w n)(k:MV w.heap)(sl:w.G.length<=1000)(l:w.E.length<=1000):(collectF w.heap w.G w.E).2.2.2.2=0/\w.collect=⟨(collectF w.heap w.G w.E).1,(collectF w.heap w.G w.E).2.1,(collectF w.heap w.G w.E).2.2.1⟩/\w.collect.G.length=w.G.length/\w.collect.E.length=w.E.length /\
  GP 35 [w.heap.av,Z3 w.G,Z3 w.E] La (.tu [w.collect.heap.av,Z3 w.collect.G,Z3 w.collect.E,.ag (GQ w).cells,int 0]) []:=by
 obtain⟨T,g,d,f⟩:=G;obtain⟨e,i,j,c⟩:=Z5A (B:=n) oq g k a.W (λp h=>(a.pin_mem p h).2) d f sl l a.G a.E;have b:w.collect=⟨(collectF w.heap w.G w.E).1,(collectF w.heap w.G w.E).2.1,(collectF w.heap w.G w.E).2.2.1⟩:=by rw[Zi.collect,if_pos e]
 rw[e]at c;rw[b];exact⟨e,rfl,i,j,c⟩
def Z3t a:(collectF (ZA a).heap (ZA a).G (ZA a).E).2.2.2.2=0/\(ZA a).collect=⟨(collectF (ZA a).heap (ZA a).G (ZA a).E).1,(collectF (ZA a).heap (ZA a).G (ZA a).E).2.1,(collectF (ZA a).heap (ZA a).G (ZA a).E).2.2.1⟩/\(ZA a).collect.G.length=(ZA a).G.length/\(ZA a).collect.E.length=(ZA a).E.length /\
  GP 35 [(ZA a).heap.av,Z3 (ZA a).G,Z3 (ZA a).E] La (.tu [(ZA a).collect.heap.av,Z3 (ZA a).collect.G,Z3 (ZA a).collect.E,.ag (GQ (ZA a)).cells,int 0]) []:=Zha (Z8W a) (M4 a) (P7 a) (M4 a).sl (M4 a).wl
def ZgW a:GP 35 [(ZA a).heap.av,Z3 (ZA a).G,Z3 (ZA a).E] La (.tu [(ZA a).collect.heap.av,Z3 (ZA a).collect.G,Z3 (ZA a).collect.E,.ag (GQ (ZA a)).cells,int 0]) []:=(Z3t a).2.2.2.2
def ZjF(a:List Int)(h1:a.length<=140737488355328):GP 39 [ZE a] La (.tu [(ZA a).av,(ZA a).collect.av,.ag (GQ (ZA a)).cells,bool O]) []:=by have b:=M4 a;have sl:=b.sl;have wl:=b.wl;obtain⟨_,_,l1,l2,_⟩:=Z3t a;let c:=(0:Int)==0&&(↑(ZA a).collect.G.length:Int)==(↑(ZA a).G.length:Int);exact gF [] func39 (fO 12) (Fc 13 (@Z7Y a aa) (Fc 21 (@ZgW a) (FlG 37 ((0:Int)==0) wdv (ZA a).collect.G (FlG 40 ((0:Int)==0) wdv (ZA a).G (FlG 45 c wdv (ZA a).collect.E (FlG 48 c wdv (ZA a).E (Fr ((ZA a).heap.C.pw) (Fr ((ZA a).heap.C.pg) (Fr (Lb wdv (ZA a).heap.W) (Fr (Lb Z0.dv (ZA a).heap.P) (Fr ((ZA a).heap.S) (Fr ((ZA a).heap.B) (Fr (Lb wdv (ZA a).G) (Fr (Lb wdv (ZA a).E) (Fr ((ZA a).collect.heap.C.pw) (Fr ((ZA a).collect.heap.C.pg) (Fr (Lb wdv (ZA a).collect.heap.W) (Fr (Lb Z0.dv (ZA a).collect.heap.P) (Fr ((ZA a).collect.heap.S) (Fr ((ZA a).collect.heap.B) (Fr (Lb wdv (ZA a).collect.G) (Fr (Lb wdv (ZA a).collect.E) (Fr ((GQ (ZA a)).copied) (Fr ((GQ (ZA a)).kept) (Fr ((GQ (ZA a)).filled) (Fr ((GQ (ZA a)).freed) (Fr ((GQ (ZA a)).cleared) (Fr ((GQ (ZA a)).steps) (Fb (((↑(ZA a).collect.G.length:Int)==(↑(ZA a).G.length:Int)&&(↑(ZA a).collect.E.length:Int)==(↑(ZA a).E.length:Int))=O) Fz)))))))))))))))))))))))))))))
def Gv(b:Zy)(a:List Int):Nat->List Int|0=>[]|i+1=>if Bf b (i:Int)=O then Gv b a i++[a.getD i M]else Gv b a i
def Z2L b a:∀i,(Gv b a i).length<=i
 |0=>Le _
 |i+1=>by
  have:=Z2L b a i;unfold Gv;split
  .rw[Lo,Ls];omega
  .omega
def Gy(h:Heap)(a:Int):List Int:=Gv (Zo h a).1 (BR h a).1 (BR h a).1.length
def GB(out:List Int)(r:Int):List Int:=if r=0\/r∈out then out else out++[r]
def addN(out refs:List Int):Nat->List Int|0=>out|i+1=>GB (addN out refs i) (refs.getD i M)
def Z2u out refs{i}:∀k,(addN out refs i).length<=(addN out refs (i+k)).length
 |0=>Le _
 |k+1=>by
  refine LR (Z2u out refs k) ?_;show _<=(GB _ _).length;unfold GB;split
  .exact Le _
  .rw[Lo];exact Nat.le_add_right _ _
def a8L(a out refs:List Int)(i:Nat):Tg:=⟨tm 42 [(0,Z3 a),(1,.ow 8000),(2,Z3 refs),(6,.d (.sl 0 [])),(7,bool La),(8,int i)],[(8000,.arr 35 1 ((addN out refs i).map wdv))],4⟩
section
variable (a out refs:List Int) (hl:refs.length<=1048576) (ha:a.length<=1048576) (b:(addN out refs refs.length).length<=1048576) (d:EA refs)
include hl ha b d
theorem ZbH(i:Nat)(g:i<refs.length)(f:Gn refs a i=La):CP (Zm f66 0) (a8L a out refs i).st .nrm (a8L a out refs (i+1)).st:=by
 have ln:=LR (Z2u out refs (i:=i) (refs.length-i)) (by rw[show i+(refs.length-i)=refs.length by omega];exact b);have r:=d _ (Bm.2 ⟨i,g,rfl⟩);unfold Gn at f;have f:=of_decide_eq_false f;by_cases h0:refs.getD i M=0;have e:addN out refs (i+1)=addN out refs i:=by rw[addN,GB,if_pos (.inl h0)]
 unfold a8L;rw[e];exact sF [] [] (FN 11 12 17 wdv refs i (Ftb 19 (refs.getD i M==0) (Fx 14 i Fz)));have f:refs.getD i M∈a:=Lx.1 λc=>f ⟨h0,c⟩;by_cases h1:refs.getD i M∈addN out refs i;have e:addN out refs (i+1)=addN out refs i:=by rw[addN,GB,if_pos (.inr h1)]
 unfold a8L;rw[e];exact sF [] [] (FN 11 12 17 wdv refs i (Ffb 19 (refs.getD i M==0) (Fek 23 wdv refs (↑i) i (Fc 25 (@CL a (refs.getD i M) aa) (Ffb 26 (!decide (refs.getD i M∈a)) (Fek 30 wdv refs (↑i) i (Fc 32 (@CL (addN out refs i) (refs.getD i M) aa) (Ffb 33 (!decide (refs.getD i M∈addN out refs i)) (Fx 14 i Fz)))))))));have e:addN out refs (i+1)=addN out refs i++[refs.getD i M]:=by rw[addN,GB,if_neg (λc=>c.elim h0 h1)]
 unfold a8L;rw[e];exact sF [(64040,8000)] [] (Fh 40 [.els (Lb wdv (addN out refs i++[refs.getD i M]))] (FN 11 12 17 wdv refs i (Ffb 19 (refs.getD i M==0) (Fek 23 wdv refs (↑i) i (Fc 25 (@CL a (refs.getD i M) aa) (Ffb 26 (!decide (refs.getD i M∈a)) (Fek 30 wdv refs (↑i) i (Fc 32 (@CL (addN out refs i) (refs.getD i M) aa) (Ftb 33 (!decide (refs.getD i M∈addN out refs i)) (Fek 37 wdv refs (↑i) i (Fs 39 (Lb wdv [refs.getD i M]) (Fa (by(simp[*];omega):(Lb wdv (addN out refs i)).length+(Lb wdv [refs.getD i M]).length<=2^30) (Fa (ms:Lb wdv (addN out refs i)++Lb wdv [refs.getD i M]=Lb wdv (addN out refs i++[refs.getD i M])) (Fx 14 i Fz))))))))))))))
omit hl ha b d in
theorem Zbu:CP (Zm f66 0) (a8L a out refs refs.length).st (.ext 0) (Tg.st ⟨tm 42 [(1,.ow 8000),(6,.d (.sl 0 [])),(7,bool La)],[(8000,.arr 35 1 ((addN out refs refs.length).map wdv))],4⟩):=by exact sF [] [] (FO 11 12 wdv refs Fz)
def ZjK(e:(Ld refs.length).find? (Gn refs a)=Li)  := Br (S:=λk=>(a8L a out refs k).st) refs.length (by kernel_rfl) (λk c=>ZbH a out refs hl ha b d k c (by
  have:=Lr.1 e k (Lg.2 c);simpa using this)) (Zbu a out refs)
theorem Z3A(hb:(Ld refs.length).find? (Gn refs a)=Li):BP 66 [Z3 a,.ow 0,Z3 refs] [.arr 35 1 (out.map wdv)] (.tu [.ow 1,bool O]) [.dead,.arr 35 1 ((addN out refs refs.length).map wdv)]:=by have c:=Z2u out refs (i:=0) refs.length;rw[Nat.zero_add]at c;exact borF [8000] [8000] func66 [] (Fu (@ZjK a out refs aa aa aa aa aa) Fz)
end
def rfL(a:Zy)(b:List Int)(i:Nat):Tg:=⟨tm 40 [(4,.d (.sl 0 [])),(5,.pt 16005 0 0),(7,Z3 b),(9,.ow 32009),(10,int i)],[(32009,.arr 35 1 ((Gv a b i).map wdv)),(16005,.box 52 [int a.K,int a.length,u32 a.map])],6⟩
section
variable (b:Zy) (a:List Int) (e:0<=b.map/\b.map<=4294967295) (d:a.length<=1048576)
include e d
theorem Zfi(i:Nat)(hi:i<a.length):CP (Zm f18 0) (rfL b a i).st .nrm (rfL b a (i+1)).st:=by
 have ln:=Z2L b a i;by_cases c:Bf b (i:Int)=O;have f:Gv b a (i+1)=Gv b a i++[a.getD i M]:=by rw[Gv,if_pos c]
 unfold rfL;rw[f];exact sF [(64038,32009)] [] (Fh 31 [.call O (Sx.bool (Bf b (i:Int))) [],.br O] (Fh 38 [.els (Lb wdv (Gv b a i++[a.getD i M]))] (FM 25 26 wdv a i (Fa (@Nq b ((i:Int)) aa) (Fa ‹Bf b (i:Int)=O› (Fek 35 wdv a (↑i) i (Fs 37 (Lb wdv [a.getD i M]) (Fa (by(simp[*];omega):(Lb wdv (Gv b a i)).length+(Lb wdv [a.getD i M]).length<=2^30) (Fa (ms:Lb wdv (Gv b a i)++Lb wdv [a.getD i M]=Lb wdv (Gv b a i++[a.getD i M])) (Fx 28 i Fz))))))))));have f:Gv b a (i+1)=Gv b a i:=by rw[Gv,if_neg c]
 unfold rfL;rw[f];exact sF [] [] (Fh 31 [.call O (Sx.bool (Bf b (i:Int))) [],.br La] (FM 25 26 wdv a i (Fa (@Nq b ((i:Int)) aa) (Fbs (Bf b (i:Int)=La) (Fx 28 i Fz)))))
theorem ZgU:CP (Zm f18 0) (rfL b a a.length).st (.ext 0) (Tg.st ⟨tm 40 [(4,.d (.sl 0 [])),(9,.ow 32009)],[(32009,.arr 35 1 ((Gv b a a.length).map wdv))],6⟩):=by exact sF [] [] (FO 25 26 wdv a Fz)
def ZcH  := Br (S:=λk=>(rfL b a k).st) a.length (by kernel_rfl) (λk c=>Zfi b a e d k c) (ZgU b a e d)
end
def ZaT(h:Heap)(a:Int)(b:Zx h.W)(h0:0<=a/\a<=18446744073709551615):GP 18 [h.av,u64 a] La (Z3 (Gy h a)) []:=by have hm:=OD b a;have hf:=Oe h a;exact gF [] func18 [] (Fh 9 [.own] (Fc 14 (@Iz h a aa aa) (Fc 20 (@Z31 h a aa aa) (Fu (@ZcH ((Zo h a).1) ((BR h a).1) aa oq) Fz))))
theorem Z6x c:∀n:Nat,(C1 c n).Nodup
 |0=>LQ
 |n+1=>by
  have d:=Z6x c n;unfold C1;split
  .rw[List.nodup_append];refine⟨d,by simp,λa ha b hb=>?_⟩;have:=(Z0q c n a ha).2;grind
  .exact d
def ZdV a:(ZC a).Nodup:=by grind[ZC,Z6x]
def Z5p b(a:List Int)(f:Int->Int):∀n:Nat,(∀k:Nat,k<n->a.getD k M=f k)->Gv b a n=(C1 b n).map f
 |0,_=>rfl
 |n+1,h=>by
  unfold Gv C1;rw[Z5p b a f n (λk hk=>h k oq),h n oq];grind
def Gd.refs{h T}(g:Gd h T){i}{x:Int}(b:x∈T i)(a:Cv h.W x≠0):Gy h x=(ZC (Bb h.W x)).map λj=>(Z1 h.W (x+1+j)).1:=by obtain⟨e,l,f⟩:=g.fields b a;unfold Gy;rw[e,Z5p _ _ (λj=>(Z1 h.W (x+1+j)).1) _ (λk a=>f k oq),show(BR h x).1.length=(Zl h.W x).toNat by omega];unfold ZC;rw[if_pos (show ZR (Bb h.W x)=O from SN _)];rfl
theorem ZjE{w}(g:B7 w)(h:Bu w){n:Int}(d:1<=n)(f:n<=w.heap.C.pw)(a:(w.place n).2.2=O):(w.place n).2.1∉w.Q:=by obtain⟨i,p,t,h1,h2,h3,h4,h5,h6,h7,h8,e⟩:=Mb g ⟨d,f⟩ a;have b:=h.f i h1 (by grind);intro c;have q:=b _ (Lf _ c);have:=Bo w.heap.W (w.place n).2.1;omega
def Z4k{l:List Int}{a:Int}(h:l.Nodup)(ha:a∉l):(l++[a]).Nodup:=by grind
def Zf0{w}(n:B7 w)(h:Bu w){r}(e:(w.fwd r).2.2=0)(nd:w.Q.Nodup):(w.fwd r).1.Q.Nodup:=by
 unfold Z7.fwd at e⊢;split at e;grind;rename_i c1;rw[if_neg c1];have a:r∉w.Q:=λq=>c1 (.inr q);split at e;simp at e;rename_i c2;rw[if_neg c2];have d:r∈w.old:=Lx.1 c2;split at e;grind;rename_i c3;rw[if_neg c3];split at e;simp at e;rename_i c4;rw[if_neg c4];split at e;rename_i f;rw[if_pos f];exact Z4k nd a;rename_i f;rw[if_neg f];split at e;rename_i b;rw[if_pos b];exact Z4k nd a;rename_i b;rw[if_neg b];split at e;simp at e;rename_i j;rw[if_neg j];have g:(w.place (Z5 (Zv w r))).2.2=O:=by grind
 have c:=h.z r d;have l:=Bo w.heap.W r;have hd:=GD w r;have m:Z5 (Zv w r)<=w.heap.C.pw:=by(rcases c with c|c;exact absurd c b;omega)
 obtain⟨i,p,t,p1,p2,p3,p4,p5,p6,p7,k⟩:=TJ n ⟨by omega,m⟩ g;have hq:(w.place (Z5 (Zv w r))).1.Q=w.Q:=by rw[k]
 show((w.place (Z5 (Zv w r))).1.Q++[_]).Nodup;grind[ZjE]
structure RO (h:Heap) (T:Nat->List Int) (w:Z7) (out:List Int) (n:Nat):Prop where
 b:SW h T w
 nd:w.Q.Nodup
 l:w.Q.length=out.length
 i:∀i,i<out.length->out.getD i M∈w.old/\E6 w (out.getD i M)=w.Q.getD i M
 s:∀y∈w.old,E6 w y≠0->y∈out
 un:∀y∈w.old,E6 w y=0->∀m,0<=m->m<=Zl h.W y->(Z1 w.heap.W (y+m)).1=(Z1 h.W (y+m)).1
 uq:∀i,n<=i->i<out.length->∀m,0<=m->m<=Zl h.W (out.getD i M)->(Z1 w.heap.W (w.Q.getD i M+m)).1=(Z1 h.W (out.getD i M+m)).1
def RO.begin{h T}(g:Gd h T)(c:Zx h.W):RO h T (Zq h) [] 0:=
 ⟨SW.begin g c,LQ,rfl,λi a=>absurd a (Ll i),λy b q=>absurd (Z1k g b).1 q,λy b _ m _ _=>rfl,λi _ a=>absurd a (Ll i)⟩
def Ts{l:List Int}{a:Int}{k:Nat}:(l++[a]).getD k M=if k<l.length then l.getD k M else if k=l.length then a else M:=by grind
section
variable {h:Heap} {T:Nat->List Int} {w:Z7} {out:List Int} {n:Nat} (o:RO h T w out n) (g:Gd h T) (d:MV h)
include o g d
theorem RO.fwd{r:Int}(b:r=0\/r∈w.old):(w.fwd r).2.2=0/\RO h T (w.fwd r).1 (GB out r) n/\(w.fwd r).2.1=(if r=0 then 0 else E6 (w.fwd r).1 r):=by
 rcases b with rfl|b;grind[Z7.fwd,GB];obtain⟨tq,k⟩:=o.b.o.c.k;obtain⟨i0,s,a1⟩:=(k.old r).1 b;have r0:r≠0:=by have:=g.inw s;omega
 rw[if_neg r0];by_cases l:E6 w r=0;obtain⟨i0,hx,e,N⟩:=o.b.o.new g d b l;obtain⟨s1,v,x,z,s5⟩:=o.b.o.seen g d b;have a0:=(Sw o.b.o.c.ok o.b.o.c.inv r e).2.2;have no:r∉out:=λc=>by(obtain⟨j,i,ej⟩:=Bm.1 c;have q:=(o.i j i).2;rw[ej,l]at q;have:=o.b.o.c.inv.r 0 (Lf _ (Bm.2 ⟨j,by rw[o.l];exact i,q.symm⟩));omega)
 have ea:GB out r=out++[r]:=by grind[GB]
 rw[ea];have t:=o.l;refine⟨e,⟨(o.b.fwd g d (.inr (.inr b))).2.1,Zf0 o.b.o.c.ok o.b.o.c.inv e o.nd,by grind,λj i=>?_,λy f a=>?_,λy f a m m0 m1=>?_,λj i p m m0 m1=>?_⟩,v.symm⟩;rw[N.o,N.q,Ts,Ts,t];rw[Lo,Ls]at i;by_cases q:j<out.length;rw[if_pos q,if_pos q];have:=o.i j q;grind;grind;rw[z]at f;by_cases q:y=r;rw[q];simp;rw[x y f q]at a;exact Lj _ (o.s y f a);rw[z]at f;have q:y≠r:=λq=>s1 (v.symm.trans (q▸a));rw[x y f q]at a;have u:=o.un y f a;have ey:=(E9 (by have:=u 0 oq (Bo _ _).1;omega)).2.1;grind;rw[Lo,Ls]at p;rw[Ts]at m1⊢;rw[N.q,Ts,t];by_cases q:j<out.length;rw[if_pos q]at m1⊢;rw[if_pos q];have u:=o.uq j i q;have hq:w.Q.getD j M∈w.Q:=Bm.2 ⟨j,by omega,rfl⟩;have ey:Zl w.heap.W (w.Q.getD j M)=Zl h.W (out.getD j M):=by(have:=u 0 oq (Bo _ _).1;simp only[Lm]at this;grind[Zl])
 grind;have:j=out.length:=by omega
 rw[if_neg q,if_pos this]at m1⊢;rw[if_neg q,if_pos this];rw[N.x m m0 m1];exact o.un r b l m m0 m1;rw[o.b.o.same g d b l,GB,if_pos (.inr (o.s r b l))];grind
omit d in
theorem RO.old{x j:Int}(l:x∈w.old)(f:j∈ZC (Bb h.W x)):(Z1 h.W (x+1+j)).1=0\/(Z1 h.W (x+1+j)).1∈w.old:=by obtain⟨tq,k⟩:=o.b.o.c.k;obtain⟨m,e,c⟩:=(k.old x).1 l;have b:=SA _ j f;refine(g.q m x j e c b.1 b.2 (Z9e _ j f)).imp id λ⟨a,h1,i⟩=>(k.old _).2 ⟨a,h1,i⟩
theorem RO.in1{a:Nat}(ha:a<n)(hn:a<out.length){j:Int}(hj:0<=j/\j<Zl h.W (out.getD a M))(hq:Bb w.heap.W (w.Q.getD a M)=Bb h.W (out.getD a M))(hv:(Z1 w.heap.W (w.Q.getD a M+1+j)).1=0\/(Z1 w.heap.W (w.Q.getD a M+1+j)).1∈w.old) :(w.fwd (Z1 w.heap.W (w.Q.getD a M+1+j)).1).2.2=0/\RO h T (w.in1 (w.Q.getD a M+1+j)) (GB out (Z1 w.heap.W (w.Q.getD a M+1+j)).1) n/\(w.in1 (w.Q.getD a M+1+j)).Q.getD a M=w.Q.getD a M /\
  Bb (w.in1 (w.Q.getD a M+1+j)).heap.W (w.Q.getD a M)=Bb h.W (out.getD a M)/\(∀m,0<=m->m<Zl h.W (out.getD a M)->m≠j->Z1 (w.in1 (w.Q.getD a M+1+j)).heap.W (w.Q.getD a M+1+m)=Z1 w.heap.W (w.Q.getD a M+1+m)):=by
 obtain⟨e,f,_⟩:=o.fwd g d hv;have l:w.Q.getD a M∈w.Q:=Bm.2 ⟨a,by have:=o.l;omega,rfl⟩;generalize a3:w.Q.getD a M=q at *;have hl:Zl w.heap.W q=Zl h.W (out.getD a M):=congrArg Zy.length hq;have hw:=o.b.o.c.ok;have iv:=o.b.o.c.inv;have S:=o.b.in1 g d l hj.1 oq e;obtain⟨tq,k⟩:=o.b.o.c.k;obtain⟨i1,x1⟩:=NZ hw iv _ e;have sm:=Tw hw iv _ e;have fs:=(Sw hw iv _ e).2.2;have s:=x1.q q l;have a5:=x1.l q l;have hr:=i1.r q (Lf _ s);generalize a7:(Z1 w.heap.W (q+1+j)).1=v at *;have a4:4096<=q+1+j/\q+1+j<4096+(w.fwd v).1.heap.W.length:=by omega
 have a1:∀x∈(w.fwd v).1.old++(w.fwd v).1.Q,∀i,0<=i->i<=Zl (w.fwd v).1.heap.W x->x+i=q+1+j->x=q:=by(intro x hx i y0 b c;have l1:=i1.s q (Lf _ s) x hx;have l2:=i1.s x hx q (Lf _ s);omega)
 have wd:∀z,z≠q+1+j->Z1 (w.in1 (q+1+j)).heap.W z=Z1 (w.fwd v).1.heap.W z:=λz hz=>by(grind[Z7.in1,Gj])
 have hh:∀x∈(w.fwd v).1.old++(w.fwd v).1.Q,Z1 (w.in1 (q+1+j)).heap.W x=Z1 (w.fwd v).1.heap.W x:=λx hx=>wd x λc=>by(have:=a1 x hx 0 oq (Bo _ _).1 oq;omega)
 have a0:(w.in1 (q+1+j)).Q=(w.fwd v).1.Q:=by grind[Z7.in1]
 have t:(w.in1 (q+1+j)).old=(w.fwd v).1.old:=by grind[Z7.in1]
 have se:∀y∈(w.fwd v).1.old,E6 (w.in1 (q+1+j)) y=E6 (w.fwd v).1 y:=λy r=>by(grind[E6])
 have fl:=f.l;have ln:=o.l;have gq:(w.fwd v).1.Q.getD a M=q:=by rw[sm.get oq];exact a3
 have ao:a<(GB out v).length:=by grind[GB]
 refine⟨e,⟨S.1,by rw[a0];exact f.nd,by grind,λi hi=>?_,λy r p=>?_,λy r p m m0 m1=>?_,λi hi a2 m m0 m1=>?_⟩,by grind,(S.2 q l).2.trans hq,λm m0 m1 hm=>?_⟩;grind[i];rw[t]at r;rw[se y r]at p;exact f.s y r p;rw[t]at r;rw[se y r]at p;have u:=f.un y r p;have ey:=(E9 (by have:=u 0 oq (Bo _ _).1;omega)).2.1;grind[E6];rw[a0];have u:=f.uq i hi a2;have a6:(w.fwd v).1.Q.getD i M∈(w.fwd v).1.Q:=Bm.2 ⟨i,by omega,rfl⟩;have ey:Zl (w.fwd v).1.heap.W ((w.fwd v).1.Q.getD i M)=Zl h.W ((GB out v).getD i M):=by(have:=u 0 oq (Bo _ _).1;simp only[Lm]at this;grind[Zl])
 grind[nd,List.getElem?_inj];rw[wd _ oq,show q+1+m=q+(1+m) by omega,fs q (Lf _ l) (.inl l) (1+m) oq oq]
theorem RO.inn{q x:Int}{l:List Int}(r:n<out.length)(hq:w.Q.getD n M=q)(hx:out.getD n M=x)(hl:ZC (Bb h.W x)=l):∀k,k<=l.length->RO h T (Bt w q l k) (addN out (l.map λj=>(Z1 h.W (x+1+j)).1) k) (n+1)/\(∀j,j<k->CI w q l j=0)/\(Bt w q l k).Q.getD n M=q/\Bb (Bt w q l k).heap.W q=Bb h.W x /\ (addN out (l.map λj=>(Z1 h.W (x+1+j)).1) k).getD n M=x/\n<(addN out (l.map λj=>(Z1 h.W (x+1+j)).1) k).length/\∀m,0<=m->m<Zl h.W x->(∀i,i<k->l.getD i M≠m)->(Z1 (Bt w q l k).heap.W (q+1+m)).1=(Z1 h.W (x+1+m)).1
 |0,_=>by
  subst hq;subst hx;have u:=o.uq n (Le _) r;refine⟨⟨o.b,o.nd,o.l,o.i,o.s,o.un,λi z=>o.uq i oq⟩,λj e=>absurd e (Ll j),rfl, ?_,rfl,r,λm m0 m1 _=>?_⟩
  .have:=u 0 oq (Bo _ _).1;simp only[Lm]at this;show Bb w.heap.W _=_;rw[Bb,Bb,this]
  .have:=u (1+m) oq oq;rw[<-Lp,<-Lp]at this;exact this
 |k+1,hk=>by
  obtain⟨t,i2,v,i4,b,f,i7⟩:=RO.inn r hq hx hl k oq;have e:l.getD k M∈ZC (Bb h.W x):=by rw[hl];exact Bm.2 ⟨k,by omega,rfl⟩
  have y:=SA _ _ e;have nd:=ZdV (Bb h.W x);rw[hl]at nd;have s:∀i,i<k->l.getD i M≠l.getD k M:=λi z c=>by
   simp only[Lh]at c;rw[Ln oq,Ln oq]at c;have:=(List.getElem_inj nd).1 c;omega
  have ev:=i7 (l.getD k M) y.1 y.2 s;have xo:x∈(Bt w q l k).old:=by
   have:=(t.i n f).1;rw[b]at this;exact this
  have ov:=t.old g xo e;rw[<-ev]at ov;obtain⟨c1,c2,c3,c4,p⟩:=t.in1 g d (a:=n) oq f (j:=l.getD k M) (by rw[b];exact y) (by rw[v,b];exact i4) (by rw[v];exact ov);rw[v]at c1 c2 c3 c4 p;rw[b]at c4 p;rw[ev]at c2;have em:(l.map λj=>(Z1 h.W (x+1+j)).1).getD k M=(Z1 h.W (x+1+l.getD k M)).1:=by
   simp only[Lh,LN,Ln (show k<l.length by omega),LS,LB]
  have e2:addN out (l.map λj=>(Z1 h.W (x+1+j)).1) (k+1)=GB (addN out (l.map λj=>(Z1 h.W (x+1+j)).1) k) (Z1 h.W (x+1+l.getD k M)).1:=by rw[addN,em]
  rw[e2];refine⟨c2,λj e=>?_,c3,c4, ?_, ?_,λm m0 m1 hm=>?_⟩
  .by_cases c:j=k
   .rw[c];exact c1
   .exact i2 j oq
  .unfold GB;split
   .exact b
   .rw[Ts,if_pos f];exact b
  .unfold GB;split
   .exact f
   .rw[Lo];omega
  .show(Z1 ((Bt w q l k).in1 (q+1+l.getD k M)).heap.W (q+1+m)).1=_;rw[p m m0 m1 (λc=>hm k oq c.symm)];exact i7 m m0 m1 λi z=>hm i oq
theorem RO.step(f:n<out.length)(hs:w.D=n):RO h T (ZZ w).1 (addN out (Gy h (out.getD n M)) (Gy h (out.getD n M)).length) (n+1)/\(ZZ w).2.1=O/\(ZZ w).1.D=(n+1:Nat):=by
 have q:=(o.i n f).1;obtain⟨tq,k⟩:=o.b.o.c.k;obtain⟨i0,i,e⟩:=(k.old _).1 q;have e1:=g.refs i e;have l:Bb w.heap.W (w.Q.getD n M)=Bb h.W (out.getD n M):=by(have:=o.uq n (Le _) f 0 oq (Bo _ _).1;simp only[Lm]at this;grind[Bb])
 have ha:C8 w=w.Q.getD n M:=by grind[C8]
 have p:Bh w=ZC (Bb h.W (out.getD n M)):=by unfold Bh Zv;rw[ha];exact congrArg ZC l
 obtain⟨a,i2,_⟩:=o.inn g d f rfl rfl rfl _ (Le _);have m:w.D<w.Q.length:=by rw[hs,o.l];omega
 have hb:(Ld (Bh w).length).find? (λk=>LC (CI w (C8 w) (Bh w) k≠0))=Li:=Lr.2 λj hj=>by(grind)
 have c:ZZ w=(Hn (Bt w (C8 w) (Bh w) (Bh w).length) (Bh w).length,O,0):=by grind[ZZ]
 have b:=o.b.step g d;have so:=(Z0j o.b.o.c.ok b.1).2 (by rw[c]);refine⟨?_,by rw[c],by omega⟩;have b:=b.2;rw[c]at b⊢;rw[ha,p]at b⊢;rw[e1,List.length_map];exact⟨b,a.nd,a.l,a.i,a.s,a.un,a.uq⟩
end
def BD(h:Heap)(roots:List Int):Nat->List Int|0=>addN [] roots roots.length|i+1=>addN (BD h roots i) (Gy h ((BD h roots i).getD i M)) (Gy h ((BD h roots i).getD i M)).length
structure DG (h:Heap) (roots:List Int) (k:Nat):Prop where
 r:(Ld roots.length).find? (Gn roots (Zr h).1)=Li
 o:∀i,i<k->i<(BD h roots i).length/\EA (Gy h ((BD h roots i).getD i M))/\(Ld (Gy h ((BD h roots i).getD i M)).length).find? (Gn (Gy h ((BD h roots i).getD i M)) (Zr h).1)=Li
 e:(BD h roots k).length<=k
 u:∀i,i<=k->(BD h roots i).length<=1048576/\EA (BD h roots i)
def Td(h:Heap)(roots:List Int):Nat->Nat->Nat|0,i=>i|f+1,i=>if(BD h roots i).length<=i then i else Td h roots f (i+1)
def IT(h:Heap)(roots:List Int):Nat:=Td h roots (1048577+roots.length) 0
def Z9h{h roots k}(E:DG h roots k):∀f i,i<=k->k<=i+f->Td h roots f i=k
 |0,i,h1,h2=>by unfold Td;omega
 |f+1,i,h1,h2=>by
  unfold Td;by_cases q:i=k
  .rw[q,if_pos E.e]
  .have:=(E.o i oq).1;rw[if_neg oq];exact Z9h E f (i+1) oq oq
def Z4m{h roots k}(E:DG h roots k):IT h roots=k:=by refine Z9h E _ 0 (LA _) ?_;by_cases q:k=0;omega;have h1:=(E.o (k-1) oq).1;have h2:=(E.u (k-1) oq).1;omega
def Zew(a refs:List Int)(hl:refs.length<=1048576)(ha:a.length<=1048576)(c:(addN [] refs refs.length).length<=1048576)(d:EA refs)(b:(Ld refs.length).find? (Gn refs a)=Li):BP 66 [Z3 a,.ow 0,Z3 refs] [.arr 35 1 []] (.tu [.ow 1,bool O]) [.dead,.arr 35 1 ((addN [] refs refs.length).map wdv)]:=
 Z3A a [] refs hl ha c d b
def orL(h:Heap)(roots:List Int)(i:Nat):Tg:=⟨tm 52 [(2,.pt 8002 0 0),(4,.d (.sl 0 [])),(5,int 0),(6,Z3 (Zr h).1),(8,.ow 41025),(9,bool O),(10,int i)],[(41025,.arr 35 1 ((BD h roots i).map wdv)),(8002,.box 28 [int h.C.pw,int h.C.pg,.d (.sl 1 (h.W.map wdv)),.d (.sl 4 (h.P.map Z0.dv)),int h.S,int h.B])],7⟩
section
variable (h:Heap) (roots:List Int) (k:Nat) (E:DG h roots k) (a:Zx h.W)
include E a
theorem Zfa(i:Nat)(d:i<k):CP (Zm f25 0) (orL h roots i).st .nrm (orL h roots (i+1)).st:=by
 have ol:=Rx h;obtain⟨e,o2,o3⟩:=E.o i d;have u0:=E.u i oq;have f:=(E.u (i+1) oq).1;have ux:=u0.2 _ (Bm.2 ⟨i,e,rfl⟩);have ul:=u0.1;have rl:(Gy h ((BD h roots i).getD i M)).length<=1048576:=by(have:=Z2L (Zo h ((BD h roots i).getD i M)).1 (BR h ((BD h roots i).getD i M)).1 (BR h ((BD h roots i).getD i M)).1.length;have:=Oe h ((BD h roots i).getD i M);unfold Gy;omega)
 have b:BD h roots (i+1)=addN (BD h roots i) (Gy h ((BD h roots i).getD i M)) (Gy h ((BD h roots i).getD i M)).length:=rfl;rw[b]at f;unfold orL;rw[b];let c:=(BD h roots i).getD (i:Int).toNat M;exact sF [(65046,41025)] [] (FlG 32 O wdv (BD h roots i) (Ftb 34 (LC ((i:Int)<(↑(BD h roots i).length:Int))) (Fmq 44 wdv (BD h roots i) (↑i) (Fc 45 (@ZaT h c aa aa) (Fbr 46 [41025] (@Z3A ((Zr h).1) (BD h roots i) (Gy h c) aa oq aa aa aa) (Fx 36 i Fz))))))
theorem ZgV:CP (Zm f25 0) (orL h roots k).st (.ext 0) (Tg.st ⟨tm 52 [(4,.d (.sl 0 [])),(5,int 0),(8,.ow 41025),(9,bool O)],[(41025,.arr 35 1 ((BD h roots k).map wdv))],7⟩):=by have e:=E.e;exact sF [] [] (FlG 32 O wdv (BD h roots k) (Ffb 34 (LC ((k:Int)<(↑(BD h roots k).length:Int))) Fz))
def Z9S  := Br (S:=λi=>(orL h roots i).st) k (by kernel_rfl) (λi b=>Zfa h roots k E a i b) (ZgV h roots k E a)
theorem ZdY(hl:roots.length<=1000)(hr:EA roots)(hp:Z8 h=O)(ho:(Zr h).2=0):GP 25 [h.av,Z3 roots] La (.tu [Z3 (BD h roots k),int 0]) []:=by have ol:=Rx h;have Er:=E.r;have u0:(addN [] roots roots.length).length<=1048576:=(E.u 0 (LA _)).1;exact gF [] func25 [] (Fh 25 [.gh 35 1,.bor [47025] (AV.tu [AV.ow 1,Sx.bool O]) [Z4.dead,Z4.arr 35 1 (Lb wdv (addN [] roots roots.length))]] (Fc 12 (@CH h) (Ffb 13 (!Z8 h) (Fc 16 (@M1 h aa) (Ffb 20 ((Zr h).2 != 0) (Fa (@Zew ((Zr h).1) roots oq oq aa aa aa) (Fu (@Z9S h roots k aa aa) Fz)))))))
end
def ZaW(h:Heap) roots(E:DG h roots (IT h roots))(d:Zx h.W)(hl:roots.length<=1000)(c:EA roots)(b:Z8 h=O)(a:(Zr h).2=0):GP 25 [h.av,Z3 roots] La (.tu [Z3 (BD h roots (IT h roots)),int 0]) []:=ZdY h roots _ E d hl c b a
def Z6J{refs a:List Int}(h:∀r∈refs,r=0\/r∈a):(Ld refs.length).find? (Gn refs a)=Li:=
 Lr.2 λj b=>by
  have:=h _ (Bm.2 ⟨j,Lg.1 b,rfl⟩);unfold Gn;simp only[decide_eq_true_eq,not_and,Lx];exactλc=>this.resolve_left c
section
variable {h:Heap} {T:Nat->List Int} (g:Gd h T) (a:MV h) {s:List Int} (hs:∀r∈s,r=0\/Ob h T r) (b:Zx h.W)
include g a hs b
theorem RO.roots:∀k,k<=s.length->RO h T (rootsN (Zq h) s k).1 (addN [] s k) 0/\(rootsN (Zq h) s k).1.D=0
 |0,_=>⟨RO.begin g b,rfl⟩
 |k+1,hk=>by
  obtain⟨c,e⟩:=RO.roots k oq;obtain⟨tq,i⟩:=c.b.o.c.k;have d:=(hs _ (Bm.2 ⟨k,by omega,rfl⟩)).imp id λq=>(i.old _).2 q;have f:=c.fwd g a d;exact⟨f.2.1,(Sw c.b.o.c.ok c.b.o.c.inv _ f.1).2.1.trans e⟩
theorem RO.it:∀k,(∀j,j<k->j<(BD h s j).length)->RO h T (Cg (rootsF (Zq h) s).1 k) (BD h s k) k/\(Cg (rootsF (Zq h) s).1 k).D=k
 |0,_=>by
  obtain⟨c,d⟩:=RO.roots g a hs b s.length (Le _);obtain⟨e,_⟩:=SW.roots g a hs b;rw[e];exact⟨c,d⟩
 |k+1,hk=>by
  obtain⟨c,d⟩:=RO.it k (λj hj=>hk j oq);obtain⟨f,_,i⟩:=c.step g a (hk k oq) d;exact⟨f,i⟩
theorem ZbK:∃k,DG h s k/\RO h T (ZI h s) (BD h s k) k/\(ZI h s).D=k/\(BD h s k).length=k/\ZI h s=Cg (rootsF (Zq h) s).1 k:=by
 obtain⟨e,sw⟩:=SW.roots g a hs b;obtain⟨k,hk⟩:=RQ sw.o.c.ok;obtain⟨h1,h2,h3⟩:=LM.1 hk;have w:=λj=>((sw.it g a j).step g a).1;have d:∀j,j<=k->∀i,i<j->i<(BD h s i).length:=by
  intro j;induction j with
  |zero=>intro _ i f;omega
  |succ j ih =>
   intro o i f;by_cases q:i=j;subst q;obtain⟨l,u⟩:=RO.it g a hs b i (ih oq);have m:Ec (rootsF (Zq h) s).1 i=La:=by simpa using h3 i oq
   have:=(Z3D (Z67 m)).1;rw[u,l.l]at this;omega;exact ih oq i oq
 obtain⟨l,u⟩:=RO.it g a hs b k (d k (Le _));have m:(ZZ (Cg (rootsF (Zq h) s).1 k)).2.1=La:=by(simp only[Ec,decide_eq_true_eq,w k]at h1;simpa using h1)
 obtain⟨n1,n2⟩:=step_end (w k) m;have v:ZI h s=Cg (rootsF (Zq h) s).1 k:=by rw[ZI,Bs,hk];simp only[if_pos (w k)];exact n2
 have sc:=l.b.o.c.ok.sc;have il:=l.l;rw[u,l.l]at n1;rw[u,l.l]at sc;have t:∀{i:Nat},i<=k->∀x∈(Cg (rootsF (Zq h) s).1 i).old,x∈(Zr h).1:=λ{i} f x z=>by(obtain⟨tq,ki⟩:=(sw.it g a i).o.c.k;exact((KI.begin g).old x).2 ((ki.old x).1 z))
 refine⟨k,⟨Z6J λr p=>(hs r p).imp id λq=>((KI.begin g).old r).2 q,λi f=>(λq=>⟨d k (Le _) i f,λr p=>(q r p).elim (λc=>by omega) (λc=>by have:=De h r c;omega),Z6J q⟩) λr p=>?_,by omega,λi f=>?_⟩,by rw[v];exact l,by rw[v];exact u,by omega,v⟩;obtain⟨n,j2⟩:=RO.it g a hs b i (λj o=>d k (Le _) j oq);have xo:=(n.i i (d k (Le _) i f)).1;obtain⟨tq,ki⟩:=n.b.o.c.k;obtain⟨i0,a0,y⟩:=(ki.old _).1 xo;rw[g.refs a0 y]at p;obtain⟨j,o,rfl⟩:=List.mem_map.1 p;exact(n.old g xo o).imp id (t oq _);obtain⟨n,j2⟩:=RO.it g a hs b i (λj o=>d k (Le _) j oq);have ln:=n.b.o.c.ck.ln;refine⟨by rw[<-n.l];exact ln.ql,λx z=>?_⟩;obtain⟨j,o,rfl⟩:=Bm.1 z;have:=De h _ (t f _ (n.i j o).1);omega
theorem Z4f:∃k,DG h s k/\RO h T (ZI h s) (BD h s k) k/\(ZI h s).D=k/\(BD h s k).length=k:=by obtain⟨k,h1,c,d,e,_⟩:=ZbK g a hs b;exact⟨k,h1,c,d,e⟩
end
def Gd.get{h T}(g:Gd h T){i}{x:Int}(b:x∈T i)(c:Cv h.W x≠0):Zo h x=(Bb h.W x,0):=by
 have d:=g.on b;have a:=g.at' b;have h0:0<=(i:Int)*h.C.pw:=Lz oq (by have:=B1 g.p;omega);have e:x≠0:=by unfold Zz at d;omega
 rw[Zo,if_pos g.p,if_neg e,a,if_neg (λq=>c q.2)]
def Z9d{h:Heap}(a:0<=h.C.pw){i j:Nat}{x:Int}(h1:Zz h i<=x/\x<Zz h i+h.C.pw)(b:Zz h j<=x/\x<Zz h j+h.C.pw):i=j:=by unfold Zz at h1 b;rcases Nat.lt_trichotomy i j with q|q|q;have:=Ew (i:=i) (j:=j) (pw:=h.C.pw) oq a;omega;exact q;have:=Ew (i:=j) (j:=i) (pw:=h.C.pw) oq a;omega
section
variable {B:Int} (hB:0<=B) {h:Heap} {T:Nat->List Int} (g:Gd h T) (mv:MV h) {s k0:List Int} (hw:Zx h.W) (hb:∀p∈h.P,p.N<=B) (gs:H2 h T s) (gk:H2 h T k0) (e:(collectF h s k0).2.2.2.2=0)
include hB g mv hw hb gs gk e
theorem Z9k:∃tq l5,CE h T tq (ZI h s) (Cw h s k0).heap.W l5/\OnW h T (ZI h s)/\(collectF h s k0).1=⟨(ZI h s).heap.C,l5,(ZI h s).heap.P.map (BM (ZI h s).heap.S),1-(ZI h s).heap.S,(collectF h s k0).1.B⟩/\Gd (collectF h s k0).1 (tE T tq (ZI h s))/\(collectF h s k0).2.1=(rootsF (Zq h) s).2.1/\(collectF h s k0).2.2.1=En (ZI h s) k0 k0.length/\(collectF h s k0).2.2.2.1=(Bv h s k0).rep:=by
 obtain⟨er,sw⟩:=SW.roots g mv gs hw;have e1:(rootsF (Zq h) s).2.2=0:=by rw[er]
 have e2:=(sw.all g mv).1;have pr1:=(Z3j hB hw hb e).p1;obtain⟨tq,ce,eh⟩:=Mk hB g hw hb e1 e2 (k:=k0);have e7:collectF h s k0=(Eh (Bv h s k0),(rootsF (Zq h) s).2.1,En (ZI h s) k0 k0.length,(Bv h s k0).rep,0):=by rw[collectF,if_pos g.p,if_pos ⟨g.refers gs,g.refers gk⟩,if_pos e1,if_pos e2]
 rw[e7]at pr1⊢;refine⟨tq,_,ce,(sw.all g mv).2.o,eh, ?_,rfl,rfl,rfl⟩;simp only at pr1⊢;rw[eh]at pr1⊢;exact ce.good pr1
theorem Zb7{x:Int}(hx:x∈BD h s (IT h s)):∃b:Nat,b<h.P.length/\0<=x/\x<=8192/\(Z2 h.C x).1=(b:Int)/\(Z2 h.C x).2.2=0/\(Zo h x).2=0/\((h.P.getD b M).K=2\/0<(h.P.getD b M).N->Zo (collectF h s k0).1 x=Zo h x/\((collectF h s k0).1.P.getD b M).N=(h.P.getD b M).N):=by
 obtain⟨k,E,ro,sc,lk⟩:=Z4f g mv gs hw;rw[Z4m E]at hx;obtain⟨tq,l5,n,on,w,gd,_⟩:=Z9k hB g mv hw hb gs gk e;obtain⟨i,hi,rfl⟩:=Bm.1 hx;obtain⟨xo,xs⟩:=ro.i i hi;generalize (BD h s k).getD i M=x at *;have f:=n.k;obtain⟨b,a,d⟩:=(f.old x).1 xo;have o:=g.on a;have rg:=De h x ((g.objs.2 x).2 ⟨b,a,d⟩);refine⟨b,o.1,rg.1,rg.2,by rw[g.ofx a],by rw[g.ofx a],by rw[g.get a d],λq=>?_⟩;have v:=f.nt g a;have pg:=f.pg b v;have z:(Z1 (ZI h s).heap.W x).1=(Z1 h.W x).1:=(f.hd b x a).resolve_right λc=>by(rcases q with q|q;omega;exact(on.m.m5 b o.1 oq).1 c.2.2 q)
 have t0:=Z2Y o.2.2.2.2.2.1;have xq:x∈(ZI h s).Q:=by(by_cases c:x∈(ZI h s).Q;exact c;exfalso;rw[E6,if_neg c,z,if_neg (by rw[t0];simp)]at xs;have:=n.i.r _ (Lf _ (Bm.2 ⟨i,by rw[ro.l];exact hi,rfl⟩));omega)
 have sp:((ZI h s).heap.P.getD b M).S≠(ZI h s).heap.S:=by(rcases f.q x xq with⟨j,p,u,j3,j4⟩|⟨j,p,u⟩;have o2:=g.on u;rw[Z9d (by have:=B1 g.p;omega) ⟨o.2.2.1,o.2.2.2.1⟩ ⟨o2.2.2.1,o2.2.2.2.1⟩];exact j4;have t:=f.tk j p;have m:=GE t.2.2.2.2.2.1 u;have r:=Bo (ZI h s).heap.W x;have:=Z9d (h:=h) (by have:=B1 g.p;omega) ⟨o.2.2.1,o.2.2.2.1⟩ (j:=j) ⟨m.2.1,by omega⟩;subst this;exact absurd p v)
 have xe:x∈tE T tq (ZI h s) b:=by rw[tE,if_neg v,if_pos sp];exact a
 have y:Bb l5 x=Bb h.W x:=by(have r:=Bo (ZI h s).heap.W x;rw[Bb,n.seen xq (LD _) oq,z];rfl)
 have wd:(collectF h s k0).1.W=l5:=by rw[w]
 refine⟨?_, ?_⟩;rw[gd.get xe (by rw[wd,Cv,y];exact d),g.get a d,wd,y];rw[w];simp only[Lh,LN];have l:=f.pl;rw[Ln oq];have e0:((ZI h s).heap.P.getD b M)=(ZI h s).heap.P[b]:=by rw[Lh,Ln oq];rfl
 have p3:=pg.2.2;rw[e0]at sp p3;simp only[LS,LB];rw[BM,if_neg (λq=>sp q.2),p3,Lh]
end
def stL(w x:Zi)(l:List Int)(i:Nat):Tg:=⟨tm 111 [(2,bool La),(3,.pt 16003 0 0),(4,.pt 16004 0 0),(7,Z3 l),(9,int i)],[(16004,.box 30 x.cells),(16003,.box 30 w.cells)],6⟩
structure Z3o (w x:Zi) (a:Int) (i0:Nat):Prop where
 h0:i0<w.heap.P.length
 h1:i0<x.heap.P.length
 ha:0<=a/\a<=8192
 e1:(Z2 w.heap.C a).1=(i0:Int)
 e2:(Zo w.heap a).2=0
 pp:0<=(w.heap.P.getD i0 M).N
 e3:(w.heap.P.getD i0 M).K=2\/0<(w.heap.P.getD i0 M).N->Zo x.heap a=Zo w.heap a/\(x.heap.P.getD i0 M).N=(w.heap.P.getD i0 M).N
section
variable (w x:Zi) (l:List Int) (hl:l.length<=1048576) (a:Zx w.heap.W) (b:Zx x.heap.W)
include hl a b
theorem Zcl(i:Nat)(hi:i<l.length) e(ok:Z3o w x (l.getD i M) e):CP (Zm f10 0) (stL w x l i).st .nrm (stL w x l (i+1)).st:=by
 obtain⟨h0,h1,ha,e1,e2,pp,e3⟩:=ok;by_cases c:(w.heap.P.getD e M).K=2\/0<(w.heap.P.getD e M).N;obtain⟨n,o⟩:=e3 c;have g:(Z2 w.heap.C (l.getD i M)).1.toNat=e:=by rw[e1];exact Lq e
 have hz:((Zo w.heap (l.getD i M)).2 != 0||(Zo x.heap (l.getD i M)).2 != 0||!((Zo w.heap (l.getD i M)).1.K==(Zo x.heap (l.getD i M)).1.K&&((Zo w.heap (l.getD i M)).1.length==(Zo x.heap (l.getD i M)).1.length&&(Zo w.heap (l.getD i M)).1.map==(Zo x.heap (l.getD i M)).1.map))||(x.heap.P.getD (Z2 w.heap.C (l.getD i M)).1.toNat M).N != (w.heap.P.getD (Z2 w.heap.C (l.getD i M)).1.toNat M).N)=La:=by(rw[g,n,o,e2];simp)
 have k {h_ c_ p_} (p:Fq h_ c_ p_):=FN 37 38 47 wdv l i (Fc 49 (@GF w.heap.C (l.getD i M) oq oq) (Fe 57 Z0.dv w.heap.P ((Z2 w.heap.C (l.getD i M)).1) p));rcases bb ((w.heap.P.getD (Z2 w.heap.C (l.getD i M)).1.toNat M).K != 2&&(w.heap.P.getD (Z2 w.heap.C (l.getD i M)).1.toNat M).N==0)with hc0|hc0<;>have f:=hc0<;>simp only[bs]at f;obtain⟨h,j⟩:=f;exact sF [] [] (k (Ft 66 hc0 (Fx 40 i Fz)));let d:=l.getD i M;let y1:=(Zo w.heap d).1.K==(Zo x.heap d).1.K&&((Zo w.heap d).1.length==(Zo x.heap d).1.length&&(Zo w.heap d).1.map==(Zo x.heap d).1.map);exact sF [] [] (k (Ff 66 hc0 (Fek 72 wdv l (↑i) i (Fc 74 (@Iz w.heap d aa oq) (Fek 82 wdv l (↑i) i (Fc 84 (@Iz x.heap d aa oq) (FeGq 103 (!((Zo w.heap d).2 != 0||(Zo x.heap d).2 != 0||!y1)) Z0.dv x.heap.P ((Z2 w.heap.C d).1) (Ff 109 ‹((Zo w.heap d).2 != 0||(Zo x.heap d).2 != 0||!y1||(x.heap.P.getD (Z2 w.heap.C d).1.toNat M).N != (w.heap.P.getD (Z2 w.heap.C d).1.toNat M).N)=La› (Fx 40 i Fz)))))))));have c1:(w.heap.P.getD e M).K≠2:=λq=>c (.inl q);have c2:(w.heap.P.getD e M).N=0:=by(have:¬ 0<(w.heap.P.getD e M).N:=λq=>c (.inr q);omega)
 have g:(Z2 w.heap.C (l.getD i M)).1.toNat=e:=by rw[e1];exact Lq e
 have hq:((w.heap.P.getD (Z2 w.heap.C (l.getD i M)).1.toNat M).K != 2&&(w.heap.P.getD (Z2 w.heap.C (l.getD i M)).1.toNat M).N==0)=O:=by(rw[g,c2];simpa using c1)
 let m:=w.heap.P.getD (Z2 w.heap.C (l.getD i M)).1.toNat M;exact sF [] [] (FN 37 38 47 wdv l i (Fc 49 (@GF w.heap.C (l.getD i M) oq oq) (Fe 57 Z0.dv w.heap.P ((Z2 w.heap.C (l.getD i M)).1) (Ft 66 ‹(m.K != 2&&m.N==0)=O› (Fx 40 i Fz)))))
omit hl a b in
theorem Zij:CP (Zm f10 0) (stL w x l l.length).st (.ext 0) (Tg.st ⟨tm 111 [(2,bool La)],[],60⟩):=by exact sF [] [] (FO 37 38 wdv l Fz)
def Zc1(ok:∀i,i<l.length->∃c,Z3o w x (l.getD i M) c)  := Br (S:=λi=>(stL w x l i).st) l.length (by kernel_rfl) (λi d=>by
  obtain⟨c,o⟩:=ok i d;exact Zcl w x l hl a b i d c o) (Zij w x l)
end
def ZbZ(a:List Int)(h1:a.length<=140737488355328):GP 10 [ZE a] O (bool O) []:=by
 have b:=M4 a;have h:=b.W;have z:=b.G;have y:=b.sl;obtain⟨T,g,f,l⟩:=Z8W a;obtain⟨k,E,m,sc,lk⟩:=Z4f g (P7 a) f h;have w:=Z4m E;subst w;have c:=g.p;have ho:=g.objs.1;have hl:(BD (ZA a).heap (ZA a).G (IT (ZA a).heap (ZA a).G)).length<=1048576:=by rw[<-m.l];exact m.b.o.c.ck.ln.ql
 have hx:=(BY.collect b).W;obtain⟨e,j,_⟩:=Z3t a;have ok:∀i,i<(BD (ZA a).heap (ZA a).G (IT (ZA a).heap (ZA a).G)).length->∃d,Z3o (ZA a) (ZA a).collect ((BD (ZA a).heap (ZA a).G (IT (ZA a).heap (ZA a).G)).getD i M) d:=λi x=>by
  obtain⟨d,a1,n,o,r,_,s,t⟩:=Zb7 (B:=1000) oq g (P7 a) h (λp c=>(b.pin_mem p c).2) f l e (Bm.2 ⟨i,x,rfl⟩);refine⟨d,a1, ?_,⟨n,o⟩,r,s,(b.N d a1).1,λq=>by rw[j];exact t q⟩;have l1:=(BY.collect b).pl;have l2:=b.pl;have c1:(ZA a).collect.heap.C=(ZA a).heap.C:=by(rw[j];obtain⟨_,_,u,_,v,_⟩:=Z9k (B:=1000) oq g (P7 a) h (λp c=>(b.pin_mem p c).2) f l e;rw[v];exact u.k.c)
  rw[c1]at l1;omega
 exact gF [] func10 [] (Fc 20 (@ZjF a aa) (Fc 32 (@ZaW ((ZA a).heap) ((ZA a).G) aa aa aa aa aa aa) (Fu (@Zc1 (ZA a) ((ZA a).collect) (BD (ZA a).heap (ZA a).G (IT (ZA a).heap (ZA a).G)) aa aa aa aa) (Fc 110 (@Zb1) Fz))))
end Go.Proofs.YtgedmeaemofdkaaGreat
namespace Go.Proofs.YtgedmeaemofdkaaGreat
open Go.Sx Go.RowKit
def ZkO(os:Os)(a:os.Started)(H:Type)(enc:TypeId×Value->H) :ReturnsInHanded {} Tryz.checked os 10 .any (Rows.collectStaysSpec.pre6 enc prog f10 Rows.collectStaysRow.domain La) (Rows.collectStaysSpec.post enc prog f10 La O La La):=by
 refine Zi5 (C:=Tryz.checked) (tb:=4) 5 Zbz a kr func10
  (ChangeSpec.witness6 (enc:=enc) (C:=Tryz.checked) La ⟨#[],#[.slice Li 0 0],[]⟩ 8 kr kr kr kr)
  ZbA kr kr kr kr rfl (λd f=>?_) (λi g h=>?_)
 .match d,f with
  |[a0],_=>rfl
 .match i,g with
  |[l0],_ =>
   obtain⟨b,rfl,c⟩:=ZaR (n:=3) (h 0 22 l0 kr rfl);have e:R6 prog Tryz.f10.params.toList [[.sl 1 (b.map idv)]]=[ZE b]:=by kernel_rfl
   exact⟨O,e▸ZbZ b c⟩
def Zc9:(Rows.collectStaysRow.inPlace==Tryz.prog.inPlace 10)=O:=by kernel_rfl
def Zk9:(Rows.collectStaysRow.unfollowed==Tryz.prog.unfollowed 10)=O:=by kernel_rfl
def Zcm:(Rows.collectStaysRow.recurses==Tryz.prog.recurses 10)=O:=by kernel_rfl
def Zdh:(Rows.collectStaysRow.named==Tryz.prog.varsNamed 10)=O:=by kernel_rfl
def Zjk:joinedFacts prog 10 f10 Rows.collectStaysSpec Rows.collectStaysRow=O:=by
 unfold joinedFacts;rw[Zc9,Zk9,Zcm,Zdh];kernel_rfl
theorem collectStays_holds:Rows.CollectStaysSaid:=
 OpenClaim.holds_of_wide 10 f10 rfl rfl rfl rfl rfl rfl rfl ⟨rfl,rfl,rfl,rfl,rfl⟩ rfl rfl rfl rfl rfl kr func10 Zjk
  (of_decide_eq_true kr) (by unfold Func.isWrapper;first|(rw[if_pos (by decide+kernel)];kernel_rfl)|(rw[if_neg (by decide+kernel)];exact⟨rfl,rfl⟩))
  (λos a H b _=>ZkO os a H b)
end Go.Proofs.YtgedmeaemofdkaaGreat
