/-
 The statement BoundRequests: part 11.
 Conditions: none.
-/
import Derived.Test.YtkmnngahjnkdmaaGreatE10
set_option maxRecDepth 100000
set_option maxHeartbeats 2000000
set_option linter.all false
open Inhabited renaming default->X
open Bool renaming true->Y,and_eq_true->Lg,false->Lh,not_eq_true'->Lx
open List renaming find?_eq_none->Z,mem_range->M,mem_append->O,range->Lc,take->Ld,getD_eq_getElem?_getD->Lj,map->Lk,mem_append_left->Ll,mem_append_right->Lo,mem_cons->Lp,mem_singleton->Lq,length_replicate->Lt,length_set->Lv,any_eq_true->LB,getElem?_map->LC,getElem?_range->LD,length_map->LF,mem_iff_getElem->LG,mem_of_mem_drop->LH,mem_of_mem_take->LI,mem_replicate->LJ,replicate->LK
open Or renaming inr->La,inl->Ls
open Int renaming toNat->Lb,toNat_natCast->Li,mul_nonneg->Ln,eq_ofNat_of_zero_le->Lu,emod_lt_of_pos->Ly,emod_nonneg->Lz,mul_comm->LA
open Decidable renaming decide->Le,not_not->Lm
open Option renaming none->Lf,getD_some->Lw,map_some->LM
open Nat renaming le_refl->Lr,lt_trichotomy->LL
open Go.Proofs.Tryz
namespace Go.Proofs.YtkmnngahjnkdmaaGreat
open Go.Sx
def Z4H{pw s l ws}(h:Zz ws):∀i,Zz (EA pw s l ws i)
 |0=>h
 |i+1=>by
  have b:=Z4H (pw:=pw) (s:=s) (l:=l) h i;unfold EA;split
  .intro x a;simp only[C6,O,LJ]at a;rcases a with(a|a)|a
   .exact b x (LI a)
   .omega
   .exact b x (LH a)
  .exact b
def ZjA{c l}(h:PT c l) s:PT c (l.map (Gu s)):=by refine h.mapPages _ ?_ ?_ ?_ ?_;intro p a;unfold Gu;split;exact⟨by simp,by simp,by simp,by simp,by simp,by simp⟩;exact a;all_goals grind[Gu,Ga]
def Z4Y{w}(a:Bh w) k:∀i,∀x∈Cy w k i,0<=x/\x<=4294967296
 |0,x,hx=>by grind[Cy]
 |i+1,x,hx=>by
  simp only[Cy,O,Lq]at hx;rcases hx with hx|rfl
  .exact Z4Y a k i x hx
  .have h:=Ae w k i;unfold N0;split
   .omega
   .unfold Cb;rw[h.2.2.2.1,h.1];split
    .rename_i b;have:=a.q _ b;omega
    .have:=Z6l (EW a.W (k.getD i X)).1;omega
structure Zeq (B:Int) (h:Heap) (s k:List Int):Prop where
 p0:Z9 h=Y
 p1:Z9 (Zr h s k).1=Y
 w:Zz (Zr h s k).1.W
 n:∀p∈(Zr h s k).1.P,p.N<=B
 c:(Zr h s k).1.C=h.C
 r:∀x∈(Zr h s k).2.1,0<=x/\x<=4294967296
 rl:(Zr h s k).2.1.length=s.length
 v:∀x∈(Zr h s k).2.2.1,0<=x/\x<=4294967296
 vl:(Zr h s k).2.2.1.length=k.length
def Z5v{B:Int}(t:0<=B){h:Heap}{s k}(j:Zz h.W)(z:∀p∈h.P,p.N<=B)(e:(Zr h s k).2.2.2.2=0):Zeq B h s k:=by
 by_cases b:Z9 h=Y;by_cases hr:ZB h s=Y/\ZB h k=Y;by_cases i:(rootsF (Zv h) s).2.2=0;by_cases l:(Bz (rootsF (Zv h) s).1).2=0;have d:Zr h s k=(Bn (ZI h s k),(rootsF (Zv h) s).2.1,Cy (B6 h s) k k.length,(ZI h s k).rep,0):=by grind[Zr]
 have ho:=A5 (roots:=s) (RG j b) (SE b) i;have c:=cOk h s k j b i l;have v:=Z3i h s k j b i l;have o:=Zgf t j b z i l;obtain⟨m,r,x,y,g5⟩:=c.h4;have a1:=c.w2.sp;have f:(B6 h s).j.C=h.C:=c.x2.c;have n:=c.w2.pl;rw[f]at n;have hL:=c.i4.L;rw[m]at hL;have a0:=TU (s:=(CI h s k).j.S) v.2.2.2.1 (CI h s k).j.P.length (Lr _);refine⟨b, ?_, ?_, ?_, ?_, ?_, ?_, ?_, ?_⟩;rw[d,HS];simp only[Bn,ZI,HZ,m,r,x,y];have a:=ZjA (s:=(B6 h s).j.S) o.pt;rw[f]at a;refine⟨(B7 b).1, ?_,by grind,by omega, ?_,a⟩;grind;split;rename_i ht;have u:=Hh (w:=B6 h s) ht;have t1:=c.w2.tk _ u;have t2:=o.tk _ u;refine La ⟨t1.1,by simp only[LF];exact t1.2.1, ?_⟩;have hx:(Lk (Gu (B6 h s).j.S) (B6 h s).j.P).getD (ZS (B6 h s)).toNat X=(B6 h s).j.P.getD (ZS (B6 h s)).toNat X:=by
  have hi:(ZS (B6 h s)).toNat<(B6 h s).j.P.length:=by omega
  have:(Lk (Gu (B6 h s).j.S) (B6 h s).j.P).getD (ZS (B6 h s)).toNat X=Gu (B6 h s).j.S ((B6 h s).j.P.getD (ZS (B6 h s)).toNat X):=by grind
  grind[Gu,Ga]
 grind[ZS];omega;rw[d];exact Z4H c.f4.W _;rw[d];intro p g;simp only[Bn,ZI,HZ,r,List.mem_map]at g;obtain⟨q,hq,rfl⟩:=g;unfold Gu;split;exact t;exact o.pin q hq;rw[d];exact m;grind;grind;rw[d];exact Z4Y c.w2 k _;grind[Z0A];grind[Zr];grind[Zr];grind[Zr];grind[Zr]
def ZkO{h:Heap}(b:Z9 h=Y):∀p∈h.P,0<=p.N:=by rw[HS]at b;intro p a;obtain⟨i,hi,e⟩:=LG.1 a;have:=(b.2.2.2.2.2.b i hi).n.1;grind
def Cu.of_proper{w:Zg}{n:Nat}(b:Z9 w.j=Y)(i:Zz w.j.W)(h:∀p∈w.j.P,p.N<=n)(d:CR w.G)(e:CR w.E)(f:w.G.length<=n)(g:w.E.length<=n):Cu w n:=by have c:=B7 b;exact⟨i,c.1,c.2.2.2.2.2.2.2.1,c.2.2.2.2.2.1,λj a=>⟨ZkO b _ (getD_in a),h _ (getD_in a)⟩,λj a=>by have:=Ew b a;omega,d,e,f,g⟩
def Cu.pin_mem{w n}(h:Cu w n):∀p∈w.j.P,0<=p.N/\p.N<=n:=by intro p a;obtain⟨i,hi,e⟩:=LG.1 a;have:=h.N i hi;grind
def Cu.mono{w n}(h:Cu w n):Cu w (n+1):=
 ⟨h.W,h.hv,h.pl,h.L,λj a=>by have:=h.N j a;omega,h.us,h.G,h.E,by have:=h.sl;omega,by have:=h.wl;omega⟩
def Z3K{l}(h:CR l){x:Int}(b:0<=x/\x<=18446744073709551615):CR (l++[x]):=by intro y a;simp only[O,Lq]at a;rcases a with a|rfl;exact h y a;exact b
def Cu.put{w n}(h:Cu w n){hd:Zo}(d:0<=hd.map/\hd.map<=4294967295):Cu (w.put hd) (n+1):=by unfold Zg.put;split;rename_i e;obtain⟨k1,f,b,k4,g,i,j,k⟩:=Z2l h.W d e;have po:=B7 k1;have hl:=h.sl;have c:=h.wl;have z:=(TT f).2.1;have a1:=b.lo;have a2:=b.hi;refine Cu.of_proper j k ?_ (Z3K h.G (by rw[g];omega)) h.E qo (by grind);intro p a;simp only at a;rw[i]at a;simp only at a;rcases b.pin p a with q|⟨q,l,q2⟩;omega;have:=h.pin_mem q l;omega;exact h.mono
def Cu.link{w n}(h:Cu w n)(e:n<=1000000) t:Cu (w.link t) (n+1):=by
 unfold Zg.link;split;rename_i b;have g:=Su b.1;have i:=h.wm e;have c:1<=(Zy w.j (w.pick t)).1.length:=by omega
 have j:=H8 (w.pickT (w.pickT t)) (n:=8) dd;have hi:0<=IX w t/\IX w t<(Zy w.j (w.pick t)).1.length:=by(unfold IX;rw[Int.tmod_eq_emod_of_nonneg j.1];exact⟨Lz _ oq,Ly _ oq⟩)
 have f:0<=NK w t/\NK w t<=18446744073709551615:=by(unfold NK;split;exact Mx i _;have:=H8 ((w.pickT (w.pickT t)).step 8) (n:=1048576) dd;omega)
 obtain⟨s1,k,l⟩:=Zdz h.W f b.1 hi;have hl:=h.sl;have d:=h.wl;refine Cu.of_proper k l ?_ h.G h.E (by grind) (by grind);intro p a;simp only at a;rw[s1]at a;have:=h.pin_mem p a;omega;exact h.mono
theorem Z6D{w n}(h:Cu w n){i:Nat}(hi:i<w.j.P.length){d:Int}(hd:d=1\/(d=-1/\0<(w.j.P.getD i X).N)):Cu (Ss w i d) (n+1):=by have hp:=h.N i hi;refine⟨h.W,h.hv, ?_,h.L, ?_, ?_,h.G,h.E,by have:=h.sl;grind[Ss],by have:=h.wl;grind[Ss]⟩;simp only[Ss,Lv];exact h.pl;intro j a;simp only[Ss,Lv]at a⊢;rw[EH hi];split;grind;have:=h.N j a;omega;intro j a;simp only[Ss,Lv]at a⊢;rw[EH hi];split;exact h.us i hi;exact h.us j a
def Cu.pin{w n}(h:Cu w n) t:Cu (w.pin t) (n+1):=by
 unfold Zg.pin;split;rename_i e;have o:=Hg h.hv e;have a:=h.pl;have hi:Rb w t<w.j.P.length:=by grind[Rb]
 split;grind[Z6D];split;grind[Z6D];exact h.mono;exact h.mono
def Cu.drop{w n}(h:Cu w n) t:Cu (w.drop t) (n+1):=by
 unfold Zg.drop;split
 .have hl:=h.sl;have c:=h.wl;refine⟨h.W,h.hv,h.pl,h.L,λj b=>by have:=h.N j b;grind,h.us, ?_, ?_, ?_, ?_⟩;intro x a;rcases O.1 a with a|a;exact h.G x (LI a);exact h.G x (LH a);simp only;split;exact Z3K h.E (Af h.G _);exact h.E;all_goals grind
 exact h.mono
def Cu.collect{w n}(h:Cu w n):Cu w.collect (n+1):=by unfold Zg.collect;split;rename_i e;have c:=Z5v (B:=n) oq h.W (λp a=>(h.pin_mem p a).2) e;have hl:=h.sl;have d:=h.wl;refine Cu.of_proper c.p1 c.w (λp a=>by have:=c.n p a;omega) (λx b=>by have:=c.r x b;omega) (λx b=>by have:=c.v x b;omega) (by simp only[c.rl];omega) (by simp only[c.vl];omega);exact h.mono
def Cu.step{w n}(h:Cu w n)(a:n<=1000000) t:Cu (w.step t) (n+1):=by
 unfold Zg.step;repeat' split
 exact h.put (Z8s _ _);exact h.link a _;exact h.pin _;exact h.drop _;exact h.collect;have hl:=h.sl;have c:=h.wl;exact⟨h.W,h.hv,h.pl,h.L,λj b=>by have:=h.N j b;grind[Zg.dup],h.us,Z3K h.G (Mx (h.wm a) _),h.E,by grind[Zg.dup],by grind[Zg.dup]⟩
def AB(w:Z8)(x:Int):Z0:=w.j.P.getD (Z4 w.j.C x).1.toNat X
structure Rt (w:Z8):Prop where
 q:∀x∈w.Q,((AB w x).K=1\/(AB w x).K=2)/\(AB w x).S=1-w.j.S
 t:∀x∈w.old,(ZQ (Z5 w.j.W x).1).2=Y->(ZQ (Z5 w.j.W x).1).1∈w.Q
def Z6O{a:Int}(h0:0<=a)(h1:a<4294967296):ZQ (4*a+2)=(a,Y):=by
 have e:(4*a+2)/4=a:=by omega
 rw[ZQ,if_pos oq,e]
def Rt.copy{B w}(k:Bh w)(h:BM w)(hT:Tab B w)(hR:Rt w){r n:Int}(hr:r∈w.old)(hq:r∉w.Q)(hn:n=ZE w.j.W r+1)(hp:n<=w.j.C.pw)(hc:(w.place n).2.2=Y):Rt ((w.place n).1.copy r (w.place n).2.1 n):=by
 have a9:=Ch w.j.W r;obtain⟨i,p,t,l,h2,h3,h4,h5,h6,h7,h8,e⟩:=Ov k ⟨by omega,hp⟩ hc;have a4:p.S=1-w.j.S:=by
  by_cases f:EC w n;have e7:w.place n=(⟨⟨w.j.C,w.j.W,Cw w.j.P (ZS w).toNat n,w.j.S,w.j.B⟩,w.old,w.T,w.Q,w.D,w.rep⟩,4096+ZS w*w.j.C.pw+(w.j.P.getD (ZS w).toNat X).U,Y):=by rw[Z8.place,if_pos f]
  unfold EC at f;have hm:=k.tk _ (Hh f.1);have m:=hT.tk _ (Hh f.1);have hi:(ZS w).toNat<w.j.P.length:=by omega
  rw[e7]at e;simp only[M1,Z8.mk.injEq,Heap.mk.injEq]at e;have s:=e.1.2.2.1;have v:(w.j.P.set i p).getD i X=p:=by rw[EH l,if_pos rfl]
  rw[<-s,EH hi]at v;split at v;rw[<-v];exact m;rename_i d;have g2:(w.j.P.set i p).getD (ZS w).toNat X=w.j.P.getD (ZS w).toNat X:=by rw[EH l,if_neg (λq=>d q.symm)]
  rw[<-s,EH hi,if_pos rfl]at g2;have:=congrArg Z0.U g2;simp only at this;omega;by_cases hg:0<=B3 w;have e7:w.place n=(⟨⟨w.j.C,w.j.W,Cw (G2 w) (B3 w).toNat n,w.j.S,w.j.B⟩,w.old,w.T++[B3 w],w.Q,w.D,w.rep⟩,4096+B3 w*w.j.C.pw,Y):=by rw[Z8.place,if_neg f,if_pos hg]
  obtain⟨v,g2,g3⟩:=TF (h:=⟨w.j.C,w.j.W,w.j.P,1-w.j.S,w.j.B⟩) (by have:=k.sp;simp only;omega) hg n;have a2:Cw (G2 w) (B3 w).toNat n=w.j.P.set (B3 w).toNat ⟨1,1-w.j.S,n,0⟩:=v;have y:(w.j.P.getD (B3 w).toNat X).K=0:=g2;have z:(B3 w).toNat<w.j.P.length:=g3;rw[e7,a2]at e;simp only[Z8.mk.injEq,Heap.mk.injEq]at e;have s:=e.1.2.2.1;have k1:(w.j.P.set i p).getD i X=p:=by rw[EH l,if_pos rfl]
  rw[<-s,EH z]at k1;split at k1;rw[<-k1];rename_i d;have k2:(w.j.P.set i p).getD (B3 w).toNat X=w.j.P.getD (B3 w).toNat X:=by rw[EH l,if_neg (λq=>d q.symm)]
  rw[<-s,EH z,if_pos rfl]at k2;rw[<-k2]at y;simp at y;rw[Z8.place,if_neg f,if_neg hg]at hc;simp at hc
 have hb:=BR.1 k.C;have b1:=k.pl;have hL:=h.L;have a8:(i:Int)*w.j.C.pw+w.j.C.pw<=w.j.C.pw*w.j.C.pg:=by(have:=Gb (i:=i) (j:=w.j.C.pg) (pw:=w.j.C.pw) oq oq;rw[LA w.j.C.pw];exact this)
 have a7:0<=(i:Int)*w.j.C.pw:=Ln oq oq;have a5:=HM k.C;rw[e,h8];generalize hu:CX (w.j.P.getD i X)=u at *;have a3:(Z4 w.j.C (4096+(i:Int)*w.j.C.pw+u)).1.toNat=i:=by(have:=Dn (c:=w.j.C) (i:=i) (o:=u) k.C oq oq;rw[show 4096+(i:Int)*w.j.C.pw+u=4096+((i:Int)*w.j.C.pw+u) by omega,this];simp)
 generalize ha:4096+(i:Int)*w.j.C.pw+u=at' at *;have b2:=h.r r (Ll _ hr);have f:=h.f i l (by rcases h2 with h2|h2;exact Ls h2;exact La h2.1);rw[hu]at f;obtain⟨m1,m2,m3⟩:=MR (ws:=w.j.W) (a:=at') (b:=r) (n:=n) oq oq oq;have a0:4096<=r/\r<4096+(moveA w.j.W at' r n).1.length:=by omega
 refine⟨?_, ?_⟩;intro x g;simp only[Z8.copy,O,Lq]at g;simp only[AB,Z8.copy];rw[EH l];split;exact⟨Ls h3,a4⟩;rename_i d;rcases g with g|rfl;exact hR.q x g;exact absurd a3.symm d;intro x g m;simp only[Z8.copy]at g m⊢;by_cases a1:x=r;subst a1;rw[Pn a0]at m⊢;simp only;rw[Z6O oq oq];simp;have a6:=f x (Ll _ g);have b0:=Ch w.j.W x;have el:Z5 (Cj (moveA w.j.W at' r n).1 r (4*at'+2)).1 x=Z5 w.j.W x:=by rw[Nf a0 a1,m3 x oq]
 rw[el]at m⊢;exact Ll _ (hR.t x g m)
structure PR (B:Int) (w:Z8):Prop where
 tab:Tab B w
 rt:Rt w
def Z0E(w:Z8)(x:Int):Prop:=x=0\/x∈w.Q
def Zfc{B} w r(f:PR B w)(e:(w.fwd r).2.2=0):Z0E (w.fwd r).1 (w.fwd r).2.1:=by unfold Z8.fwd at e⊢;split at e;rename_i c1;rw[if_pos c1];exact c1;rename_i c1;rw[if_neg c1];split at e;simp at e;rename_i c2;rw[if_neg c2];have a:r∈w.old:=Lm.1 c2;split at e;rename_i c3;rw[if_pos c3];exact La (f.rt.t r a c3);rename_i c3;rw[if_neg c3];split at e;simp at e;rename_i c4;rw[if_neg c4];split at e;rename_i b;rw[if_pos b];exact La (Lo _ pq);rename_i b;rw[if_neg b];split at e;rename_i c;rw[if_pos c];exact La (Lo _ pq);rename_i c;rw[if_neg c];split at e;simp at e;rename_i d;rw[if_neg d];exact La (Lo _ pq)
def PR.fwd{B:Int}(hB:0<=B) w r(hw:Bh w)(hi:BM w)(h:PR B w)(e:(w.fwd r).2.2=0):PR B (w.fwd r).1:=by
 refine⟨h.tab.fwd hB w r hw hi e, ?_⟩;have hR:=h.rt;have hsp:=hw.sp;unfold Z8.fwd at e⊢;split at e;rename_i c1;rw[if_pos c1];exact hR;rename_i c1;rw[if_neg c1];have c1':r∉w.Q:=λh=>c1 (La h);split at e;simp at e;rename_i c2;rw[if_neg c2];have c2':r∈w.old:=Lm.1 c2;split at e;rename_i c3;rw[if_pos c3];exact hR;rename_i c3;rw[if_neg c3];split at e;simp at e;rename_i c4;rw[if_neg c4];have o:=Hg hw.C (Lm.1 c4);have hpl:=hw.pl;split at e;rename_i c5;rw[if_pos c5];simp only[ZR,decide_eq_true_eq]at c5;have ok:=h.tab.pt.b (Z4 w.j.C r).1.toNat oq;have oks:=ok.s;refine⟨?_,λx hx ht=>Ll _ (hR.t x hx ht)⟩;intro x hx;simp only[Z8.keep,O,Lq]at hx;rcases hx with hx|rfl;exact hR.q x hx;refine⟨Ls c5.2.2.1, ?_⟩;simp only[AB,Z8.keep];omega;rename_i c5;rw[if_neg c5];split at e;rename_i c6;rw[if_pos c6];refine⟨?_,λx hx ht=>Ll _ (hR.t x hx ht)⟩;have hlr:(Z4 w.j.C r).1.toNat<w.j.P.length:=by omega
 intro x hx;simp only[Z8.keep,O,Lq]at hx;have hxl:(Z4 w.j.C x).1.toNat<w.j.P.length:=by(rcases hx with hx|rfl;by_cases q:(Z4 w.j.C x).1.toNat<w.j.P.length;exact q;have:=(hR.q x hx).1;rw[AB,Lj,List.getElem?_eq_none oq]at this;simp only[Option.getD_none]at this;have d:(X:Z0).K=0:=rfl;omega;exact hlr)
 simp only[AB,Z8.keep,Z8.flip];rw[Ia hxl];split;refine⟨?_,rfl⟩;rcases hx with hx|rfl;exact(hR.q x hx).1;exact La c6;rename_i hne;rcases hx with hx|rfl;exact hR.q x hx;exact absurd ⟨Lr _,Nat.le_add_right _ _⟩ hne;rename_i c6;rw[if_neg c6];split at e;simp at e;rename_i c7;rw[if_neg c7];have c7':(w.place (Z1 (Zx w r))).2.2=Y:=by simpa using c7
 have hz:=hi.z r c2';have hp:Z1 (Zx w r)<=w.j.C.pw:=by(rw[HC];rcases hz with hz|hz;exact absurd hz c6;exact hz)
 exact hR.copy hw hi h.tab c2' c1' (HC w r) hp c7'
def PR.in1{B:Int}(m:0<=B) w(q j:Int)(i:Bh w)(hi:BM w)(h:PR B w)(g:q∈w.Q)(h0:0<=j)(h1:j<ZE w.j.W q)(e:(w.fwd (Z5 w.j.W (q+1+j)).1).2.2=0):PR B (w.in1 (q+1+j)):=by
 have b:=PR.fwd m w _ i hi h e;obtain⟨k,l⟩:=AZ i hi _ e;have a:=l.q q g;have n:=l.l q g;have hr:=k.r q (Lo _ a);have o:=k.s q (Lo _ a);have c:4096<=q+1+j/\q+1+j<4096+(w.fwd (Z5 w.j.W (q+1+j)).1).1.j.W.length:=by omega
 refine⟨b.tab.withWords _,b.rt.q,λx f d=>?_⟩;have el:Z5 (Cj (w.fwd (Z5 w.j.W (q+1+j)).1).1.j.W (q+1+j) (w.fwd (Z5 w.j.W (q+1+j)).1).2.1).1 x=Z5 (w.fwd (Z5 w.j.W (q+1+j)).1).1.j.W x:=by(refine Nf c λhc=>?_;have:=o x (Ll _ f) oq;omega)
 simp only[Z8.in1]at f d⊢;rw[el]at d⊢;exact b.rt.t x f d
def Z45{h:Heap}(f:Z9 h=Y):Rt (Zv h):=by refine⟨by simp[Zv],λx d a=>?_⟩;exfalso;simp only[Zv]at d a;obtain⟨j,j1,o⟩:=(Z4g f).1 x d;have e:=o.at';have k:=MN e;unfold Zc at e;rw[if_pos k.1,if_pos k.2.1]at e;split at e;rename_i g;have b:=g.2.2;unfold Z7 at b;split at b;rename_i c;have c1:=c.1;have c2:=c.2;unfold Zu at c1 c2;split at c2;unfold ZQ at a;split at a;simp only at c2;omega;simp at a;rename_i i;rw[if_neg i]at c1;simp at c1;simp at b;simp at e
def Zjo{B:Int}(hB:0<=B){h:Heap}{s:List Int}(hw:Zz h.W)(hp:Z9 h=Y)(hb:∀p∈h.P,p.N<=B)(e:(rootsF (Zv h) s).2.2=0)(e2:(Bz (rootsF (Zv h) s).1).2=0):PR B (B6 h s):=
 Z03 (PR B) (λw r hw hi h e=>PR.fwd hB w r hw hi h e) (λw q j hw hi h hq h0 h1 e=>PR.in1 hB w q j hw hi h hq h0 h1 e) (λw n h=>⟨⟨h.tab.pt,h.tab.tk,h.tab.pin⟩,h.rt.q,h.rt.t⟩) hw hp ⟨Z0Y hp hb,Z45 hp⟩ e e2
def Z7k(h:Heap):GP 9 [h.av] Y (bL (Le (h.W.length<=5000/\h.P.length<=100))) []:=by exact gF [] func9 (fO 4)<|Fl 5 wD h.W<|FlG 10 (Le ((h.W.length:Int)<=5000)) Z0.dv h.P<|Fa (by grind[]:(Le ((h.W.length:Int)<=5000)&&Le ((h.P.length:Int)<=100))=Le (h.W.length<=5000/\h.P.length<=100)) Fz
def Z7s w t n(b:Cu w n)(c:n<=1000000)(d:C9 t)(a:t.at'<=900000):LP 28 [w.av,.pt 0 0 0] [t.b] (w.step t).av [(w.stepT t).b]:=
 ZjS w t n b c d a
structure Ef (n:Int) (t u:Tape):Prop where
 l:u.l=t.l
 lo:t.at'<=u.at'
 hi:u.at'<=t.at'+n
def Ef.step t n:Ef 1 t (t.step n):=by have:=EN (t:=t) n;exact⟨this.2.2,this.1,this.2.1⟩
def Ef.trans{m n t u v}(a:Ef m t u)(b:Ef n u v):Ef (m+n) t v:=
 ⟨b.l.trans a.l,by have:=a.lo;have:=b.lo;omega,by have:=a.hi;have:=b.hi;omega⟩
def Ef.mono{m n:Int}{t u}(h:Ef m t u)(a:m<=n):Ef n t u:=⟨h.l,h.lo,by have:=h.hi;omega⟩
def ZjC t c:Ef 10 t (t.headerT c):=by
 have a:Ef 4 t (Gk t c):=by(unfold Gk;split;exact(((Ef.step t _).trans (Ef.step _ 12)).trans (Ef.step _ _)).mono dd;exact((Ef.step t _).trans (Ef.step _ 12)).mono dd)
 unfold Tape.headerT;repeat' split
 exact(a.trans (Ef.step _ 4)).mono dd;exact(a.trans (Ef.step _ 4)).mono dd;exact((a.trans (Ef.step _ 4)).trans (Ef.step _ _)).mono dd
def ZbF(w:Zg) t:Ef 10 t (w.linkT t):=by have a:Ef 1 t (w.pickT t):=Ef.step _ _;have b:Ef 1 (w.pickT t) (w.pickT (w.pickT t)):=Ef.step _ _;unfold Zg.linkT;split;exact((((a.trans b).trans (Ef.step _ 8))).trans (Ef.step _ _)).mono dd;exact((a.trans b).trans (Ef.step _ 8)).mono dd
def Zfy(w:Zg) t:(w.stepT t).l=t.l/\t.at'+1<=(w.stepT t).at'/\(w.stepT t).at'<=t.at'+20:=by
 have e:(t.step 12).at'=t.at'+1/\(t.step 12).l=t.l:=by simp[Tape.step]
 have d:Ef 10 (t.step 12) (w.stepT t):=by
  unfold Zg.stepT;repeat' split
  exact ZjC _ _;exact ZbF _ _;unfold Zg.pinT;split;exact((Ef.step _ _).trans (Ef.step _ 2)).mono dd;exact(Ef.step _ _).mono dd;unfold Zg.dropT;split;exact((Ef.step _ _).trans (Ef.step _ 3)).mono dd;exact⟨rfl,by omega,by omega⟩;exact⟨rfl,by omega,by omega⟩;exact(Ef.step _ _).mono dd
 have a:=d.l;have b:=d.lo;have c:=d.hi;exact⟨a.trans e.2,by omega,by omega⟩
def Gw(w:Zg)(t:Tape):Nat->Zg×Tape|0=>(w,t)|k+1=>((Gw w t k).1.step (Gw w t k).2,(Gw w t k).1.stepT (Gw w t k).2)
def mkB(w:Zg)(t:Tape)(k:Nat):Bool:=Le (((Gw w t k).2.l.length:Int)<=(Gw w t k).2.at')
def mkN(w:Zg)(t:Tape):Nat:=((Lc (2+t.l.length)).find? (mkB w t)).getD 0
def A7(w:Zg)(t:Tape):Zg:=(Gw w t (mkN w t)).1
def Pk w t:∀k:Nat,(Gw w t k).2.l=t.l/\t.at'+k<=(Gw w t k).2.at'/\(Gw w t k).2.at'<=t.at'+20*k
 |0=>by simp[Gw]
 |k+1=>by
  have a:=Pk w t k;have:=Zfy (Gw w t k).1 (Gw w t k).2;refine⟨this.1.trans a.1, ?_, ?_⟩
  .simp only[Gw];omega
  .simp only[Gw];omega
def PG{w n}(h:Cu w n) t:∀k,n+k<=1000000->Cu (Gw w t k).1 (n+k)|0,_=>h|k+1,hk=>(PG h t k oq).step oq _
def Z1i w(t:Tape)(ht:0<=t.at'):mkB w t (mkN w t)=Y/\(∀j,j<mkN w t->mkB w t j=Lh)/\mkN w t<=t.l.length+1:=by
 cases hb:(Lc (2+t.l.length)).find? (mkB w t)with
 |none =>exfalso;have:=Z.1 hb t.l.length (M.2 oq);have u:=Pk w t t.l.length;simp only[mkB,decide_eq_true_eq,u.1]at this;omega
 |some k =>
  obtain⟨b,a,c⟩:=List.find?_range_eq_some.1 hb;have a:=M.1 a;have e:mkN w t=k:=by rw[mkN,hb];rfl
  rw[e];exact⟨b,λj d=>by simpa using c j d,by omega⟩
def Z0w(w:Zg)(t:Tape):Tg:=⟨tm 22 [(2,.pt 8002 0 0),(3,.pt 32012 0 0),(4,.pt 40004 0 0)],[(40004,.box 33 w.cells),(32012,t.b),(8002,.box 33 [nI 0,nI 0,.d (.sl 0 []),.d (.sl 0 []),nI 0,nI 0,.d (.sl 0 []),.d (.sl 0 [])])],60⟩
def Zic w t n(hm:Cu w n)(hn:n<=1000000)(ht:C9 t)(ha:t.at'<=900000)(hd:t.at'<t.l.length):CP (Zn f7 0) (Z0w w t).st .nrm (Z0w (w.step t) (w.stepT t)).st:=by exact sF [] []<|Fbq 16 [32012] (@Z0O t aa)<|Ftb 17 (!decide ((t.l.length:Int)<=t.at'))<|Fbr 20 [32012] (@Z7s w t n aa aa aa aa) Fz
def Zd5 w t(ht:C9 t)(hd:¬ t.at'<t.l.length):CP (Zn f7 0) (Z0w w t).st (.ext 0) (Tg.st ⟨tm 22 [(2,.pt 8002 0 0),(4,.pt 40004 0 0)],[(40004,.box 33 w.cells),(8002,.box 33 [nI 0,nI 0,.d (.sl 0 []),.d (.sl 0 []),nI 0,nI 0,.d (.sl 0 []),.d (.sl 0 [])])],60⟩):=by exact sF [] []<|Fbq 16 [32012] (@Z0O t aa)<|Ffb 17 (!decide ((t.l.length:Int)<=t.at')) Fz
def Zax w(t:Tape)(f:Cu w 0)(hl:t.l.length<=300)(e:0<=t.at')(h1:t.at'<=1000):CP (Zl f7 0) (Tg.st ⟨tm 22 [(2,.pt 8002 0 0),(3,.pt 32012 0 0),(4,.pt 40004 0 0)],[(40004,.box 33 w.cells),(32012,t.b),(8002,.box 33 [nI 0,nI 0,.d (.sl 0 []),.d (.sl 0 []),nI 0,nI 0,.d (.sl 0 []),.d (.sl 0 [])])],60⟩) .nrm (Tg.st ⟨tm 22 [(2,.pt 8002 0 0),(4,.pt 40004 0 0)],[(40004,.box 33 (A7 w t).cells),(8002,.box 33 [nI 0,nI 0,.d (.sl 0 []),.d (.sl 0 []),nI 0,nI 0,.d (.sl 0 []),.d (.sl 0 [])])],60⟩):=by
 have d:=Z1i w t e;have a:∀k,k<=mkN w t->C9 (Gw w t k).2/\(Gw w t k).2.at'<=900000:=λk b=>by(have u:=Pk w t k;refine⟨?_,by omega⟩;unfold C9;rw[u.1];omega)
 refine Bs (S:=λk=>(Z0w (Gw w t k).1 (Gw w t k).2).st) (mkN w t) kr (λk b=>?_) ?_;have c:=d.2.1 k b;simp only[mkB,decide_eq_false_iff_not]at c;have m:=PG f t k oq;exact Zic _ _ (0+k) m oq (a k oq).1 (a k oq).2 oq;have c:=d.1;simp only[mkB,decide_eq_true_eq]at c;exact Zd5 _ _ (a _ (Lr _)).1 oq
def Pf(w:Zg)(t:Tape):Tg:=⟨tm 22 [(2,.pt 8002 0 0),(3,.pt 24012 0 0),(4,.pt 32004 0 0)],[(32004,.box 33 w.cells),(24012,t.b),(8002,.box 33 [nI 0,nI 0,.d (.sl 0 []),.d (.sl 0 []),nI 0,nI 0,.d (.sl 0 []),.d (.sl 0 [])])],60⟩
def ZhE w t n(hm:Cu w n)(hn:n<=1000000)(ht:C9 t)(ha:t.at'<=900000)(hd:t.at'<t.l.length):CP (Zn f7 0) (Pf w t).st .nrm (Pf (w.step t) (w.stepT t)).st:=by exact sF [] []<|Fbq 16 [24012] (@Z0O t aa)<|Ftb 17 (!decide ((t.l.length:Int)<=t.at'))<|Fbr 20 [24012] (@Z7s w t n aa aa aa aa) Fz
def Zfs w t(ht:C9 t)(hd:¬ t.at'<t.l.length):CP (Zn f7 0) (Pf w t).st (.ext 0) (Tg.st ⟨tm 22 [(2,.pt 8002 0 0),(4,.pt 32004 0 0)],[(32004,.box 33 w.cells),(8002,.box 33 [nI 0,nI 0,.d (.sl 0 []),.d (.sl 0 []),nI 0,nI 0,.d (.sl 0 []),.d (.sl 0 [])])],60⟩):=by exact sF [] []<|Fbq 16 [24012] (@Z0O t aa)<|Ffb 17 (!decide ((t.l.length:Int)<=t.at')) Fz
def Zhl w(t:Tape)(f:Cu w 0)(hl:t.l.length<=300)(e:0<=t.at')(h1:t.at'<=1000):CP (Zl f7 0) (Tg.st ⟨tm 22 [(2,.pt 8002 0 0),(3,.pt 24012 0 0),(4,.pt 32004 0 0)],[(32004,.box 33 w.cells),(24012,t.b),(8002,.box 33 [nI 0,nI 0,.d (.sl 0 []),.d (.sl 0 []),nI 0,nI 0,.d (.sl 0 []),.d (.sl 0 [])])],60⟩) .nrm (Tg.st ⟨tm 22 [(2,.pt 8002 0 0),(4,.pt 32004 0 0)],[(32004,.box 33 (A7 w t).cells),(8002,.box 33 [nI 0,nI 0,.d (.sl 0 []),.d (.sl 0 []),nI 0,nI 0,.d (.sl 0 []),.d (.sl 0 [])])],60⟩):=by
 have d:=Z1i w t e;have a:∀k,k<=mkN w t->C9 (Gw w t k).2/\(Gw w t k).2.at'<=900000:=λk b=>by(have u:=Pk w t k;refine⟨?_,by omega⟩;unfold C9;rw[u.1];omega)
 refine Bs (S:=λk=>(Pf (Gw w t k).1 (Gw w t k).2).st) (mkN w t) kr (λk b=>?_) ?_;have c:=d.2.1 k b;simp only[mkB,decide_eq_false_iff_not]at c;have m:=PG f t k oq;exact ZhE _ _ (0+k) m oq (a k oq).1 (a k oq).2 oq;have c:=d.1;simp only[mkB,decide_eq_true_eq]at c;exact Zfs _ _ (a _ (Lr _)).1 oq
def HG(l:List Int):Tape:=⟨l.take 300,0⟩
def B1(l:List Int):Zg:=A7 (HG l).empty (((HG l).step 4).step 5)
def Z7Q(t:Tape):Cu t.empty 0:=by
 have c:=Z9c t;have hb:=BR.1 c;refine⟨?_,c, ?_, ?_, ?_, ?_, ?_, ?_,by simp[Tape.empty],by simp[Tape.empty]⟩;intro x b;simp only[Tape.empty,RA,LJ]at b;omega;simp only[Tape.empty,RA,Lt];omega;have:=HM c;simp only[Tape.empty,RA,Lt];omega;intro j a;simp only[Tape.empty,RA,Lt]at a⊢;have:(LK t.C.pg.toNat (⟨0,0,0,0⟩:Z0)).getD j X=⟨0,0,0,0⟩:=by simp[Lj,a]
 rw[this];simp;intro j a;simp only[Tape.empty,RA,Lt]at a⊢;have:(LK t.C.pg.toNat (⟨0,0,0,0⟩:Z0)).getD j X=⟨0,0,0,0⟩:=by simp[Lj,a]
 rw[this];simp;intro x b;simp[Tape.empty]at b;intro x b;simp[Tape.empty]at b
def Z8u l:(((HG l).step 4).step 5).l=l.take 300/\(((HG l).step 4).step 5).at'=2:=by simp[HG,Tape.step]
def Z9x l:Cu (B1 l) 1000:=by
 have e:=Z8u l;have hl:(((HG l).step 4).step 5).l.length<=300:=by rw[e.1];simp;omega
 have hk:=Z1i (HG l).empty (((HG l).step 4).step 5) oq;have m:=PG (Z7Q (HG l)) (((HG l).step 4).step 5) (mkN (HG l).empty (((HG l).step 4).step 5)) oq;have c:∀(w:Zg) (a b:Nat),Cu w a->a<=b->Cu w b:=λw a b h d =>
  ⟨h.W,h.hv,h.pl,h.L,λj f=>by have:=h.N j f;omega,h.us,h.G,h.E,by have:=h.sl;omega,by have:=h.wl;omega⟩
 exact c _ _ _ m oq
def Z5A(l:List Int)(hl:l.length<=140737488355328):GP 7 [ZG l] Lh (B1 l).av []:=by
 have e:=Z8u l;have d:=Z7Q (HG l);have b:(((HG l).step 4).step 5).l.length<=300:=by rw[e.1];simp;omega
 have c:=e.2;by_cases h:300<l.length;have f:C9 ⟨Ld (Lb 300) l,0⟩:=by simp[C9];omega
 have a:HG l=⟨Ld (Lb 300) l,0⟩:=rfl;unfold B1;rw[a]at d b c⊢;exact gF [] func7 []<|Fh 9 [.els (Lk iD (Ld (Lb 300) l))]<|Fl 6 iD l<|Ftb 7 (Le (300<(l.length:Int)))<|Fa (by(simp only[LF];omega):(0:Int)<=(300:Int)/\300<=(↑(Lk iD l).length:Int))<|Fa (ms:Ld (Lb 300) (Lk iD l)=Lk iD (Ld (Lb 300) l))<|Fbr 14 [32012] (@Z9G (Tape.mk (Ld (Lb 300) l) 0) aa (by(simp only[bs];omega)))<|Fu (@Zax ((Tape.mk (Ld (Lb 300) l) 0).empty) (((Tape.mk (Ld (Lb 300) l) 0).step 4).step 5) aa aa oq oq) Fz;have f:C9 ⟨l,0⟩:=by simp[C9];omega
 have a:HG l=⟨l,0⟩:=by rw[HG,List.take_of_length_le oq]
 unfold B1;rw[a]at d b c⊢;exact gF [] func7 []<|Fl 6 iD l<|Ffb 7 (Le (300<(l.length:Int)))<|Fbr 14 [24012] (@Z9G (Tape.mk l 0) aa (by(simp only[bs];omega)))<|Fu (@Zhl ((Tape.mk l 0).empty) (((Tape.mk l 0).step 4).step 5) aa aa oq oq) Fz
def Ej(ws:List Int)(a:Int):Zo:=(Z7 (Z5 ws a).1).1
def okA(ws:List Int)(a:Int):Prop:=(Z7 (Z5 ws a).1).2=Y
def kdA(ws:List Int)(a:Int):Int:=(Ej ws a).K
def kpA(ws:List Int)(a:Int):Int:=if kdA ws a=0 then 1 else ZE ws a+1
def B5(h:Heap)(i:Nat):Int:=4096+i*h.C.pw
def Gx(ws:List Int):Int->Int->List Int->Prop|a,b,[]=>a=b|a,b,x::l=>x=a/\okA ws a/\Gx ws (a+ZE ws a+1) b l
theorem NL ws a:Z1 (Ej ws a)=ZE ws a+1:=by unfold Ej;rw[Z1,if_pos (Mg _)];rfl
def Z0W{ws}:∀{l:List Int} {a b:Int},Gx ws a b l->a<=b
 |[],a,b,h=>by grind[Gx]
 |x::l,a,b,h=>by
  have:=Z0W h.2.2;have:=Ch ws a;omega
def I7{ws}{x:Int}:∀{l:List Int} {a b:Int},Gx ws a b l->x∈l->okA ws x/\a<=x/\x+ZE ws x<b
 |[],_,_,_,hx=>by simp at hx
 |y::l,a,b,h,hx=>by
  have hr:=Ch ws a;rcases Lp.1 hx with rfl|hx
  .have:=Z0W h.2.2;rw[h.1];exact⟨h.2.1,by omega,by omega⟩
  .have:=I7 h.2.2 hx;grind
def Z3S{ws}{x y:Int}:∀{l:List Int} {a b:Int},Gx ws a b l->x∈l->y∈l->x<y->x+ZE ws x<y
 |[],_,_,_,hx,_,_=>by simp at hx
 |z::l,a,b,h,hx,hy,hxy=>by
  have hr:=Ch ws a;have h1:=h.1;rcases Lp.1 hx with e|hx'
  .rcases Lp.1 hy with e2|hy'
   .omega
   .have:=(I7 h.2.2 hy').2.1;grind
  .rcases Lp.1 hy with e2|hy'
   .have:=(I7 h.2.2 hx').2.1;omega
   .exact Z3S h.2.2 hx' hy' hxy
def Z8G{ws}{m:List Int}{b c}:∀{l:List Int} {a:Int},Gx ws a b l->Gx ws b c m->Gx ws a c (l++m)|[],a,h,d=>by grind[Gx]|_::_,_,h,d=>⟨h.1,h.2.1,Z8G h.2.2 d⟩
def Tf{ws ws'}:∀{l:List Int} {a b:Int},Gx ws a b l->(∀x∈l,okA ws' x/\ZE ws' x=ZE ws x)->Gx ws' a b l
 |[],_,_,h,_=>h
 |x::l,a,b,h,hh=>by
  have c:=hh x pq;have d:=h.1;subst d;refine⟨rfl,c.1, ?_⟩;rw[c.2];exact Tf h.2.2 λy e=>hh y (List.mem_cons_of_mem _ e)
def Iq{ws ws' a}(h:(Z5 ws' a).1=(Z5 ws a).1):(okA ws a->okA ws' a)/\ZE ws' a=ZE ws a/\kdA ws' a=kdA ws a/\Ej ws' a=Ej ws a/\kpA ws' a=kpA ws a:=by grind[Ej,ZE,kdA,okA,kpA]
section
variable{h:Heap}(p:Z9 h=Y){i:Nat}(hi:i<h.P.length)(a:(h.P.getD i X).K=1)
include p hi a
theorem at_one{x:Int}(h1:B5 h i<=x)(h2:x+ZE h.W x<B5 h i+(h.P.getD i X).U)(o:okA h.W x):Zc h x=(Ej h.W x,0):=by
 have b:=B7 p;have pp:=Ew p hi;have r:=Ch h.W x;have e:Z4 h.C x=((i:Int),x-B5 h i,0):=by(rw[<-Dn (c:=h.C) (i:=i) (o:=x-B5 h i) b.1 oq oq];congr 1;unfold B5;omega)
 have s:Z1 (Z7 (Z5 h.W x).1).1=ZE h.W x+1:=NL h.W x;unfold Zc;rw[if_pos p,e];simp only[Li,s,if_true];rw[if_pos ⟨.inl a,by omega,o⟩,if_neg];rfl;omega
theorem Z2b:∀(f:Nat) (o:Int) (l:List Int),Gx h.W (B5 h i+o) (B5 h i+(h.P.getD i X).U) l->0<=o->(h.P.getD i X).U-o<=f->Ep h i f o=some l
 |0,o,[],ht,h0,hf=>rfl
 |0,o,x::l,ht,h0,hf=>by
  have:=Z0W ht.2.2;have:=Ch h.W (B5 h i+o);omega
 |f+1,o,[],ht,h0,hf=>by
  simp only[Gx]at ht;unfold Ep;rw[if_neg];show¬ o<(h.P.getD (i:Int).toNat X).U;grind
 |f+1,o,x::l,ht,h0,hf=>by
  have e:=ht.1;have m:=I7 ht (x:=x) pq;have po:=B7 p;have pp:=Ew p hi;have hr:=Ch h.W x;have b:pg h (i:Int)=h.P.getD i X:=by simp[pg]
  have ea:Bf h i o=x:=by grind[Bf,address,HT,B5]
  have c:=ht.2.2;rw[<-e]at c;have ih:=Z2b f (o+(ZE h.W x+1)) l (by grind) oq oq;grind[Ep,at_one,NL]
theorem ZcX{l}(t:Gx h.W (B5 h i) (B5 h i+(h.P.getD i X).U) l):Zh h i=(l,0):=by
 have pp:=Ew p hi;have b:pg h (i:Int)=h.P.getD i X:=by simp[pg]
 unfold Zh;rw[if_pos p,if_pos oq,b,if_neg oq,Z2b p hi a 256 0 l (by grind) oq oq]
end
structure Gt (h:Heap) (T:Nat->List Int):Prop where
 p:Z9 h=Y
 t1:∀i,i<h.P.length->(h.P.getD i X).K=1->Gx h.W (B5 h i) (B5 h i+(h.P.getD i X).U) (T i)
 t2:∀i,i<h.P.length->(h.P.getD i X).K=2->T i=[B5 h i]/\okA h.W (B5 h i)/\ZE h.W (B5 h i)+1=(h.P.getD i X).U
 t0:∀i x,x∈T i->i<h.P.length/\((h.P.getD i X).K=1\/(h.P.getD i X).K=2)
structure Gd (h:Heap) (T:Nat->List Int):Prop where
 p:Z9 h=Y
 sp:∀i,i<h.P.length->(h.P.getD i X).K≠0->(h.P.getD i X).S=h.S
 t1:∀i,i<h.P.length->(h.P.getD i X).K=1->Gx h.W (B5 h i) (B5 h i+(h.P.getD i X).U) (T i)/\∀x∈T i,ZE h.W x+1<=Z6 h.C
 t2:∀i,i<h.P.length->(h.P.getD i X).K=2->T i=[B5 h i]/\okA h.W (B5 h i)/\ZE h.W (B5 h i)+1=(h.P.getD i X).U/\kdA h.W (B5 h i)≠0
 t0:∀i x,x∈T i->i<h.P.length/\((h.P.getD i X).K=1\/(h.P.getD i X).K=2)
 d:∀a,(Z5 h.W a).1≠0->∃i x,x∈T i/\x<=a/\a<x+kpA h.W x
 q:∀i x k,x∈T i->kdA h.W x≠0->0<=k->k<ZE h.W x->BI (Ej h.W x) k=Y->(Z5 h.W (x+1+k)).1=0\/∃j,(Z5 h.W (x+1+k)).1∈T j/\kdA h.W (Z5 h.W (x+1+k)).1≠0
 cr:(crowd h.P:Int)<=h.C.pg/4
def Ob(h:Heap)(T:Nat->List Int)(x:Int):Prop:=∃j,x∈T j/\kdA h.W x≠0
section
variable{h:Heap}{T:Nat->List Int}(g:Gt h T)
include g
theorem Gt.on{i}{x:Int}(a:x∈T i):i<h.P.length/\((h.P.getD i X).K=1\/(h.P.getD i X).K=2)/\B5 h i<=x/\x<B5 h i+h.C.pw/\x+ZE h.W x<B5 h i+(h.P.getD i X).U/\okA h.W x/\((h.P.getD i X).K=2->x=B5 h i/\ZE h.W x+1=(h.P.getD i X).U):=by have t:=g.t0 i x a;have po:=B7 g.p;have pp:=Ew g.p t.1;have hr:=Ch h.W x;refine⟨t.1,t.2, ?_⟩;rcases t.2 with k|k;have m:=I7 (g.t1 i t.1 k) a;grind;have m:=g.t2 i t.1 k;grind
theorem Gt.ofx{i}{x:Int}(a:x∈T i):Z4 h.C x=((i:Int),x-B5 h i,0):=by have o:=g.on a;have b:=B7 g.p;have:=Dn (c:=h.C) (i:=i) (o:=x-B5 h i) b.1 oq oq;grind[B5]
theorem Gt.sep{i j}{x y:Int}(d:x∈T i)(e:y∈T j)(b:x<y):x+ZE h.W x<y:=by have a:=g.on d;have c:=g.on e;have r2:=Ch h.W y;have r1:=Ch h.W x;unfold B5 at a c;rcases LL i j with q|q|q;have:=Di g.p q c.1 a.2.1 oq;omega;subst q;rcases a.2.1 with k|k;exact Z3S (g.t1 i a.1 k) d e b;omega;have:=Di g.p q a.1 c.2.1 oq;omega
theorem Gt.free{i j:Nat}{x:Int}(hi:i<h.P.length)(hk:(h.P.getD i X).K=0\/(h.P.getD i X).K=1)(b:x∈T j):x+ZE h.W x<B5 h i+CX (h.P.getD i X)\/B5 h i+h.C.pw<=x:=by
 have o:=g.on b;have po:=B7 g.p;have pp:=Ew g.p hi;have a:0<=CX (h.P.getD i X):=by grind[CX]
 unfold B5 at o⊢;rcases LL i j with q|q|q;have:=Gb (i:=i) (j:=j) (pw:=h.C.pw) oq oq;omega;grind[CX];have:=Di g.p q hi o.2.1 oq;omega
theorem Gt.at'{i}{x:Int}(a:x∈T i):Zc h x=(Ej h.W x,0):=by have o:=g.on a;have r:=Ch h.W x;have s:Z1 (Z7 (Z5 h.W x).1).1=ZE h.W x+1:=NL h.W x;unfold Zc;rw[if_pos g.p,g.ofx a];simp only[Li,s,if_true];rw[if_pos ⟨o.2.1,by omega,o.2.2.2.2.2.1⟩,if_neg];rfl;omega
theorem Gt.page{i:Nat}(hi:i<h.P.length):Zh h i=(T i,0):=by
 have pp:=Ew g.p hi;have a:pg h (i:Int)=h.P.getD i X:=by simp[pg]
 unfold Zh;rw[if_pos g.p,if_pos oq,a];by_cases d:(h.P.getD i X).K=0\/(h.P.getD i X).K=3;rw[if_pos d];have:T i=[]:=List.eq_nil_iff_forall_not_mem.2 λx b=>by have:=(g.t0 i x b).2;omega
 rw[this];rw[if_neg d];by_cases c:(h.P.getD i X).K=1;have:=Z2b g.p hi c 256 0 (T i) (by rw[Int.add_zero];exact(g.t1 i hi c)) oq oq;rw[this];have f:(h.P.getD i X).K=2:=by omega
 have t:=g.t2 i hi f;have b:B5 h i∈T i:=by grind
 have on:=g.on b;have po:=B7 g.p;have hr:=Ch h.W (B5 h i);have e:Bf h i 0=B5 h i:=by grind[Bf,address,HT,B5]
 have:Ep h i 256 0=some (T i):=by(unfold Ep;rw[a,if_pos oq,e,g.at' b];simp only[if_true];grind)
 rw[this]
theorem Gt.starts:∀(f i:Nat),i+f=h.P.length->(Cn h f i).2=0/\∀x,x∈(Cn h f i).1↔∃j,i<=j/\x∈T j
 |0,i,hf=>by
  refine⟨rfl,λx=>⟨λa=>by grind[Cn], ?_⟩⟩;rintro⟨j,hj,a⟩;have:=(g.t0 j x a).1;omega
 |f+1,i,hf=>by
  obtain⟨i1,i2⟩:=Gt.starts f (i+1) oq;unfold Cn;rw[g.page (show i<h.P.length by omega)];grind
theorem Gt.objs:(Zt h).2=0/\∀x,x∈(Zt h).1↔Ob h T x:=by
 have s:=g.starts h.P.length 0 oq;have e:CH h=Cn h h.P.length 0:=by rw[CH,if_pos g.p]
 unfold Zt;rw[e];refine⟨s.1,λx=>?_⟩;rw[List.mem_filter,s.2];constructor;rintro⟨⟨j,_,hj⟩,hb⟩;have hb':(Zc h x).1.K≠0:=of_decide_eq_true hb;rw[g.at' hj]at hb';exact⟨j,hj,hb'⟩;rintro⟨j,hj,hb⟩;refine⟨⟨j,by omega,hj⟩,decide_eq_true ?_⟩;rw[g.at' hj];exact hb
end
section
variable{h:Heap}{T:Nat->List Int}(g:Gd h T)
include g
theorem Gd.gt:Gt h T:=⟨g.p,λi hi a=>(g.t1 i hi a).1,λi hi a=>⟨(g.t2 i hi a).1,(g.t2 i hi a).2.1,(g.t2 i hi a).2.2.1⟩,g.t0⟩
theorem Gd.on{i}{x:Int}(a:x∈T i):i<h.P.length/\((h.P.getD i X).K=1\/(h.P.getD i X).K=2)/\B5 h i<=x/\x<B5 h i+h.C.pw/\x+ZE h.W x<B5 h i+(h.P.getD i X).U/\okA h.W x/\((h.P.getD i X).K=2->x=B5 h i/\ZE h.W x+1=(h.P.getD i X).U):=g.gt.on a
theorem Gd.ofx{i}{x:Int}(a:x∈T i):Z4 h.C x=((i:Int),x-B5 h i,0):=g.gt.ofx a
theorem Gd.sep{i j}{x y:Int}(b:x∈T i)(c:y∈T j)(a:x<y):x+ZE h.W x<y:=g.gt.sep b c a
theorem Gd.free{i j:Nat}{x:Int}(hi:i<h.P.length)(a:(h.P.getD i X).K=0\/(h.P.getD i X).K=1)(b:x∈T j):x+ZE h.W x<B5 h i+CX (h.P.getD i X)\/B5 h i+h.C.pw<=x:=g.gt.free hi a b
theorem Gd.at'{i}{x:Int}(a:x∈T i):Zc h x=(Ej h.W x,0):=g.gt.at' a
theorem Gd.page{i:Nat}(hi:i<h.P.length):Zh h i=(T i,0):=g.gt.page hi
theorem Gd.objs:(Zt h).2=0/\∀x,x∈(Zt h).1↔Ob h T x:=g.gt.objs
end
def Z81{l:List Z0}:∀{i j:Nat},j<=i->(l.getD j X).K≠3->(∀m,j<m->m<=i->(l.getD m X).K=3)->B4 l i=j
 |0,j,h,_,_=>by grind[B4]
 |i+1,j,h,hk,hm=>by
  unfold B4;by_cases q:j=i+1
  .grind
  .rw[if_pos (hm (i+1) oq (Lr _))];exact Z81 oq hk λm a h2=>hm m a oq
theorem Z8W{ws:List Int}{a n:Int}{k:Nat}(hn:0<=n)(b:4096<=a/\a-4096+n<=ws.length)(hk:(k:Int)<n):(C4 ws a n).1.getD k X=(Z5 ws (a+k)).1:=by unfold C4 Z5;rw[if_neg oq,if_pos b,if_pos oq];simp only[Lj];rw[List.getElem?_take_of_lt oq,List.getElem?_drop,show(a-4096).toNat+k=(a+k-4096).toNat by omega];rfl
section
variable{h:Heap}{T:Nat->List Int}(g:Gd h T)
include g
theorem Gd.inw{i}{x:Int}(a:x∈T i):4096<=x/\x+ZE h.W x<4096+h.W.length:=by have o:=g.on a;have po:=B7 g.p;have u:=Oq g.p o.1 o.2.1;have h0:0<=(i:Int)*h.C.pw:=Ln oq oq;grind[B5]
theorem Gd.head{i j:Nat}{x a:Int}(l:x∈T j)(h1:x<=a)(h2:a<=x+ZE h.W x)(hi:i<h.P.length)(c:B5 h i<=a)(d:a<B5 h i+h.C.pw):B4 h.P i=j:=by
 have o:=g.on l;have po:=B7 g.p;unfold B5 at o c d;have b:j<=i:=by(by_cases q:j<=i;exact q;have:=Gb (i:=i) (j:=j) (pw:=h.C.pw) oq oq;omega)
 refine Z81 b oq λm n m2=>?_;have f:=Gb (i:=j) (j:=m) (pw:=h.C.pw) oq oq;have e:(m:Int)*h.C.pw<=i*h.C.pw:=Int.mul_le_mul_of_nonneg_right oq oq;rcases o.2.1 with k|k;have pp:=Ew g.p o.1;omega;by_cases q:(h.P.getD m X).K=3;exact q;have:=Di g.p n oq (La k) q;omega
theorem Gd.badd{i k:Nat}(hi:i<h.P.length)(hk:(k:Int)<h.C.pw):Hz h i (CQ h i) k=Lh:=by
 have po:=B7 g.p;unfold Hz;have f:Gz h i k=(Z5 h.W (B5 h i+k)).1:=by grind[Gz,address,HT,B5]
 rw[f];by_cases c:(Z5 h.W (B5 h i+k)).1=0;rw[c];simp;obtain⟨j,x,a,d,l⟩:=g.d _ c;have hr:=Ch h.W x;have n:kpA h.W x<=ZE h.W x+1:=by grind[kpA]
 have m:=g.head a d oq hi oq oq;have hb:(CQ h i).getD k X=Y:=by
  unfold CQ Cx;rw[m,g.page (g.on a).1];have b:k<h.C.pw.toNat:=by omega
  simp only[Lj,LC,LD b,LM,Lw,LB];refine⟨x,a, ?_⟩;unfold Dq;have e:GJ h x=kpA h.W x:=by(unfold GJ kpA;rw[g.at' a];rw[NL];rfl)
  rw[e,Lg,decide_eq_true_eq,decide_eq_true_eq];unfold B5 at d l;omega
 grind
theorem Gd.dirt{i:Nat}(hi:i<h.P.length):Eu h i (CQ h i)=0:=by
 have hl:=MY h i;unfold Eu;have:(Lc (CQ h i).length).find? (Hz h i (CQ h i))=Lf:=by(rw[Z];intro k a;have a:=M.1 a;rw[g.badd hi oq];simp)
 rw[this]
theorem Gd.cls{i}{x:Int}(a:x∈T i):Gv h i x=Lh:=by
 have o:=g.on a;unfold Gv;rw[g.at' a,NL,Li];rcases o.2.1 with k|k;have:=(g.t1 i o.1 k).2 x a;grind;have t:=g.t2 i o.1 k;have b:=(o.2.2.2.2.2.2 k).1;have:(Ej h.W x).K≠0:=by rw[b];exact t.2.2.2
 grind
theorem Gd.pageF{i:Nat}(hi:i<h.P.length):(pageF h i).fault=0:=by
 have hs:=g.sp i hi;have a:Cs h i (T i)=0:=by
  unfold Cs;have:(T i).find? (Gv h i)=Lf:=by(rw[Z];intro x b;rw[g.cls b];simp)
  rw[this];rfl
 unfold Go.Proofs.YtkmnngahjnkdmaaGreat.pageF;rw[if_neg oq,g.page hi,if_neg pq,if_neg (by rw[a];simp),if_neg (by rw[g.dirt hi];simp)]
theorem Gd.fields{i}{x:Int}(a:x∈T i)(c:kdA h.W x≠0):Zy h x=(Ej h.W x,0)/\((CG h x).1.length:Int)=ZE h.W x/\∀k:Nat,(k:Int)<ZE h.W x->(CG h x).1.getD k X=(Z5 h.W (x+1+k)).1:=by
 have n:=g.inw a;have r:=Ch h.W x;have b:Zy h x=(Ej h.W x,0):=by(unfold Zy;rw[if_pos g.p,if_neg oq,g.at' a,if_neg];rintro⟨_,q⟩;exact c q)
 have ef:CG h x=C4 h.W (x+1) (ZE h.W x):=by(unfold CG;rw[b,if_pos rfl];rfl)
 grind[C4,Z8W]
theorem Gd.good:Bl h=⟨0,0,0⟩:=by
 have n:=g.objs;have o:GA h=Lf:=by(unfold GA;rw[Z];intro i hi;have:=g.pageF (M.1 hi);simp[this])
 have p:ER h (Zt h).1=⟨0,0,0⟩:=by
  unfold ER;have:(Lc (Zt h).1.length).find? (λi=>(HI h (Zt h).1 i).isSome)=Lf:=by
   rw[Z];intro i hi;have l:(Zt h).1.getD i X∈(Zt h).1:=C1.2 ⟨i,M.1 hi,rfl⟩;have:HI h (Zt h).1 i=Lf:=by
    unfold HI;generalize (Zt h).1.getD i X=x at l⊢;obtain⟨j,d,b⟩:=(n.2 x).1 l;have f:=g.fields d b;rw[Z];intro k e;have e:=M.1 e;have a:(k:Int)<ZE h.W x:=by omega
    unfold N5;rw[f.1,f.2.2 k a];intro c;simp only[Lg,Lx,decide_eq_true_eq,decide_eq_false_iff_not]at c;rcases g.q j x k d b oq a c.1.1 with q|⟨m,r,s⟩;exact c.1.2 q;exact c.2 ((n.2 _).2 ⟨m,r,s⟩)
   rw[this];simp
  rw[this]
 unfold Bl;rw[if_pos g.p,o];simp only[p,ne_eq,not_true_eq_false,if_false];rw[if_neg];have:=g.cr;grind[crowd]
theorem Gd.refers{s:List Int}(hs:∀r∈s,r=0\/Ob h T r):ZB h s=Y:=by
 unfold ZB;rw[Lg,decide_eq_true_eq];refine⟨g.good, ?_⟩;have:(Lc s.length).find? (HF s (Zt h).1)=Lf:=by(rw[Z];intro i hi;have a:s.getD i X∈s:=C1.2 ⟨i,M.1 hi,rfl⟩;unfold HF;rw[decide_eq_true_eq];rintro⟨b,c⟩;rcases hs _ a with q|q;exact b q;exact c ((g.objs.2 _).2 q))
 grind
end
theorem Z7t{h:Heap}(a:Z9 h=Y){i:Nat}(hi:i<h.P.length){o:Int}(h0:0<=o)(hu:o<(h.P.getD i X).U)(hk:(h.P.getD i X).K=1\/(h.P.getD i X).K=2/\o=0)(e:(Zc h (Bf h i o)).2=0):Bf h i o=B5 h i+o/\okA h.W (B5 h i+o)/\(Zc h (Bf h i o)).1=Ej h.W (B5 h i+o)/\((h.P.getD i X).K=1->o+ZE h.W (B5 h i+o)+1<=(h.P.getD i X).U)/\((h.P.getD i X).K=2->ZE h.W (B5 h i+o)+1=(h.P.getD i X).U):=by
 have d:=B7 a;have pp:=Ew a hi;have ht:=BR.1 d.1;have ho:o<h.C.pw:=by omega
 have f:Bf h i o=B5 h i+o:=by grind[Bf,address,HT,B5]
 rw[f]at e⊢;have b:=Dn (c:=h.C) (i:=i) (o:=o) d.1 oq oq;rw[show 4096+((i:Int)*h.C.pw+o)=B5 h i+o by grind[B5]]at b;unfold Zc at e⊢;rw[if_pos a,b]at e⊢;simp only[Li,if_true]at e⊢;by_cases q:((h.P.getD i X).K=1\/(h.P.getD i X).K=2)/\o<(h.P.getD i X).U/\(Z7 (Z5 h.W (B5 h i+o)).1).2=Y;rw[if_pos q]at e⊢;have s:Z1 (Z7 (Z5 h.W (B5 h i+o)).1).1=ZE h.W (B5 h i+o)+1:=NL h.W _;split at e;simp at e;rename_i g;rw[if_neg g];refine⟨trivial,q.2.2,rfl, ?_, ?_⟩<;>omega;grind
def Z91{h:Heap}(c:Z9 h=Y){i:Nat}(hi:i<h.P.length)(b:(h.P.getD i X).K=1):∀(f:Nat) (o:Int) (l:List Int),Ep h i f o=some l->0<=o->o<=(h.P.getD i X).U->(h.P.getD i X).U-o<=f->Gx h.W (B5 h i+o) (B5 h i+(h.P.getD i X).U) l
 |0,o,l,e,h0,h1,hf=>by
  cases e;grind[Gx]
 |f+1,o,l,e,h0,h1,hf=>by
  have a:pg h (i:Int)=h.P.getD i X:=by simp[pg]
  unfold Ep at e;rw[a]at e;split at e
  .rename_i g;split at e
   .rename_i d;rw[if_neg oq]at e;obtain⟨t1,t2,k,t4,_⟩:=Z7t c hi h0 g (Ls b) d;simp only[Option.map_eq_some_iff]at e;obtain⟨j,e,rfl⟩:=e;have r:=Ch h.W (B5 h i+o);rw[k,NL]at e;have:=Z91 c hi b f _ j e oq oq oq;refine⟨t1,by omega, ?_⟩;grind
   .cases e
  grind[Gx]
def Z9H{h:Heap}(hg:Bl h=⟨0,0,0⟩):Gd h (λi:Nat=>(Zh h (i:Int)).1):=by
 have f:Z9 h=Y:=by grind[Bl]
 have po:=B7 f;have ht:=BR.1 po.1;rw[Bl,if_pos f]at hg;have a6:∀i,i<h.P.length->(pageF h i).fault=0:=by grind[GA]
 have u:GA h=Lf:=by grind[GA]
 rw[u]at hg;simp only at hg;have j:∀i,i<h.P.length->((h.P.getD i X).K≠0->(h.P.getD i X).S=h.S)/\(Zh h (i:Int)).2=0/\Cs h (i:Int) (Zh h (i:Int)).1=0/\Eu h i (CQ h i)=0:=by grind[pageF]
 have hT:∀i,i<h.P.length->((h.P.getD i X).K=1->Gx h.W (B5 h i) (B5 h i+(h.P.getD i X).U) (Zh h (i:Int)).1)/\((h.P.getD i X).K=2->(Zh h (i:Int)).1=[B5 h i]/\okA h.W (B5 h i)/\ZE h.W (B5 h i)+1=(h.P.getD i X).U):=by
  intro i hi;have q:=(j i hi).2.1;have pp:=Ew f hi;have e:pg h (i:Int)=h.P.getD i X:=by simp[pg]
  unfold Zh at q⊢;rw[if_pos f,if_pos oq,e]at q⊢;refine⟨λk=>?_,λk=>?_⟩;rw[if_neg oq]at q⊢;cases hw:Ep h i 256 0 with|none=>grind|some l =>have:=Z91 f hi k 256 0 l hw oq oq oq;grind
  rw[if_neg oq]at q⊢;cases hw:Ep h i 256 0 with|none=>grind|some l =>have p:=f;rw[HS]at p;have lg:=(p.2.2.2.2.2.lg i hi k).1;grind[need,Ep,Z7t]
 have w:∀i x,x∈(Zh h ((i:Nat):Int)).1->i<h.P.length/\((h.P.getD i X).K=1\/(h.P.getD i X).K=2):=by
  intro i x d;have e:pg h (i:Int)=h.P.getD i X:=by simp[pg]
  unfold Zh at d;rw[if_pos f,e]at d;split at d;grind[Ew];simp at d
 have g:Gt h (λi:Nat=>(Zh h (i:Int)).1):=⟨f,λi hi=>(hT i hi).1,λi hi=>(hT i hi).2,w⟩;have s:∀i x,x∈(Zh h ((i:Nat):Int)).1->Gv h i x=Lh:=by
  intro i x d;have c:=(j i (w i x d).1).2.2.1;unfold Cs at c;cases hb:(Zh h (i:Int)).1.find? (Gv h i)with|some y =>rw[hb]at c;simp only[Lw]at c;have hy:=List.mem_of_find?_eq_some hb;have o:=g.on (i:=i) hy;have:0<=(i:Int)*h.C.pw:=Ln oq oq;grind[B5]|none=>grind
 refine⟨f,λi hi=>(j i hi).1,λi hi k=>⟨(hT i hi).1 k,λx d=>?_⟩,λi hi k=>?_,w,λa ha=>?_,λi x k d hk h0 h1 a1=>?_, ?_⟩;have c:=s i x d;unfold Gv at c;rw[g.at' d,NL,Li,k]at c;grind;have t:=(hT i hi).2 k;refine⟨t.1,t.2.1,t.2.2, ?_⟩;have d:B5 h i∈(Zh h (i:Int)).1:=by grind
 have c:=s i _ d;unfold Gv at c;rw[g.at' d,Li,k]at c;simp at c;exact c;have a4:4096<=a/\a-4096<h.W.length:=by grind[Z5]
 have hL:=po.2;have q1:=Int.ediv_nonneg (a:=a-4096) (b:=h.C.pw) oq oq;have q2:(a-4096)/h.C.pw<h.C.pg:=Int.ediv_lt_of_lt_mul oq (by grind);have q3:=Lz (a-4096) (b:=h.C.pw) oq;have q4:=Ly (a-4096) (b:=h.C.pw) oq;have q5:=Int.mul_ediv_add_emod (a-4096) h.C.pw;obtain⟨i,hi⟩:=Lu q1;obtain⟨k,hk⟩:=Lu q3;rw[hi,hk,LA]at q5;rw[hi]at q2;rw[hk]at q4;have a2:i<h.P.length:=by omega
 have ea:a=B5 h i+k:=by grind[B5]
 have hd:=(j i a2).2.2.2;unfold Eu at hd;cases hb:(Lc (CQ h i).length).find? (Hz h i (CQ h i))with
 |some m=>grind
 |none =>
  have:=Z.1 hb k (M.2 (by grind[MY]));unfold Hz at this;have ew:Gz h i k=(Z5 h.W (B5 h i+k)).1:=by grind[Gz,address,HT]
  rw[ea]at ha;rw[ew,decide_eq_true ha,Bool.and_true]at this;have hu:(CQ h i).getD k X=Y:=by grind
  unfold CQ Cx at hu;have a3:k<h.C.pw.toNat:=by omega
  simp only[Lj,LC,LD a3,LM,Lw,LB]at hu;obtain⟨x,d,hc⟩:=hu;unfold Dq at hc;rw[Lg,decide_eq_true_eq,decide_eq_true_eq]at hc;have ek:GJ h x=kpA h.W x:=by(unfold GJ kpA;rw[g.at' d,NL];rfl)
  grind
 have a0:=(g.objs.2 x).2 ⟨i,d,hk⟩;have p:(ER h (Zt h).1).fault=0:=by grind
 obtain⟨m,hm,e⟩:=C1.1 a0;unfold ER at p;cases hb:(Lc (Zt h).1.length).find? (λi=>(HI h (Zt h).1 i).isSome)with
 |some y=>grind
 |none =>
  have:=Z.1 hb m (M.2 hm);unfold HI at this;rw[e]at this;have n:=g.on d;have r:=Ch h.W x;have pp:=Ew f n.1;have eg:Zy h x=(Ej h.W x,0):=by(unfold Zy;rw[if_pos f,if_neg (by have:0<=(i:Int)*h.C.pw:=Ln oq oq;grind[B5]),g.at' d,if_neg];rintro⟨_,q⟩;exact hk q)
  have ue:=Oq f n.1 n.2.1;have a5:0<=(i:Int)*h.C.pw:=Ln oq oq;have a7:4096<=x/\x+ZE h.W x<4096+h.W.length:=by grind[B5]
  have ef:CG h x=C4 h.W (x+1) (ZE h.W x):=by(unfold CG;rw[eg,if_pos rfl];rfl)
  have fl:((CG h x).1.length:Int)=ZE h.W x:=by(rw[ef];unfold C4;rw[if_neg oq,if_pos oq];simp only[List.length_take,List.length_drop];omega)
  obtain⟨k',rfl⟩:=Lu h0;have fk:(CG h x).1.getD k' X=(Z5 h.W (x+1+k')).1:=by grind[Z8W]
  have hn:(Lc (CG h x).1.length).find? (N5 (Zy h x).1 (CG h x).1 (Zt h).1)=Lf:=by grind
  have:=Z.1 hn k' (M.2 oq);unfold N5 at this;rw[eg,fk]at this;have v:BI (Ej h.W x) (k':Int)=Y:=a1;simp only[v,Bool.true_and,Lg,decide_eq_true_eq,Lx,decide_eq_false_iff_not,not_and,Lm]at this;by_cases z:(Z5 h.W (x+1+(k':Int))).1=0;exact Ls z;exact La ((g.objs.2 _).1 (this z))
 by_cases q:(ER h (Zt h).1).fault=0;rw[if_neg (by rw[q];simp)]at hg;split at hg;cases hg;rename_i c;show(BW h.P h.P.length:Int)<=_;omega;grind
theorem decode_encode{hd:Zo}(c:ZV hd=Y)(a:0<=hd.map/\hd.map<=4294967295):Z7 (Zu hd).1=(hd,Y):=by
 have b:=GC.1 c;have e1:Zu hd=(1+4*hd.K+16*hd.length+65536*hd.map,0):=by grind[Zu]
 have e2:EM (1+4*hd.K+16*hd.length+65536*hd.map)=hd:=by(obtain⟨k,l,m⟩:=hd;simp only at b a;simp only[EM,Zo.mk.injEq];omega)
 grind[Z7]
def Z1T(h:Heap)(T:Nat->List Int)(l:List Int):Prop:=∀r∈l,r=0\/Ob h T r
section
variable{h:Heap}{T:Nat->List Int}(g:Gd h T)
include g
theorem Gd.rt{s:List Int}(e:ZB h s=Y):Z1T h T s:=by unfold ZB at e;rw[Lg,Option.isNone_iff_eq_none,Z]at e;intro r a;obtain⟨i,hi,rfl⟩:=C1.1 a;have:=e.2 i (M.2 hi);unfold HF at this;rw[decide_eq_true_eq]at this;by_cases q:s.getD i X=0;exact .inl q;exact .inr ((g.objs.2 _).1 (Lm.1 λb=>this ⟨q,b⟩))
end
def Zgs(h:Heap)(s k:List Int):ZB h (s++k)=(ZB h s&&ZB h k):=by
 by_cases b:Bl h=⟨0,0,0⟩;have g:=Z9H b;cases q:(ZB h s&&ZB h k)with
 |true =>rw[Lg]at q;exact g.refers λx a=>(O.1 a).elim (g.rt q.1 x) (g.rt q.2 x)
 |false =>
  cases e:ZB h (s++k)with|false=>rfl|true =>have e:=g.rt e;rw[g.refers λx a=>e x (O.2 (.inl a)),g.refers λx a=>e x (O.2 (.inr a))]at q;cases q
 unfold ZB;simp[b]
def Z2L:∀l:List Z0,∃B:Int,0<=B/\∀p∈l,p.N<=B
 |[]=>⟨0,Int.le_refl 0,λp c=>by cases c⟩
 |p::l=>by
  obtain⟨B,h1,b⟩:=Z2L l;refine⟨max B p.N,by omega,λq a=>?_⟩;rcases Lp.1 a with rfl|a
  .omega
  .have:=b q a;omega
def Zfx{h s k}(e:¬(Zr h s k).2.2.2.2=0):∃n,Zr h s k=(ZH,[],[],Hb,n):=by unfold Zr at e⊢;split;split;split;split;simp_all;exact⟨_,rfl⟩;exact⟨_,rfl⟩;exact⟨_,rfl⟩;exact⟨_,rfl⟩
def Z1c{h:Heap}{s k:List Int}(f:Zz h.W)(sl:s.length<=1000)(kl:k.length<=1000):Zz (Zr h s k).1.W/\(Zr h s k).1.W.length<=1048576/\(Zr h s k).1.P.length<=1048576/\(Zr h s k).2.1.length<=1048576/\(Zr h s k).2.2.1.length<=1048576:=by obtain⟨B,b,d⟩:=Z2L h.P;by_cases e:(Zr h s k).2.2.2.2=0;have c:=Z5v b f d e;obtain⟨_,_,_,_,p5,_,p7,p8,_⟩:=B7 c.p1;have a1:=c.rl;have a2:=c.vl;exact⟨c.w,by omega,by omega,by omega,by omega⟩;obtain⟨n,a⟩:=Zfx e;rw[a];exact⟨Ai,by simp[ZH],by simp[ZH],by simp,by simp⟩
structure E8 where
 j:Heap
 G:List Int
 E:List Int
 addr:Int
 coll:Bool
 rep:GB
def E8.av(r:E8):AV:=.ag [nI r.j.C.pw,nI r.j.C.pg,Z2 r.j.W,ZJ r.j.P,nI r.j.S,nI r.j.B,Z2 r.G,Z2 r.E,uU r.addr,bL r.coll,nI r.rep.copied,nI r.rep.kept,nI r.rep.filled,nI r.rep.freed,nI r.rep.cleared,nI r.rep.steps]
def Gy:E8:=⟨ZH,[],[],0,Lh,Hb⟩
def BS(h:Heap)(s k:List Int)(hd:Zo):E8×Int:=
 if(Zd h hd).2.2≠0/\(Zd h hd).2.2≠3 then(Gy,(Zd h hd).2.2)
 else if ¬ (ZB h s=Y/\ZB h k=Y)then(Gy,19)
 else if(Zd h hd).2.2=0 then(⟨(Zd h hd).1,s,k,(Zd h hd).2.1,Lh,Hb⟩,0)
 else if(Zr h s k).2.2.2.2≠0 then(Gy,(Zr h s k).2.2.2.2)
 else if(Zd (Zr h s k).1 hd).2.2≠0 then(Gy,(Zd (Zr h s k).1 hd).2.2)
 else(⟨(Zd (Zr h s k).1 hd).1,(Zr h s k).2.1,(Zr h s k).2.2.1,(Zd (Zr h s k).1 hd).2.1,Y,(Zr h s k).2.2.2.1⟩,0)
end Go.Proofs.YtkmnngahjnkdmaaGreat
