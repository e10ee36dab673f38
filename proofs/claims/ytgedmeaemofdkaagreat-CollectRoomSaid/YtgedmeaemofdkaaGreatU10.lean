/-
 The statement CollectRoom: part 10.
 Conditions: none.
-/
import Derived.Test.YtgedmeaemofdkaaGreatU9
set_option maxRecDepth 100000
set_option maxHeartbeats 2000000
set_option linter.all false
open Inhabited renaming default->X
open Bool renaming true->Y,false->M,and_eq_true->LJ
open List renaming map->Z,getD_eq_getElem?_getD->Lb,replicate->Ld,mem_append_left->Le,length_map->Lf,mem_append->Lg,mem_singleton->Lk,find?_range_eq_some->Ll,length_set->Lm,mem_append_right->Ln,range->Lo,mem_range->Lr,find?_eq_none->Ls,getElem?_eq_none->Lt,mem_iff_getElem->Lu,mem_or_eq_of_mem_set->Lv,getElem?_drop->Ly,getElem?_eq_getElem->Lz,mem_of_mem_take->LA,append_nil->LC,map_set->LD,mem_cons->LF,mem_map->LG,mem_of_mem_drop->LH,mem_replicate->LI,length->LR,length_append->LS,map_append->LU,map_drop->LV,map_take->LW,not_mem_nil->LX,pairwise_cons->LY,pairwise_iff_getElem->LZ,set_set->L0
open Or renaming inr->O,inl->Lc
open Decidable renaming decide->La,not_not->Li
open Int renaming mul_comm->Lh,mul_nonneg->Lp,add_mul->Lw,mul_le_mul_of_nonneg_right->Lx,emod_lt_of_pos->LB,mul_ediv_add_emod->LK,natCast_mul->LL,sub_self->LM,tdiv_eq_ediv_of_nonneg->LN,toNat_natCast->LO,toNat_of_nonneg->LQ
open Nat renaming le_refl->Lj,add_mul->L1,le_trans->L2,mul_le_mul_right->L3,one_mul->L4
open Go.IntKind renaming i64->Lq
open Go.Proofs.Tryz
namespace Go.Proofs.YtgedmeaemofdkaaGreat
open Go.Sx
def Cy(w:Z6):Nat->Z6|0=>w|k+1=>(ZZ (Cy w k)).1
def RG(w:Z6):Nat:=1000002+w.old.length
def Ew(w:Z6)(k:Nat):Bool:=La ((ZZ (Cy w k)).2.2≠0\/(ZZ (Cy w k)).2.1=M)
def Bu(w:Z6):Z6×Int:=match (Lo (RG w)).find? (Ew w)with|none=>(w,0)|some k=>if(ZZ (Cy w k)).2.2=0 then((ZZ (Cy w k)).1,0)else(GQ,(ZZ (Cy w k)).2.2)
def Iw{w}(c:B7 w):∀k,(∀j,j<k->Ew w j=M)->B7 (Cy w k)/\(Cy w k).D=w.D+k
 |0,_=>⟨c,by simp[Cy]⟩
 |k+1,h=>by
  have d:=Iw c k (λj hj=>h j oq);have a:=h k oq;simp only[Ew,decide_eq_false_iff_not,not_or,Li]at a;have b:=PU d.1 a.1;refine⟨b.1, ?_⟩;have:=b.2 (by simpa using a.2);simp only[Cy];omega
def Ay{w}(a:B7 w):∃k,(Lo (RG w)).find? (Ew w)=some k:=by
 cases hb:(Lo (RG w)).find? (Ew w)with
 |some k=>exact⟨k,rfl⟩
 |none =>
  exfalso;have b:∀j,j<1000001->Ew w j=M:=λj hj=>by(have:=Ls.1 hb j (Lr.2 (by unfold RG;omega));simpa using this)
  have k:=Iw a 1000001 b;have h1:=k.1.sc;have h2:=k.1.mu;have h3:=a.sc;omega
def AP(w:Z6):Tg:=⟨tm 21 [(1,.pt 8001 0 0),(2,.pt 8002 0 0),(3,int 0)],[(8002,.box 138 zW),(8001,.box 138 w.cells)],60⟩
section
variable (w:Z6) (a:B7 w)
include a
theorem Z3J(e:(ZZ w).2.2=0)(m:(ZZ w).2.1=Y):CP (Zo f84 0) (AP w).st .nrm (AP (ZZ w).1).st:=by exact sF [] [] (Fc 9 (@Z1X w aa) (Ffb 14 ((ZZ w).2.2 != 0) (Ffb 19 (!(ZZ w).2.1) Fz)))
theorem Ze1(e:(ZZ w).2.2=0)(m:(ZZ w).2.1=M):CP (Zo f84 0) (AP w).st .ret (Tg.st ⟨tm 21 [(2,.pt 8002 0 0),(3,int 0)],[(8002,.box 138 (ZZ w).1.cells)],60⟩):=by exact sF [] [] (Fc 9 (@Z1X w aa) (Ffb 14 ((ZZ w).2.2 != 0) (Ftb 19 (!(ZZ w).2.1) Fz)))
theorem ZgX(e:¬ (ZZ w).2.2=0):CP (Zo f84 0) (AP w).st .ret (Tg.st ⟨tm 21 [(2,.pt 8002 0 0),(3,int (ZZ w).2.2)],[(8002,.box 138 zW)],60⟩):=by exact sF [] [] (Fc 9 (@Z1X w aa) (Ftb 14 ((ZZ w).2.2 != 0) Fz))
theorem ZjU(k:Nat)(h:(Lo (RG w)).find? (Ew w)=some k)(e:(ZZ (Cy w k)).2.2=0):CP (Zk f84 0) (Tg.st ⟨tm 21 [(1,.pt 8001 0 0),(2,.pt 8002 0 0),(3,int 0)],[(8002,.box 138 zW),(8001,.box 138 w.cells)],60⟩) .ret (Tg.st ⟨tm 21 [(2,.pt 8002 0 0),(3,int 0)],[(8002,.box 138 (ZZ (Cy w k)).1.cells)],60⟩):=by
 obtain⟨f,h2,g⟩:=Ll.1 h;have b:∀j,j<k->Ew w j=M:=λj c=>by simpa using g j c
 have m:(ZZ (Cy w k)).2.1=M:=by(simp only[Ew,decide_eq_true_eq,e]at f;simpa using f)
 exact G5 (S:=λk=>(AP (Cy w k)).st) k kr (λj c=>by
  have d:=b j c;simp only[Ew,decide_eq_false_iff_not,not_or,Li]at d;exact Z3J _ (Iw a j λi hi=>b i oq).1 d.1 (by simpa using d.2)) (Ze1 _ (Iw a k b).1 e m)
theorem Zhc(k:Nat)(g:(Lo (RG w)).find? (Ew w)=some k)(e:¬ (ZZ (Cy w k)).2.2=0):CP (Zk f84 0) (Tg.st ⟨tm 21 [(1,.pt 8001 0 0),(2,.pt 8002 0 0),(3,int 0)],[(8002,.box 138 zW),(8001,.box 138 w.cells)],60⟩) .ret (Tg.st ⟨tm 21 [(2,.pt 8002 0 0),(3,int (ZZ (Cy w k)).2.2)],[(8002,.box 138 zW)],60⟩):=by
 obtain⟨h1,h2,f⟩:=Ll.1 g;have b:∀j,j<k->Ew w j=M:=λj c=>by simpa using f j c
 exact G5 (S:=λk=>(AP (Cy w k)).st) k kr (λj c=>by
  have d:=b j c;simp only[Ew,decide_eq_false_iff_not,not_or,Li]at d;exact Z3J _ (Iw a j λi hi=>b i oq).1 d.1 (by simpa using d.2)) (ZgX _ (Iw a k b).1 e)
theorem Z1A:GP 84 [w.av] M (.tu [(Bu w).1.av,int (Bu w).2]) []:=by
 obtain⟨k,c⟩:=Ay a;by_cases e:(ZZ (Cy w k)).2.2=0;have b:Bu w=((ZZ (Cy w k)).1,0):=by rw[Bu,c];simp only[if_pos e]
 rw[b];exact gF [] func84 [] (Fu (@ZjU w aa k aa aa) Fz);have b:Bu w=(GQ,(ZZ (Cy w k)).2.2):=by rw[Bu,c];simp only[if_neg e]
 rw[b];exact gF [] func84 [] (Fu (@Zhc w aa k aa aa) (Fnl (Fnl (Fnl (Fnl (Fnl Fz))))))
omit a in
theorem Zci(a:B7 w)(e:(Bu w).2=0):B7 (Bu w).1:=by
 obtain⟨k,b⟩:=Ay a;obtain⟨h1,h2,f⟩:=Ll.1 b;have d:∀j,j<k->Ew w j=M:=λj g=>by simpa using f j g
 unfold Bu at e⊢;rw[b]at e⊢;simp only at e⊢;split at e;rename_i c;rw[if_pos c];exact(PU (Iw a k d).1 c).1;rename_i c;exact absurd e c
end
def Zl(ws:List Int)(a:Int):Int:=(Z7 (Z1 ws a).1).1.length
def Bm ws(a:Int):0<=Zl ws a/\Zl ws a<=255:=by have:=Gl.1 (Aq (Z1 ws a).1);exact⟨this.2.2.1,this.2.2.2.1⟩
def Ag{ws l:List Int}{a b:Int}(h:4096<=a/\a-4096+l.length<=ws.length)(hb:b<a\/a+l.length<=b):Z1 (ZS ws a l).1 b=Z1 ws b:=by
 unfold ZS;rw[if_pos h];have d:(Cg ws (a-4096).toNat l).length=ws.length:=N7 oq;unfold Z1;simp only[d];split;have:=Ac (ws:=ws) (l:=l) (i:=(a-4096).toNat) (k:=l.length) oq (Lj _) (b-4096).toNat
 rw[TE]at this;rw[Lb,Lb,this];by_cases c:(b-4096).toNat<(a-4096).toNat
 rw[if_pos c];rw[if_neg c,if_neg oq];rfl
def Sw{ws l:List Int}{a b:Int}(h:4096<=a/\a-4096+l.length<=ws.length)(hb:a<=b/\b<a+l.length):Z1 (ZS ws a l).1 b=(l.getD (b-a).toNat 0,0):=by
 unfold ZS;rw[if_pos h];have c:(Cg ws (a-4096).toNat l).length=ws.length:=N7 oq;unfold Z1;simp only[c];rw[if_pos oq];have:=Ac (ws:=ws) (l:=l) (i:=(a-4096).toNat) (k:=l.length) oq (Lj _) (b-4096).toNat
 rw[TE]at this;rw[Lb,Lb,this,if_neg oq,if_pos oq,show(b-4096).toNat-(a-4096).toNat=(b-a).toNat by omega]
def Ap{ws:List Int}{a v:Int}(h:4096<=a/\a<4096+ws.length):(BQ ws a v).1.length=ws.length:=by unfold BQ ZS;rw[if_pos qo];exact N7 qo
theorem Gg{ws:List Int}{a b v:Int}(h:4096<=a/\a<4096+ws.length)(hb:b≠a):Z1 (BQ ws a v).1 b=Z1 ws b:=
 Ag qo qo
theorem RV{ws:List Int}{a v:Int}(h:4096<=a/\a<4096+ws.length):Z1 (BQ ws a v).1 a=(v,0):=by have:=Sw (ws:=ws) (l:=[v]) (a:=a) (b:=a) qo qo;rw[BQ,this];simp
theorem RP{ws:List Int}{a b n:Int}(hn:1<=n)(ha:4096<=a/\a-4096+n<=ws.length)(e:4096<=b/\b-4096+n<=ws.length) :(moveA ws a b n).1.length=ws.length/\Z1 (moveA ws a b n).1 a=((Z1 ws b).1,0)/\∀x,x<a\/a+n<=x->Z1 (moveA ws a b n).1 x=Z1 ws x:=by
 have c:BX ws b n=((ws.drop (b-4096).toNat).take n.toNat,0):=by rw[BX,if_neg oq,if_pos e]
 have d:moveA ws a b n=ZS ws a ((ws.drop (b-4096).toNat).take n.toNat):=by rw[moveA,c];simp
 have hl:((ws.drop (b-4096).toNat).take n.toNat).length=n.toNat:=by simp;omega
 rw[d];refine⟨?_, ?_, ?_⟩;unfold ZS;rw[if_pos oq];exact N7 oq;rw[Sw oq oq];congr 1;unfold Z1;rw[if_pos oq];simp only[Lb,LM,Int.toNat_zero];rw[List.getElem?_take_of_lt oq,Ly];simp;intro x hx;exact Ag oq oq
def ZhI(a:Int):(Z7 (4*a+2)).1.length=0:=by unfold Z7;rw[if_neg];rfl;rintro⟨c,b⟩;unfold Zt at c b;split at b;simp only[EL]at b;omega;simp only at b;omega
def BY(p:Z0):Int:=if p.K=0 then 0 else p.U
structure Bt (w:Z6):Prop where
 L:(w.heap.W.length:Int)=w.heap.C.pw*w.heap.C.pg
 r:∀a∈w.old++w.Q,4096<=a/\a+Zl w.heap.W a<4096+w.heap.W.length
 s:∀a∈w.old++w.Q,∀b∈w.old++w.Q,a<b->a+Zl w.heap.W a<b
 f:∀i:Nat,i<w.heap.P.length->(w.heap.P.getD i X).K=0\/(i:Int)∈w.T->∀a∈w.old++w.Q,a+Zl w.heap.W a<4096+i*w.heap.C.pw+BY (w.heap.P.getD i X)\/4096+i*w.heap.C.pw+w.heap.C.pw<=a
 z:∀x∈w.old,(w.heap.P.getD (Z2 w.heap.C x).1.toNat X).K=2\/Zl w.heap.W x+1<=w.heap.C.pw
def Bt.withWords{w}(h:Bt w){l:List Int}(hl:l.length=w.heap.W.length)(d:∀a∈w.old++w.Q,Zl l a<=Zl w.heap.W a):Bt ⟨⟨w.heap.C,l,w.heap.P,w.heap.S,w.heap.B⟩,w.old,w.T,w.Q,w.D,w.rep⟩:=by refine⟨?_, ?_, ?_, ?_, ?_⟩;simp only[hl];exact h.L;intro a c;have e:=h.r a c;have f:=d a c;simp only[hl];omega;intro a c b k g;have e:=h.s a c b k g;have f:=d a c;simp only;omega;intro i hi m a c;have e:=h.f i hi m a c;have f:=d a c;simp only at *;omega;intro x j;have e:=h.z x j;have f:=d x (Le _ j);simp only at *;omega
def Bt.keep{w}(h:Bt w){r:Int}(g:r∈w.old):Bt (w.keep r):=by
 have d:∀a,a∈w.old++(w.Q++[r])->a∈w.old++w.Q:=by(intro a c;simp only[Lg,Lk]at c⊢;rcases c with c|c|rfl;exact Lc c;exact O c;exact Lc g)
 exact⟨h.L,λa c=>h.r a (d a c),λa c b e=>h.s a (d a c) b (d b e),λi hi f a c=>h.f i hi f a (d a c),h.z⟩
def Bt.flip{w}(h:Bt w) i:Bt (w.flip i):=by
 have e:∀j,((ZF w.heap.P i (ZB w.heap.P i) (1-w.heap.S)).getD j X).K=(w.heap.P.getD j X).K/\((ZF w.heap.P i (ZB w.heap.P i) (1-w.heap.S)).getD j X).U=(w.heap.P.getD j X).U:=by(intro j;by_cases b:j<w.heap.P.length;rw[Hb b];split;exact⟨rfl,rfl⟩;exact⟨rfl,rfl⟩;rw[Lb,Lb,Lt (by rw[H1];omega),Lt oq];exact⟨rfl,rfl⟩)
 refine⟨h.L,h.r,h.s, ?_, ?_⟩;intro j b d a c;simp only[Z6.flip,H1,BY,e]at b d c⊢;exact h.f j b d a c;intro x f;simp only[Z6.flip,e];exact h.z x f
def TP{w}{n:Int}(hw:B7 w)(hn:1<=n/\n<=w.heap.C.pw)(h:(w.place n).2.2=Y) :∃(i:Nat) (p:Z0) (t:List Int),i<w.heap.P.length/\((w.heap.P.getD i X).K=0\/((i:Int)∈w.T/\(w.heap.P.getD i X).K=1))/\p.K=1/\p.U=BY (w.heap.P.getD i X)+n/\BY (w.heap.P.getD i X)+n<=w.heap.C.pw/\0<=BY (w.heap.P.getD i X)/\(∀x∈t,x∈w.T\/x=(i:Int))/\(w.place n).2.1=4096+i*w.heap.C.pw+BY (w.heap.P.getD i X) /\
  (w.place n).1=⟨⟨w.heap.C,w.heap.W,w.heap.P.set i p,w.heap.S,w.heap.B⟩,w.old,t,w.Q,w.D,w.rep⟩:=by
 have hb:=BD.1 hw.C;have hpl:=hw.pl;by_cases hf:E8 w n;have e:w.place n=(⟨⟨w.heap.C,w.heap.W,Cs w.heap.P (ZG w).toNat n,w.heap.S,w.heap.B⟩,w.old,w.T,w.Q,w.D,w.rep⟩,4096+ZG w*w.heap.C.pw+(w.heap.P.getD (ZG w).toNat X).U,Y):=by rw[Z6.place,if_pos hf]
 unfold E8 at hf;have hm:=hw.tk _ (GJ hf.1);have hu:=hw.us (ZG w).toNat oq;have hk:=hm.2.2;have hup:BY (w.heap.P.getD (ZG w).toNat X)=(w.heap.P.getD (ZG w).toNat X).U:=by rw[BY,if_neg oq]
 have hc:(((ZG w).toNat:Nat):Int)=ZG w:=by omega
 refine⟨(ZG w).toNat,⟨(w.heap.P.getD (ZG w).toNat X).K,(w.heap.P.getD (ZG w).toNat X).S,(w.heap.P.getD (ZG w).toNat X).U+n,(w.heap.P.getD (ZG w).toNat X).N⟩,w.T,by omega,O ⟨by rw[hc];exact GJ hf.1,hk⟩,hk,by rw[hup],by rw[hup];omega,by rw[hup];omega,λx hx=>Lc hx, ?_, ?_⟩;rw[e,hup,hc];rw[e];rfl;by_cases hg:0<=ZN w;have e:w.place n=(⟨⟨w.heap.C,w.heap.W,Cs (ER w) (ZN w).toNat n,w.heap.S,w.heap.B⟩,w.old,w.T++[ZN w],w.Q,w.D,w.rep⟩,4096+ZN w*w.heap.C.pw,Y):=by rw[Z6.place,if_neg hf,if_pos hg]
 obtain⟨f1,f2,f3,f4⟩:=NT (h:=⟨w.heap.C,w.heap.W,w.heap.P,1-w.heap.S,w.heap.B⟩) (by have:=hw.sp;simp only;omega) hg;obtain⟨g1,g2,g3⟩:=HS hg;simp only at f1 f2 f3 f4;have hi:(ZN w).toNat<w.heap.P.length:=by unfold ZN;omega
 have hk:(w.heap.P.getD (ZN w).toNat X).K=0:=by(have:=RQ.1 g3 0 dd;simpa[ZN]using this)
 have hup:BY (w.heap.P.getD (ZN w).toNat X)=0:=by rw[BY,if_pos hk]
 have hc:(((ZN w).toNat:Nat):Int)=ZN w:=by omega
 have hq:Cs (ER w) (ZN w).toNat n=w.heap.P.set (ZN w).toNat ⟨1,1-w.heap.S,n,0⟩:=by
  unfold Cs;have e4:(ER w).getD (ZN w).toNat X=⟨1,1-w.heap.S,0,0⟩:=f4;rw[e4];have e1:ER w=w.heap.P.set (ZN w).toNat ⟨1,1-w.heap.S,0,0⟩:=by(have:ER w=ZK w.heap.P (ZN w).toNat 1 ⟨1,1-w.heap.S,0,0⟩ ⟨0,0,0,0⟩:=f1;rw[this,Z25 hi])
  rw[e1,L0];simp
 refine⟨(ZN w).toNat,⟨1,1-w.heap.S,n,0⟩,w.T++[ZN w],hi,Lc hk,rfl,by rw[hup];simp,by rw[hup];omega,by rw[hup];decide, ?_, ?_, ?_⟩;intro x hx;simp only[Lg,Lk]at hx;rcases hx with hx|rfl;exact Lc hx;exact O hc.symm;rw[e,hup,hc];simp;rw[e,hq];rw[Z6.place,if_neg hf,if_neg hg]at h;simp at h
def EF{i j pw:Int}(h:i<j)(a:0<=pw):i*pw+pw<=j*pw:=by have:=Lx (show i+1<=j by omega) a;rw[Lw,Int.one_mul]at this;exact this
def Bt.copy{w}(hw:B7 w)(h:Bt w){r n:Int}(hr:r∈w.old)(hn:n=Zl w.heap.W r+1)(hp:n<=w.heap.C.pw)(hc:(w.place n).2.2=Y):Bt ((w.place n).1.copy r (w.place n).2.1 n):=by
 have a9:=Bm w.heap.W r;obtain⟨i,p,t,z,k,h3,h4,h5,h6,h7,h8,e⟩:=TP hw ⟨by omega,hp⟩ hc;have hb:=BD.1 hw.C;have b1:=hw.pl;have hL:=h.L;have a7:(i:Int)*w.heap.C.pw+w.heap.C.pw<=w.heap.C.pw*w.heap.C.pg:=by(have:=EF (i:=i) (j:=w.heap.C.pg) (pw:=w.heap.C.pw) oq oq;rw[Lh w.heap.C.pw];exact this)
 have a6:0<=(i:Int)*w.heap.C.pw:=Lp oq oq;rw[e,h8];generalize hu:BY (w.heap.P.getD i X)=u at *;generalize ha:4096+(i:Int)*w.heap.C.pw+u=at';have b2:=h.r r (Le _ hr);have o:=h.f i z (by rcases k with k|k;exact Lc k;exact O k.1);rw[hu]at o;obtain⟨m1,m2,m3⟩:=RP (ws:=w.heap.W) (a:=at') (b:=r) (n:=n) oq oq oq;have a5:=o r (Le _ hr);have a1:r≠at':=by omega
 have g:4096<=r/\r<4096+(moveA w.heap.W at' r n).1.length:=by omega
 have k1:∀a∈w.old++w.Q,Zl (BQ (moveA w.heap.W at' r n).1 r (4*at'+2)).1 a<=Zl w.heap.W a:=by
  intro a c;have a4:=o a c;have a8:=Bm w.heap.W a;by_cases hk:a=r;subst hk;have:Zl (BQ (moveA w.heap.W at' a n).1 a (4*at'+2)).1 a=0:=by(unfold Zl;rw[RV g];exact ZhI at')
  omega;have:Zl (BQ (moveA w.heap.W at' r n).1 r (4*at'+2)).1 a=Zl w.heap.W a:=by(unfold Zl;rw[Gg g hk,m3 a oq])
  omega
 have k2:Zl (BQ (moveA w.heap.W at' r n).1 r (4*at'+2)).1 at'=n-1:=by
  have:Zl (BQ (moveA w.heap.W at' r n).1 r (4*at'+2)).1 at'=Zl w.heap.W r:=by(unfold Zl;rw[Gg g (Ne.symm a1),m2])
  omega
 have l:(BQ (moveA w.heap.W at' r n).1 r (4*at'+2)).1.length=w.heap.W.length:=by rw[Ap g,m1]
 have d:∀a,a∈w.old++(w.Q++[at'])->a∈w.old++w.Q\/a=at':=by(intro a c;simp only[Lg,Lk]at c⊢;rcases c with c|c|c;exact Lc (Lc c);exact Lc (O c);exact O c)
 refine⟨?_, ?_, ?_, ?_, ?_⟩;simp only[Z6.copy,l];exact hL;intro a c;simp only[Z6.copy,l]at c⊢;rcases d a c with c|rfl;have m:=h.r a c;have s:=k1 a c;omega;rw[k2];omega;intro a c b hB a0;simp only[Z6.copy]at c hB⊢;rcases d a c with hA'|e1<;>rcases d b hB with hB'|e2;have m:=h.s a hA' b hB' a0;have s:=k1 a hA';omega;have m:=o a hA';have s:=k1 a hA';omega;have m:=o b hB';have s:=Bm w.heap.W b;rw[e1,k2];omega;omega;intro j hj f a c;simp only[Z6.copy,Lm]at hj f c⊢;by_cases y:i=j;subst y;rw[Cn z,if_pos rfl];have a2:BY p=u+n:=by rw[BY,if_neg oq,h4]
 rw[a2];rcases d a c with c|rfl;have m:=o a c;have s:=k1 a c;omega;rw[k2];omega;rw[Cn z,if_neg y]at f⊢;have v:(w.heap.P.getD j X).K=0\/(j:Int)∈w.T:=by(rcases f with f|f;exact Lc f;rcases h7 _ f with q|q;exact O q;omega)
 rcases d a c with c|rfl;have m:=h.f j hj v a c;have s:=k1 a c;omega;rw[k2];have b3:0<=BY (w.heap.P.getD j X):=by(have:=hw.us j hj;unfold BY;split<;>omega)
 by_cases b0:i<j;have:=EF (i:=i) (j:=j) (pw:=w.heap.C.pw) oq oq;omega;have:=EF (i:=j) (j:=i) (pw:=w.heap.C.pw) oq oq;omega;intro x hx;simp only[Z6.copy]at hx⊢;have m:=h.z x hx;have s:=k1 x (Le _ hx);rw[Cn z];split;rename_i a3;rw[<-a3]at m;rcases k with k|k<;>omega;omega
structure Gs (w v:Z6):Prop where
 c:v.heap.C=w.heap.C
 o:v.old=w.old
 q:∀x∈w.Q,x∈v.Q
 l:∀x∈w.Q,Zl v.heap.W x=Zl w.heap.W x
def Gs.rfl' w:Gs w w:=⟨rfl,rfl,λ_ h=>h,λ_ _=>rfl⟩
def Gs.trans{u v w}(a:Gs u v)(b:Gs v w):Gs u w:=
 ⟨b.c.trans a.c,b.o.trans a.o,λx c=>b.q x (a.q x c),λx c=>(b.l x (a.q x c)).trans (a.l x c)⟩
def Gz w r:Z5 (Zu w r)=Zl w.heap.W r+1:=by have hv:ZR (Zu w r)=Y:=Aq _;rw[Z5,if_pos hv];rfl
def Zg6{w}(g:B7 w)(h:Bt w){r n:Int}(hr:r∈w.old)(hq:r∉w.Q)(hn:n=Zl w.heap.W r+1)(hp:n<=w.heap.C.pw)(o:(w.place n).2.2=Y):Gs w ((w.place n).1.copy r (w.place n).2.1 n):=by
 have z:=Bm w.heap.W r;obtain⟨i,p,t,l,c,h3,h4,h5,h6,h7,m,e⟩:=TP g ⟨by omega,hp⟩ o;have hb:=BD.1 g.C;have a1:=g.pl;have hL:=h.L;have y:(i:Int)*w.heap.C.pw+w.heap.C.pw<=w.heap.C.pw*w.heap.C.pg:=by(have:=EF (i:=i) (j:=w.heap.C.pg) (pw:=w.heap.C.pw) oq oq;rw[Lh w.heap.C.pw];exact this)
 have v:0<=(i:Int)*w.heap.C.pw:=Lp oq oq;rw[e,m];generalize hu:BY (w.heap.P.getD i X)=u at *;generalize ha:4096+(i:Int)*w.heap.C.pw+u=at';have a2:=h.r r (Le _ hr);have k:=h.f i l (by rcases c with c|c;exact Lc c;exact O c.1);rw[hu]at k;obtain⟨m1,m2,m3⟩:=RP (ws:=w.heap.W) (a:=at') (b:=r) (n:=n) oq oq oq;have f:4096<=r/\r<4096+(moveA w.heap.W at' r n).1.length:=by omega
 refine⟨rfl,rfl,λx d=>Le _ d, ?_⟩;intro x d;have s:=k x (Ln _ d);have a0:=Bm w.heap.W x;simp only[Z6.copy];unfold Zl at *;rw[Gg f (λq=>hq (q▸d)),m3 x oq]
def R2{w}(l:B7 w)(h:Bt w) r(e:(w.fwd r).2.2=0):Bt (w.fwd r).1/\Gs w (w.fwd r).1:=by
 unfold Z6.fwd at e⊢;split at e;rename_i c1;rw[if_pos c1];exact⟨h,Gs.rfl' w⟩;rename_i c1;rw[if_neg c1];have f:r∉w.Q:=λh=>c1 (O h);split at e;simp at e;rename_i c2;rw[if_neg c2];have a:r∈w.old:=Li.1 c2;split at e;rename_i c3;rw[if_pos c3];exact⟨h,Gs.rfl' w⟩;rename_i c3;rw[if_neg c3];split at e;simp at e;rename_i c4;rw[if_neg c4];split at e;rename_i g;rw[if_pos g];exact⟨h.keep a,⟨rfl,rfl,λx i=>Le _ i,λ_ _=>rfl⟩⟩;rename_i g;rw[if_neg g];split at e;rename_i d;rw[if_pos d];exact⟨(h.flip _).keep a,⟨rfl,rfl,λx i=>Le _ i,λ_ _=>rfl⟩⟩;rename_i d;rw[if_neg d];split at e;simp at e;rename_i j;rw[if_neg j];have b:(w.place (Z5 (Zu w r))).2.2=Y:=by simpa using j
 have c:=h.z r a;have k:Z5 (Zu w r)<=w.heap.C.pw:=by(rw[Gz];rcases c with c|c;exact absurd c d;exact c)
 exact⟨h.copy l a (Gz w r) k b,Zg6 l h a f (Gz w r) k b⟩
def Z6J{w}(n:B7 w)(h:Bt w){q j:Int}(k:q∈w.Q)(hj:0<=j/\j<Zl w.heap.W q)(e:(w.fwd (Z1 w.heap.W (q+1+j)).1).2.2=0):Bt (w.in1 (q+1+j))/\Gs w (w.in1 (q+1+j)):=by
 obtain⟨f,g⟩:=R2 n h _ e;have c:=g.q q k;have l:=g.l q k;have hr:=f.r q (Ln _ c);have m:=f.s q (Ln _ c);have b:4096<=q+1+j/\q+1+j<4096+(w.fwd (Z1 w.heap.W (q+1+j)).1).1.heap.W.length:=by omega
 have i:∀a∈(w.fwd (Z1 w.heap.W (q+1+j)).1).1.old++(w.fwd (Z1 w.heap.W (q+1+j)).1).1.Q,Zl (BQ (w.fwd (Z1 w.heap.W (q+1+j)).1).1.heap.W (q+1+j) (w.fwd (Z1 w.heap.W (q+1+j)).1).2.1).1 a=Zl (w.fwd (Z1 w.heap.W (q+1+j)).1).1.heap.W a:=by(intro a d;unfold Zl;rw[Gg b];intro hc;have:=m a d oq;omega)
 refine⟨f.withWords (Ap b) (λa d=>Int.le_of_eq (i a d)),g.trans ⟨rfl,rfl,λ_ h=>h,λx o=>i x (Ln _ o)⟩⟩
def SL(h:Zy):∀x∈ZC h,0<=x/\x<h.length:=by unfold ZC;split;intro x a;have:=Ph h _ x a;omega;simp
def Tk{w}(c:B7 w)(h:Bt w){q:Int}(b:q∈w.Q){l:List Int}(hl:∀x∈l,0<=x/\x<Zl w.heap.W q):∀k,k<=l.length->(∀j,j<k->CH w q l j=0)->Bt (Br w q l k)/\Gs w (Br w q l k)
 |0,_,_=>⟨h,Gs.rfl' w⟩
 |k+1,hk,he=>by
  have a:=Tk c h b hl k oq (λj e=>he j oq);have ok:=(Nf c q l k (λj e=>he j oq)).1;have d:=hl _ (Bs.2 ⟨k,by omega,rfl⟩);have:=Z6J ok a.1 (a.2.q q b) (j:=l.getD k X) ⟨d.1,by rw[a.2.l q b];exact d.2⟩ (he k oq);exact⟨this.1,a.2.trans this.2⟩
def Z0J{w}(c:B7 w)(h:Bt w)(e:(ZZ w).2.2=0):Bt (ZZ w).1/\Gs w (ZZ w).1:=by
 by_cases b:w.D<w.Q.length;have i:=c.sc;have g:Cb w∈w.Q:=Bs.2 ⟨w.D.toNat,by omega,rfl⟩;unfold ZZ at e⊢;rw[if_pos b]at e⊢;cases hb:(Lo (Bl w).length).find? (λk=>La (CH w (Cb w) (Bl w) k≠0))with
 |none =>
  have d:∀j,j<(Bl w).length->CH w (Cb w) (Bl w) j=0:=λj f=>by(have:=Ls.1 hb j (Lr.2 f);simpa using this)
  obtain⟨k1,a⟩:=Tk c h g (l:=Bl w) (SL (Zu w (Cb w))) (Bl w).length (Lj _) d;exact⟨⟨k1.L,k1.r,k1.s,k1.f,k1.z⟩,⟨a.c,a.o,a.q,a.l⟩⟩
 |some k =>simp only[hb]at e;have:=(Ll.1 hb).1;simp[e]at this
 have e:ZZ w=(w,M,0):=by rw[ZZ,if_neg b]
 rw[e];exact⟨h,Gs.rfl' w⟩
def D1{w}(b:B7 w)(h:Bt w):∀k,(∀j,j<k->Ew w j=M)->Bt (Cy w k)/\Gs w (Cy w k)
 |0,_=>⟨h,Gs.rfl' w⟩
 |k+1,hh=>by
  have c:=D1 b h k (λj d=>hh j oq);have ok:=(Iw b k (λj d=>hh j oq)).1;have a:=hh k oq;simp only[Ew,decide_eq_false_iff_not,not_or,Li]at a;have:=Z0J ok c.1 a.1;exact⟨this.1,c.2.trans this.2⟩
def Z8s{w}(a:B7 w)(h:Bt w)(e:(Bu w).2=0):Bt (Bu w).1/\Gs w (Bu w).1:=by
 obtain⟨k,d⟩:=Ay a;obtain⟨h1,h2,g⟩:=Ll.1 d;have b:∀j,j<k->Ew w j=M:=λj i=>by simpa using g j i
 unfold Bu at e⊢;rw[d]at e⊢;simp only at e⊢;split at e;rename_i c;rw[if_pos c];have f:=D1 a h k b;have i2:=Z0J (Iw a k b).1 f.1 c;exact⟨i2.1,f.2.trans i2.2⟩;rename_i c;exact absurd e c
def Pr{w roots}(a:B7 w)(h:Bt w):∀k,(∀j,j<k->CV w roots j=0)->Bt (rootsN w roots k).1/\Gs w (rootsN w roots k).1
 |0,_=>⟨h,Gs.rfl' w⟩
 |k+1,hh=>by
  have b:=Pr a h k (λj c=>hh j oq);have ok:=(RY (roots:=roots) a k (λj c=>hh j oq)).1;have:=R2 ok b.1 (roots.getD k X) (hh k oq);exact⟨this.1,b.2.trans this.2⟩
def RL{w roots}(b:B7 w)(h:Bt w)(e:(rootsF w roots).2.2=0):B7 (rootsF w roots).1/\Bt (rootsF w roots).1/\Gs w (rootsF w roots).1/\(∀x∈(rootsF w roots).2.1,0<=x/\x<=4294967296)/\(rootsF w roots).2.1.length=roots.length:=by
 unfold rootsF at e⊢;cases hb:(Lo roots.length).find? (λk=>La (CV w roots k≠0))with
 |none =>
  have a:∀j,j<roots.length->CV w roots j=0:=λj d=>by(have:=Ls.1 hb j (Lr.2 d);simpa using this)
  have k1:=RY (roots:=roots) b roots.length a;have c:=Pr (roots:=roots) b h roots.length a;exact⟨k1.1,c.1,c.2,k1.2.1,NM w roots _⟩
 |some k =>simp only[hb]at e;have:=(Ll.1 hb).1;simp[e]at this
def Z2a sp:∀(l:List Z0) (m:Nat),m<EH sp l->m<l.length/\(l.getD m X).K=3/\(l.getD m X).S=sp
 |[],m,h=>by simp[EH]at h
 |p::l,m,h=>by
  unfold EH at h;split at h
  .rename_i b;cases m with
   |zero=>exact⟨by simp,b⟩
   |succ m =>
    obtain⟨h1,a⟩:=Z2a sp l m oq;exact⟨by simp;omega,by simpa using a⟩
  .omega
def Mv{c n}(h:1<=need c n):n<=need c n*c.pw:=by unfold need at h⊢;split at h;rename_i a;rw[if_pos a];have hb:=BD.1 a.1;split at h;omega;rename_i d;rw[if_neg d];have e:=LK (n+c.pw-1) c.pw;have l:=LB (n+c.pw-1) (b:=c.pw) oq;rw[Lh]at e;omega;omega
def Z56{h:Heap}(i:Z8 h=Y){j:Nat}(f:j<h.P.length)(g:(h.P.getD j X).K=2) :1<=need h.C (h.P.getD j X).U/\∀m:Nat,1<=m->(m:Int)<need h.C (h.P.getD j X).U->j+m<h.P.length/\(h.P.getD (j+m) X).K=3/\(h.P.getD (j+m) X).S=(h.P.getD j X).S:=by
 have hi:=I5.1 i;obtain⟨d,_,e⟩:=Z4s oq hi.2.2.2.2.2 oq j oq f;have k:=e.2.2.2.2.2.2.2.2.2.1 g;refine⟨k.1, ?_⟩;intro m h1 h2;obtain⟨b,a⟩:=Z2a (h.P.getD j X).S (h.P.drop (j+1)) (m-1) oq;have c:j+m<h.P.length:=by simp at b;omega
 refine⟨c, ?_⟩;have:(h.P.drop (j+1)).getD (m-1) X=h.P.getD (j+m) X:=by(rw[Lb,Lb,Ly,show j+1+(m-1)=j+m by omega])
 rw[this]at a;exact a
def Z0A{h:Heap}(b:Z8 h=Y){j:Nat}(c:j<h.P.length)(a:(h.P.getD j X).K=1\/(h.P.getD j X).K=2):(j:Int)*h.C.pw+(h.P.getD j X).U<=h.C.pw*h.C.pg:=by
 have po:=B1 b;have pp:=Ea b c;rcases a with a|a;have:=EF (i:=j) (j:=h.C.pg) (pw:=h.C.pw) oq oq;rw[Lh h.C.pg]at this;omega;obtain⟨t1,t2⟩:=Z56 b c a;have nu:=Mv t1;have d:(j:Int)+need h.C (h.P.getD j X).U<=h.C.pg:=by(by_cases h1:need h.C (h.P.getD j X).U=1;omega;have:=(t2 (need h.C (h.P.getD j X).U-1).toNat oq oq).1;omega)
 have:=Lx d (show 0<=h.C.pw by omega);rw[Lw,Lh h.C.pg]at this;omega
def SQ{h:Heap}(c:Z8 h=Y){i j:Nat}(e:i<j)(hj:j<h.P.length)(a:(h.P.getD i X).K=1\/(h.P.getD i X).K=2)(b:(h.P.getD j X).K≠3):(i:Int)*h.C.pw+(h.P.getD i X).U<=j*h.C.pw:=by
 have po:=B1 c;have pp:=Ea c (show i<h.P.length by omega);rcases a with a|a;have:=EF (i:=i) (j:=j) (pw:=h.C.pw) oq oq;omega;obtain⟨t1,t2⟩:=Z56 c (show i<h.P.length by omega) a;have nu:=Mv t1;have f:(i:Int)+need h.C (h.P.getD i X).U<=j:=by(by_cases d:(i:Int)+need h.C (h.P.getD i X).U<=j;exact d;have:=(t2 (j-i) oq oq).2;rw[show i+(j-i)=j by omega]at this;exact absurd this.1 b)
 have:=Lx f (show 0<=h.C.pw by omega);rw[Lw]at this;omega
def M8{c:ZY}{i o:Int}(hv:Zs c=Y)(b:0<=i/\i<c.pg)(a:0<=o/\o<c.pw):Z2 c (4096+(i*c.pw+o))=(i,o,0):=by have hb:=BD.1 hv;have d:=EF (i:=i) (j:=c.pg) (pw:=c.pw) b.2 oq;have h0:0<=i*c.pw:=Lp b.1 oq;rw[Lh c.pg]at d;unfold Z2;rw[if_pos hv,if_pos oq,show 4096+(i*c.pw+o)-4096=o+i*c.pw by omega,Int.add_mul_ediv_right _ _ oq,Int.add_mul_emod_self_right,Int.ediv_eq_zero_of_lt a.1 a.2,Int.emod_eq_of_lt a.1 a.2];simp
structure OnP (h:Heap) (j:Nat) (a:Int):Prop where
 k:(h.P.getD j X).K=1\/(h.P.getD j X).K=2
 lo:4096+j*h.C.pw<=a
 hi:a<4096+j*h.C.pw+h.C.pw
 of:(Z2 h.C a).1=j
 e:a+Zl h.W a<4096+j*h.C.pw+(h.P.getD j X).U
 z:(h.P.getD j X).K=2\/Zl h.W a+1<=h.C.pw
 at':(Z9 h a).2=0
def Z5b{h:Heap}{j:Nat}(v:Z8 h=Y)(hj:j<h.P.length)(g:(h.P.getD j X).K=1\/(h.P.getD j X).K=2):∀(f:Nat) (o:Int) (l:List Int),0<=o->((h.P.getD j X).K=2->o=0)->Er h j f o=some l -> (∀a∈l,OnP h j a/\4096+j*h.C.pw+o<=a)/\l.Pairwise (λa b=>a+Zl h.W a<b)
 |0,o,l,_,_,e=>by simp[Er]at e;subst e;simp
 |f+1,o,l,z,h2,e=>by
  have po:=B1 v;have pp:=Ea v hj;unfold Er at e;have x:pg h (j:Int)=h.P.getD j X:=by simp[pg]
  rw[x]at e;split at e
  .rename_i ho;have t:o<h.C.pw:=by
    rcases g with g|g
    .omega
    .have:=h2 g;omega
   have k:Bb h j o=4096+(j*h.C.pw+o):=by
    unfold Bb address;rw[if_pos po.1,if_pos (HU.2 ⟨by omega,by omega,z,t⟩)]
   have y:=M8 (c:=h.C) (i:=j) (o:=o) po.1 oq ⟨z,t⟩;split at e
   .rename_i p
    have d:=p
    rw[k]at d;have u:Z5 (Z7 (Z1 h.W (4096+(j*h.C.pw+o))).1).1=Zl h.W (4096+(j*h.C.pw+o))+1:=by
     rw[Z5,if_pos (Aq _)];rfl
    have a1:=Bm h.W (4096+(j*h.C.pw+o));have n:((h.P.getD j X).K=1->o+(Zl h.W (4096+(j*h.C.pw+o))+1)<=(h.P.getD j X).U)/\((h.P.getD j X).K=2->Zl h.W (4096+(j*h.C.pw+o))+1=(h.P.getD j X).U)/\Z5 (Z9 h (4096+(j*h.C.pw+o))).1=Zl h.W (4096+(j*h.C.pw+o))+1:=by
     unfold Z9 at d⊢;rw[if_pos v]at d⊢;simp only[y,u,if_true,LO]at d⊢;split at d
     .rename_i g1;split at d
      .simp at d
      .rename_i g2;rw[if_pos g1,if_neg g2];refine⟨λa0=>?_,λr=>?_,u⟩
       .omega
       .omega
     .simp at d
    have s:OnP h j (Bb h j o):=by
     refine⟨g, ?_, ?_, ?_, ?_, ?_,p⟩
     .rw[k];omega
     .rw[k];omega
     .rw[k,y]
     .rw[k];rcases g with g|g
      .have:=n.1 g;omega
      .have:=n.2.1 g;have:=h2 g;omega
     .rw[k];rcases g with g|g
      .have:=n.1 g;omega
      .exact Lc g
    split at e
    .cases e;simp only[Lk,LY,LX,List.Pairwise.nil];refine⟨?_,by simp⟩;rintro a rfl;exact⟨s,by rw[k];omega⟩
    .rename_i r;rw[Option.map_eq_some_iff]at e;obtain⟨m,hm,rfl⟩:=e;rw[k,n.2.2]at hm;obtain⟨i1,i2⟩:=Z5b v hj g f _ m oq (λq=>absurd q r) hm;constructor
     .intro a w;rcases LF.1 w with rfl|w
      .exact⟨s,by rw[k];omega⟩
      .have:=i1 a w;exact⟨this.1,by omega⟩
     .rw[LY];refine⟨λb hb=>?_,i2⟩;have:=(i1 b hb).2;rw[k];omega
   .cases e
  .cases e;simp
def Z91{h:Heap}(e:Z8 h=Y):∀(f i:Nat),i+f=h.P.length->(Co h f i).1.Pairwise (λa b=>a+Zl h.W a<b)/\∀a∈(Co h f i).1,∃j,i<=j/\j<h.P.length/\OnP h j a
 |0,i,_=>by simp[Co]
 |f+1,i,hf=>by
  have k:=Z91 e f (i+1) oq;have d:(Zd h i).1.Pairwise (λa b=>a+Zl h.W a<b)/\∀a∈(Zd h i).1,OnP h i a:=by
   unfold Zd;rw[if_pos e,if_pos oq];have p:pg h (i:Int)=h.P.getD i X:=by simp[pg]
   rw[p];split
   .simp
   .rename_i hk;cases hw:Er h i 256 0 with
    |none=>simp
    |some l =>
     have pp:=Ea e (show i<h.P.length by omega);obtain⟨w1,w2⟩:=Z5b e (show i<h.P.length by omega) oq 256 0 l oq (λ_=>rfl) hw;exact⟨w2,λa c=>(w1 a c).1⟩
  unfold Co;split
  .split
   .simp only;constructor
    .rw[List.pairwise_append];refine⟨d.1,k.1,λa c b o=>?_⟩;have n:=d.2 a c;obtain⟨j,q,m,g⟩:=k.2 b o;have:=SQ e (show i<j by omega) m n.k (by have:=g.k;omega);have:=n.e;have:=g.lo;omega
    .intro a c;rcases Lg.1 c with c|c
     .exact⟨i,by omega,by omega,d.2 a c⟩
     .obtain⟨j,q,m,g⟩:=k.2 a c;exact⟨j,by omega,m,g⟩
   .simp
  .simp
def Z9c{h:Heap}(n:Z8 h=Y):(∀a∈(Zg h).1,∃j,j<h.P.length/\OnP h j a)/\∀a∈(Zg h).1,∀b∈(Zg h).1,a<b->a+Zl h.W a<b:=by
 have f:=Z91 n h.P.length 0 oq;have e:CC h=Co h h.P.length 0:=by rw[CC,if_pos n]
 rw[<-e]at f;have p:∀a∈(Zg h).1,∃j,j<h.P.length/\OnP h j a:=by(intro a d;obtain⟨j,_,u,o⟩:=f.2 a (List.mem_filter.1 d).1;exact⟨j,u,o⟩)
 refine⟨p, ?_⟩;have c:(Zg h).1.Pairwise (λa b=>a+Zl h.W a<b):=List.Pairwise.filter _ f.1;intro a d b s r;obtain⟨i,hi,g⟩:=Lu.1 d;obtain⟨k,m,l⟩:=Lu.1 s;have t:=Bm h.W b;rcases Nat.lt_trichotomy i k with q|q|q;have:=LZ.1 c i k hi m q;rw[g,l]at this;exact this;subst q;omega;have:=LZ.1 c k i m hi q;rw[g,l]at this;omega
def Rc{h:Heap}(d:Z8 h=Y):Bt (Zr h):=by
 have q:=B1 d;have e:=Z9c d;have l:∀j,((h.P.map (Zq (1-h.S))).getD j X).K=(h.P.getD j X).K/\((h.P.map (Zq (1-h.S))).getD j X).U=(h.P.getD j X).U:=by
  intro j;by_cases r:j<h.P.length;have:(h.P.map (Zq (1-h.S))).getD j X=Zq (1-h.S) (h.P.getD j X):=by simp[Lb,r]
  rw[this,Zq];split;exact⟨rfl,rfl⟩;exact⟨rfl,rfl⟩;rw[Lb,Lb,Lt qo,Lt oq];exact⟨rfl,rfl⟩
 refine⟨q.2.2.2.2.2.1, ?_, ?_, ?_, ?_⟩;intro a c;simp only[Zr,LC]at c⊢;obtain⟨j,m,o⟩:=e.1 a c;have h1:=o.lo;have h2:=o.e;have h3:=Z0A d m o.k;have h4:0<=(j:Int)*h.C.pw:=Lp oq oq;have h5:=q.2.2.2.2.2.1;omega;intro a c b n f;simp only[Zr,LC]at c n⊢;exact e.2 a c b n f;intro i hi g a c;simp only[Zr,LC,Lf,LX,or_false]at hi g c⊢;rw[(l i).1]at g;have k:BY ((h.P.map (Zq (1-h.S))).getD i X)=0:=by rw[BY,(l i).1,if_pos g]
 rw[k];obtain⟨j,m,o⟩:=e.1 a c;have s:=o.k;have u:i≠j:=by rintro rfl;omega
 by_cases t:i<j;have:=EF (i:=i) (j:=j) (pw:=h.C.pw) oq oq;have:=o.lo;omega;have:=SQ d (show j<i by omega) hi s oq;have:=o.e;omega;intro x p;simp only[Zr]at p⊢;obtain⟨j,m,o⟩:=e.1 x p;rw[o.of,LO,(l j).1];exact o.z
def NP{h:Heap}(o:Zx h.W)(g:Z8 h=Y):B7 (Zr h):=by
 have c:=B1 g;have ho:=SF h;have n:=Oo h;have b:∀j,j<h.P.length->0<=((h.P.map (Zq (1-h.S))).getD j X).U/\((h.P.map (Zq (1-h.S))).getD j X).U<=1024:=by
  intro j a;have pp:=Ea g a;have:(h.P.map (Zq (1-h.S))).getD j X=Zq (1-h.S) (h.P.getD j X):=by simp[Lb,a]
  rw[this,Zq];split;simp only;omega;omega
 refine⟨o,c.2.2.2.2.2.2.1,c.1,by simp only[Zr,Lf];exact c.2.2.2.2.2.2.2.1,c.2.2.2.2.2.2.2.2,by simp only[Zr];omega,n,by simp[Zr],by simp[Zr],by simp[Zr],by simpa only[Zr,Lf]using b, ?_,by simp[Zr],by simp[Zr],by simp[Zr],by simp[Zr]⟩;simp only[Zr,muW,List.length_nil];have h1:Sq (Zg h).1 []<=(Zg h).1.length:=List.length_filter_le _ _;have i:∀l:List Z0,(∀p∈l,Ra h.C.pw p<=64)->No h.C.pw l<=64*l.length:=by
  intro l;induction l with|nil=>intro _;simp[No]|cons p l r =>intro f;have:=r λq m=>f q (List.mem_cons_of_mem _ m);have:=f p (List.mem_cons_self);simp only[No,List.map_cons,List.sum_cons,List.length_cons]at *;omega
 have k:=i (h.P.map (Zq (1-h.S))) (by
  intro p d;obtain⟨j,a,e⟩:=Lu.1 d;have:=b j (by simpa using a);rw[show(h.P.map (Zq (1-h.S))).getD j X=p by simp only[Lb,Lz a,e];rfl]at this;unfold Ra;split<;>omega)
 simp only[Lf]at k;omega
structure Rw (c:ZY) (p:Z0):Prop where
 s:0<=p.S/\p.S<=1
 n:0<=p.N/\p.N<=2147483647
 k:0<=p.K/\p.K<=3
 k0:p.K=0->p.S=0/\p.U=0/\p.N=0
 k1:p.K=1->0<=p.U/\p.U<=c.pw
 k3:p.K=3->p.U=0/\p.N=0
structure PT (c:ZY) (l:List Z0):Prop where
 b:∀i,i<l.length->Rw c (l.getD i X)
 lg:∀i,i<l.length->(l.getD i X).K=2->1<=need c (l.getD i X).U/\∀m:Nat,1<=m->(m:Int)<need c (l.getD i X).U->i+m<l.length/\(l.getD (i+m) X).K=3/\(l.getD (i+m) X).S=(l.getD i X).S
 tl:∀i,i<l.length->(l.getD i X).K=3->∃j,j<i/\(l.getD j X).K=2/\(i:Int)<j+need c (l.getD j X).U
def Gy(c:ZY)(l:List Z0):Nat->Int|0=>0|i+1=>El c l i (Gy c l i)
def Z1x{c}{l:List Z0}:∀{f i:Nat},l.length<=i+f->(Gb c l f i (Gy c l i)=Y↔∀j,i<=j->j<l.length->G9 c l j (Gy c l j))
 |0,i,h=>by
  simp only[Gb,true_iff];intro j a b;omega
 |f+1,i,h=>by
  unfold Gb;by_cases hi:i<l.length
  .rw[if_pos hi,LJ,decide_eq_true_eq,show El c l i (Gy c l i)=Gy c l (i+1)from rfl,Z1x (f:=f) (i:=i+1) oq];constructor
   .rintro⟨a,b⟩ j e h4;by_cases g:j=i
    .subst g;exact a
    .exact b j oq h4
   .intro d;exact⟨d i (Lj _) hi,λj e h4=>d j oq h4⟩
  .rw[if_neg hi];simp only[true_iff];intro j a b;omega
def Z1O{c l}:∀i,0<=Gy c l i->0<Gy c l i->∃j,j<i/\(l.getD j X).K=2/\Gy c l i=j+need c (l.getD j X).U-i
 |0,_,h=>by simp[Gy]at h
 |i+1,h0,h=>by
  simp only[Gy,El]at h0 h⊢;split at h
  .rename_i a;refine⟨i,by omega,a, ?_⟩;rw[if_pos a];omega
  .rename_i a;have h1:1<Gy c l i:=by omega
   obtain⟨j,j1,b,j3⟩:=Z1O (c:=c) (l:=l) i oq oq;refine⟨j,by omega,b, ?_⟩;rw[if_neg a];omega
def Z3T(sp:Int):∀(l:List Z0) (k:Nat),(∀m,m<k->m<l.length/\(l.getD m X).K=3/\(l.getD m X).S=sp)->k<=EH sp l
 |_,0,_=>Nat.zero_le _
 |[],k+1,h=>by have:=(h 0 oq).1;simp at this
 |p::l,k+1,h=>by
  have a:=(h 0 oq).2;simp only[List.getD_cons_zero]at a;rw[EH,if_pos a];have:=Z3T sp l k λm hm=>by
   have:=h (m+1) oq;simpa using this
  omega
def PT.due{c l}(h:PT c l){i:Nat}(hi:i<l.length)(a:(l.getD i X).K=2):∀m:Nat,(m:Int)<need c (l.getD i X).U->Gy c l (i+1+m)=need c (l.getD i X).U-1-m
 |0,hm=>by
  show El c l i (Gy c l i)=_;rw[El,if_pos a];omega
 |m+1,hm=>by
  have d:=h.due hi a m oq;have b:=((h.lg i hi a).2 (m+1) oq hm).2.1;show El c l (i+1+m) (Gy c l (i+1+m))=_;rw[El,show i+1+m=i+(m+1) by omega,if_neg (by rw[b];decide),show i+(m+1)=i+1+m by omega,d];omega
def PK{c}{l:List Z0}(h:∀i,i<l.length->(l.getD i X).K=2->1<=need c (l.getD i X).U):∀i,i<=l.length->0<=Gy c l i
 |0,_=>Int.le_refl _
 |i+1,hi=>by
  have ih:=PK h i oq;simp only[Gy,El];split
  .rename_i a;have:=h i oq a;omega
  .omega
def Z3E{c l}:Gb c l l.length 0 0=Y↔PT c l:=by
 have e:=Z1x (c:=c) (l:=l) (f:=l.length) (i:=0) oq;rw[show Gy c l 0=0 from rfl]at e;rw[e];constructor;intro h;have p:∀i,i<l.length->Rw c (l.getD i X):=by(intro i hi;have q:=h i oq hi;unfold G9 at q;exact⟨⟨q.2.1,q.2.2.1⟩,⟨q.2.2.2.1,q.2.2.2.2.1⟩,⟨q.2.2.2.2.2.1,q.2.2.2.2.2.2.1⟩,q.2.2.2.2.2.2.2.1,q.2.2.2.2.2.2.2.2.1,q.2.2.2.2.2.2.2.2.2.2⟩)
 have t:∀i,i<l.length->(l.getD i X).K=2->1<=need c (l.getD i X).U/\∀m:Nat,1<=m->(m:Int)<need c (l.getD i X).U->i+m<l.length/\(l.getD (i+m) X).K=3/\(l.getD (i+m) X).S=(l.getD i X).S:=by
  intro i hi a;have q:=(h i oq hi).2.2.2.2.2.2.2.2.2.1 a;refine⟨q.1, ?_⟩;intro m h1 h2;obtain⟨n,g⟩:=Z2a (l.getD i X).S (l.drop (i+1)) (m-1) oq;have o:i+m<l.length:=by simp at n;omega
  have:(l.drop (i+1)).getD (m-1) X=l.getD (i+m) X:=by(rw[Lb,Lb,Ly,show i+1+(m-1)=i+m by omega])
  rw[this]at g;exact⟨o,g⟩
 refine⟨p,t, ?_⟩;intro i hi a;have q:=(h i oq hi).1.1 a;obtain⟨j,w,x,j3⟩:=Z1O (c:=c) (l:=l) i oq q;exact⟨j,w,x,by omega⟩;intro h j _ d;have b:=h.b j d;have s:=PK (λi hi a=>(h.lg i hi a).1) j oq;refine⟨⟨?_, ?_⟩,b.s.1,b.s.2,b.n.1,b.n.2,b.k.1,b.k.2,b.k0,b.k1, ?_,b.k3⟩;intro a;obtain⟨i,v,i2,i3⟩:=h.tl j d a;have:=h.due (show i<l.length by omega) i2 (j-i-1) oq;rw[show i+1+(j-i-1)=j by omega]at this;omega;intro u;obtain⟨i,v,i2,i3⟩:=Z1O j s u;have:=((h.lg i oq i2).2 (j-i) oq oq).2.1;rw[show i+(j-i)=j by omega]at this;exact this;intro a;have q:=h.lg j d a;refine⟨q.1, ?_⟩;have:=Z3T (l.getD j X).S (l.drop (j+1)) (need c (l.getD j X).U-1).toNat λm hm=>by
  have r:=q.2 (m+1) oq oq;have k:(l.drop (j+1)).getD m X=l.getD (j+(m+1)) X:=by(rw[Lb,Lb,Ly,show j+1+m=j+(m+1) by omega])
  rw[k];exact⟨by simp;omega,r.2⟩
 omega
def Gh{h:Heap}:Z8 h=Y↔Zs h.C=Y/\(h.W.length:Int)=h.C.pw*h.C.pg/\(h.P.length:Int)=h.C.pg/\(h.S=0\/h.S=1) /\ (h.B=-1\/(0<=h.B/\h.B<h.P.length/\(h.P.getD h.B.toNat X).K=1))/\PT h.C h.P:=by rw[I5,Z3E]
def PT.setPage{c l}(h:PT c l){i:Nat}(hi:i<l.length)(hk:(l.getD i X).K=0\/(l.getD i X).K=1){p}(s:Rw c p)(t:p.K=0\/p.K=1):PT c (l.set i p):=by refine⟨?_, ?_, ?_⟩;intro j f;rw[Lm]at f;rw[Cn hi];split;exact s;exact h.b j f;intro j f d;rw[Lm]at f;rw[Cn hi]at d⊢;by_cases b:i=j;rw[if_pos b]at d;omega;rw[if_neg b]at d⊢;have q:=h.lg j f d;refine⟨q.1,λm n o=>?_⟩;have r:=q.2 m n o;rw[Lm,Cn hi,if_neg (by rintro rfl;omega)];exact r;intro j f e;rw[Lm]at f;rw[Cn hi]at e;by_cases b:i=j;rw[if_pos b]at e;omega;rw[if_neg b]at e;obtain⟨a,a1,g,k⟩:=h.tl j f e;refine⟨a,a1, ?_⟩;rw[Cn hi,if_neg (by rintro rfl;omega)];exact⟨g,k⟩
def PT.mapPages{c l}(h:PT c l)(f:Z0->Z0)(u:∀p,Rw c p->Rw c (f p))(n:∀p,Rw c p->(f p).K=2->p.K=2/\(f p).U=p.U)(v:∀p,Rw c p->(f p).K=3->p.K=3)(h4:∀p q,Rw c p->Rw c q->p.K=2->q.K=3->q.S=p.S->((f p).K=2↔(f q).K=3)/\((f p).K=2->(f q).S=(f p).S)):PT c (l.map f):=by
 have e:∀j,j<l.length->(l.map f).getD j X=f (l.getD j X):=by(intro j b;simp[Lb,b])
 refine⟨?_, ?_, ?_⟩;intro j b;rw[Lf]at b;rw[e j b];exact u _ (h.b j b);intro j b d;rw[Lf]at b;rw[e j b]at d⊢;have q:=n _ (h.b j b) d;have r:=h.lg j b q.1;rw[q.2];refine⟨r.1,λm w x=>?_⟩;have s:=r.2 m w x;have t:=h4 _ _ (h.b j b) (h.b (j+m) s.1) q.1 s.2.1 s.2.2;rw[Lf,e _ s.1];exact⟨s.1,t.1.1 d,t.2 d⟩;intro j b d;rw[Lf]at b;rw[e j b]at d;have q:=v _ (h.b j b) d;obtain⟨a,a1,k,o⟩:=h.tl j b q;have i:a<l.length:=by omega
 have s:=(h.lg a i k).2 (j-a) oq oq;rw[show a+(j-a)=j by omega]at s;have t:=h4 _ _ (h.b a i) (h.b j b) k s.2.1 s.2.2;have g:=t.1.2 d;refine⟨a,a1, ?_⟩;rw[e a i];exact⟨g,by rw[(n _ (h.b a i) g).2];exact o⟩
def Z1V{l:List Z0}{i k:Nat}{p q}(hk:1<=k)(h:i+k<=l.length)(j:Nat):(ZK l i k p q).getD j X=if j=i then p else if i<j/\j<i+k then q else l.getD j X:=by have hl:(wr l (Ld k q) i k).length=l.length:=IA (by simpa using h) pq;unfold ZK;rw[Lb,List.getElem?_set];by_cases a:j=i;subst a;rw[if_pos rfl,if_pos rfl,if_pos oq];rfl;rw[if_neg (λe=>a e.symm),if_neg a,Ac (by simpa using h) pq];by_cases b:j<i;rw[if_pos b,if_neg oq,Lb];rw[if_neg b];by_cases c:j<i+k;rw[if_pos c,if_pos oq];simp[show j-i<k by omega];rw[if_neg c,if_neg oq,Lb]
def PT.took{c l}(h:PT c l){i k:Nat}{n sp:Int}(hk:1<=k)(hik:i+k<=l.length)(hf:∀j,j<k->(l.getD (i+j) X).K=0)(hn:need c n=k)(hs:sp=0\/sp=1):PT c (ZK l i k ⟨2,sp,n,0⟩ ⟨3,sp,0,0⟩):=by
 have hg:=Z1V (p:=⟨2,sp,n,0⟩) (q:=⟨3,sp,0,0⟩) hk hik;have hl:(ZK l i k ⟨2,sp,n,0⟩ ⟨3,sp,0,0⟩).length=l.length:=OL hik;have hf':∀j,i<=j->j<i+k->(l.getD j X).K=0:=λj h1 h2=>by(have:=hf (j-i) oq;rwa [show i+(j-i)=j by omega]at this)
 refine⟨?_, ?_, ?_⟩;intro j hj;rw[hl]at hj;rw[hg];split;exact⟨by simp only;omega,by simp,by simp,by simp,by simp,by simp⟩;split;exact⟨by simp only;omega,by simp,by simp,by simp,by simp,by simp⟩;exact h.b j hj;intro j hj hk2;rw[hl]at hj⊢;simp only[hg]at hk2⊢;by_cases hji:j=i;subst hji;simp only[if_pos]at hk2⊢;rw[hn];refine⟨by omega,λm h1 h2=>⟨by omega, ?_⟩⟩;rw[if_neg oq,if_pos oq];exact⟨rfl,rfl⟩;rw[if_neg hji]at hk2⊢;by_cases hr:i<j/\j<i+k;rw[if_pos hr]at hk2;simp at hk2;rw[if_neg hr]at hk2⊢;have q:=h.lg j hj hk2;refine⟨q.1,λm h1 h2=>?_⟩;have r:=q.2 m h1 h2;have hne:¬ (i<=j+m/\j+m<i+k):=λhc=>by(have:=hf' (j+m) hc.1 hc.2;omega)
 rw[if_neg oq,if_neg oq];exact r;intro j hj hk3;rw[hl]at hj;simp only[hg]at hk3⊢;by_cases hji:j=i;rw[if_pos hji]at hk3;simp at hk3;rw[if_neg hji]at hk3;by_cases hr:i<j/\j<i+k;refine⟨i,hr.1, ?_⟩;simp only[if_pos];refine⟨trivial, ?_⟩;rw[hn];omega;rw[if_neg hr]at hk3;obtain⟨a,a1,a2,a3⟩:=h.tl j hj hk3;have hne:¬ (i<=a/\a<i+k):=λhc=>by(have:=hf' a hc.1 hc.2;omega)
 refine⟨a,a1, ?_⟩;rw[if_neg oq,if_neg oq];exact⟨a2,a3⟩
def RU{l i}{n:Int}:Cs l i n=l.set i ⟨(l.getD i X).K,(l.getD i X).S,(l.getD i X).U+n,(l.getD i X).N⟩:=rfl
def A5{h:Heap}(hs:h.S=0\/h.S=1)(a:0<=first h.P 1)(n:Int):Cs (HD h) (first h.P 1).toNat n=h.P.set (first h.P 1).toNat ⟨1,h.S,n,0⟩/\(h.P.getD (first h.P 1).toNat X).K=0/\(first h.P 1).toNat<h.P.length:=by
 obtain⟨b,f2,f3,f4⟩:=NT hs a;obtain⟨g1,g2,c⟩:=HS a;have hi:(first h.P 1).toNat<h.P.length:=by omega
 refine⟨?_, ?_,hi⟩;rw[RU,f4,b,Z25 hi,L0];simp;have:=RQ.1 c 0 dd;simpa using this
structure OF (h:Heap) (n:Int) (h':Heap) (a:Int):Prop where
 pr:Z8 h'=Y
 c:h'.C=h.C
 w:h'.W=h.W
 l:h'.P.length=h.P.length
 sp:h'.S=h.S
 pin:∀p∈h'.P,p.N=0\/∃q∈h.P,p.N=q.N
 lo:4096<=a
 hi:a+n<=4096+h.W.length
def getD_in{l:List Z0}{i:Nat}(h:i<l.length):l.getD i X∈l:=by rw[Lb,Lz h];exact List.getElem_mem h
def Zbt{h:Heap}{n:Int}(hp:Z8 h=Y)(hn:1<=n/\n<=h.C.pw)(e:(Bf h n).2.2=Y):OF h n (Bf h n).1 (Bf h n).2.1:=by
 have hp':=hp;rw[Gh]at hp;obtain⟨p1,p2,p3,p4,p5,p6⟩:=hp;have hb:=BD.1 p1;by_cases hf:IL h n;have e7:Bf h n=(⟨h.C,h.W,Cs h.P h.B.toNat n,h.S,h.B⟩,4096+h.B*h.C.pw+(h.P.getD h.B.toNat X).U,Y):=by rw[Bf,if_pos hf]
 unfold IL at hf;have hbi:h.B.toNat<h.P.length:=by omega
 have hk:(h.P.getD h.B.toNat X).K=1:=by omega
 have ok:=p6.b h.B.toNat hbi;have u:=ok.k1 hk;have ha:=HY p1 (i:=h.B) oq oq;have hio:=EF (i:=h.B) (j:=h.C.pg) (pw:=h.C.pw) oq oq;rw[Lh h.C.pg]at hio;rw[e7];refine⟨?_,rfl,rfl,by simp[Cs],rfl, ?_,by simp only;omega,by simp only;omega⟩;rw[Gh];refine⟨p1,p2,by simp[Cs,p3],p4, ?_, ?_⟩;refine O ⟨hf.1,by simp[Cs];omega, ?_⟩;show((Cs h.P h.B.toNat n).getD h.B.toNat X).K=1;rw[RU,Cn hbi,if_pos rfl];exact hk;exact p6.setPage hbi (O hk) ⟨ok.s,ok.n,ok.k,λq=>by simp only at q;omega,λ_=>by simp only;omega,λq=>by simp only at q;omega⟩ (O hk);intro p hp;rcases Lv hp with hp|rfl;exact O ⟨p,hp,rfl⟩;exact O ⟨_,getD_in hbi,rfl⟩;by_cases hg:0<=first h.P 1/\(Bj h.P:Int)<CW h.C
 have e7:Bf h n=(⟨h.C,h.W,Cs (HD h) (first h.P 1).toNat n,h.S,first h.P 1⟩,4096+first h.P 1*h.C.pw+((HD h).getD (first h.P 1).toNat X).U,Y):=by rw[Bf,if_neg hf,if_pos hg]
 obtain⟨g1,g2,g3⟩:=A5 p4 hg.1 n;have g4:=congrArg Z0.U (NT p4 hg.1).2.2.2;simp only at g4;have ha:=HY p1 (i:=first h.P 1) oq oq;have hio:=EF (i:=first h.P 1) (j:=h.C.pg) (pw:=h.C.pw) oq oq;rw[Lh h.C.pg]at hio;rw[e7,g1,g4];refine⟨?_,rfl,rfl,by simp,rfl, ?_,by simp only;omega,by simp only;omega⟩;rw[Gh];refine⟨p1,p2,by simp[p3],p4, ?_, ?_⟩;refine O ⟨hg.1,by simp only[Lm];omega, ?_⟩;simp only;rw[Cn g3,if_pos rfl];exact p6.setPage g3 (Lc g2) ⟨by simp only;omega,by simp,by simp,by simp,λ_=>by simp only;omega,by simp⟩ (O rfl);intro p hp;rcases Lv hp with hp|rfl;exact O ⟨p,hp,rfl⟩;exact Lc rfl;rw[Bf,if_neg hf,if_neg hg]at e;simp at e
def Zav{h:Heap}{n}(a:Z8 h=Y)(k:1<=need h.C n)(e:(BH h n (need h.C n)).2.2=Y):OF h n (BH h n (need h.C n)).1 (BH h n (need h.C n)).2.1:=by
 have o:=a;rw[Gh]at a;obtain⟨p1,p2,p3,p4,c,q⟩:=a;have hb:=BD.1 p1;by_cases d:0<=first h.P (need h.C n)/\Bj h.P+need h.C n<=CW h.C
 obtain⟨g1,g2,g⟩:=HS d.1;have el:(GE h.C h.P (first h.P (need h.C n)) h.S n).1=ZK h.P (first h.P (need h.C n)).toNat (need h.C n).toNat ⟨2,h.S,n,0⟩ ⟨3,h.S,0,0⟩:=by(rw[GE,if_pos ⟨k,by omega⟩,EG,if_pos oq,if_pos g])
 have l:BH h n (need h.C n)=(⟨h.C,h.W,ZK h.P (first h.P (need h.C n)).toNat (need h.C n).toNat ⟨2,h.S,n,0⟩ ⟨3,h.S,0,0⟩,h.S,h.B⟩,4096+first h.P (need h.C n)*h.C.pw,Y):=by rw[BH,if_pos d,el]
 have i:∀j,j<(need h.C n).toNat->(h.P.getD ((first h.P (need h.C n)).toNat+j) X).K=0:=RQ.1 g;have b:(ZK h.P (first h.P (need h.C n)).toNat (need h.C n).toNat ⟨2,h.S,n,0⟩ ⟨3,h.S,0,0⟩).length=h.P.length:=OL oq;have hu:=Mv k;have h0:0<=first h.P (need h.C n)*h.C.pw:=Lp d.1 oq
 have f:=Lx (show first h.P (need h.C n)+need h.C n<=h.C.pg by omega) (show 0<=h.C.pw by omega);rw[Lw,Lh h.C.pg]at f;rw[l];refine⟨?_,rfl,rfl,b,rfl, ?_,by simp only;omega,by simp only;omega⟩;rw[Gh];refine⟨p1,p2,by simp only[b];exact p3,p4, ?_, ?_⟩;simp only[b];rcases c with c|c;exact Lc c;refine O ⟨c.1,c.2.1, ?_⟩;have m:¬ ((first h.P (need h.C n)).toNat<=h.B.toNat/\h.B.toNat<(first h.P (need h.C n)).toNat+(need h.C n).toNat):=λhc=>by(have:=i (h.B.toNat-(first h.P (need h.C n)).toNat) oq;rw[show(first h.P (need h.C n)).toNat+(h.B.toNat-(first h.P (need h.C n)).toNat)=h.B.toNat by omega]at this;omega)
 rw[Z1V oq oq,if_neg oq,if_neg oq];exact c.2.2;exact q.took oq oq i oq p4;intro p a;rcases Lv a with a|rfl;simp only[wr,Lg]at a;rcases a with(a|a)|a;exact O ⟨p,LA a,rfl⟩;have:=List.eq_of_mem_replicate (LA a);subst this;exact Lc rfl;exact O ⟨p,LH a,rfl⟩;exact Lc rfl;rw[BH,if_neg d]at e;simp at e
def Z6a{a:Zy}(hv:ZR a=Y)(b:0<=a.map/\a.map<=4294967295):Zx (BI a)/\((BI a).length:Int)=Z5 a:=by have hb:=ZfV hv b.1 b.2;constructor;intro x c;simp only[BI,LF,LI,Zt,if_pos hv]at c;rcases c with rfl|⟨_,rfl⟩<;>omega;rw[Z5,if_pos hv];simp[BI];omega
def O1{h:Heap}{a:Zy}(t:Zx h.W)(r:0<=a.map/\a.map<=4294967295)(e:(ZT h a).2.2=0) :Z8 h=Y/\EU h.C a=Y/\OF h (Z5 a) (Ch h a).1 (Ch h a).2.1/\(Ch h a).2.2=Y/\(ZT h a).2.1=(Ch h a).2.1/\(ZT h a).1={ (Ch h a).1 with W:=(ZS h.W (Ch h a).2.1 (BI a)).1}/\Z8 (ZT h a).1=Y/\Zx (ZT h a).1.W:=by
 unfold ZT at e;split at e;rename_i c1;split at e;rename_i c2;obtain⟨a1,o,a3,i,a5⟩:=DY c1.2;have po:=B1 c1.1;have c:OF h (Z5 a) (Ch h a).1 (Ch h a).2.1:=by
  by_cases f:0<need h.C (Z5 a);have k:Ch h a=BH h (Z5 a) (need h.C (Z5 a)):=by rw[Ch,if_pos f]
  rw[k]at c2⊢;exact Zav c1.1 oq c2;have k:Ch h a=Bf h (Z5 a):=by rw[Ch,if_neg f]
  rw[k]at c2⊢;refine Zbt c1.1 ⟨o, ?_⟩ c2;unfold need at f i;split at i;rename_i p;rw[if_pos p]at f;split at i;omega;rename_i l;rw[if_neg l]at f;have e:=LK (Z5 a+h.C.pw-1) h.C.pw;have u:(Z5 a+h.C.pw-1)/h.C.pw=0:=by omega
  rw[u]at e;have:=LB (Z5 a+h.C.pw-1) (b:=h.C.pw) oq;omega;omega
 have s:=Z6a a1 r;have m:4096<=(Ch h a).2.1/\(Ch h a).2.1-4096+(BI a).length<=h.W.length:=⟨c.lo,by have:=c.hi;omega⟩;have n:ZS h.W (Ch h a).2.1 (BI a)=(Cg h.W ((Ch h a).2.1-4096).toNat (BI a),0):=by rw[ZS,if_pos m]
 have d:(Cg h.W ((Ch h a).2.1-4096).toNat (BI a)).length=h.W.length:=N7 oq;have j:(BN (Ch h a).1 (Ch h a).2.1 a).1={ (Ch h a).1 with W:=(ZS h.W (Ch h a).2.1 (BI a)).1}:=by(rw[BN,if_pos ⟨c.pr,a1⟩,c.w,n];simp)
 have g:ZT h a=((BN (Ch h a).1 (Ch h a).2.1 a).1,(Ch h a).2.1,0):=by rw[ZT,if_pos c1,if_pos c2]
 refine⟨c1.1,c1.2,c,c2,by rw[g],by rw[g];exact j, ?_, ?_⟩;rw[g];simp only;rw[j,n];have q:=c.pr;rw[Gh]at q⊢;refine⟨q.1, ?_,q.2.2.1,q.2.2.2.1,q.2.2.2.2.1,q.2.2.2.2.2⟩;simp only[d];have:=q.2.1;rw[c.w]at this;exact this;rw[g];simp only;rw[j];exact Oj t s.1 _;simp at e;simp at e
def Z3C{h a}(e:(Z9 h a).2=0):4096<=a/\a+(Z9 h a).1.length<4096+h.W.length:=by
 have k:=MM e;have f:=B1 k.1;have o:=GM f.1 k.2.1;have m:(Z2 h.C a).1.toNat<h.P.length:=by omega
 have n:(((Z2 h.C a).1.toNat:Nat):Int)=(Z2 h.C a).1:=by omega
 have b:=e;unfold Z9 at b⊢;rw[if_pos k.1,if_pos k.2.1]at b⊢;split at b;rename_i c;split at b;simp at b;rename_i l;rw[if_pos c,if_neg l];have hv:ZR (Z7 (Z1 h.W a).1).1=Y:=Aq _;have hs:Z5 (Z7 (Z1 h.W a).1).1=(Z7 (Z1 h.W a).1).1.length+1:=by rw[Z5,if_pos hv]
 have p:=(Gl.1 hv).2.2.1;have ue:=Z0A k.1 m c.1;rw[n]at ue;have h0:0<=(Z2 h.C a).1*h.C.pw:=Lp o.1 oq;have d:=EF (i:=(Z2 h.C a).1) (j:=h.C.pg) (pw:=h.C.pw) o.2.1 oq;rw[Lh h.C.pg]at d;have hL:=f.2.2.2.2.2.1;refine⟨by omega, ?_⟩;simp only;rcases c.1 with g|g<;>omega;simp at b
def Z1d{h:Heap}{a i v:Int}(f:Zx h.W)(hv:0<=v/\v<=18446744073709551615)(e:(Zp h a).2=0)(hi:0<=i/\i<(Zp h a).1.length):CZ h a i v=({h with W:=(BQ h.W (a+1+i) v).1},0)/\Z8 (CZ h a i v).1=Y/\Zx (CZ h a i v).1.W:=by
 have g:=NG e;have k:=Z3C g.2.1;rw[<-g.1]at k;have b:4096<=a+1+i/\a+1+i<4096+h.W.length:=by omega
 have d:(G1 h a i).2=0:=by(unfold G1;rw[if_pos e,if_pos hi];unfold Z1;rw[if_pos b])
 have c:CZ h a i v=({h with W:=(BQ h.W (a+1+i) v).1},0):=by rw[CZ,if_pos d]
 refine⟨c, ?_, ?_⟩;rw[c];have q:=g.2.2.1;rw[Gh]at q⊢;refine⟨q.1, ?_,q.2.2.1,q.2.2.2.1,q.2.2.2.2.1,q.2.2.2.2.2⟩;simp only[Ap b];exact q.2.1;rw[c];exact Z0V f hv _
def C7(w:Z6)(r:Int):Int:=if r∈w.Q then r else(ZE (Z1 w.heap.W r).1).1
def Z8i(w:Z6)(r:Int)(b:Zx w.heap.W)(hl:w.heap.W.length<=4096)(hq:w.Q.length<=1048576)(h0:0<=r/\r<=18446744073709551615):GP 85 [w.av,u64 r] Y (u64 (C7 w r)) []:=by have h1:=G2 b r;rcases bb (La (r∈w.Q))with hc0|hc0<;>have a:=hc0<;>simp only[bs]at a;exact gF [] func85 [Y] (Fh 12 [.call Y (Sx.bool (La (r∈w.Q))) [],.br Y] (Fa (@Ec w.Q r aa) (Fa hc0 (Fa (by simp[C7, *]:r=C7 w r) Fz))));exact gF [] func85 [Y] (Fh 12 [.call Y (Sx.bool (La (r∈w.Q))) [],.br M] (Fa (@Ec w.Q r aa) (Fa hc0 (Fc 19 (@HF w.heap.W r oq aa) (Fc 24 (@Ao ((Z1 w.heap.W r).1) oq oq) (Fa (by simp[C7, *]:(ZE (Z1 w.heap.W r).1).1=C7 w r) Fz))))))
def ZjK(w:Z6)(a:Int)(b:Zx w.heap.W)(h1:w.heap.W.length<=4096)(h0:0<=a/\a<=18446744073709551615):GP 142 [w.av,u64 a] Y (Zu w a).av []:=by have h2:=G2 b a;exact gF [] func142 [] (Fc 14 (@HF w.heap.W a oq aa) (Fc 19 (@Al ((Z1 w.heap.W a).1) oq oq) Fz))
def GK(w:Z6)(x:Int):Z6:=if ZH w (Z2 w.heap.C x).1=Y/\x∉w.Q then⟨⟨w.heap.C,(ZS w.heap.W x (BI ⟨0,(Zu w x).length,0⟩)).1,w.heap.P,w.heap.S,w.heap.B⟩,w.old,w.T,w.Q,w.D,⟨w.rep.copied,w.rep.kept,w.rep.filled+1,w.rep.freed,w.rep.cleared,w.rep.steps⟩⟩else w
def Cl(w:Z6):Nat->Z6|0=>w|k+1=>GK (Cl w k) (w.old.getD k X)
def Ov(w:Z6)(i:Nat):Tg:=⟨tm 84 [(1,.pt 8001 0 0),(2,.pt 8002 0 0),(3,int i)],[(8002,.box 138 zW),(8001,.box 138 w.cells)],60⟩
structure FOk (w:Z6):Prop where
 W:Zx w.heap.W
 wl:w.heap.W.length<=4096
 pl:w.heap.P.length<=64
 ol:w.old.length<=524288
 o:∀x∈w.old,0<=x/\x<=8192
 tl:w.T.length<=1000000
 ql:w.Q.length<=1000000
def B7.fok{w}(h:B7 w):FOk w:=by have h1:=h.mu;have h2:=h.tl;have h3:=h.pl;have h4:=BD.1 h.C;exact⟨h.W,h.wl,by omega,h.ol,h.o,by omega,by omega⟩
def Mb{n:Int}(h:0<=n/\n<=255):Zt ⟨0,n,0⟩=(1+16*n,0):=by have hv:ZR ⟨0,n,0⟩=Y:=Gl.2 ⟨by simp,by simp,h.1,h.2,by simp⟩;rw[Zt,if_pos hv];simp
section
variable (w:Z6) (i:Nat) (a:FOk w) (hi:i<w.old.length) (hr:0<=w.rep.filled/\w.rep.filled<=1000000)
include a hi hr
theorem Ze7:CP (Zo f87 0) (Ov w i).st .nrm (Ov (GK w (w.old.getD i X)) (i+1)).st:=by
 have d:=a.W;have h2:=a.wl;have h3:=a.pl;have h4:=a.ol;have h5:=a.tl;have h6:=a.ql;have hx:=a.o _ (Bs.2 ⟨i,hi,rfl⟩);have hm:=IZ (Z1 w.heap.W (w.old.getD i X)).1 (G2 d _).1;have e:0<=(Zu w (w.old.getD i X)).length/\(Zu w (w.old.getD i X)).length<=255:=Bm w.heap.W (w.old.getD i X);have he:=Mb e;by_cases c1:ZH w (Z2 w.heap.C (w.old.getD i X)).1=Y;by_cases c2:w.old.getD i X∈w.Q;have b:GK w (w.old.getD i X)=w:=by rw[GK,if_neg (by rintro⟨_,q⟩;exact q c2)]
 rw[b];exact sF [] [] (FN 13 14 24 wdv w.old i (Fc 26 (@GG w.heap.C (w.old.getD i X) oq oq) (Fc 32 (@SR w ((Z2 w.heap.C (w.old.getD i X)).1) oq oq) (FeG 40 (!!ZH w (Z2 w.heap.C (w.old.getD i X)).1) wdv w.old (↑i) i (FcG 42 (!!ZH w (Z2 w.heap.C (w.old.getD i X)).1) (λc=>by(try simp only[bs]at c);exact@Ec w.Q (w.old.getD i X) oq) (Fts 43 (!ZH w (Z2 w.heap.C (w.old.getD i X)).1||La (w.old.getD i X∈w.Q)) (Fx 16 i Fz)))))));have b:GK w (w.old.getD i X)=⟨⟨w.heap.C,(ZS w.heap.W (w.old.getD i X) (BI ⟨0,(Zu w (w.old.getD i X)).length,0⟩)).1,w.heap.P,w.heap.S,w.heap.B⟩,w.old,w.T,w.Q,w.D,⟨w.rep.copied,w.rep.kept,w.rep.filled+1,w.rep.freed,w.rep.cleared,w.rep.steps⟩⟩:=by rw[GK,if_pos ⟨c1,c2⟩]
 rw[b];exact sF [] [] (Fh 71 [.els (Z wdv ([(Zt (Zy.mk 0 (Zu w (w.old.getD i X)).length 0)).1]++Ld (Zu w (w.old.getD i X)).length.toNat 0))] (FN 13 14 24 wdv w.old i (Fc 26 (@GG w.heap.C (w.old.getD i X) oq oq) (Fc 32 (@SR w ((Z2 w.heap.C (w.old.getD i X)).1) oq oq) (FeG 40 (!!ZH w (Z2 w.heap.C (w.old.getD i X)).1) wdv w.old (↑i) i (FcG 42 (!!ZH w (Z2 w.heap.C (w.old.getD i X)).1) (λc=>by(try simp only[bs]at c);exact@Ec w.Q (w.old.getD i X) oq) (Ffs 43 (!ZH w (Z2 w.heap.C (w.old.getD i X)).1||La (w.old.getD i X∈w.Q)) (Fek 48 wdv w.old (↑i) i (Fc 50 (@ZjK w (w.old.getD i X) aa aa oq) (Fc 55 (@DT (Zy.mk 0 (Zu w (w.old.getD i X)).length 0) (by(simp only[bs];omega))) (Fek 65 wdv w.old (↑i) i (Fs 68 (Z wdv [(Zt (Zy.mk 0 (Zu w (w.old.getD i X)).length 0)).1]) (Fa (by grind[BI]:0<=(Zu w (w.old.getD i X)).length/\(↑(Z wdv [(Zt (Zy.mk 0 (Zu w (w.old.getD i X)).length 0)).1]).length:Int)+(Zu w (w.old.getD i X)).length<=2^30) (Fa (by simp[BI,LW,LV,LD,LU,wdv,idv]:Z wdv [(Zt (Zy.mk 0 (Zu w (w.old.getD i X)).length 0)).1]++Ld (Zu w (w.old.getD i X)).length.toNat [B2 0]=Z wdv ([(Zt (Zy.mk 0 (Zu w (w.old.getD i X)).length 0)).1]++Ld (Zu w (w.old.getD i X)).length.toNat 0)) (Fc 72 (@MW w.heap.W ([(Zt (Zy.mk 0 (Zu w (w.old.getD i X)).length 0)).1]++Ld (Zu w (w.old.getD i X)).length.toNat 0) (w.old.getD i X) oq oq (by grind[BI])) (Fi 80 (w.rep.filled+1) (Fx 16 i Fz)))))))))))))))));have b:GK w (w.old.getD i X)=w:=by rw[GK,if_neg (by rintro⟨q,_⟩;exact c1 q)]
 rw[b];exact sF [] [] (FN 13 14 24 wdv w.old i (Fc 26 (@GG w.heap.C (w.old.getD i X) oq oq) (Fc 32 (@SR w ((Z2 w.heap.C (w.old.getD i X)).1) oq oq) (FeG 40 (!!ZH w (Z2 w.heap.C (w.old.getD i X)).1) wdv w.old (↑i) i (FcG 42 (!!ZH w (Z2 w.heap.C (w.old.getD i X)).1) (λc=>by(try simp only[bs]at c);exact@Ec w.Q (w.old.getD i X) oq) (Fts 43 (!ZH w (Z2 w.heap.C (w.old.getD i X)).1||La (w.old.getD i X∈w.Q)) (Fx 16 i Fz)))))))
end
def Zku w:CP (Zo f87 0) (Ov w w.old.length).st (.ext 0) (Tg.st ⟨tm 84 [(1,.pt 8001 0 0),(2,.pt 8002 0 0)],[(8002,.box 138 zW),(8001,.box 138 w.cells)],60⟩):=by exact sF [] [] (FO 13 14 wdv w.old Fz)
def Zkp w(x:Int):∃l n,GK w x=⟨⟨w.heap.C,l,w.heap.P,w.heap.S,w.heap.B⟩,w.old,w.T,w.Q,w.D,⟨w.rep.copied,w.rep.kept,n,w.rep.freed,w.rep.cleared,w.rep.steps⟩⟩/\l.length<=w.heap.W.length/\(Zx w.heap.W->Zx l)/\w.rep.filled<=n/\n<=w.rep.filled+1:=by unfold GK;split;refine⟨_,_,rfl,Z2b _ _ _,λh=>Oj h ?_ _,by omega,by omega⟩;intro y a;have b:0<=(Zu w x).length/\(Zu w x).length<=255:=Bm w.heap.W x;simp only[BI,LF,LI,Mb b]at a;rcases a with rfl|⟨_,rfl⟩<;>omega;exact⟨w.heap.W,w.rep.filled,rfl,Lj _,λh=>h,by omega,by omega⟩
def HP w(b:FOk w):∀k,FOk (Cl w k)/\(Cl w k).heap.C=w.heap.C/\(Cl w k).heap.P=w.heap.P/\(Cl w k).heap.S=w.heap.S/\(Cl w k).heap.B=w.heap.B/\(Cl w k).old=w.old/\(Cl w k).T=w.T/\(Cl w k).Q=w.Q/\(Cl w k).rep.freed=w.rep.freed/\(Cl w k).rep.cleared=w.rep.cleared/\w.rep.filled<=(Cl w k).rep.filled/\(Cl w k).rep.filled<=w.rep.filled+k
 |0=>⟨b,rfl,rfl,rfl,rfl,rfl,rfl,rfl,rfl,rfl,by simp[Cl],by simp[Cl]⟩
 |k+1=>by
  obtain⟨a,d,i2,i3,i4,h,i,j,i8,m,f,g⟩:=HP w b k;obtain⟨l,n,e,e1,c,e3,e4⟩:=Zkp (Cl w k) (w.old.getD k X);have:Cl w (k+1)=_:=e;rw[this];have hl:=a.wl;exact⟨⟨c a.W,by simp only;omega,a.pl,a.ol,a.o,a.tl,a.ql⟩,d,i2,i3,i4,h,i,j,i8,m,by simp only;omega,by simp only;omega⟩
section
variable (w:Z6) (a:FOk w) (hr:w.rep.filled=0)
include a hr
theorem ZaB:CP (Zk f87 0) (Tg.st ⟨tm 84 [(1,.pt 8001 0 0),(2,.pt 8002 0 0),(3,int 0)],[(8002,.box 138 zW),(8001,.box 138 w.cells)],60⟩) .nrm (Tg.st ⟨tm 84 [(1,.pt 8001 0 0),(2,.pt 8002 0 0)],[(8002,.box 138 zW),(8001,.box 138 (Cl w w.old.length).cells)],60⟩):=by have c:=a.ol;refine Bw (S:=λk=>(Ov (Cl w k) k).st) w.old.length kr (λk b=>?_) ?_;have h:=HP w a k;have:=Ze7 (Cl w k) k h.1 (by rw[h.2.2.2.2.2.1];exact b) oq;rw[h.2.2.2.2.2.1]at this;exact this;have h:=HP w a w.old.length;have:=Zku (Cl w w.old.length);rw[h.2.2.2.2.2.1]at this;exact this
theorem Z6n:GP 87 [w.av] M (Cl w w.old.length).av []:=by exact gF [] func87 [] (Fu (@ZaB w aa aa) Fz)
end
def C8(s:Int)(p:Z0):Prop:=p.K≠0/\p.S=s
instance (s:Int) (p:Z0):Decidable (C8 s p):=by unfold C8;infer_instance
def Bv(s:Int)(p:Z0):Z0:=if C8 s p then⟨0,0,0,0⟩else p
def Ee(pw s:Int)(l:List Z0)(ws:List Int):Nat->List Int|0=>ws|i+1=>if C8 s (l.getD i X)then Cg (Ee pw s l ws i) (i*pw.toNat) (Ld pw.toNat 0)else Ee pw s l ws i
def Ed(n s:Int)(l:List Z0):Nat->Int|0=>n|i+1=>if C8 s (l.getD i X)then Ed n s l i+1 else Ed n s l i
def DG(w:Z6)(a:List Z0)(ws:List Int)(n:Int)(i:Nat):Tg:=⟨tm 78 [(1,.pt 8001 0 0),(2,.pt 8002 0 0),(3,int i)],[(8001,.box 138 [int w.heap.C.pw,int w.heap.C.pg,.ow 24017,.ow 16010,int w.heap.S,int w.heap.B,Z3 w.old,ZD w.T,Z3 w.Q,int w.D,int w.rep.copied,int w.rep.kept,int w.rep.filled,int n,int w.rep.cleared,int w.rep.steps]),(24017,.arr 35 1 (ws.map wdv)),(16010,.arr 86 4 (a.map Z0.dv)),(8002,.box 138 zW)],60⟩
def Zkq(w:Z6)(a:List Z0) ws n(i:Nat)(hl:a.length<=64)(hi:i<a.length)(b:¬ C8 w.heap.S (a.getD i X)):CP (Zo f86 0) (DG w a ws n i).st .nrm (DG w a ws n (i+1)).st:=by unfold C8 at b;have c:¬ ((a.getD (i:Int).toNat X).K≠0/\(a.getD (i:Int).toNat X).S=w.heap.S):=b;exact sF [] [] (FM 24 25 Z0.dv a i (Fmq 33 Z0.dv a (↑i) (Ftb 44 ((a.getD (i:Int).toNat X).K==0||(a.getD (i:Int).toNat X).S != w.heap.S) (Fx 27 i Fz))))
def Tm(w:Z6)(a:List Z0)(ws:List Int)(n:Int)(i k:Nat):Tg:=⟨tm 78 [(1,.pt 8001 0 0),(2,.pt 8002 0 0),(3,int i),(5,int k)],[(8001,.box 138 [int w.heap.C.pw,int w.heap.C.pg,.ow 24017,.ow 16010,int w.heap.S,int w.heap.B,Z3 w.old,ZD w.T,Z3 w.Q,int w.D,int w.rep.copied,int w.rep.kept,int w.rep.filled,int n,int w.rep.cleared,int w.rep.steps]),(16010,.arr 86 4 (a.map Z0.dv)),(24017,.arr 35 1 ((wr ws (Ld w.heap.C.pw.toNat 0) (i*w.heap.C.pw.toNat) k).map wdv)),(8002,.box 138 zW)],64⟩
section
variable (w:Z6) (a:List Z0) (ws:List Int) (n:Int) (i k:Nat) (b:0<=w.heap.C.pw/\w.heap.C.pw<=64) (hi:i<=64) (hl:i*w.heap.C.pw.toNat+w.heap.C.pw.toNat<=ws.length) (c:ws.length<=4096)
include b hi hl c
theorem Zjv(d:k<w.heap.C.pw.toNat):CP (Zo f86 2) (Tm w a ws n i k).st .nrm (Tm w a ws n i (k+1)).st:=by
 have e:=TC (ws:=ws) (l:=Ld w.heap.C.pw.toNat 0) (i:=i*w.heap.C.pw.toNat) (k:=k) (by simpa using hl) (by simpa using d) (0:Int);rw[show(Ld w.heap.C.pw.toNat (0:Int)).getD k 0=0 by simp[List.getD,d]]at e;have hn:=IA (ws:=ws) (l:=Ld w.heap.C.pw.toNat (0:Int)) (i:=i*w.heap.C.pw.toNat) (k:=k) (by simpa using hl) qo;have em:(i:Int)*w.heap.C.pw=((i*w.heap.C.pw.toNat:Nat):Int):=by rw[LL,LQ b.1]
 have ei:(i:Int)*w.heap.C.pw+k=((i*w.heap.C.pw.toNat+k:Nat):Int):=by omega
 exact sF [] (fO 6) (Fh 10076 [.els (Z wdv ((wr ws (Ld w.heap.C.pw.toNat 0) (i*w.heap.C.pw.toNat) k).set (↑(i*w.heap.C.pw.toNat+k):Int).toNat 0))] (Ftb 62 (La ((k:Int)<w.heap.C.pw)) (Fi 73 ((i:Int)*w.heap.C.pw) (Fg 75 (by rw[CY oq oq];omega:Lq.wrap ((i:Int)*w.heap.C.pw+(k:Int))=(↑(i*w.heap.C.pw.toNat+k):Int)) (Fa (by(simp only[Lf];omega):0<=(↑(i*w.heap.C.pw.toNat+k):Int)/\(↑(i*w.heap.C.pw.toNat+k):Int).toNat<(Z wdv (wr ws (Ld w.heap.C.pw.toNat 0) (i*w.heap.C.pw.toNat) k)).length) (Fa (by(simp only[Lf];omega):(↑(i*w.heap.C.pw.toNat+k):Int).toNat<(Z wdv (wr ws (Ld w.heap.C.pw.toNat 0) (i*w.heap.C.pw.toNat) k)).length) (Fa (ms:(Z wdv (wr ws (Ld w.heap.C.pw.toNat 0) (i*w.heap.C.pw.toNat) k)).set (↑(i*w.heap.C.pw.toNat+k):Int).toNat [B2 0]=Z wdv ((wr ws (Ld w.heap.C.pw.toNat 0) (i*w.heap.C.pw.toNat) k).set (↑(i*w.heap.C.pw.toNat+k):Int).toNat 0)) (Fx 64 k (Fr (35:Int) (Fa (by refine congrArg _ ?_;exact e:Z wdv ((wr ws (Ld w.heap.C.pw.toNat 0) (i*w.heap.C.pw.toNat) k).set (↑(i*w.heap.C.pw.toNat+k):Int).toNat 0)=Z wdv (wr ws (Ld w.heap.C.pw.toNat 0) (i*w.heap.C.pw.toNat) (k+1))) Fz))))))))))
theorem Zfr:CP (Zo f86 2) (Tm w a ws n i w.heap.C.pw.toNat).st (.ext 2) (Tg.st ⟨tm 78 [(1,.pt 8001 0 0),(2,.pt 8002 0 0),(3,int i)],[(8001,.box 138 [int w.heap.C.pw,int w.heap.C.pg,.ow 24017,.ow 16010,int w.heap.S,int w.heap.B,Z3 w.old,ZD w.T,Z3 w.Q,int w.D,int w.rep.copied,int w.rep.kept,int w.rep.filled,int n,int w.rep.cleared,int w.rep.steps]),(16010,.arr 86 4 (a.map Z0.dv)),(24017,.arr 35 1 ((Cg ws (i*w.heap.C.pw.toNat) (Ld w.heap.C.pw.toNat 0)).map wdv)),(8002,.box 138 zW)],64⟩):=by have d:=TE ws (Ld w.heap.C.pw.toNat (0:Int)) (i*w.heap.C.pw.toNat);rw[List.length_replicate]at d;exact sF [] (fO 5) (Ffb 62 (La ((w.heap.C.pw.toNat:Int)<w.heap.C.pw)) (Fr (35:Int) (Fa (by refine congrArg _ ?_;assumption:Z wdv (wr ws (Ld w.heap.C.pw.toNat 0) (i*w.heap.C.pw.toNat) w.heap.C.pw.toNat)=Z wdv (Cg ws (i*w.heap.C.pw.toNat) (Ld w.heap.C.pw.toNat 0))) Fz)))
theorem Zee:CP (Zk f86 2) (Tg.st ⟨tm 78 [(1,.pt 8001 0 0),(2,.pt 8002 0 0),(3,int i),(5,int 0)],[(8001,.box 138 [int w.heap.C.pw,int w.heap.C.pg,.ow 24017,.ow 16010,int w.heap.S,int w.heap.B,Z3 w.old,ZD w.T,Z3 w.Q,int w.D,int w.rep.copied,int w.rep.kept,int w.rep.filled,int n,int w.rep.cleared,int w.rep.steps]),(16010,.arr 86 4 (a.map Z0.dv)),(24017,.arr 35 1 (ws.map wdv)),(8002,.box 138 zW)],64⟩) .nrm (Tg.st ⟨tm 78 [(1,.pt 8001 0 0),(2,.pt 8002 0 0),(3,int i)],[(8001,.box 138 [int w.heap.C.pw,int w.heap.C.pg,.ow 24017,.ow 16010,int w.heap.S,int w.heap.B,Z3 w.old,ZD w.T,Z3 w.Q,int w.D,int w.rep.copied,int w.rep.kept,int w.rep.filled,int n,int w.rep.cleared,int w.rep.steps]),(16010,.arr 86 4 (a.map Z0.dv)),(24017,.arr 35 1 ((Cg ws (i*w.heap.C.pw.toNat) (Ld w.heap.C.pw.toNat 0)).map wdv)),(8002,.box 138 zW)],64⟩):=by have:=Bw (S:=λk=>(Tm w a ws n i k).st) w.heap.C.pw.toNat kr (λk d=>Zjv w a ws n i k b hi hl c d) (Zfr w a ws n i b hi hl c);simp only[Tm,DK]at this;exact this
end
def Zin(w:Z6)(a:List Z0)(ws:List Int)(n:Int)(i:Nat)(hl:a.length<=64)(hi:i<a.length)(b:C8 w.heap.S (a.getD i X))(hp:0<=w.heap.C.pw/\w.heap.C.pw<=64)(hs:i*w.heap.C.pw.toNat+w.heap.C.pw.toNat<=ws.length)(hw:ws.length<=4096)(hn:0<=n/\n<=64):CP (Zo f86 0) (DG w a ws n i).st .nrm (DG w (a.set i ⟨0,0,0,0⟩) (Cg ws (i*w.heap.C.pw.toNat) (Ld w.heap.C.pw.toNat 0)) (n+1) (i+1)).st:=by unfold C8 at b;have c:(a.getD (i:Int).toNat X).K≠0/\(a.getD (i:Int).toNat X).S=w.heap.S:=b;exact sF [] [] (Fh 10050 [.els (Z Z0.dv (a.set (i:Int).toNat (Z0.mk 0 0 0 0)))] (FM 24 25 Z0.dv a i (Fmq 33 Z0.dv a (↑i) (Ffb 44 ((a.getD (i:Int).toNat X).K==0||(a.getD (i:Int).toNat X).S != w.heap.S) (Fa (by(simp only[Lf];omega):0<=(i:Int)/\(i:Int).toNat<(Z Z0.dv a).length) (Fa (by(simp only[Lf];omega):(i:Int).toNat<(Z Z0.dv a).length) (Fa (by rw[LD];rfl:(Z Z0.dv a).set (i:Int).toNat [Zn 0,Zn 0,Zn 0,Zn 0]=Z Z0.dv (a.set (i:Int).toNat (Z0.mk 0 0 0 0))) (Fi 54 (n+1) (Fu (@Zee w (a.set (i:Int).toNat (Z0.mk 0 0 0 0)) ws (n+1) i aa oq aa aa) (Fx 27 i Fz))))))))))
def Mh{pw s:Int}{l:List Z0}{ws:List Int}(h:l.length*pw.toNat<=ws.length):∀i,i<=l.length->(Ee pw s l ws i).length=ws.length
 |0,_=>rfl
 |i+1,hi=>by
  have a:=Mh (s:=s) h i oq;have b:(i+1)*pw.toNat<=l.length*pw.toNat:=L3 _ hi;rw[L1,L4]at b;unfold Ee;split
  .rw[N7 qo,a]
  .exact a
def To(n s:Int) l:∀i:Nat,n<=Ed n s l i/\Ed n s l i<=n+i
 |0=>by simp[Ed]
 |i+1=>by
  have ih:=To n s l i;unfold Ed;split<;>omega
def H6(w:Z6):Z6:=⟨⟨w.heap.C,Ee w.heap.C.pw w.heap.S w.heap.P w.heap.W w.heap.P.length,w.heap.P.map (Bv w.heap.S),w.heap.S,w.heap.B⟩,w.old,w.T,w.Q,w.D,⟨w.rep.copied,w.rep.kept,w.rep.filled,Ed w.rep.freed w.heap.S w.heap.P w.heap.P.length,w.rep.cleared,w.rep.steps⟩⟩
def ZcT w a ws n:CP (Zo f86 0) (DG w a ws n a.length).st (.ext 0) (Tg.st ⟨tm 78 [(1,.pt 8001 0 0),(2,.pt 8002 0 0)],[(8001,.box 138 [int w.heap.C.pw,int w.heap.C.pg,.ow 24017,.ow 16010,int w.heap.S,int w.heap.B,Z3 w.old,ZD w.T,Z3 w.Q,int w.D,int w.rep.copied,int w.rep.kept,int w.rep.filled,int n,int w.rep.cleared,int w.rep.steps]),(24017,.arr 35 1 (ws.map wdv)),(16010,.arr 86 4 (a.map Z0.dv)),(8002,.box 138 zW)],60⟩):=by exact sF [] [] (FO 24 25 Z0.dv a Fz)
section
variable (w:Z6) (hl:w.heap.P.length<=64) (a:0<=w.heap.C.pw/\w.heap.C.pw<=64) (hs:w.heap.P.length*w.heap.C.pw.toNat<=w.heap.W.length) (hw:w.heap.W.length<=4096) (hr:w.rep.freed=0)
include hl a hs hw hr
theorem ZaM:CP (Zk f86 0) (Tg.st ⟨tm 78 [(1,.pt 8001 0 0),(2,.pt 8002 0 0),(3,int 0)],[(8001,.box 138 [int w.heap.C.pw,int w.heap.C.pg,.ow 24017,.ow 16010,int w.heap.S,int w.heap.B,Z3 w.old,ZD w.T,Z3 w.Q,int w.D,int w.rep.copied,int w.rep.kept,int w.rep.filled,int w.rep.freed,int w.rep.cleared,int w.rep.steps]),(24017,.arr 35 1 (w.heap.W.map wdv)),(16010,.arr 86 4 (w.heap.P.map Z0.dv)),(8002,.box 138 zW)],60⟩) .nrm (Tg.st ⟨tm 78 [(1,.pt 8001 0 0),(2,.pt 8002 0 0)],[(8001,.box 138 [int w.heap.C.pw,int w.heap.C.pg,.ow 24017,.ow 16010,int w.heap.S,int w.heap.B,Z3 w.old,ZD w.T,Z3 w.Q,int w.D,int w.rep.copied,int w.rep.kept,int w.rep.filled,int (Ed w.rep.freed w.heap.S w.heap.P w.heap.P.length),int w.rep.cleared,int w.rep.steps]),(24017,.arr 35 1 ((Ee w.heap.C.pw w.heap.S w.heap.P w.heap.W w.heap.P.length).map wdv)),(16010,.arr 86 4 ((w.heap.P.map (Bv w.heap.S)).map Z0.dv)),(8002,.box 138 zW)],60⟩):=by
 refine Bw (S:=λk=>(DG w (Zv (Bv w.heap.S) w.heap.P k) (Ee w.heap.C.pw w.heap.S w.heap.P w.heap.W k) (Ed w.rep.freed w.heap.S w.heap.P k) k).st) w.heap.P.length kr (λk f=>?_) ?_;have h1:=SC (Bv w.heap.S) w.heap.P k;have g:=OR (Bv w.heap.S) w.heap.P (Lj k) X;have h3:=Mh (s:=w.heap.S) hs k oq;have h4:=To w.rep.freed w.heap.S w.heap.P k;by_cases b:C8 w.heap.S (w.heap.P.getD k X);have c:=Ps (Bv w.heap.S) w.heap.P f X;have d:Ee w.heap.C.pw w.heap.S w.heap.P w.heap.W (k+1)=Cg (Ee w.heap.C.pw w.heap.S w.heap.P w.heap.W k) (k*w.heap.C.pw.toNat) (Ld w.heap.C.pw.toNat 0):=by rw[Ee,if_pos b]
 have e:Ed w.rep.freed w.heap.S w.heap.P (k+1)=Ed w.rep.freed w.heap.S w.heap.P k+1:=by rw[Ed,if_pos b]
 rw[Bv,if_pos b]at c;rw[<-c,d,e];have i:(k+1)*w.heap.C.pw.toNat<=w.heap.P.length*w.heap.C.pw.toNat:=L3 _ f;rw[L1,L4]at i;exact Zin w _ _ _ k oq oq (by rw[g];exact b) a oq oq oq;have c:=Z1m (Bv w.heap.S) w.heap.P f X (by rw[Bv,if_neg b]);have d:Ee w.heap.C.pw w.heap.S w.heap.P w.heap.W (k+1)=Ee w.heap.C.pw w.heap.S w.heap.P w.heap.W k:=by rw[Ee,if_neg b]
 have e:Ed w.rep.freed w.heap.S w.heap.P (k+1)=Ed w.rep.freed w.heap.S w.heap.P k:=by rw[Ed,if_neg b]
 rw[<-c,d,e];exact Zkq w _ _ _ k oq oq (by rw[g];exact b);have h:=ZcT w (Zv (Bv w.heap.S) w.heap.P w.heap.P.length) (Ee w.heap.C.pw w.heap.S w.heap.P w.heap.W w.heap.P.length) (Ed w.rep.freed w.heap.S w.heap.P w.heap.P.length);rw[SC,Z0j]at h;simp only[Z0j];exact h
theorem Z7O:GP 86 [w.av] M (H6 w).av []:=by have h1:=Mh (s:=w.heap.S) hs w.heap.P.length (Lj _);have h2:=To w.rep.freed w.heap.S w.heap.P w.heap.P.length;exact gF [] func86 [] (FAx 6 10 Z0.dv w.heap.P (by(simp[H6, *];omega)) (FAx 13 17 wdv w.heap.W (by(simp[H6, *];omega)) (Fu (@ZaM w aa aa aa aa aa) Fz)))
end
def RI:Rep:=⟨0,0,0,0,0,0⟩
def Z2X{h}{l:List Int}(e:BA h l=Y):Bh h=⟨0,0,0⟩:=by simp only[BA,LJ,decide_eq_true_eq]at e;exact e.1
section
variable (h:Heap) (s k:List Int) (c:Zx h.W) (hs:s.length<=1048575) (hk:k.length<=1048575) (b:Gk s) (a:Gk k)
include c hs hk b a
theorem ZgM(hp:Z8 h=M):GP 36 [h.av,Z3 s,Z3 k] M (.tu [B6.av,Z3 [],Z3 [],.ag RI.cells,int 1]) []:=by exact gF [] func36 [] (Fc 20 (@CL h) (Ftb 21 (!Z8 h) (Fnl (Fnl (Fnl (Fnl Fz))))))
theorem ZdF(hp:Z8 h=Y)(d:BA h s=M\/BA h k=M):GP 36 [h.av,Z3 s,Z3 k] M (.tu [B6.av,Z3 [],Z3 [],.ag RI.cells,int 19]) []:=by
 by_cases f:BA h s=M;exact gF [] func36 [] (Fc 20 (@CL h) (Ffb 21 (!Z8 h) (Fc 26 (@N4 h s aa oq) (FcG 31 (!!BA h s) (λe=>by(try simp only[bs]at e);exact@Z75 h k aa (by(try simp only[bs]at e);grind[B6,RI])) (Fts 33 (!BA h s||Y) (Fnl (Fnl (Fnl (Fnl Fz)))))))));have h2:BA h k=M:=by(rcases d with d|d;exact absurd d f;exact d)
 exact gF [] func36 [] (Fc 20 (@CL h) (Ffb 21 (!Z8 h) (Fc 26 (@N4 h s aa oq) (FcG 31 (!!BA h s) (λe=>by(try simp only[bs]at e);exact@N4 h k aa oq) (Ftb 33 (!BA h s||!BA h k) (Fnl (Fnl (Fnl (Fnl Fz)))))))))
theorem Zil(f:Z8 h=Y)(g:BA h s=Y)(i:BA h k=Y)(e:¬ (rootsF (Zr h) s).2.2=0):GP 36 [h.av,Z3 s,Z3 k] M (.tu [B6.av,Z3 [],Z3 [],.ag RI.cells,int (rootsF (Zr h) s).2.2]) []:=by have hb:=NP c f;have d:=Z2X g;exact gF [] func36 [] (Fc 20 (@CL h) (Ffb 21 (!Z8 h) (Fc 26 (@N4 h s aa oq) (FcG 31 (!!BA h s) (λd=>by(try simp only[bs]at d);exact@N4 h k aa oq) (Ffs 33 (!BA h s||!BA h k) (Fc 38 (@PI h aa aa aa) (Fc 44 (@O3 (Zr h) s aa aa aa) (Ftb 49 ((rootsF (Zr h) s).2.2 != 0) (Fnl (Fnl (Fnl (Fnl Fz))))))))))))
theorem ZhQ(f:Z8 h=Y)(l:BA h s=Y)(m:BA h k=Y)(e:(rootsF (Zr h) s).2.2=0)(e2:¬ (Bu (rootsF (Zr h) s).1).2=0):GP 36 [h.av,Z3 s,Z3 k] M (.tu [B6.av,Z3 [],Z3 [],.ag RI.cells,int (Bu (rootsF (Zr h) s).1).2]) []:=by have g:=NP c f;have hi:=Rc f;have d:=Z2X l;have i:=RL (roots:=s) g hi e;have j:=i.1;exact gF [] func36 [] (Fc 20 (@CL h) (Ffb 21 (!Z8 h) (Fc 26 (@N4 h s aa oq) (FcG 31 (!!BA h s) (λd=>by(try simp only[bs]at d);exact@N4 h k aa oq) (Ffs 33 (!BA h s||!BA h k) (Fc 38 (@PI h aa aa aa) (Fc 44 (@O3 (Zr h) s aa aa aa) (Ffb 49 ((rootsF (Zr h) s).2.2 != 0) (Fc 55 (@Z1A ((rootsF (Zr h) s).1) aa) (Ftb 59 ((Bu (rootsF (Zr h) s).1).2 != 0) (Fnl (Fnl (Fnl (Fnl Fz))))))))))))))
end
def Ip(w:Z6)(x:Int):Int:=if x=0 then 0 else C7 w x
def Hs(w:Z6)(x:Int):Z6:=⟨w.heap,w.old,w.T,w.Q,w.D,⟨w.rep.copied,w.rep.kept,w.rep.filled,w.rep.freed,if x≠0/\C7 w x=0 then w.rep.cleared+1 else w.rep.cleared,w.rep.steps⟩⟩
def EC(w:Z6)(k:List Int):Nat->Z6|0=>w|i+1=>Hs (EC w k i) (k.getD i X)
def Eg(w:Z6)(k:List Int):Nat->List Int|0=>[]|i+1=>Eg w k i++[Ip (EC w k i) (k.getD i X)]
def Sc w k:∀i,(EC w k i).heap=w.heap/\(EC w k i).old=w.old/\(EC w k i).T=w.T/\(EC w k i).Q=w.Q/\(EC w k i).rep.filled=w.rep.filled/\(EC w k i).rep.freed=w.rep.freed/\w.rep.cleared<=(EC w k i).rep.cleared/\(EC w k i).rep.cleared<=w.rep.cleared+i
 |0=>⟨rfl,rfl,rfl,rfl,rfl,rfl,by simp[EC],by simp[EC]⟩
 |i+1=>by
  obtain⟨a,b,c,h4,d,e,h7,h8⟩:=Sc w k i;refine⟨a,b,c,h4,d,e, ?_, ?_⟩
  .simp only[EC,Hs];split<;>omega
  .simp only[EC,Hs];split<;>omega
def MR w k:∀i,(Eg w k i).length=i|0=>rfl|i+1=>by simp[Eg,MR w k i]
def Z0s(w:Z6)(k roots out:List Int)(i:Nat):Tg:=⟨tm 122 [(2,Z3 k),(6,.pt 8006 0 0),(7,.d (.sl 0 [])),(8,.d (.sl 0 [])),(9,.pt 8009 0 0),(10,int 0),(11,.pt 32011 0 0),(13,Z3 roots),(15,.ow 72015),(16,int i)],[(72015,.arr 35 1 (out.map wdv)),(32011,.box 138 w.cells),(8009,.box 73 [int 0,int 0,int 0,int 0,int 0,int 0]),(8006,.box 28 [int 0,int 0,.d (.sl 0 []),.d (.sl 0 []),int 0,int 0])],60⟩
section
variable (w:Z6) (k roots out:List Int) (i:Nat) (hw:Zx w.heap.W) (hl:w.heap.W.length<=4096) (hq:w.Q.length<=1048576) (hk:k.length<=1048575) (hx:0<=k.getD i X/\k.getD i X<=18446744073709551615) (ho:out.length<=1048576) (hi:i<k.length) (hc:0<=w.rep.cleared/\w.rep.cleared<=2097152)
include hw hl hq hk hx ho hi hc
theorem ZcW:CP (Zo f36 0) (Z0s w k roots out i).st .nrm (Z0s (Hs w (k.getD i X)) k roots (out++[Ip w (k.getD i X)]) (i+1)).st:=by
 by_cases d:k.getD i X=0;have e:Ip w (k.getD i X)=0:=by rw[Ip,if_pos d]
 have c:Hs w (k.getD i X)=w:=by rw[Hs,if_neg (by rintro⟨q,_⟩;exact q d)]
 rw[e,c];exact sF [(504091,72015)] [] (Fh 91 [.els (Z wdv (out++[0]))] (FN 65 66 71 wdv k i (Ffb 73 (k.getD i X != 0) (Fs 90 (Z wdv [0]) (Fa (by(simp[*];omega):(Z wdv out).length+(Z wdv [0]).length<=2^30) (Fa (ms:Z wdv out++Z wdv [0]=Z wdv (out++[0])) (Fx 68 i Fz)))))));have e:Ip w (k.getD i X)=C7 w (k.getD i X):=by rw[Ip,if_neg d]
 rw[e];by_cases f:C7 w (k.getD i X)=0;have c:Hs w (k.getD i X)=⟨w.heap,w.old,w.T,w.Q,w.D,⟨w.rep.copied,w.rep.kept,w.rep.filled,w.rep.freed,w.rep.cleared+1,w.rep.steps⟩⟩:=by rw[Hs,if_pos ⟨d,f⟩]
 rw[c];let a:=k.getD i X;exact sF [(528091,72015)] [] (Fh 91 [.els (Z wdv (out++[C7 w a]))] (FN 65 66 71 wdv k i (Ftb 73 (k.getD i X != 0) (Fek 77 wdv k (↑i) i (Fc 79 (@Z8i w a aa aa aa aa) (Ftb 81 (C7 w a==0) (Fi 85 (w.rep.cleared+1) (Fs 90 (Z wdv [C7 w a]) (Fa (by(simp[*];omega):(Z wdv out).length+(Z wdv [C7 w a]).length<=2^30) (Fa (ms:Z wdv out++Z wdv [C7 w a]=Z wdv (out++[C7 w a])) (Fx 68 i Fz)))))))))));have c:Hs w (k.getD i X)=w:=by rw[Hs,if_neg (by rintro⟨_,q⟩;exact f q)]
 rw[c];let b:=k.getD i X;exact sF [(520091,72015)] [] (Fh 91 [.els (Z wdv (out++[C7 w b]))] (FN 65 66 71 wdv k i (Ftb 73 (k.getD i X != 0) (Fek 77 wdv k (↑i) i (Fc 79 (@Z8i w b aa aa aa aa) (Ffb 81 (C7 w b==0) (Fs 90 (Z wdv [C7 w b]) (Fa (by(simp[*];omega):(Z wdv out).length+(Z wdv [C7 w b]).length<=2^30) (Fa (ms:Z wdv out++Z wdv [C7 w b]=Z wdv (out++[C7 w b])) (Fx 68 i Fz))))))))))
end
def Zjd w k roots out:CP (Zo f36 0) (Z0s w k roots out k.length).st (.ext 0) (Tg.st ⟨tm 122 [(6,.pt 8006 0 0),(7,.d (.sl 0 [])),(8,.d (.sl 0 [])),(9,.pt 8009 0 0),(10,int 0),(11,.pt 32011 0 0),(13,Z3 roots),(15,.ow 72015)],[(72015,.arr 35 1 (out.map wdv)),(32011,.box 138 w.cells),(8009,.box 73 [int 0,int 0,int 0,int 0,int 0,int 0]),(8006,.box 28 [int 0,int 0,.d (.sl 0 []),.d (.sl 0 []),int 0,int 0])],60⟩):=by exact sF [] [] (FO 65 66 wdv k Fz)
def Z5Q(w:Z6)(k roots:List Int)(c:Zx w.heap.W)(hl:w.heap.W.length<=4096)(b:w.Q.length<=1048576)(a:k.length<=1048575)(d:Gk k)(hc:w.rep.cleared=0):CP (Zk f36 0) (Z0s (EC w k 0) k roots (Eg w k 0) 0).st .nrm (Tg.st ⟨tm 122 [(6,.pt 8006 0 0),(7,.d (.sl 0 [])),(8,.d (.sl 0 [])),(9,.pt 8009 0 0),(10,int 0),(11,.pt 32011 0 0),(13,Z3 roots),(15,.ow 72015)],[(72015,.arr 35 1 ((Eg w k k.length).map wdv)),(32011,.box 138 (EC w k k.length).cells),(8009,.box 73 [int 0,int 0,int 0,int 0,int 0,int 0]),(8006,.box 28 [int 0,int 0,.d (.sl 0 []),.d (.sl 0 []),int 0,int 0])],60⟩):=by refine Bw (S:=λi=>(Z0s (EC w k i) k roots (Eg w k i) i).st) k.length kr (λi hi=>?_) (Zjd _ k roots _);have h:=Sc w k i;exact ZcW _ k roots _ i (by rw[h.1];exact c) (by rw[h.1];exact hl) (by rw[h.2.2.2.1];exact b) a (De d i) (by rw[MR];omega) hi oq
abbrev cB(h:Heap)(s k:List Int):Z6:=EC (Bu (rootsF (Zr h) s).1).1 k k.length
abbrev cA(h:Heap)(s k:List Int):Z6:=Cl (cB h s k) (cB h s k).old.length
def ZiB{n:Int}(h:0<=n/\n<=255):(Z7 (1+16*n)).1.length=n:=by
 have e:EL (1+16*n)=⟨0,n,0⟩:=by(simp only[EL,Zy.mk.injEq];omega)
 have a:=Mb h;unfold Z7;rw[e,a];simp
def Zho{w:Z6}(h:Bt w){x:Int}(f:x∈w.old):Bt (GK w x):=by
 unfold GK;split
 .rename_i hc;have hr:=h.r x (Le _ f);have j:=Bm w.heap.W x;have hl:(BI ⟨0,(Zu w x).length,0⟩).length=(Zl w.heap.W x+1).toNat:=by
   show(BI ⟨0,Zl w.heap.W x,0⟩).length=_;simp[BI];omega
  have c:4096<=x/\x-4096+(BI ⟨0,(Zu w x).length,0⟩).length<=w.heap.W.length:=by omega
  have d:(ZS w.heap.W x (BI ⟨0,(Zu w x).length,0⟩)).1.length=w.heap.W.length:=by
   unfold ZS;rw[if_pos c];exact N7 oq
  have:=h.withWords d (λa g=>?_)
  .exact⟨this.L,this.r,this.s,this.f,this.z⟩
  .by_cases i:a=x
   .subst i;have:Zl (ZS w.heap.W a (BI ⟨0,(Zu w a).length,0⟩)).1 a=Zl w.heap.W a:=by
     have e:=Sw (b:=a) c oq;unfold Zl at *;rw[e];have k:(BI ⟨0,(Zu w a).length,0⟩).getD (a-a).toNat 0=1+16*(Z7 (Z1 w.heap.W a).1).1.length:=by
      rw[LM];show(Zt ⟨0,(Zu w a).length,0⟩).1=_;rw[Mb (show 0<=(Zu w a).length/\(Zu w a).length<=255 from j)];rfl
     rw[k];exact ZiB j
    omega
   .have s1:=h.s a g x (Le _ f);have m:=h.s x (Le _ f) a g;have l:=Bm w.heap.W a;have:Zl (ZS w.heap.W x (BI ⟨0,(Zu w x).length,0⟩)).1 a=Zl w.heap.W a:=by
     have e:=Ag (b:=a) c (by
      rcases Int.lt_or_lt_of_ne i with q|q
      .exact Lc q
      .have:=m q;exact O oq)
     unfold Zl;rw[e]
    omega
 .exact h
def Z8O{w}(a:FOk w)(h:Bt w):∀k,k<=w.old.length->Bt (Cl w k)|0,_=>h|k+1,hk=>Zho (Z8O a h k oq) (by rw[(HP w a k).2.2.2.2.2.1];exact Bs.2 ⟨k,by omega,rfl⟩)
def Z6V{w}(h:Bt w) k:∀i,Bt (EC w k i)
 |0=>h
 |i+1=>by
  have a:=Z6V h k i;exact⟨a.L,a.r,a.s,a.f,a.z⟩
def Z9e{w}(h:FOk w) k:∀i,FOk (EC w k i)
 |0=>h
 |i+1=>by
  have a:=Z9e h k i;exact⟨a.W,a.wl,a.pl,a.ol,a.o,a.tl,a.ql⟩
def ZA(h:Heap)(s:List Int):Z6:=(Bu (rootsF (Zr h) s).1).1
def Cv(h:Heap)(s k:List Int):Z6:=EC (ZA h s) k k.length
def C4(h:Heap)(s k:List Int):Z6:=Cl (Cv h s k) (Cv h s k).old.length
def Bz(h:Heap)(s k:List Int):Z6:=H6 (C4 h s k)
def Eo(w:Z6):Heap:=⟨w.heap.C,w.heap.W,w.heap.P,1-w.heap.S,if 0<w.T.length then ZG w else -1⟩
structure COk (h:Heap) (s k:List Int):Prop where
 w2:B7 (ZA h s)
 i2:Bt (ZA h s)
 x2:Gs (Zr h) (ZA h s)
 f3:FOk (Cv h s k)
 i3:Bt (Cv h s k)
 r3:(Cv h s k).rep.filled=0/\(Cv h s k).rep.freed=0
 f4:FOk (C4 h s k)
 i4:Bt (C4 h s k)
 h4:(C4 h s k).heap.C=h.C/\(C4 h s k).heap.P=(ZA h s).heap.P/\(C4 h s k).heap.S=(ZA h s).heap.S/\(C4 h s k).T=(ZA h s).T/\(C4 h s k).rep.freed=0
section
variable (h:Heap) (s k:List Int) (d:Zx h.W) (a:Z8 h=Y) (e:(rootsF (Zr h) s).2.2=0) (b:(Bu (rootsF (Zr h) s).1).2=0)
include d a e b
theorem cOk:COk h s k:=by have u:=NP d a;have hi:=Rc a;have f:=RL (roots:=s) u hi e;have w2:B7 (ZA h s):=Zci _ f.1 b;have i2:=Z8s f.1 f.2.1 b;have x2:Gs (Zr h) (ZA h s):=f.2.2.1.trans i2.2;have f3:FOk (Cv h s k):=Z9e w2.fok k _;have i3:Bt (Cv h s k):=Z6V i2.1 k _;obtain⟨a1,a2,g,a4,i,j,a7,a8⟩:=Sc (ZA h s) k k.length;have c:=w2.r0;have r3:(Cv h s k).rep.filled=0/\(Cv h s k).rep.freed=0:=⟨i.trans c.1,j.trans c.2.1⟩;obtain⟨l,m,p,q,b4,b5,r,b7,t,b9,n,o⟩:=HP (Cv h s k) f3 (Cv h s k).old.length;refine⟨w2,i2.1,x2,f3,i3,r3,l,Z8O f3 i3 _ (Lj _), ?_, ?_, ?_, ?_, ?_⟩;show(Cl (Cv h s k) (Cv h s k).old.length).heap.C=_;rw[m];show(EC (ZA h s) k k.length).heap.C=_;rw[a1];exact x2.c;show(Cl (Cv h s k) (Cv h s k).old.length).heap.P=_;rw[p];show(EC (ZA h s) k k.length).heap.P=_;rw[a1];show(Cl (Cv h s k) (Cv h s k).old.length).heap.S=_;rw[q];show(EC (ZA h s) k k.length).heap.S=_;rw[a1];show(Cl (Cv h s k) (Cv h s k).old.length).T=_;rw[r];exact g;show(Cl (Cv h s k) (Cv h s k).old.length).rep.freed=_;rw[t];exact r3.2
theorem Pa:(C4 h s k).heap.P.length<=64/\0<=(C4 h s k).heap.C.pw/\(C4 h s k).heap.C.pw<=64/\(C4 h s k).heap.P.length*(C4 h s k).heap.C.pw.toNat<=(C4 h s k).heap.W.length/\(C4 h s k).heap.W.length<=4096:=by
 have c:=cOk h s k d a e b;have po:=B1 a;have hL:=c.i4.L;have f:=c.w2.pl;have g:=c.x2.c;have j:(ZA h s).heap.C=h.C:=g;rw[j]at f;rw[c.h4.1]at hL;have i:=c.f4.wl;rw[c.h4.1,c.h4.2.1];refine⟨by omega,by omega,by omega, ?_,i⟩;have:(((ZA h s).heap.P.length*h.C.pw.toNat:Nat):Int)=h.C.pw*h.C.pg:=by(rw[LL,LQ oq,f,Lh])
 omega
end
def collectF(h:Heap)(s k:List Int):Heap×List Int×List Int×Rep×Int:=
 if Z8 h=Y then
  (if BA h s=Y/\BA h k=Y then
   (if(rootsF (Zr h) s).2.2=0 then
    (if(Bu (rootsF (Zr h) s).1).2=0 then(Eo (Bz h s k),(rootsF (Zr h) s).2.1,Eg (ZA h s) k k.length,(Bz h s k).rep,0)
    else(B6,[],[],RI,(Bu (rootsF (Zr h) s).1).2))
   else(B6,[],[],RI,(rootsF (Zr h) s).2.2))
  else(B6,[],[],RI,19))
 else(B6,[],[],RI,1)
section
variable (h:Heap) (s k:List Int) (hw:Zx h.W) (hs:s.length<=1048575) (hk:k.length<=1048575) (hs2:Gk s) (hk2:Gk k)
include hw hs hk hs2 hk2
theorem ZcK(hp:Z8 h=Y)(hr:BA h s=Y)(hr':BA h k=Y)(e:(rootsF (Zr h) s).2.2=0)(e2:(Bu (rootsF (Zr h) s).1).2=0):GP 36 [h.av,Z3 s,Z3 k] M (.tu [(Eo (Bz h s k)).av,Z3 (rootsF (Zr h) s).2.1,Z3 (Eg (ZA h s) k k.length),.ag (Bz h s k).rep.cells,int 0]) []:=by have hb:=NP hw hp;have hi:=Rc hp;have hg:=Z2X hr;have ho:=RL (roots:=s) hb hi e;have ho1:=ho.1;have ho4:=ho.2.2.2.2;have c:=cOk h s k hw hp e e2;obtain⟨q1,q2,q3,q4,q5⟩:=Pa h s k hw hp e e2;have w2:=c.w2;have f3:=c.f3;have r3:=c.r3.1;obtain⟨g1,g2,g3,g4,g5⟩:=c.h4;have v1:=w2.W;have v2:=w2.wl;have v3:=w2.mu;have v4:=w2.tl;have v5:=w2.sp;have v6:=w2.r0.2.2;have v7:=congrArg LR g4;have z1:(Bz h s k).T=(C4 h s k).T:=rfl;have v8:=congrArg LR z1;have z2:(Bz h s k).heap.S=(C4 h s k).heap.S:=rfl;clear c;rcases bb (La (0<(↑(Bz h s k).T.length:Int)))with hc0|hc0<;>have hc0p:=hc0<;>simp only[bs]at hc0p;rw[show Eo (Bz h s k)=Heap.mk (Bz h s k).heap.C (Bz h s k).heap.W (Bz h s k).heap.P ((1:Int)-(Bz h s k).heap.S) ((Bz h s k).T.getD ((↑(Bz h s k).T.length:Int)-(1:Int)).toNat X)from by(simp only[Eo,ZG] ;exact sj)];refine Zc [((20:Nat),[Hint.call Y (Sx.bool (Z8 h)) []]),((21:Nat),[Hint.br M]),((26:Nat),[Hint.call Y (Sx.bool (BA h s)) []]),((31:Nat),[Hint.call Y (Sx.bool (BA h k)) []]),((33:Nat),[Hint.br M]),((38:Nat),[Hint.call M (AV.tu [(Zr h).av,int (0:Int)]) []]),((44:Nat),[Hint.call M (AV.tu [(rootsF (Zr h) s).1.av,Z3 (rootsF (Zr h) s).2.1,int (rootsF (Zr h) s).2.2]) []]),((49:Nat),[Hint.br M]),((55:Nat),[Hint.call M (AV.tu [(ZA h s).av,int (Bu (rootsF (Zr h) s).1).2]) []]),((59:Nat),[Hint.br M]),((15:Nat),[Hint.own]),((93:Nat),[Hint.call M (C4 h s k).av []]),((94:Nat),[Hint.call M (Bz h s k).av []]),((98:Nat),[Hint.int ((1:Int)-(Bz h s k).heap.S)]),((105:Nat),[Hint.int (↑(Bz h s k).T.length:Int)]),((107:Nat),[Hint.br Y]),((111:Nat),[Hint.int ((↑(Bz h s k).T.length:Int)-(1:Int))]),((112:Nat),[Hint.el (idv ((Bz h s k).T.getD ((↑(Bz h s k).T.length:Int)-(1:Int)).toNat X))])] [((0:Nat),Tg.mk (tm (122:Nat) [((2:Nat),Z3 k),((6:Nat),AV.pt (8006:Nat) (0:Nat) (0:Nat)),((7:Nat),AV.d (DV.sl (0:Nat) [])),((8:Nat),AV.d (DV.sl (0:Nat) [])),((9:Nat),AV.pt (8009:Nat) (0:Nat) (0:Nat)),((10:Nat),int (0:Int)),((11:Nat),AV.pt (32011:Nat) (0:Nat) (0:Nat)),((13:Nat),Z3 (rootsF (Zr h) s).2.1),((15:Nat),AV.ow (72015:Nat)),((16:Nat),int (0:Int))]) [((72015:Nat),Z4.arr 35 (1:Nat) []),((32011:Nat),Z4.box 138 (ZA h s).cells),((8009:Nat),Z4.box 73 [int (0:Int),int (0:Int),int (0:Int),int (0:Int),int (0:Int),int (0:Int)]),((8006:Nat),Z4.box 28 [int (0:Int),int (0:Int),AV.d (DV.sl (0:Nat) []),AV.d (DV.sl (0:Nat) []),int (0:Int),int (0:Int)])] (60:Nat),Ex.nrm,Tg.mk (tm (122:Nat) [((6:Nat),AV.pt (8006:Nat) (0:Nat) (0:Nat)),((7:Nat),AV.d (DV.sl (0:Nat) [])),((8:Nat),AV.d (DV.sl (0:Nat) [])),((9:Nat),AV.pt (8009:Nat) (0:Nat) (0:Nat)),((10:Nat),int (0:Int)),((11:Nat),AV.pt (32011:Nat) (0:Nat) (0:Nat)),((13:Nat),Z3 (rootsF (Zr h) s).2.1),((15:Nat),AV.ow (72015:Nat))]) [((72015:Nat),Z4.arr 35 (1:Nat) (Z wdv (Eg (ZA h s) k k.length))),((32011:Nat),Z4.box 138 (Cv h s k).cells),((8009:Nat),Z4.box 73 [int (0:Int),int (0:Int),int (0:Int),int (0:Int),int (0:Int),int (0:Int)]),((8006:Nat),Z4.box 28 [int (0:Int),int (0:Int),AV.d (DV.sl (0:Nat) []),AV.d (DV.sl (0:Nat) []),int (0:Int),int (0:Int)])] (60:Nat))] [] dd func36 [] (φ:=GP 65 [h.av] Y (Sx.bool (Z8 h)) []/\(!Z8 h)=M/\M=M/\GP 42 [h.av,Z3 s] Y (Sx.bool (BA h s)) []/\((!!BA h s)=Y->GP 42 [h.av,Z3 k] Y (Sx.bool (BA h k)) [])/\(!BA h s||!BA h k)=M/\M=M/\GP 82 [h.av] M (AV.tu [(Zr h).av,int (0:Int)]) []/\GP 83 [(Zr h).av,Z3 s] M (AV.tu [(rootsF (Zr h) s).1.av,Z3 (rootsF (Zr h) s).2.1,int (rootsF (Zr h) s).2.2]) []/\((rootsF (Zr h) s).2.2 != (0:Int))=M/\M=M/\GP 84 [(rootsF (Zr h) s).1.av] M (AV.tu [(ZA h s).av,int (Bu (rootsF (Zr h) s).1).2]) []/\((Bu (rootsF (Zr h) s).1).2 != (0:Int))=M/\M=M/\CP (Zk f36 (0:Nat)) (Tg.mk (tm (122:Nat) [((2:Nat),Z3 k),((6:Nat),AV.pt (8006:Nat) (0:Nat) (0:Nat)),((7:Nat),AV.d (DV.sl (0:Nat) [])),((8:Nat),AV.d (DV.sl (0:Nat) [])),((9:Nat),AV.pt (8009:Nat) (0:Nat) (0:Nat)),((10:Nat),int (0:Int)),((11:Nat),AV.pt (32011:Nat) (0:Nat) (0:Nat)),((13:Nat),Z3 (rootsF (Zr h) s).2.1),((15:Nat),AV.ow (72015:Nat)),((16:Nat),int (0:Int))]) [((72015:Nat),Z4.arr 35 (1:Nat) []),((32011:Nat),Z4.box 138 (ZA h s).cells),((8009:Nat),Z4.box 73 [int (0:Int),int (0:Int),int (0:Int),int (0:Int),int (0:Int),int (0:Int)]),((8006:Nat),Z4.box 28 [int (0:Int),int (0:Int),AV.d (DV.sl (0:Nat) []),AV.d (DV.sl (0:Nat) []),int (0:Int),int (0:Int)])] (60:Nat)).st Ex.nrm (Tg.mk (tm (122:Nat) [((6:Nat),AV.pt (8006:Nat) (0:Nat) (0:Nat)),((7:Nat),AV.d (DV.sl (0:Nat) [])),((8:Nat),AV.d (DV.sl (0:Nat) [])),((9:Nat),AV.pt (8009:Nat) (0:Nat) (0:Nat)),((10:Nat),int (0:Int)),((11:Nat),AV.pt (32011:Nat) (0:Nat) (0:Nat)),((13:Nat),Z3 (rootsF (Zr h) s).2.1),((15:Nat),AV.ow (72015:Nat))]) [((72015:Nat),Z4.arr 35 (1:Nat) (Z wdv (Eg (ZA h s) k k.length))),((32011:Nat),Z4.box 138 (Cv h s k).cells),((8009:Nat),Z4.box 73 [int (0:Int),int (0:Int),int (0:Int),int (0:Int),int (0:Int),int (0:Int)]),((8006:Nat),Z4.box 28 [int (0:Int),int (0:Int),AV.d (DV.sl (0:Nat) []),AV.d (DV.sl (0:Nat) []),int (0:Int),int (0:Int)])] (60:Nat)).st/\GP 87 [(Cv h s k).av] M (C4 h s k).av []/\GP 86 [(C4 h s k).av] M (Bz h s k).av []/\Lq.wrap ((1:Int)-(Bz h s k).heap.S)=(1:Int)-(Bz h s k).heap.S/\(↑(Z idv (Bz h s k).T).length:Int)=(↑(Bz h s k).T.length:Int)/\La ((0:Int)<(↑(Bz h s k).T.length:Int))=Y/\Y=Y/\Lq.wrap ((↑(Bz h s k).T.length:Int)-(1:Int))=(↑(Bz h s k).T.length:Int)-(1:Int)/\(0:Int)<=(↑(Bz h s k).T.length:Int)-(1:Int)/\(Z idv (Bz h s k).T)[((↑(Bz h s k).T.length:Int)-(1:Int)).toNat]?=some (idv ((Bz h s k).T.getD ((↑(Bz h s k).T.length:Int)-(1:Int)).toNat X))) ?_ kr kr;exact⟨(@CL (h)),(by(simp only[bs];omega)),rfl,(@N4 (h) (s) aa oq),(λhg=>by(try simp only[bs]at hg);exact@N4 (h) (k) (by(try simp only[bs]at hg);assumption) (by(try simp only[bs]at hg);omega)),(by simp only[bs, *,true_or,or_true,true_and,and_true,not_true_eq_false,not_false_eq_true,Bool.true_eq_false,Bool.false_eq_true]),rfl,(@PI (h) aa aa aa),(@O3 (Zr h) (s) aa aa aa),(by(simp only[bs];omega)),rfl,(@Z1A ((rootsF (Zr h) s).1) aa),(by(simp only[bs];omega)),rfl,(@Z5Q (ZA h s) (k) ((rootsF (Zr h) s).2.1) aa aa oq aa aa aa),(@Z6n (Cv h s k) aa aa),(@Z7O (C4 h s k) aa oq aa aa aa),(by exact Ze rfl oq oq),(by simp only[Lf]),aa,rfl,(by exact Ze rfl oq oq),(by exact Zm oq oq oq)⟩;rw[show Eo (Bz h s k)=Heap.mk (Bz h s k).heap.C (Bz h s k).heap.W (Bz h s k).heap.P ((1:Int)-(Bz h s k).heap.S) (-1:Int)from by rw[Eo,if_neg oq]];let y0:=rootsF (Zr h) s;exact gF [] func36 [] (Fh 15 [.own] (Fc 20 (@CL h) (Ffb 21 (!Z8 h) (Fc 26 (@N4 h s aa oq) (FcG 31 (!!BA h s) (λhg=>by(try simp only[bs]at hg);exact@N4 h k aa oq) (Ffs 33 (!BA h s||!BA h k) (Fc 38 (@PI h aa aa aa) (Fc 44 (@O3 (Zr h) s aa aa aa) (Ffb 49 (y0.2.2 != 0) (Fc 55 (@Z1A (y0.1) aa) (Ffb 59 ((Bu y0.1).2 != 0) (Fu (@Z5Q (ZA h s) k (y0.2.1) aa aa oq aa aa aa) (Fc 93 (@Z6n (Cv h s k) aa aa) (Fc 94 (@Z7O (C4 h s k) aa oq aa aa aa) (Fi 98 (1-(Bz h s k).heap.S) (Fl 105 idv (Bz h s k).T (Ff 107 hc0 Fz)))))))))))))))))
end
def pinB(w:Zj)(i:Nat)(n:Int):Zj:=⟨⟨w.heap.C,w.heap.W,w.heap.P.set i ⟨(w.heap.P.getD i X).K,(w.heap.P.getD i X).S,(w.heap.P.getD i X).U,(w.heap.P.getD i X).N+n⟩,w.heap.S,w.heap.B⟩,w.G,w.E⟩
def I7(w:Zj)(t:Tape):Nat:=(Z2 w.heap.C (w.pick t)).1.toNat
def Zj.pin(w:Zj)(t:Tape):Zj:=
  if(Z2 w.heap.C (w.pick t)).2.2=0 then
    (if 0<(w.heap.P.getD (I7 w t) X).N/\(w.pickT t).next 2=0 then pinB w (I7 w t) (-1)
     else if 0<(w.heap.P.getD (I7 w t) X).N\/(w.heap.P.getD (I7 w t) X).K=2\/(crowd w.heap.P:Int)<w.heap.C.pg/4 then pinB w (I7 w t) 1 else w)else w
def Zj.pinT(w:Zj)(t:Tape):Tape:=if(Z2 w.heap.C (w.pick t)).2.2=0/\0<(w.heap.P.getD (I7 w t) X).N then(w.pickT t).step 2 else w.pickT t
def ZhY w t(hw:SA w)(ht:Et t)(ha:t.at'<=1000000)(hv:Zs w.heap.C=Y)(hp:(w.heap.P.length:Int)=w.heap.C.pg)(hpn:∀j,j<w.heap.P.length->-1048576<=(w.heap.P.getD j X).N/\(w.heap.P.getD j X).N<=4294967296):LP 104 [w.av,.pt 0 0 0] [t.b] (w.pin t).av [(w.pinT t).b]:=by
 have hb:=BD.1 hv;have s1:=Z27 w t;have k1:=Nj ht s1.2.2 oq oq;have p1:=Ax hw t;have q1:=hpn (I7 w t);have hcr:=Nl w.heap.P w.heap.P.length;unfold I7 at q1;have o1:=λe=>GM (a:=w.pick t) hv e;by_cases e:(Z2 w.heap.C (w.pick t)).2.2=0;have o2:=o1 e;by_cases c1:0<(w.heap.P.getD (Z2 w.heap.C (w.pick t)).1.toNat X).N
 .have eT:w.pinT t=(w.pickT t).step 2:=by rw[Zj.pinT,if_pos ⟨e,c1⟩]
  by_cases c2:(w.pickT t).next 2=0
  have eP:w.pin t=⟨⟨w.heap.C,w.heap.W,w.heap.P.set (Z2 w.heap.C (w.pick t)).1.toNat ⟨(w.heap.P.getD (Z2 w.heap.C (w.pick t)).1.toNat X).K,(w.heap.P.getD (Z2 w.heap.C (w.pick t)).1.toNat X).S,(w.heap.P.getD (Z2 w.heap.C (w.pick t)).1.toNat X).U,(w.heap.P.getD (Z2 w.heap.C (w.pick t)).1.toNat X).N-1⟩,w.heap.S,w.heap.B⟩,w.G,w.E⟩:=by rw[Zj.pin,if_pos e,if_pos ⟨c1,c2⟩];rfl
  rw[eP,eT];exact lF func104 [] (Fh 42 [.br Y] (Fh 37 [.br Y] (Fh 51 [.el (w.heap.P.getD (Z2 w.heap.C (w.pick t)).1.toNat X).dv] (Fp 12 (@N0 w t aa aa oq) (Fc 18 (@GG w.heap.C (w.pick t) oq oq) (Ffb 23 ((Z2 w.heap.C (w.pick t)).2.2 != 0) (FA 25 29 Z0.dv w.heap.P (Fmq 41 Z0.dv w.heap.P ((Z2 w.heap.C (w.pick t)).1) (Fb (La (0<(w.heap.P.getD (Z2 w.heap.C (w.pick t)).1.toNat X).N)=Y) (Fp 45 (@E0 (w.pickT t) (2) aa oq oq) (Fb (((w.pickT t).next (2:Int)==0)=Y) (Fa (by exact B4 oq:(Z Z0.dv w.heap.P)[(Z2 w.heap.C (w.pick t)).1.toNat]?=some (w.heap.P.getD (Z2 w.heap.C (w.pick t)).1.toNat X).dv) (Fi 52 ((w.heap.P.getD (Z2 w.heap.C (w.pick t)).1.toNat X).N-1) (Fa (by exact B4 oq:(Z Z0.dv w.heap.P)[(Z2 w.heap.C (w.pick t)).1.toNat]?=some (w.heap.P.getD (Z2 w.heap.C (w.pick t)).1.toNat X).dv) (FS 10054 Z0.dv w.heap.P ((Z2 w.heap.C (w.pick t)).1.toNat) (Z0.mk (w.heap.P.getD (Z2 w.heap.C (w.pick t)).1.toNat X).K (w.heap.P.getD (Z2 w.heap.C (w.pick t)).1.toNat X).S (w.heap.P.getD (Z2 w.heap.C (w.pick t)).1.toNat X).U ((w.heap.P.getD (Z2 w.heap.C (w.pick t)).1.toNat X).N-1)) ((w.heap.P.getD (Z2 w.heap.C (w.pick t)).1.toNat X).dv) Fz)))))))))))))));have eP:w.pin t=⟨⟨w.heap.C,w.heap.W,w.heap.P.set (Z2 w.heap.C (w.pick t)).1.toNat ⟨(w.heap.P.getD (Z2 w.heap.C (w.pick t)).1.toNat X).K,(w.heap.P.getD (Z2 w.heap.C (w.pick t)).1.toNat X).S,(w.heap.P.getD (Z2 w.heap.C (w.pick t)).1.toNat X).U,(w.heap.P.getD (Z2 w.heap.C (w.pick t)).1.toNat X).N+1⟩,w.heap.S,w.heap.B⟩,w.G,w.E⟩:=by rw[Zj.pin,if_pos e,if_neg (λq=>c2 q.2),if_pos (.inl c1)];rfl
  rw[eP,eT];exact lF func104 [] (Fh 42 [.br Y] (Fh 37 [.br M] (Fh 59 [.el (w.heap.P.getD (Z2 w.heap.C (w.pick t)).1.toNat X).dv] (Fh 65 [.el (w.heap.P.getD (Z2 w.heap.C (w.pick t)).1.toNat X).dv] (Fh 76 [.int (w.heap.C.pg/4)] (Fh 55 [.br Y] (Fh 82 [.el (w.heap.P.getD (Z2 w.heap.C (w.pick t)).1.toNat X).dv] (Fp 12 (@N0 w t aa aa oq) (Fc 18 (@GG w.heap.C (w.pick t) oq oq) (Ffb 23 ((Z2 w.heap.C (w.pick t)).2.2 != 0) (FA 25 29 Z0.dv w.heap.P (Fmq 41 Z0.dv w.heap.P ((Z2 w.heap.C (w.pick t)).1) (Fb (La (0<(w.heap.P.getD (Z2 w.heap.C (w.pick t)).1.toNat X).N)=Y) (Fp 45 (@E0 (w.pickT t) (2) aa oq oq) (Fb (((w.pickT t).next (2:Int)==0)=M) (Fa (by exact B4 oq:(Z Z0.dv w.heap.P)[(Z2 w.heap.C (w.pick t)).1.toNat]?=some (w.heap.P.getD (Z2 w.heap.C (w.pick t)).1.toNat X).dv) (Fa (by intro hg;(try simp only[bs]at hg);exact B4 oq:(!decide (0<(w.heap.P.getD (Z2 w.heap.C (w.pick t)).1.toNat X).N))=Y->(Z Z0.dv w.heap.P)[(Z2 w.heap.C (w.pick t)).1.toNat]?=some (w.heap.P.getD (Z2 w.heap.C (w.pick t)).1.toNat X).dv) (FcG 71 (!(La (0<(w.heap.P.getD (Z2 w.heap.C (w.pick t)).1.toNat X).N)||(w.heap.P.getD (Z2 w.heap.C (w.pick t)).1.toNat X).K==2)) (λhg=>by(try simp only[bs]at hg);exact@Z1G w.heap oq) (Fa (by intro hg;(try simp only[bs]at hg);rw[CY oq oq];omega:(!(La (0<(w.heap.P.getD (Z2 w.heap.C (w.pick t)).1.toNat X).N)||(w.heap.P.getD (Z2 w.heap.C (w.pick t)).1.toNat X).K==2))=Y->Lq.wrap (w.heap.C.pg.tdiv 4)=w.heap.C.pg/4) (Fa (by intro hg;(try simp only[bs]at hg);omega:(!(La (0<(w.heap.P.getD (Z2 w.heap.C (w.pick t)).1.toNat X).N)||(w.heap.P.getD (Z2 w.heap.C (w.pick t)).1.toNat X).K==2))=Y->(4:Int)=0->False) (Fb ((La (0<(w.heap.P.getD (Z2 w.heap.C (w.pick t)).1.toNat X).N)||(w.heap.P.getD (Z2 w.heap.C (w.pick t)).1.toNat X).K==2||La ((↑(crowd w.heap.P):Int)<w.heap.C.pg/4))=Y) (Fa (by exact B4 oq:(Z Z0.dv w.heap.P)[(Z2 w.heap.C (w.pick t)).1.toNat]?=some (w.heap.P.getD (Z2 w.heap.C (w.pick t)).1.toNat X).dv) (Fi 83 ((w.heap.P.getD (Z2 w.heap.C (w.pick t)).1.toNat X).N+1) (Fa (by exact B4 oq:(Z Z0.dv w.heap.P)[(Z2 w.heap.C (w.pick t)).1.toNat]?=some (w.heap.P.getD (Z2 w.heap.C (w.pick t)).1.toNat X).dv) (FS 10085 Z0.dv w.heap.P ((Z2 w.heap.C (w.pick t)).1.toNat) (Z0.mk (w.heap.P.getD (Z2 w.heap.C (w.pick t)).1.toNat X).K (w.heap.P.getD (Z2 w.heap.C (w.pick t)).1.toNat X).S (w.heap.P.getD (Z2 w.heap.C (w.pick t)).1.toNat X).U ((w.heap.P.getD (Z2 w.heap.C (w.pick t)).1.toNat X).N+1)) ((w.heap.P.getD (Z2 w.heap.C (w.pick t)).1.toNat X).dv) Fz)))))))))))))))))))))))))
 have eT:w.pinT t=w.pickT t:=by rw[Zj.pinT,if_neg (λq=>c1 q.2)]
 by_cases c3:(w.heap.P.getD (Z2 w.heap.C (w.pick t)).1.toNat X).K=2\/(crowd w.heap.P:Int)<w.heap.C.pg/4;have eP:w.pin t=⟨⟨w.heap.C,w.heap.W,w.heap.P.set (Z2 w.heap.C (w.pick t)).1.toNat ⟨(w.heap.P.getD (Z2 w.heap.C (w.pick t)).1.toNat X).K,(w.heap.P.getD (Z2 w.heap.C (w.pick t)).1.toNat X).S,(w.heap.P.getD (Z2 w.heap.C (w.pick t)).1.toNat X).U,(w.heap.P.getD (Z2 w.heap.C (w.pick t)).1.toNat X).N+1⟩,w.heap.S,w.heap.B⟩,w.G,w.E⟩:=by rw[Zj.pin,if_pos e,if_neg (λq=>c1 q.1),if_pos (.inr c3)];rfl
 rw[eP,eT];exact lF func104 [] (Fh 42 [.br M] (Fh 45 [.bor [0] (int ((w.pickT t).next 2)) [((w.pickT t).step 2).b]] (Fh 59 [.el (w.heap.P.getD (Z2 w.heap.C (w.pick t)).1.toNat X).dv] (Fh 65 [.el (w.heap.P.getD (Z2 w.heap.C (w.pick t)).1.toNat X).dv] (Fh 76 [.int (w.heap.C.pg/4)] (Fh 55 [.br Y] (Fh 82 [.el (w.heap.P.getD (Z2 w.heap.C (w.pick t)).1.toNat X).dv] (Fp 12 (@N0 w t aa aa oq) (Fc 18 (@GG w.heap.C (w.pick t) oq oq) (Ffb 23 ((Z2 w.heap.C (w.pick t)).2.2 != 0) (FA 25 29 Z0.dv w.heap.P (Fmq 41 Z0.dv w.heap.P ((Z2 w.heap.C (w.pick t)).1) (Fb (La (0<(w.heap.P.getD (Z2 w.heap.C (w.pick t)).1.toNat X).N)=M) (Fa (by exact B4 oq:(Z Z0.dv w.heap.P)[(Z2 w.heap.C (w.pick t)).1.toNat]?=some (w.heap.P.getD (Z2 w.heap.C (w.pick t)).1.toNat X).dv) (Fa (by intro hg;(try simp only[bs]at hg);exact B4 oq:(!decide (0<(w.heap.P.getD (Z2 w.heap.C (w.pick t)).1.toNat X).N))=Y->(Z Z0.dv w.heap.P)[(Z2 w.heap.C (w.pick t)).1.toNat]?=some (w.heap.P.getD (Z2 w.heap.C (w.pick t)).1.toNat X).dv) (FcG 71 (!(La (0<(w.heap.P.getD (Z2 w.heap.C (w.pick t)).1.toNat X).N)||(w.heap.P.getD (Z2 w.heap.C (w.pick t)).1.toNat X).K==2)) (λhg=>by(try simp only[bs]at hg);exact@Z1G w.heap oq) (Fa (by intro hg;(try simp only[bs]at hg);rw[LN oq,CY oq oq]:(!(La (0<(w.heap.P.getD (Z2 w.heap.C (w.pick t)).1.toNat X).N)||(w.heap.P.getD (Z2 w.heap.C (w.pick t)).1.toNat X).K==2))=Y->Lq.wrap (w.heap.C.pg.tdiv 4)=w.heap.C.pg/4) (Fa (by intro hg;(try simp only[bs]at hg);omega:(!(La (0<(w.heap.P.getD (Z2 w.heap.C (w.pick t)).1.toNat X).N)||(w.heap.P.getD (Z2 w.heap.C (w.pick t)).1.toNat X).K==2))=Y->(4:Int)=0->False) (Fb ((La (0<(w.heap.P.getD (Z2 w.heap.C (w.pick t)).1.toNat X).N)||(w.heap.P.getD (Z2 w.heap.C (w.pick t)).1.toNat X).K==2||La ((↑(crowd w.heap.P):Int)<w.heap.C.pg/4))=Y) (Fa (by exact B4 oq:(Z Z0.dv w.heap.P)[(Z2 w.heap.C (w.pick t)).1.toNat]?=some (w.heap.P.getD (Z2 w.heap.C (w.pick t)).1.toNat X).dv) (Fi 83 ((w.heap.P.getD (Z2 w.heap.C (w.pick t)).1.toNat X).N+1) (Fa (by exact B4 oq:(Z Z0.dv w.heap.P)[(Z2 w.heap.C (w.pick t)).1.toNat]?=some (w.heap.P.getD (Z2 w.heap.C (w.pick t)).1.toNat X).dv) (FS 10085 Z0.dv w.heap.P ((Z2 w.heap.C (w.pick t)).1.toNat) (Z0.mk (w.heap.P.getD (Z2 w.heap.C (w.pick t)).1.toNat X).K (w.heap.P.getD (Z2 w.heap.C (w.pick t)).1.toNat X).S (w.heap.P.getD (Z2 w.heap.C (w.pick t)).1.toNat X).U ((w.heap.P.getD (Z2 w.heap.C (w.pick t)).1.toNat X).N+1)) ((w.heap.P.getD (Z2 w.heap.C (w.pick t)).1.toNat X).dv) Fz)))))))))))))))))))))));have eP:w.pin t=w:=by rw[Zj.pin,if_pos e,if_neg (λq=>c1 q.1),if_neg (λq=>q.elim c1 c3)]
 rw[eP,eT];exact lF func104 [] (Fh 42 [.br M] (Fh 45 [.bor [0] (int ((w.pickT t).next 2)) [((w.pickT t).step 2).b]] (Fh 59 [.el (w.heap.P.getD (Z2 w.heap.C (w.pick t)).1.toNat X).dv] (Fh 65 [.el (w.heap.P.getD (Z2 w.heap.C (w.pick t)).1.toNat X).dv] (Fh 76 [.int (w.heap.C.pg/4)] (Fh 55 [.br M] (Fp 12 (@N0 w t aa aa oq) (Fc 18 (@GG w.heap.C (w.pick t) oq oq) (Ffb 23 ((Z2 w.heap.C (w.pick t)).2.2 != 0) (FA 25 29 Z0.dv w.heap.P (Fmq 41 Z0.dv w.heap.P ((Z2 w.heap.C (w.pick t)).1) (Fb (La (0<(w.heap.P.getD (Z2 w.heap.C (w.pick t)).1.toNat X).N)=M) (Fa (by exact B4 oq:(Z Z0.dv w.heap.P)[(Z2 w.heap.C (w.pick t)).1.toNat]?=some (w.heap.P.getD (Z2 w.heap.C (w.pick t)).1.toNat X).dv) (Fa (by intro hg;(try simp only[bs]at hg);exact B4 oq:(!decide (0<(w.heap.P.getD (Z2 w.heap.C (w.pick t)).1.toNat X).N))=Y->(Z Z0.dv w.heap.P)[(Z2 w.heap.C (w.pick t)).1.toNat]?=some (w.heap.P.getD (Z2 w.heap.C (w.pick t)).1.toNat X).dv) (FcG 71 (!(La (0<(w.heap.P.getD (Z2 w.heap.C (w.pick t)).1.toNat X).N)||(w.heap.P.getD (Z2 w.heap.C (w.pick t)).1.toNat X).K==2)) (λhg=>by(try simp only[bs]at hg);exact@Z1G w.heap oq) (Fa (by intro hg;(try simp only[bs]at hg);rw[LN oq,CY oq oq]:(!(La (0<(w.heap.P.getD (Z2 w.heap.C (w.pick t)).1.toNat X).N)||(w.heap.P.getD (Z2 w.heap.C (w.pick t)).1.toNat X).K==2))=Y->Lq.wrap (w.heap.C.pg.tdiv 4)=w.heap.C.pg/4) (Fa (by intro hg;(try simp only[bs]at hg);omega:(!(La (0<(w.heap.P.getD (Z2 w.heap.C (w.pick t)).1.toNat X).N)||(w.heap.P.getD (Z2 w.heap.C (w.pick t)).1.toNat X).K==2))=Y->(4:Int)=0->False) (Fb ((La (0<(w.heap.P.getD (Z2 w.heap.C (w.pick t)).1.toNat X).N)||(w.heap.P.getD (Z2 w.heap.C (w.pick t)).1.toNat X).K==2||La ((↑(crowd w.heap.P):Int)<w.heap.C.pg/4))=M) Fz))))))))))))))))));have eP:w.pin t=w:=by rw[Zj.pin,if_neg e]
 have eT:w.pinT t=w.pickT t:=by rw[Zj.pinT,if_neg (λq=>e q.1)]
 rw[eP,eT];exact lF func104 [] (Fp 12 (@N0 w t aa aa oq) (Fc 18 (@GG w.heap.C (w.pick t) oq oq) (Ftb 23 ((Z2 w.heap.C (w.pick t)).2.2 != 0) Fz)))
def Z66(h:Heap)(s k:List Int)(g:Zx h.W)(hs:s.length<=1048575)(f:k.length<=1048575)(b:Gk s)(a:Gk k):GP 36 [h.av,Z3 s,Z3 k] M (.tu [(collectF h s k).1.av,Z3 (collectF h s k).2.1,Z3 (collectF h s k).2.2.1,.ag (collectF h s k).2.2.2.1.cells,int (collectF h s k).2.2.2.2]) []:=by unfold collectF;by_cases d:Z8 h=Y;rw[if_pos d];by_cases c:BA h s=Y/\BA h k=Y;rw[if_pos c];by_cases e:(rootsF (Zr h) s).2.2=0;rw[if_pos e];by_cases i:(Bu (rootsF (Zr h) s).1).2=0;rw[if_pos i];exact ZcK h s k g hs f b a d c.1 c.2 e i;rw[if_neg i];exact ZhQ h s k g hs f b a d c.1 c.2 e i;rw[if_neg e];exact Zil h s k g hs f b a d c.1 c.2 e;rw[if_neg c];refine ZdF h s k g hs f b a d ?_;by_cases q:BA h s=Y;refine O ?_;have:¬ BA h k=Y:=λj=>c ⟨q,j⟩;simpa using this;exact Lc (by simpa using q);rw[if_neg d];exact ZgM h s k g hs f b a (by simpa using d)
def Zj.collect(w:Zj):Zj:=if(collectF w.heap w.G w.E).2.2.2.2=0 then⟨(collectF w.heap w.G w.E).1,(collectF w.heap w.G w.E).2.1,(collectF w.heap w.G w.E).2.2.1⟩else w
def Zge(w:Zj)(hw:Zx w.heap.W)(hs:w.G.length<=1048575)(hk:w.E.length<=1048575)(c:Gk w.G)(b:Gk w.E):GP 23 [w.av] M w.collect.av []:=by
 by_cases e:(collectF w.heap w.G w.E).2.2.2.2=0;have a:w.collect=⟨(collectF w.heap w.G w.E).1,(collectF w.heap w.G w.E).2.1,(collectF w.heap w.G w.E).2.2.1⟩:=by rw[Zj.collect,if_pos e]
 rw[a];exact gF [] func23 [] (Fc 15 (@Z66 w.heap w.G w.E aa aa aa aa aa) (Ftb 22 ((collectF w.heap w.G w.E).2.2.2.2==0) Fz));have a:w.collect=w:=by rw[Zj.collect,if_neg e]
 rw[a];exact gF [] func23 [] (Fc 15 (@Z66 w.heap w.G w.E aa aa aa aa aa) (Ffb 22 ((collectF w.heap w.G w.E).2.2.2.2==0) Fz))
section
variable (P:Z6->Prop) (d:∀w r,B7 w->Bt w->P w->(w.fwd r).2.2=0->P (w.fwd r).1)(a:∀w q j,B7 w->Bt w->P w->q∈w.Q->0<=j->j<Zl w.heap.W q->(w.fwd (Z1 w.heap.W (q+1+j)).1).2.2=0->P (w.in1 (q+1+j))) (b:∀w n,P w->P (Hz w n))
include a in
theorem TS{w}(e:B7 w)(h:Bt w)(i:P w){q:Int}(c:q∈w.Q){l:List Int}(hl:∀x∈l,0<=x/\x<Zl w.heap.W q):∀k,k<=l.length->(∀j,j<k->CH w q l j=0)->P (Br w q l k)
 |0,_,_=>i
 |k+1,hk,he=>by
  have n:=TS e h i c hl k oq (λj g=>he j oq);have ok:=(Nf e q l k (λj g=>he j oq)).1;have f:=Tk e h c hl k oq (λj g=>he j oq);have m:=hl _ (Bs.2 ⟨k,by omega,rfl⟩);exact a _ q (l.getD k X) ok f.1 n (f.2.q q c) m.1 (by rw[f.2.l q c];exact m.2) (he k oq)
include a b in
theorem Z0b{w}(g:B7 w)(h:Bt w)(c:P w)(e:(ZZ w).2.2=0):P (ZZ w).1:=by
 by_cases f:w.D<w.Q.length;have o:=g.sc;have n:Cb w∈w.Q:=Bs.2 ⟨w.D.toNat,by omega,rfl⟩;unfold ZZ at e⊢;rw[if_pos f]at e⊢;cases hb:(Lo (Bl w).length).find? (λk=>La (CH w (Cb w) (Bl w) k≠0))with
 |none =>
  have i:∀j,j<(Bl w).length->CH w (Cb w) (Bl w) j=0:=λj m=>by(have:=Ls.1 hb j (Lr.2 m);simpa using this)
  exact b _ _ (TS P a g h c n (l:=Bl w) (SL (Zu w (Cb w))) (Bl w).length (Lj _) i)
 |some k =>simp only[hb]at e;have:=(Ll.1 hb).1;simp[e]at this
 have e:ZZ w=(w,M,0):=by rw[ZZ,if_neg f]
 rw[e];exact c
include a b in
theorem Oa{w}(c:B7 w)(h:Bt w)(g:P w):∀k,(∀j,j<k->Ew w j=M)->P (Cy w k)
 |0,_=>g
 |k+1,hh=>by
  have i:=Oa c h g k (λj e=>hh j oq);have ok:=(Iw c k (λj e=>hh j oq)).1;have l:=(D1 c h k (λj e=>hh j oq)).1;have f:=hh k oq;simp only[Ew,decide_eq_false_iff_not,not_or,Li]at f;exact Z0b P a b ok l i f.1
include a b in
theorem Z9R{w}(f:B7 w)(h:Bt w)(n:P w)(e:(Bu w).2=0):P (Bu w).1:=by
 obtain⟨k,i⟩:=Ay f;obtain⟨h1,h2,l⟩:=Ll.1 i;have g:∀j,j<k->Ew w j=M:=λj m=>by simpa using l j m
 unfold Bu at e⊢;rw[i]at e⊢;simp only at e⊢;split at e;rename_i c;rw[if_pos c];exact Z0b P a b (Iw f k g).1 (D1 f h k g).1 (Oa P a b f h n k g) c;rename_i c;exact absurd e c
include d in
theorem Z2I{w roots}(c:B7 w)(h:Bt w)(f:P w):∀k,(∀j,j<k->CV w roots j=0)->P (rootsN w roots k).1
 |0,_=>f
 |k+1,hh=>by
  have g:=Z2I c h f k (λj e=>hh j oq);have ok:=(RY (roots:=roots) c k (λj e=>hh j oq)).1;have i:=(Pr (roots:=roots) c h k (λj e=>hh j oq)).1;exact d _ _ ok i g (hh k oq)
include d in
theorem Z2n{w roots}(i:B7 w)(h:Bt w)(g:P w)(e:(rootsF w roots).2.2=0):P (rootsF w roots).1:=by
 unfold rootsF at e⊢;cases hb:(Lo roots.length).find? (λk=>La (CV w roots k≠0))with
 |none =>
  have c:∀j,j<roots.length->CV w roots j=0:=λj f=>by(have:=Ls.1 hb j (Lr.2 f);simpa using this)
  exact Z2I P d i h g roots.length c
 |some k =>simp only[hb]at e;have:=(Ll.1 hb).1;simp[e]at this
include d a b in
theorem AW{h:Heap}{s}(k:Zx h.W)(g:Z8 h=Y)(j:P (Zr h))(e:(rootsF (Zr h) s).2.2=0)(i:(Bu (rootsF (Zr h) s).1).2=0):P (ZA h s):=by have c:=NP k g;have hi:=Rc g;have f:=RL (roots:=s) c hi e;exact Z9R P a b f.1 f.2.1 (Z2n P d c hi j e) i
end
def ZiS{l:List Z0}{i k:Nat}(h:∀m,m<k->i+1+m<l.length/\(l.getD (i+1+m) X).K=3):k<=ZB l i:=by by_cases b:k<=ZB l i;exact b;have a:=h (ZB l i) oq;exact absurd a.2 (Mo a.1)
def PT.flip{c l}(h:PT c l){i:Nat}(hi:i<l.length)(hk:(l.getD i X).K=2){s:Int}(hs:0<=s/\s<=1):PT c (ZF l i (ZB l i) s):=by
 have w:∀j,i<j->j<=i+ZB l i->(l.getD j X).K=3:=λj u v=>by(have:=(RD (l:=l) (i:=i) (m:=j-i-1) oq).2;rwa [show i+1+(j-i-1)=j by omega]at this)
 have f:∀j,j<l.length->((ZF l i (ZB l i) s).getD j X).K=(l.getD j X).K/\((ZF l i (ZB l i) s).getD j X).U=(l.getD j X).U/\((ZF l i (ZB l i) s).getD j X).N=(l.getD j X).N:=λj d=>by(rw[Hb d];split;exact⟨rfl,rfl,rfl⟩;exact⟨rfl,rfl,rfl⟩)
 refine⟨?_, ?_, ?_⟩;intro j d;rw[H1]at d;have b:=h.b j d;rw[Hb d];split;rename_i n;refine⟨hs,b.n,b.k,λq=>?_,b.k1,b.k3⟩;exfalso;have q':(l.getD j X).K=0:=q;by_cases e:j=i;subst e;omega;have:=w j oq n.2;omega;exact b;intro j d g;rw[H1]at d⊢;rw[(f j d).1]at g;rw[(f j d).2.1];have q:=h.lg j d g;refine⟨q.1,λm u v=>?_⟩;have r:=q.2 m u v;refine⟨r.1,by rw[(f _ r.1).1];exact r.2.1, ?_⟩;rw[Hb r.1,Hb d];by_cases e:j=i;subst e;have hT:(need c (l.getD j X).U-1).toNat<=ZB l j:=ZiS λt a4=>by(have:=q.2 (t+1) oq oq;rw[show j+1+t=j+(t+1) by omega];exact⟨this.1,this.2.1⟩)
 rw[if_pos oq,if_pos oq];rfl;have o:¬ (i<=j/\j<=i+ZB l i):=λn=>by(have:=w j oq n.2;omega)
 have p:¬ (i<=j+m/\j+m<=i+ZB l i):=λn=>by(by_cases a0:j<i;by_cases z:j+m=i;have:=r.2.1;rw[z]at this;omega;have:=(q.2 (i-j) oq oq).2.1;rw[show j+(i-j)=i by omega]at this;omega;omega)
 rw[if_neg o,if_neg p];exact r.2.2;intro j d k;rw[H1]at d;rw[(f j d).1]at k;obtain⟨a,a1,x,y⟩:=h.tl j d k;exact⟨a,a1,by rw[(f a oq).1];exact x,by rw[(f a oq).2.1];exact y⟩
structure Tab (B:Int) (w:Z6):Prop where
 pt:PT w.heap.C w.heap.P
 tk:∀x∈w.T,(w.heap.P.getD x.toNat X).S=1-w.heap.S
 pin:∀p∈w.heap.P,p.N<=B
def Tab.withWords{B w}(h:Tab B w)(l:List Int):Tab B ⟨⟨w.heap.C,l,w.heap.P,w.heap.S,w.heap.B⟩,w.old,w.T,w.Q,w.D,w.rep⟩:=⟨h.pt,h.tk,h.pin⟩
def Tab.place{B:Int}(t:0<=B){w}(m:B7 w)(h:Tab B w){n:Int}(hn:1<=n/\n<=w.heap.C.pw)(l:(w.place n).2.2=Y):PT (w.place n).1.heap.C (w.place n).1.heap.P/\(∀x∈(w.place n).1.T,((w.place n).1.heap.P.getD x.toNat X).S=1-(w.place n).1.heap.S)/\∀p∈(w.place n).1.heap.P,p.N<=B:=by
 have v:=m.sp;by_cases c:E8 w n;have e:w.place n=(⟨⟨w.heap.C,w.heap.W,Cs w.heap.P (ZG w).toNat n,w.heap.S,w.heap.B⟩,w.old,w.T,w.Q,w.D,w.rep⟩,4096+ZG w*w.heap.C.pw+(w.heap.P.getD (ZG w).toNat X).U,Y):=by rw[Z6.place,if_pos c]
 unfold E8 at c;have j:=m.tk _ (GJ c.1);have hi:(ZG w).toNat<w.heap.P.length:=by omega
 have ok:=h.pt.b _ hi;have u:=ok.k1 j.2.2;rw[e];refine⟨h.pt.setPage hi (O j.2.2) ⟨ok.s,ok.n,ok.k,λq=>by simp only at q;omega,λ_=>by simp only;omega,λq=>by simp only at q;omega⟩ (O j.2.2), ?_, ?_⟩;intro x a;simp only;rw[RU,Cn hi];split;rename_i q;have:=h.tk _ (GJ c.1);simp only;omega;exact h.tk x a;intro p b;rcases Lv b with b|rfl;exact h.pin p b;exact h.pin (w.heap.P.getD (ZG w).toNat X) (getD_in hi);by_cases i:0<=ZN w;have e:w.place n=(⟨⟨w.heap.C,w.heap.W,Cs (ER w) (ZN w).toNat n,w.heap.S,w.heap.B⟩,w.old,w.T++[ZN w],w.Q,w.D,w.rep⟩,4096+ZN w*w.heap.C.pw,Y):=by rw[Z6.place,if_neg c,if_pos i]
 obtain⟨o,r,s⟩:=A5 (h:=⟨w.heap.C,w.heap.W,w.heap.P,1-w.heap.S,w.heap.B⟩) (by simp only;omega) i n;have f:Cs (ER w) (ZN w).toNat n=w.heap.P.set (ZN w).toNat ⟨1,1-w.heap.S,n,0⟩:=o;have g:(w.heap.P.getD (ZN w).toNat X).K=0:=r;have d:(ZN w).toNat<w.heap.P.length:=s;rw[e,f];refine⟨h.pt.setPage d (Lc g) ⟨by simp only;omega,by simp,by simp,by simp,λ_=>by simp only;omega,by simp⟩ (O rfl), ?_, ?_⟩;intro x a;simp only at a⊢;rw[Cn d];split;rfl;rename_i k;rcases Lg.1 a with a|a;exact h.tk x a;simp at a;subst a;exact absurd rfl k;intro p b;rcases Lv b with b|rfl;exact h.pin p b;exact t;rw[Z6.place,if_neg c,if_neg i]at l;simp at l
def Tab.fwd{B:Int}(v:0<=B) w r(b:B7 w)(hi:Bt w)(h:Tab B w)(e:(w.fwd r).2.2=0):Tab B (w.fwd r).1:=by
 unfold Z6.fwd at e⊢;split at e;rename_i c1;rw[if_pos c1];exact h;rename_i c1;rw[if_neg c1];split at e;simp at e;rename_i c2;rw[if_neg c2];have f:r∈w.old:=Li.1 c2;split at e;rename_i c3;rw[if_pos c3];exact h;rename_i c3;rw[if_neg c3];split at e;simp at e;rename_i c4;rw[if_neg c4];split at e;rename_i g;rw[if_pos g];exact⟨h.pt,h.tk,h.pin⟩;rename_i g;rw[if_neg g];split at e;rename_i a;rw[if_pos a];have a0:=b.sp;have o:=GM b.C (Li.1 c4);have z:=b.pl;have y:Cx w r<w.heap.P.length:=by unfold Cx;omega
 refine⟨h.pt.flip y a oq, ?_, ?_⟩;intro x u;have t:=b.tk x u;simp only[Z6.keep,Z6.flip];rw[Hb oq];split;rename_i hc;exfalso;by_cases n:x.toNat=Cx w r;rw[n]at t;omega;have:=(RD (l:=w.heap.P) (i:=Cx w r) (m:=x.toNat-Cx w r-1) oq).2;rw[show Cx w r+1+(x.toNat-Cx w r-1)=x.toNat by omega]at this;omega;exact h.tk x u;intro p d;simp only[Z6.keep,Z6.flip,ZF,LG,Lr]at d;obtain⟨j,s,rfl⟩:=d;split;exact h.pin (w.heap.P.getD j X) (getD_in s);exact h.pin (w.heap.P.getD j X) (getD_in s);rename_i a;rw[if_neg a];split at e;simp at e;rename_i q;rw[if_neg q];have k:(w.place (Z5 (Zu w r))).2.2=Y:=by simpa using q
 have c:=hi.z r f;have hs:=Re w r;have d:Z5 (Zu w r)<=w.heap.C.pw:=by(rw[Gz];rcases c with c|c;exact absurd c a;exact c)
 obtain⟨q1,q2,q3⟩:=h.place v b ⟨hs.1,d⟩ k;exact⟨q1,q2,q3⟩
def Oe{B:Int}{h:Heap}(hp:Z8 h=Y)(hb:∀p∈h.P,p.N<=B):Tab B (Zr h):=by
 have hp':=hp;rw[Gh]at hp';have hs:=hp'.2.2.2.1;refine⟨?_,by simp[Zr], ?_⟩
 .refine hp'.2.2.2.2.2.mapPages _ ?_ ?_ ?_ ?_
  .intro p hp;unfold Zq;split
   .rename_i hc;exact⟨by simp only;omega,hp.n,hp.k,λq=>by simp only at q;omega,hp.k1,λq=>by simp only at q;omega⟩
   .exact hp
  .intro p hp hk;unfold Zq at hk⊢;split at hk
   .rename_i hc;simp only at hk;omega
   .rename_i hc;rw[if_neg hc];exact⟨hk,rfl⟩
  .intro p hp hk;unfold Zq at hk;split at hk
   .rename_i hc;simp only at hk;omega
   .exact hk
  .intro p q hp hq h2 h3 he;have e1:Zq (1-h.S) p=p:=by rw[Zq,if_neg oq]
   have e2:Zq (1-h.S) q=q:=by rw[Zq,if_neg oq]
   rw[e1,e2];exact⟨⟨λ_=>h3,λ_=>h2⟩,λ_=>he⟩
 .intro p hp;simp only[Zr,LG]at hp;obtain⟨q,hq,rfl⟩:=hp;unfold Zq;split
  .exact hb q hq
  .exact hb q hq
def ZaH{B:Int}(b:0<=B){h:Heap}{s}(a:Zx h.W)(c:Z8 h=Y)(f:∀p∈h.P,p.N<=B)(e:(rootsF (Zr h) s).2.2=0)(d:(Bu (rootsF (Zr h) s).1).2=0):Tab B (ZA h s):=
 AW (Tab B) (λw r a hi h e=>h.fwd b w r a hi e) (λw q j a hi h hq h0 h1 e=>(Tab.fwd b w _ a hi h e).withWords _) (λw n h=>⟨h.pt,h.tk,h.pin⟩) a c (Oe c f) e d
structure C2 (w:Zj) (n:Nat):Prop where
 W:Zx w.heap.W
 hv:Zs w.heap.C=Y
 pl:(w.heap.P.length:Int)=w.heap.C.pg
 L:(w.heap.W.length:Int)=w.heap.C.pw*w.heap.C.pg
 N:∀j,j<w.heap.P.length->0<=(w.heap.P.getD j X).N/\(w.heap.P.getD j X).N<=n
 us:∀j,j<w.heap.P.length->0<=(w.heap.P.getD j X).U/\(w.heap.P.getD j X).U<=256
 G:Gk w.G
 E:Gk w.E
 sl:w.G.length<=n
 wl:w.E.length<=n
def C2.wm{w n}(h:C2 w n)(hn:n<=1000000):SA w:=⟨h.W,h.G,h.E,L2 h.sl oq,L2 h.wl oq⟩
def Zj.dup(w:Zj)(t:Tape):Zj:=⟨w.heap,w.G++[w.pick t],w.E⟩
def Zj.step(w:Zj)(t:Tape):Zj:=
 if t.next 12<=3 then w.put ((t.step 12).header w.heap.C)
 else if t.next 12<=6 then w.link (t.step 12)
 else if t.next 12<=7 then w.pin (t.step 12)
 else if t.next 12<=9 then w.drop (t.step 12)
 else if t.next 12<=10 then w.collect
 else w.dup (t.step 12)
def Zj.stepT(w:Zj)(t:Tape):Tape:=
 if t.next 12<=3 then(t.step 12).headerT w.heap.C
 else if t.next 12<=6 then w.linkT (t.step 12)
 else if t.next 12<=7 then w.pinT (t.step 12)
 else if t.next 12<=9 then w.dropT (t.step 12)
 else if t.next 12<=10 then t.step 12
 else w.pickT (t.step 12)
def Od(t:Tape) c:0<=(t.header c).map/\(t.header c).map<=4294967295:=by
 have h:∀n:Int,0<=((Gf t c).step 4).next (2^(min (min n 32) 12).toNat)/\((Gf t c).step 4).next (2^(min (min n 32) 12).toNat)<=4294967295:=by(intro n;have p:=Z2j (n:=min (min n 32) 12) oq;have r:=Gx ((Gf t c).step 4) (n:=2^(min (min n 32) 12).toNat) p.1;omega)
 unfold Tape.header;split;simp;split;simp;exact h _
def IW(t:Tape)(d:Int)(a:t.next 12=d)(b:Et t):LP 22 [.pt 0 0 0,int 12] [t.b] (int d) [(t.step 12).b]:=by rw[<-a];exact E0 t 12 b dd dd
section
variable (w:Zj) (t:Tape) (n:Nat) (a:C2 w n) (b:n<=1000000) (c:Et t) (ha:t.at'<=900000)
include a b c ha
theorem ZbD:LP 54 [w.av,.pt 0 0 0] [t.b] (w.step t).av [(w.stepT t).b]:=by
 have hw:=a.wm b;have h1:=a.W;have h2:=a.G;have h3:=a.E;have h4:=a.sl;have h5:=a.wl;have s1:=Nt (t:=t) 12;have k1:=Nj c s1.2.2 oq oq;have n1:=Gx t (n:=12) dd;have g:=Od (t.step 12) w.heap.C;have hv:=a.hv;have i:=a.pl;have k:∀j,j<w.heap.P.length->-1048576<=(w.heap.P.getD j X).N/\(w.heap.P.getD j X).N<=4294967296:=λj h=>by(have:=a.N j h;omega)
 have d:t.next 12=0\/t.next 12=1\/t.next 12=2\/t.next 12=3\/t.next 12=4\/t.next 12=5\/t.next 12=6\/t.next 12=7\/t.next 12=8\/t.next 12=9\/t.next 12=10\/t.next 12=11:=by omega
 rcases d with d|d|d|d|d|d|d|d|d|d|d|d;have e:w.step t=w.put ((t.step 12).header w.heap.C):=by simp[Zj.step,d]
 have f:w.stepT t=(t.step 12).headerT w.heap.C:=by simp[Zj.stepT,d]
 rw[e,f];exact lF func54 [] (Fp 6 (@IW t (0) aa aa) (Fp 17 (@OV (t.step 12) w.heap.C aa oq aa) (Fc 18 (@TQ w ((t.step 12).header w.heap.C) aa aa) Fz)));have e:w.step t=w.put ((t.step 12).header w.heap.C):=by simp[Zj.step,d]
 have f:w.stepT t=(t.step 12).headerT w.heap.C:=by simp[Zj.stepT,d]
 rw[e,f];exact lF func54 [] (Fp 6 (@IW t (1) aa aa) (Fp 17 (@OV (t.step 12) w.heap.C aa oq aa) (Fc 18 (@TQ w ((t.step 12).header w.heap.C) aa aa) Fz)));have e:w.step t=w.put ((t.step 12).header w.heap.C):=by simp[Zj.step,d]
 have f:w.stepT t=(t.step 12).headerT w.heap.C:=by simp[Zj.stepT,d]
 rw[e,f];exact lF func54 [] (Fp 6 (@IW t (2) aa aa) (Fp 17 (@OV (t.step 12) w.heap.C aa oq aa) (Fc 18 (@TQ w ((t.step 12).header w.heap.C) aa aa) Fz)));have e:w.step t=w.put ((t.step 12).header w.heap.C):=by simp[Zj.step,d]
 have f:w.stepT t=(t.step 12).headerT w.heap.C:=by simp[Zj.stepT,d]
 rw[e,f];exact lF func54 [] (Fp 6 (@IW t (3) aa aa) (Fp 17 (@OV (t.step 12) w.heap.C aa oq aa) (Fc 18 (@TQ w ((t.step 12).header w.heap.C) aa aa) Fz)));have e:w.step t=w.link (t.step 12):=by simp[Zj.step,d]
 have f:w.stepT t=w.linkT (t.step 12):=by simp[Zj.stepT,d]
 rw[e,f];exact lF func54 [] (Fp 6 (@IW t (4) aa aa) (Fp 25 (@Z1y w (t.step 12) aa aa oq) Fz));have e:w.step t=w.link (t.step 12):=by simp[Zj.step,d]
 have f:w.stepT t=w.linkT (t.step 12):=by simp[Zj.stepT,d]
 rw[e,f];exact lF func54 [] (Fp 6 (@IW t (5) aa aa) (Fp 25 (@Z1y w (t.step 12) aa aa oq) Fz));have e:w.step t=w.link (t.step 12):=by simp[Zj.step,d]
 have f:w.stepT t=w.linkT (t.step 12):=by simp[Zj.stepT,d]
 rw[e,f];exact lF func54 [] (Fp 6 (@IW t (6) aa aa) (Fp 25 (@Z1y w (t.step 12) aa aa oq) Fz));have e:w.step t=w.pin (t.step 12):=by simp[Zj.step,d]
 have f:w.stepT t=w.pinT (t.step 12):=by simp[Zj.stepT,d]
 rw[e,f];exact lF func54 [] (Fp 6 (@IW t (7) aa aa) (Fp 30 (@ZhY w (t.step 12) aa aa oq aa oq aa) Fz));have e:w.step t=w.drop (t.step 12):=by simp[Zj.step,d]
 have f:w.stepT t=w.dropT (t.step 12):=by simp[Zj.stepT,d]
 rw[e,f];exact lF func54 [] (Fp 6 (@IW t (8) aa aa) (Fp 36 (@Z9d w (t.step 12) aa aa oq) Fz));have e:w.step t=w.drop (t.step 12):=by simp[Zj.step,d]
 have f:w.stepT t=w.dropT (t.step 12):=by simp[Zj.stepT,d]
 rw[e,f];exact lF func54 [] (Fp 6 (@IW t (9) aa aa) (Fp 36 (@Z9d w (t.step 12) aa aa oq) Fz));have e:w.step t=w.collect:=by simp[Zj.step,d]
 have f:w.stepT t=t.step 12:=by simp[Zj.stepT,d]
 rw[e,f];exact lF func54 [] (Fp 6 (@IW t (10) aa aa) (Fc 40 (@Zge w aa oq oq aa aa) Fz));have e:w.step t=w.dup (t.step 12):=by simp[Zj.step,d]
 have f:w.stepT t=w.pickT (t.step 12):=by simp[Zj.stepT,d]
 rw[e,f];exact lF func54 [] (Fh 49 [.els (Z wdv (w.G++[w.pick (t.step 12)]))] (Fp 6 (@IW t (11) aa aa) (FAx 41 44 wdv w.G (by(simp[Zj.dup, *];omega)) (Fp 47 (@N0 w (t.step 12) aa aa oq) (Fs 48 (Z wdv [w.pick (t.step 12)]) (Fa (by(simp[Zj.dup, *];omega):(Z wdv w.G).length+(Z wdv [w.pick (t.step 12)]).length<=2^30) (Fa (by simp[Zj.dup,LW,LV,LD,LU,wdv,idv]:Z wdv w.G++Z wdv [w.pick (t.step 12)]=Z wdv (w.G++[w.pick (t.step 12)])) Fz)))))))
end
def Z5n{pw s l ws}(h:Zx ws):∀i,Zx (Ee pw s l ws i)
 |0=>h
 |i+1=>by
  have b:=Z5n (pw:=pw) (s:=s) (l:=l) h i;unfold Ee;split
  .intro x a;simp only[Cg,Lg,LI]at a;rcases a with(a|a)|a
   .exact b x (LA a)
   .omega
   .exact b x (LH a)
  .exact b
def ZdQ{c l}(h:PT c l) s:PT c (l.map (Bv s)):=by
 refine h.mapPages _ ?_ ?_ ?_ ?_;intro p b;unfold Bv;split;exact⟨by simp,by simp,by simp,by simp,by simp,by simp⟩;exact b;intro p b a;unfold Bv at a⊢;split at a;simp at a;rename_i i;rw[if_neg i];exact⟨a,rfl⟩;intro p b a;unfold Bv at a;split at a;simp at a;exact a;intro p q b hq f g j;by_cases k:p.S=s;have d:Bv s p=⟨0,0,0,0⟩:=by rw[Bv,if_pos ⟨by omega,k⟩]
 have e:Bv s q=⟨0,0,0,0⟩:=by rw[Bv,if_pos ⟨by omega,by omega⟩]
 rw[d,e];simp;have d:Bv s p=p:=by rw[Bv,if_neg (by unfold C8;omega)]
 have e:Bv s q=q:=by rw[Bv,if_neg (by unfold C8;omega)]
 rw[d,e];exact⟨⟨λ_=>g,λ_=>f⟩,λ_=>j⟩
def Z6v{w}(a:B7 w) k:∀i,∀x∈Eg w k i,0<=x/\x<=4294967296
 |0,x,hx=>by simp[Eg]at hx
 |i+1,x,hx=>by
  simp only[Eg,Lg,Lk]at hx;rcases hx with hx|rfl
  .exact Z6v a k i x hx
  .have h:=Sc w k i;unfold Ip;split
   .omega
   .unfold C7;rw[h.2.2.2.1,h.1];split
    .rename_i b;have:=a.q _ b;omega
    .have:=Z5z (G2 a.W (k.getD i X)).1;omega
structure Zji (B:Int) (h:Heap) (s k:List Int):Prop where
 p0:Z8 h=Y
 p1:Z8 (collectF h s k).1=Y
 w:Zx (collectF h s k).1.W
 n:∀p∈(collectF h s k).1.P,p.N<=B
 c:(collectF h s k).1.C=h.C
 r:∀x∈(collectF h s k).2.1,0<=x/\x<=4294967296
 rl:(collectF h s k).2.1.length=s.length
 v:∀x∈(collectF h s k).2.2.1,0<=x/\x<=4294967296
 vl:(collectF h s k).2.2.1.length=k.length
def Z28{B:Int}(x:0<=B){h:Heap}{s k}(r:Zx h.W)(hb:∀p∈h.P,p.N<=B)(e:(collectF h s k).2.2.2.2=0):Zji B h s k:=by
 by_cases a:Z8 h=Y;by_cases o:BA h s=Y/\BA h k=Y;by_cases b:(rootsF (Zr h) s).2.2=0;by_cases g:(Bu (rootsF (Zr h) s).1).2=0;have d:collectF h s k=(Eo (Bz h s k),(rootsF (Zr h) s).2.1,Eg (ZA h s) k k.length,(Bz h s k).rep,0):=by rw[collectF,if_pos a,if_pos o,if_pos b,if_pos g]
 have z:=RL (roots:=s) (NP r a) (Rc a) b;have c:=cOk h s k r a b g;have c5:=Pa h s k r a b g;have u:=ZaH x r a hb b g;obtain⟨n,t,v,g4,g5⟩:=c.h4;have a0:=c.w2.sp;have i:(ZA h s).heap.C=h.C:=c.x2.c;have m:=c.w2.pl;rw[i]at m;have hL:=c.i4.L;rw[n]at hL;have j:=Mh (s:=(C4 h s k).heap.S) c5.2.2.2.1 (C4 h s k).heap.P.length (Lj _);refine⟨a, ?_, ?_, ?_, ?_, ?_, ?_, ?_, ?_⟩;rw[d,Gh];simp only[Eo,Bz,H6,n,t,v,g4];have f:=ZdQ (s:=(ZA h s).heap.S) u.pt;rw[i]at f;refine⟨(B1 a).1, ?_,by simp only[Lf];exact m,by omega, ?_,f⟩;rw[n,t,v]at j;rw[j];exact hL;split;rename_i ht;have y:=GJ (w:=ZA h s) ht;have t1:=c.w2.tk _ y;have t2:=u.tk _ y;refine O ⟨t1.1,by simp only[Lf];exact t1.2.1, ?_⟩;have hx:(Z (Bv (ZA h s).heap.S) (ZA h s).heap.P).getD (ZG (ZA h s)).toNat X=(ZA h s).heap.P.getD (ZG (ZA h s)).toNat X:=by
  have hi:(ZG (ZA h s)).toNat<(ZA h s).heap.P.length:=by omega
  have:(Z (Bv (ZA h s).heap.S) (ZA h s).heap.P).getD (ZG (ZA h s)).toNat X=Bv (ZA h s).heap.S ((ZA h s).heap.P.getD (ZG (ZA h s)).toNat X):=by simp[Lb,hi]
  rw[this,Bv,if_neg (by unfold C8;omega)]
 show((Z (Bv (ZA h s).heap.S) (ZA h s).heap.P).getD (ZG (ZA h s)).toNat X).K=1;rw[hx];exact t1.2.2;exact Lc rfl;rw[d];exact Z5n c.f4.W _;rw[d];intro p l;simp only[Eo,Bz,H6,t,LG]at l;obtain⟨q,hq,rfl⟩:=l;unfold Bv;split;exact x;exact u.pin q hq;rw[d];exact n;rw[d];exact z.2.2.2.1;rw[d];exact z.2.2.2.2;rw[d];exact Z6v c.w2 k _;rw[d];exact MR _ _ _;rw[collectF,if_pos a,if_pos o,if_pos b,if_neg g]at e;exact absurd e g;rw[collectF,if_pos a,if_pos o,if_neg b]at e;exact absurd e b;rw[collectF,if_pos a,if_neg o]at e;simp at e;rw[collectF,if_neg a]at e;simp at e
def Zjm{h:Heap}(b:Z8 h=Y):∀p∈h.P,0<=p.N:=by rw[Gh]at b;intro p a;obtain⟨i,hi,e⟩:=Lu.1 a;have:=(b.2.2.2.2.2.b i hi).n.1;rwa [show h.P.getD i X=p by rw[Lb,Lz hi,e];rfl]at this
def C2.of_proper{w:Zj}{n:Nat}(b:Z8 w.heap=Y)(h:Zx w.heap.W)(g:∀p∈w.heap.P,p.N<=n)(d:Gk w.G)(e:Gk w.E)(f:w.G.length<=n)(h4:w.E.length<=n):C2 w n:=by have c:=B1 b;exact⟨h,c.1,c.2.2.2.2.2.2.2.1,c.2.2.2.2.2.1,λj a=>⟨Zjm b _ (getD_in a),g _ (getD_in a)⟩,λj a=>by have:=Ea b a;omega,d,e,f,h4⟩
def C2.pin_mem{w n}(h:C2 w n):∀p∈w.heap.P,0<=p.N/\p.N<=n:=by intro p a;obtain⟨i,hi,e⟩:=Lu.1 a;have:=h.N i hi;rwa [show w.heap.P.getD i X=p by rw[Lb,Lz hi,e];rfl]at this
def C2.mono{w n}(h:C2 w n):C2 w (n+1):=
 ⟨h.W,h.hv,h.pl,h.L,λj a=>by have:=h.N j a;omega,h.us,h.G,h.E,by have:=h.sl;omega,by have:=h.wl;omega⟩
def Z2H{l}(h:Gk l){x:Int}(b:0<=x/\x<=18446744073709551615):Gk (l++[x]):=by intro y a;simp only[Lg,Lk]at a;rcases a with a|rfl;exact h y a;exact b
def C2.put{w n}(h:C2 w n){b:Zy}(d:0<=b.map/\b.map<=4294967295):C2 (w.put b) (n+1):=by unfold Zj.put;split;rename_i e;obtain⟨k1,f,k3,k4,g,i,j,k⟩:=O1 h.W d e;have po:=B1 k1;have hl:=h.sl;have c:=h.wl;have z:=(DY f).2.1;have a1:=k3.lo;have a2:=k3.hi;refine C2.of_proper j k ?_ (Z2H h.G (by rw[g];omega)) h.E qo (by simp only;omega);intro p a;simp only at a;rw[i]at a;simp only at a;rcases k3.pin p a with q|⟨q,l,q2⟩;omega;have:=h.pin_mem q l;omega;exact h.mono
def C2.link{w n}(h:C2 w n)(e:n<=1000000) t:C2 (w.link t) (n+1):=by
 unfold Zj.link;split;rename_i b;have g:=NG b.1;have f:=h.wm e;have c:1<=(Zp w.heap (w.pick t)).1.length:=by omega
 have i:=Gx (w.pickT (w.pickT t)) (n:=8) dd;have hi:0<=Hi w t/\Hi w t<(Zp w.heap (w.pick t)).1.length:=by(unfold Hi;rw[Int.tmod_eq_emod_of_nonneg i.1];exact⟨Int.emod_nonneg _ oq,LB _ oq⟩)
 have hv:0<=Hu w t/\Hu w t<=18446744073709551615:=by(unfold Hu;split;exact Ax f _;have:=Gx ((w.pickT (w.pickT t)).step 8) (n:=1048576) dd;omega)
 obtain⟨s1,j,k⟩:=Z1d h.W hv b.1 hi;have hl:=h.sl;have d:=h.wl;refine C2.of_proper j k ?_ h.G h.E (by simp only;omega) (by simp only;omega);intro p a;simp only at a;rw[s1]at a;have:=h.pin_mem p a;omega;exact h.mono
def Z8b{w n}(h:C2 w n){i:Nat}(hi:i<w.heap.P.length){d:Int}(hd:d=1\/(d=-1/\0<(w.heap.P.getD i X).N)):C2 (pinB w i d) (n+1):=by have hp:=h.N i hi;refine⟨h.W,h.hv, ?_,h.L, ?_, ?_,h.G,h.E,by have:=h.sl;simp only[pinB];omega,by have:=h.wl;simp only[pinB];omega⟩;simp only[pinB,Lm];exact h.pl;intro j a;simp only[pinB,Lm]at a⊢;rw[Cn hi];split;simp only;omega;have:=h.N j a;omega;intro j a;simp only[pinB,Lm]at a⊢;rw[Cn hi];split;exact h.us i hi;exact h.us j a
def C2.pin{w n}(h:C2 w n) t:C2 (w.pin t) (n+1):=by
 unfold Zj.pin;split;rename_i e;have o:=GM h.hv e;have b:=h.pl;have hi:I7 w t<w.heap.P.length:=by unfold I7;omega
 split;rename_i a;exact Z8b h hi (O ⟨rfl,a.1⟩);split;exact Z8b h hi (Lc rfl);exact h.mono;exact h.mono
def C2.drop{w n}(h:C2 w n) t:C2 (w.drop t) (n+1):=by unfold Zj.drop;split;have hl:=h.sl;have c:=h.wl;refine⟨h.W,h.hv,h.pl,h.L,λj b=>by have:=h.N j b;simp only;omega,h.us, ?_, ?_, ?_, ?_⟩;intro x a;rcases Lg.1 a with a|a;exact h.G x (LA a);exact h.G x (LH a);simp only;split;exact Z2H h.E (De h.G _);exact h.E;simp only[LS,List.length_take,List.length_drop];omega;simp only;split;simp;omega;omega;exact h.mono
def C2.collect{w n}(h:C2 w n):C2 w.collect (n+1):=by unfold Zj.collect;split;rename_i e;have c:=Z28 (B:=n) oq h.W (λp a=>(h.pin_mem p a).2) e;have hl:=h.sl;have d:=h.wl;refine C2.of_proper c.p1 c.w (λp a=>by have:=c.n p a;omega) (λx b=>by have:=c.r x b;omega) (λx b=>by have:=c.v x b;omega) (by simp only[c.rl];omega) (by simp only[c.vl];omega);exact h.mono
def C2.step{w n}(h:C2 w n)(a:n<=1000000) t:C2 (w.step t) (n+1):=by
 unfold Zj.step;repeat' split
 exact h.put (Od _ _);exact h.link a _;exact h.pin _;exact h.drop _;exact h.collect;have hl:=h.sl;have c:=h.wl;exact⟨h.W,h.hv,h.pl,h.L,λj b=>by have:=h.N j b;simp only[Zj.dup]at *;omega,h.us,Z2H h.G (Ax (h.wm a) _),h.E,by simp only[Zj.dup,LS,List.length_singleton];omega,by simp only[Zj.dup];omega⟩
def SX(w:Z6)(x:Int):Z0:=w.heap.P.getD (Z2 w.heap.C x).1.toNat X
structure Rt (w:Z6):Prop where
 q:∀x∈w.Q,((SX w x).K=1\/(SX w x).K=2)/\(SX w x).S=1-w.heap.S
 t:∀x∈w.old,(ZE (Z1 w.heap.W x).1).2=Y->(ZE (Z1 w.heap.W x).1).1∈w.Q
theorem P5{a:Int}(h0:0<=a)(h1:a<4294967296):ZE (4*a+2)=(a,Y):=by
 have e:(4*a+2)/4=a:=by omega
 rw[ZE,if_pos oq,e]
def Rt.copy{B w}(k:B7 w)(h:Bt w)(hT:Tab B w)(hR:Rt w){r n:Int}(hr:r∈w.old)(hq:r∉w.Q)(hn:n=Zl w.heap.W r+1)(hp:n<=w.heap.C.pw)(hc:(w.place n).2.2=Y):Rt ((w.place n).1.copy r (w.place n).2.1 n):=by
 have a9:=Bm w.heap.W r;obtain⟨i,p,t,l,h2,h3,h4,h5,h6,h7,h8,e⟩:=TP k ⟨by omega,hp⟩ hc;have a4:p.S=1-w.heap.S:=by
  by_cases f:E8 w n;have e7:w.place n=(⟨⟨w.heap.C,w.heap.W,Cs w.heap.P (ZG w).toNat n,w.heap.S,w.heap.B⟩,w.old,w.T,w.Q,w.D,w.rep⟩,4096+ZG w*w.heap.C.pw+(w.heap.P.getD (ZG w).toNat X).U,Y):=by rw[Z6.place,if_pos f]
  unfold E8 at f;have hm:=k.tk _ (GJ f.1);have m:=hT.tk _ (GJ f.1);have hi:(ZG w).toNat<w.heap.P.length:=by omega
  rw[e7]at e;simp only[RU,Z6.mk.injEq,Heap.mk.injEq]at e;have s:=e.1.2.2.1;have v:(w.heap.P.set i p).getD i X=p:=by rw[Cn l,if_pos rfl]
  rw[<-s,Cn hi]at v;split at v;rw[<-v];exact m;rename_i d;have g2:(w.heap.P.set i p).getD (ZG w).toNat X=w.heap.P.getD (ZG w).toNat X:=by rw[Cn l,if_neg (λq=>d q.symm)]
  rw[<-s,Cn hi,if_pos rfl]at g2;have:=congrArg Z0.U g2;simp only at this;omega;by_cases hg:0<=ZN w;have e7:w.place n=(⟨⟨w.heap.C,w.heap.W,Cs (ER w) (ZN w).toNat n,w.heap.S,w.heap.B⟩,w.old,w.T++[ZN w],w.Q,w.D,w.rep⟩,4096+ZN w*w.heap.C.pw,Y):=by rw[Z6.place,if_neg f,if_pos hg]
  obtain⟨v,g2,g3⟩:=A5 (h:=⟨w.heap.C,w.heap.W,w.heap.P,1-w.heap.S,w.heap.B⟩) (by have:=k.sp;simp only;omega) hg n;have a2:Cs (ER w) (ZN w).toNat n=w.heap.P.set (ZN w).toNat ⟨1,1-w.heap.S,n,0⟩:=v;have y:(w.heap.P.getD (ZN w).toNat X).K=0:=g2;have z:(ZN w).toNat<w.heap.P.length:=g3;rw[e7,a2]at e;simp only[Z6.mk.injEq,Heap.mk.injEq]at e;have s:=e.1.2.2.1;have k1:(w.heap.P.set i p).getD i X=p:=by rw[Cn l,if_pos rfl]
  rw[<-s,Cn z]at k1;split at k1;rw[<-k1];rename_i d;have k2:(w.heap.P.set i p).getD (ZN w).toNat X=w.heap.P.getD (ZN w).toNat X:=by rw[Cn l,if_neg (λq=>d q.symm)]
  rw[<-s,Cn z,if_pos rfl]at k2;rw[<-k2]at y;simp at y;rw[Z6.place,if_neg f,if_neg hg]at hc;simp at hc
 have hb:=BD.1 k.C;have b1:=k.pl;have hL:=h.L;have a8:(i:Int)*w.heap.C.pw+w.heap.C.pw<=w.heap.C.pw*w.heap.C.pg:=by(have:=EF (i:=i) (j:=w.heap.C.pg) (pw:=w.heap.C.pw) oq oq;rw[Lh w.heap.C.pw];exact this)
 have a7:0<=(i:Int)*w.heap.C.pw:=Lp oq oq;have a5:=HM k.C;rw[e,h8];generalize hu:BY (w.heap.P.getD i X)=u at *;have a3:(Z2 w.heap.C (4096+(i:Int)*w.heap.C.pw+u)).1.toNat=i:=by(have:=M8 (c:=w.heap.C) (i:=i) (o:=u) k.C oq oq;rw[show 4096+(i:Int)*w.heap.C.pw+u=4096+((i:Int)*w.heap.C.pw+u) by omega,this];simp)
 generalize ha:4096+(i:Int)*w.heap.C.pw+u=at' at *;have b2:=h.r r (Le _ hr);have f:=h.f i l (by rcases h2 with h2|h2;exact Lc h2;exact O h2.1);rw[hu]at f;obtain⟨m1,m2,m3⟩:=RP (ws:=w.heap.W) (a:=at') (b:=r) (n:=n) oq oq oq;have a0:4096<=r/\r<4096+(moveA w.heap.W at' r n).1.length:=by omega
 refine⟨?_, ?_⟩;intro x g;simp only[Z6.copy,Lg,Lk]at g;simp only[SX,Z6.copy];rw[Cn l];split;exact⟨Lc h3,a4⟩;rename_i d;rcases g with g|rfl;exact hR.q x g;exact absurd a3.symm d;intro x g m;simp only[Z6.copy]at g m⊢;by_cases a1:x=r;subst a1;rw[RV a0]at m⊢;simp only;rw[P5 oq oq];simp;have a6:=f x (Le _ g);have b0:=Bm w.heap.W x;have el:Z1 (BQ (moveA w.heap.W at' r n).1 r (4*at'+2)).1 x=Z1 w.heap.W x:=by rw[Gg a0 a1,m3 x oq]
 rw[el]at m⊢;exact Le _ (hR.t x g m)
structure PR (B:Int) (w:Z6):Prop where
 tab:Tab B w
 rt:Rt w
def NK(w:Z6)(x:Int):Prop:=x=0\/x∈w.Q
def Z4d{B} w r(f:PR B w)(e:(w.fwd r).2.2=0):NK (w.fwd r).1 (w.fwd r).2.1:=by unfold Z6.fwd at e⊢;split at e;rename_i c1;rw[if_pos c1];exact c1;rename_i c1;rw[if_neg c1];split at e;simp at e;rename_i c2;rw[if_neg c2];have a:r∈w.old:=Li.1 c2;split at e;rename_i c3;rw[if_pos c3];exact O (f.rt.t r a c3);rename_i c3;rw[if_neg c3];split at e;simp at e;rename_i c4;rw[if_neg c4];split at e;rename_i b;rw[if_pos b];exact O (Ln _ pq);rename_i b;rw[if_neg b];split at e;rename_i c;rw[if_pos c];exact O (Ln _ pq);rename_i c;rw[if_neg c];split at e;simp at e;rename_i d;rw[if_neg d];exact O (Ln _ pq)
def PR.fwd{B:Int}(hB:0<=B) w r(hw:B7 w)(hi:Bt w)(h:PR B w)(e:(w.fwd r).2.2=0):PR B (w.fwd r).1:=by
 refine⟨h.tab.fwd hB w r hw hi e, ?_⟩;have hR:=h.rt;have hsp:=hw.sp;unfold Z6.fwd at e⊢;split at e;rename_i c1;rw[if_pos c1];exact hR;rename_i c1;rw[if_neg c1];have c1':r∉w.Q:=λh=>c1 (O h);split at e;simp at e;rename_i c2;rw[if_neg c2];have c2':r∈w.old:=Li.1 c2;split at e;rename_i c3;rw[if_pos c3];exact hR;rename_i c3;rw[if_neg c3];split at e;simp at e;rename_i c4;rw[if_neg c4];have o:=GM hw.C (Li.1 c4);have hpl:=hw.pl;split at e;rename_i c5;rw[if_pos c5];simp only[ZH,decide_eq_true_eq]at c5;have ok:=h.tab.pt.b (Z2 w.heap.C r).1.toNat oq;have oks:=ok.s;refine⟨?_,λx hx ht=>Le _ (hR.t x hx ht)⟩;intro x hx;simp only[Z6.keep,Lg,Lk]at hx;rcases hx with hx|rfl;exact hR.q x hx;refine⟨Lc c5.2.2.1, ?_⟩;simp only[SX,Z6.keep];omega;rename_i c5;rw[if_neg c5];split at e;rename_i c6;rw[if_pos c6];refine⟨?_,λx hx ht=>Le _ (hR.t x hx ht)⟩;have hlr:(Z2 w.heap.C r).1.toNat<w.heap.P.length:=by omega
 intro x hx;simp only[Z6.keep,Lg,Lk]at hx;have hxl:(Z2 w.heap.C x).1.toNat<w.heap.P.length:=by(rcases hx with hx|rfl;by_cases q:(Z2 w.heap.C x).1.toNat<w.heap.P.length;exact q;have:=(hR.q x hx).1;rw[SX,Lb,Lt oq]at this;simp only[Option.getD_none]at this;have d:(X:Z0).K=0:=rfl;omega;exact hlr)
 simp only[SX,Z6.keep,Z6.flip];rw[Hb hxl];split;refine⟨?_,rfl⟩;rcases hx with hx|rfl;exact(hR.q x hx).1;exact O c6;rename_i hne;rcases hx with hx|rfl;exact hR.q x hx;exact absurd ⟨Lj _,Nat.le_add_right _ _⟩ hne;rename_i c6;rw[if_neg c6];split at e;simp at e;rename_i c7;rw[if_neg c7];have c7':(w.place (Z5 (Zu w r))).2.2=Y:=by simpa using c7
 have hz:=hi.z r c2';have hp:Z5 (Zu w r)<=w.heap.C.pw:=by(rw[Gz];rcases hz with hz|hz;exact absurd hz c6;exact hz)
 exact hR.copy hw hi h.tab c2' c1' (Gz w r) hp c7'
def PR.in1{B:Int}(m:0<=B) w(q j:Int)(i:B7 w)(hi:Bt w)(h:PR B w)(g:q∈w.Q)(h0:0<=j)(h1:j<Zl w.heap.W q)(e:(w.fwd (Z1 w.heap.W (q+1+j)).1).2.2=0):PR B (w.in1 (q+1+j)):=by
 have b:=PR.fwd m w _ i hi h e;obtain⟨k,l⟩:=R2 i hi _ e;have a:=l.q q g;have n:=l.l q g;have hr:=k.r q (Ln _ a);have o:=k.s q (Ln _ a);have c:4096<=q+1+j/\q+1+j<4096+(w.fwd (Z1 w.heap.W (q+1+j)).1).1.heap.W.length:=by omega
 refine⟨b.tab.withWords _,b.rt.q,λx f d=>?_⟩;have el:Z1 (BQ (w.fwd (Z1 w.heap.W (q+1+j)).1).1.heap.W (q+1+j) (w.fwd (Z1 w.heap.W (q+1+j)).1).2.1).1 x=Z1 (w.fwd (Z1 w.heap.W (q+1+j)).1).1.heap.W x:=by(refine Gg c λhc=>?_;have:=o x (Le _ f) oq;omega)
 simp only[Z6.in1]at f d⊢;rw[el]at d⊢;exact b.rt.t x f d
def Z3u{h:Heap}(f:Z8 h=Y):Rt (Zr h):=by refine⟨by simp[Zr],λx d a=>?_⟩;exfalso;simp only[Zr]at d a;obtain⟨j,j1,o⟩:=(Z9c f).1 x d;have e:=o.at';have k:=MM e;unfold Z9 at e;rw[if_pos k.1,if_pos k.2.1]at e;split at e;rename_i g;have b:=g.2.2;unfold Z7 at b;split at b;rename_i c;have c1:=c.1;have c2:=c.2;unfold Zt at c1 c2;split at c2;unfold ZE at a;split at a;simp only at c2;omega;simp at a;rename_i hv;rw[if_neg hv]at c1;simp at c1;simp at b;simp at e
def Z32{B:Int}(c:0<=B){h:Heap}{s}(a:Zx h.W)(b:Z8 h=Y)(i:∀p∈h.P,p.N<=B)(e:(rootsF (Zr h) s).2.2=0)(d:(Bu (rootsF (Zr h) s).1).2=0):PR B (ZA h s):=
 AW (PR B) (λw r a hi h e=>PR.fwd c w r a hi h e) (λw q j a hi h k f g e=>PR.in1 c w q j a hi h k f g e) (λw n h=>⟨⟨h.tab.pt,h.tab.tk,h.tab.pin⟩,h.rt.q,h.rt.t⟩) a b ⟨Oe b i,Z3u b⟩ e d
def Z40{B:Int}(c:0<=B){w roots}(a:B7 w)(h:Bt w)(f:PR B w):∀k,(∀j,j<k->CV w roots j=0)->∀x∈(rootsN w roots k).2,NK (rootsN w roots k).1 x
 |0,_,x,hx=>by simp[rootsN]at hx
 |k+1,hh,x,hx=>by
  have g:=Z40 c (roots:=roots) a h f k (λj b=>hh j oq);have ok:=(RY (roots:=roots) a k (λj b=>hh j oq)).1;have i:=(Pr (roots:=roots) a h k (λj b=>hh j oq)).1;have pr:=Z2I (PR B) (λw r a hi h e=>PR.fwd c w r a hi h e) (roots:=roots) a h f k (λj b=>hh j oq);have d:=hh k oq;simp only[rootsN,Lg,Lk]at hx⊢;rcases hx with hx|rfl
  .rcases g x hx with q|q
   .exact Lc q
   .exact O ((R2 ok i _ d).2.q x q)
  .exact Z4d _ _ pr d
end Go.Proofs.YtgedmeaemofdkaaGreat
