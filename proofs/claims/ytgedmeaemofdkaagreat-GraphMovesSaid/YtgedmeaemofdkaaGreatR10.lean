/-
 The statement GraphMoves: part 10.
 Conditions: none.
-/
import Derived.Test.YtgedmeaemofdkaaGreatR9
set_option maxRecDepth 100000
set_option maxHeartbeats 2000000
set_option linter.all false
open Inhabited renaming default->X
open Bool renaming true->Y,false->M,and_eq_true->LJ
open List renaming map->Z,getD_eq_getElem?_getD->Lb,replicate->Ld,mem_append_left->Le,length_map->Lf,mem_append->Lg,mem_singleton->Lk,find?_range_eq_some->Ll,length_set->Lm,mem_append_right->Ln,range->Lo,mem_range->Lr,find?_eq_none->Ls,getElem?_eq_none->Lt,mem_iff_getElem->Lu,mem_or_eq_of_mem_set->Lv,getElem?_drop->Ly,getElem?_eq_getElem->Lz,mem_of_mem_take->LA,append_nil->LC,map_set->LD,mem_cons->LF,mem_map->LG,mem_of_mem_drop->LH,mem_replicate->LI,length->LR,length_append->LS,map_append->LU,map_drop->LV,map_take->LW,not_mem_nil->LX,pairwise_cons->LY,pairwise_iff_getElem->LZ,set_set->L0
open Or renaming inr->O,inl->Lc
open Decidable renaming decide->La,not_not->Li
open Int renaming mul_comm->Lh,mul_nonneg->Lp,add_mul->Lw,mul_le_mul_of_nonneg_right->Lx,emod_lt_of_pos->LB,mul_ediv_add_emod->LK,natCast_mul->LL,sub_self->LM,tdiv_eq_ediv_of_nonneg->LN,toNat_natCast->LO,toNat_of_nonneg->LQ
open Nat renaming le_refl->Lj,add_mul->L1,le_trans->L2,mul_le_mul_right->L3,one_mul->L4
open Go.IntKind renaming i64->Lq
open Go.Proofs.Tryz
namespace Go.Proofs.YtgedmeaemofdkaaGreat
open Go.Sx
def itW(w:Work):Nat->Work
 | 0=>w
 | k+1=>(Z0r (itW w k)).1
def bndW(w:Work):Nat:=1000002+w.old.length
def Z2T(w:Work)(k:Nat):Bool:=La ((Z0r (itW w k)).2.2≠0\/(Z0r (itW w k)).2.1=M)
def allF(w:Work):Work×Int:=match (Lo (bndW w)).find? (Z2T w)with
 | none=>(w,0)
 | some k=>if(Z0r (itW w k)).2.2=0 then((Z0r (itW w k)).1,0)else(noWork,(Z0r (itW w k)).2.2)
def Z4a{w:Work}(hw:WkOk w):∀ k,(∀ j,j<k->Z2T w j=M)->WkOk (itW w k)/\(itW w k).D=w.D+k
 | 0,_=>⟨hw,by simp[itW]⟩
 | k+1,h=>by
  have ih:=Z4a hw k (λj hj=>h j oq);have hk:=h k oq;simp only[Z2T,decide_eq_false_iff_not,not_or,Li]at hk;have hs:=Z7Y ih.1 hk.1;refine⟨hs.1, ?_⟩;have:=hs.2 (by simpa using hk.2);simp only[itW];omega
def Z3A{w:Work}(hw:WkOk w):∃ k,(Lo (bndW w)).find? (Z2T w)=some k:=by
 cases hb:(Lo (bndW w)).find? (Z2T w)with
 | some k=>exact⟨k,rfl⟩
 | none =>
  exfalso;have h0:∀ j,j<1000001->Z2T w j=M:=λj hj=>by
   have:=Ls.1 hb j (Lr.2 (by unfold bndW;omega));simpa using this
  have k:=Z4a hw 1000001 h0;have h1:=k.1.sc;have h2:=k.1.mu;have h3:=hw.sc;omega
def allL(w:Work):Tg:=⟨tm 21 [(1,.pt 8001 0 0),(2,.pt 8002 0 0),(3,int 0)],[(8002,.box 138 zW),(8001,.box 138 w.cells)],60⟩
section
variable (w:Work) (hw:WkOk w)
include hw
theorem Zfl(e:(Z0r w).2.2=0)(m:(Z0r w).2.1=Y):CP (rndF f84 0) (allL w).st .nrm (allL (Z0r w).1).st:=by
 exact sF [] [] (Fc 9 (@Z9s w aa) (Ffb 14 ((Z0r w).2.2 != 0) (Ffb 19 (!(Z0r w).2.1) Fz)))
theorem ZnJ(e:(Z0r w).2.2=0)(m:(Z0r w).2.1=M):CP (rndF f84 0) (allL w).st .ret (Tg.st ⟨tm 21 [(2,.pt 8002 0 0),(3,int 0)],[(8002,.box 138 (Z0r w).1.cells)],60⟩):=by
 exact sF [] [] (Fc 9 (@Z9s w aa) (Ffb 14 ((Z0r w).2.2 != 0) (Ftb 19 (!(Z0r w).2.1) Fz)))
theorem Zov(e:¬ (Z0r w).2.2=0):CP (rndF f84 0) (allL w).st .ret (Tg.st ⟨tm 21 [(2,.pt 8002 0 0),(3,int (Z0r w).2.2)],[(8002,.box 138 zW)],60⟩):=by
 exact sF [] [] (Fc 9 (@Z9s w aa) (Ftb 14 ((Z0r w).2.2 != 0) Fz))
theorem ZnI(k:Nat)(hb:(Lo (bndW w)).find? (Z2T w)=some k)(e:(Z0r (itW w k)).2.2=0):CP (blkF f84 0) (Tg.st ⟨tm 21 [(1,.pt 8001 0 0),(2,.pt 8002 0 0),(3,int 0)],[(8002,.box 138 zW),(8001,.box 138 w.cells)],60⟩) .ret (Tg.st ⟨tm 21 [(2,.pt 8002 0 0),(3,int 0)],[(8002,.box 138 (Z0r (itW w k)).1.cells)],60⟩):=by
 obtain⟨h1,h2,h3⟩:=Ll.1 hb;have h0:∀ j,j<k->Z2T w j=M:=λj hj=>by simpa using h3 j hj
 have m:(Z0r (itW w k)).2.1=M:=by
  simp only[Z2T,decide_eq_true_eq,e]at h1;simpa using h1
 exact Z0y (S:=λk=>(allL (itW w k)).st) k kr (λj hj=>by
  have hk:=h0 j hj;simp only[Z2T,decide_eq_false_iff_not,not_or,Li]at hk;exact Zfl _ (Z4a hw j λi hi=>h0 i oq).1 hk.1 (by simpa using hk.2)) (ZnJ _ (Z4a hw k h0).1 e m)
theorem ZkT(k:Nat)(hb:(Lo (bndW w)).find? (Z2T w)=some k)(e:¬ (Z0r (itW w k)).2.2=0):CP (blkF f84 0) (Tg.st ⟨tm 21 [(1,.pt 8001 0 0),(2,.pt 8002 0 0),(3,int 0)],[(8002,.box 138 zW),(8001,.box 138 w.cells)],60⟩) .ret (Tg.st ⟨tm 21 [(2,.pt 8002 0 0),(3,int (Z0r (itW w k)).2.2)],[(8002,.box 138 zW)],60⟩):=by
 obtain⟨h1,h2,h3⟩:=Ll.1 hb;have h0:∀ j,j<k->Z2T w j=M:=λj hj=>by simpa using h3 j hj
 exact Z0y (S:=λk=>(allL (itW w k)).st) k kr (λj hj=>by
  have hk:=h0 j hj;simp only[Z2T,decide_eq_false_iff_not,not_or,Li]at hk;exact Zfl _ (Z4a hw j λi hi=>h0 i oq).1 hk.1 (by simpa using hk.2)) (Zov _ (Z4a hw k h0).1 e)
theorem Zbt:GP 84 [w.av] M (.tu [(allF w).1.av,int (allF w).2]) []:=by
 obtain⟨k,hb⟩:=Z3A hw;by_cases e:(Z0r (itW w k)).2.2=0
 .have e7:allF w=((Z0r (itW w k)).1,0):=by rw[allF,hb];simp only[if_pos e]
  rw[e7];exact gF [] func84 [] (Fu (@ZnI w aa k aa aa) Fz)
 .have e7:allF w=(noWork,(Z0r (itW w k)).2.2):=by rw[allF,hb];simp only[if_neg e]
  rw[e7];exact gF [] func84 [] (Fu (@ZkT w aa k aa aa) (Fnl (Fnl (Fnl (Fnl (Fnl Fz))))))
omit hw in
theorem Zn8(hw:WkOk w)(e:(allF w).2=0):WkOk (allF w).1:=by
 obtain⟨k,hb⟩:=Z3A hw;obtain⟨h1,h2,h3⟩:=Ll.1 hb;have h0:∀ j,j<k->Z2T w j=M:=λj hj=>by simpa using h3 j hj
 unfold allF at e ⊢;rw[hb]at e ⊢;simp only at e ⊢;split at e
 .rename_i c;rw[if_pos c];exact(Z7Y (Z4a hw k h0).1 c).1
 .rename_i c;exact absurd e c
end
def hlA(ws:List Int)(a:Int):Int:=(decodeH (loadA ws a).1).1.length
def Z09(ws:List Int)(a:Int):0<=hlA ws a/\hlA ws a<=255:=by
 have:=validH_iff.1 (Z22 (loadA ws a).1);exact⟨this.2.2.1,this.2.2.2.1⟩
def Z29{ws l:List Int}{a b:Int}(h:4096<=a/\a-4096+l.length<=ws.length)(hb:b<a\/a+l.length<=b):loadA (Z0t ws a l).1 b=loadA ws b:=by
 unfold Z0t;rw[if_pos h];have hl:(spl ws (a-4096).toNat l).length=ws.length:=Z3V oq;unfold loadA;simp only[hl];split
 .have:=Z8p (ws:=ws) (l:=l) (i:=(a-4096).toNat) (k:=l.length) oq (Lj _) (b-4096).toNat
  rw[ZdH]at this;rw[Lb,Lb,this];by_cases h1:(b-4096).toNat<(a-4096).toNat
  .rw[if_pos h1]
  .rw[if_neg h1,if_neg oq]
 .rfl
def Z1H{ws l:List Int}{a b:Int}(h:4096<=a/\a-4096+l.length<=ws.length)(hb:a<=b/\b<a+l.length):loadA (Z0t ws a l).1 b=(l.getD (b-a).toNat 0,0):=by
 unfold Z0t;rw[if_pos h];have hl:(spl ws (a-4096).toNat l).length=ws.length:=Z3V oq;unfold loadA;simp only[hl];rw[if_pos oq];have:=Z8p (ws:=ws) (l:=l) (i:=(a-4096).toNat) (k:=l.length) oq (Lj _) (b-4096).toNat
 rw[ZdH]at this;rw[Lb,Lb,this,if_neg oq,if_pos oq,show(b-4096).toNat-(a-4096).toNat=(b-a).toNat by omega]
def Z2m{ws:List Int}{a v:Int}(h:4096<=a/\a<4096+ws.length):(Z0B ws a v).1.length=ws.length:=by
 unfold Z0B Z0t;rw[if_pos qo];exact Z3V qo
def Z0l{ws:List Int}{a b v:Int}(h:4096<=a/\a<4096+ws.length)(hb:b≠a):loadA (Z0B ws a v).1 b=loadA ws b :=
 Z29 qo qo
def Z1s{ws:List Int}{a v:Int}(h:4096<=a/\a<4096+ws.length):loadA (Z0B ws a v).1 a=(v,0):=by
 have:=Z1H (ws:=ws) (l:=[v]) (a:=a) (b:=a) qo qo;rw[Z0B,this];simp
def Z58{ws:List Int}{a b n:Int}(hn:1<=n)(ha:4096<=a/\a-4096+n<=ws.length)(hb:4096<=b/\b-4096+n<=ws.length) :
  (moveA ws a b n).1.length=ws.length/\loadA (moveA ws a b n).1 a=((loadA ws b).1,0)/\∀ x,x<a\/a+n<=x->loadA (moveA ws a b n).1 x=loadA ws x:=by
 have e1:Z18 ws b n=((ws.drop (b-4096).toNat).take n.toNat,0):=by rw[Z18,if_neg oq,if_pos hb]
 have e2:moveA ws a b n=Z0t ws a ((ws.drop (b-4096).toNat).take n.toNat):=by rw[moveA,e1];simp
 have hl:((ws.drop (b-4096).toNat).take n.toNat).length=n.toNat:=by simp;omega
 rw[e2];refine⟨?_, ?_, ?_⟩
 .unfold Z0t;rw[if_pos oq];exact Z3V oq
 .rw[Z1H oq oq];congr 1;unfold loadA;rw[if_pos oq];simp only[Lb,LM,Int.toNat_zero];rw[List.getElem?_take_of_lt oq,Ly];simp
 .intro x hx;exact Z29 oq oq
def Zh3(a:Int):(decodeH (4*a+2)).1.length=0:=by
 unfold decodeH;rw[if_neg]
 .rfl
 .rintro⟨h1,h2⟩;unfold Z0a at h1 h2;split at h2
  .simp only[Z2S]at h2;omega
  .simp only at h2;omega
def occP(p:Page):Int:=if p.K=0 then 0 else p.U
structure CIv (w:Work):Prop where
 L:(w.heap.W.length:Int)=w.heap.C.pw*w.heap.C.pg
 r:∀ a∈w.old++w.Q,4096<=a/\a+hlA w.heap.W a<4096+w.heap.W.length
 s:∀ a∈w.old++w.Q,∀ b∈w.old++w.Q,a<b->a+hlA w.heap.W a<b
 f:∀ i:Nat,i<w.heap.P.length->(w.heap.P.getD i X).K=0\/(i:Int)∈w.T->∀ a∈w.old++w.Q,a+hlA w.heap.W a<4096+i*w.heap.C.pw+occP (w.heap.P.getD i X)\/4096+i*w.heap.C.pw+w.heap.C.pw<=a
 z:∀ x∈w.old,(w.heap.P.getD (ofA w.heap.C x).1.toNat X).K=2\/hlA w.heap.W x+1<=w.heap.C.pw
def CIv.withWords{w:Work}(h:CIv w){l:List Int}(hl:l.length=w.heap.W.length)(hh:∀ a∈w.old++w.Q,hlA l a<=hlA w.heap.W a):CIv ⟨⟨w.heap.C,l,w.heap.P,w.heap.S,w.heap.B⟩,w.old,w.T,w.Q,w.D,w.rep⟩:=by
 refine⟨?_, ?_, ?_, ?_, ?_⟩
 .simp only[hl];exact h.L
 .intro a ha;have h1:=h.r a ha;have h2:=hh a ha;simp only[hl];omega
 .intro a ha b hb hab;have h1:=h.s a ha b hb hab;have h2:=hh a ha;simp only;omega
 .intro i hi hc a ha;have h1:=h.f i hi hc a ha;have h2:=hh a ha;simp only at *;omega
 .intro x hx;have h1:=h.z x hx;have h2:=hh x (Le _ hx);simp only at *;omega
def CIv.keep{w:Work}(h:CIv w){r:Int}(hr:r∈w.old):CIv (w.keep r):=by
 have hm:∀ a,a∈w.old++(w.Q++[r])->a∈w.old++w.Q:=by
  intro a ha;simp only[Lg,Lk]at ha ⊢;rcases ha with ha | ha | rfl
  .exact Lc ha
  .exact O ha
  .exact Lc hr
 exact⟨h.L,λa ha=>h.r a (hm a ha),λa ha b hb=>h.s a (hm a ha) b (hm b hb),λi hi hc a ha=>h.f i hi hc a (hm a ha),h.z⟩
def CIv.flip{w:Work}(h:CIv w)(i:Nat):CIv (w.flip i):=by
 have hk:∀ j,((Z0H w.heap.P i (Z0z w.heap.P i) (1-w.heap.S)).getD j X).K=(w.heap.P.getD j X).K/\((Z0H w.heap.P i (Z0z w.heap.P i) (1-w.heap.S)).getD j X).U=(w.heap.P.getD j X).U:=by
  intro j;by_cases hj:j<w.heap.P.length
  .rw[Z1h hj];split
   .exact⟨rfl,rfl⟩
   .exact⟨rfl,rfl⟩
  .rw[Lb,Lb,Lt (by rw[Z1i];omega),Lt oq];exact⟨rfl,rfl⟩
 refine⟨h.L,h.r,h.s, ?_, ?_⟩
 .intro j hj hc a ha;simp only[Work.flip,Z1i,occP,hk]at hj hc ha ⊢;exact h.f j hj hc a ha
 .intro x hx;simp only[Work.flip,hk];exact h.z x hx
def Z4e{w:Work}{n:Int}(hw:WkOk w)(hn:1<=n/\n<=w.heap.C.pw)(h:(w.place n).2.2=Y) :
  ∃ (i:Nat) (p:Page) (t:List Int),i<w.heap.P.length/\((w.heap.P.getD i X).K=0\/((i:Int)∈w.T/\(w.heap.P.getD i X).K=1))/\p.K=1/\p.U=occP (w.heap.P.getD i X)+n/\occP (w.heap.P.getD i X)+n<=w.heap.C.pw/\0<=occP (w.heap.P.getD i X)/\(∀ x∈t,x∈w.T\/x=(i:Int))/\(w.place n).2.1=4096+i*w.heap.C.pw+occP (w.heap.P.getD i X) /\
  (w.place n).1=⟨⟨w.heap.C,w.heap.W,w.heap.P.set i p,w.heap.S,w.heap.B⟩,w.old,t,w.Q,w.D,w.rep⟩:=by
 have hb:=validB_iff.1 hw.C;have hpl:=hw.pl;by_cases hf:Z3C w n
 .have e:w.place n=(⟨⟨w.heap.C,w.heap.W,Z1R w.heap.P (Z0E w).toNat n,w.heap.S,w.heap.B⟩,w.old,w.T,w.Q,w.D,w.rep⟩,4096+Z0E w*w.heap.C.pw+(w.heap.P.getD (Z0E w).toNat X).U,Y):=by rw[Work.place,if_pos hf]
  unfold Z3C at hf;have hm:=hw.tk _ (Z1c hf.1);have hu:=hw.us (Z0E w).toNat oq
  have hk:=hm.2.2;have hup:occP (w.heap.P.getD (Z0E w).toNat X)=(w.heap.P.getD (Z0E w).toNat X).U:=by rw[occP,if_neg oq]
  have hc:(((Z0E w).toNat:Nat):Int)=Z0E w:=by omega
  refine⟨(Z0E w).toNat,⟨(w.heap.P.getD (Z0E w).toNat X).K,(w.heap.P.getD (Z0E w).toNat X).S,(w.heap.P.getD (Z0E w).toNat X).U+n,(w.heap.P.getD (Z0E w).toNat X).N⟩,w.T,by omega,O ⟨by rw[hc];exact Z1c hf.1,hk⟩,hk,by rw[hup],by rw[hup];omega,by rw[hup];omega,λx hx=>Lc hx, ?_, ?_⟩
  .rw[e,hup,hc]
  .rw[e];rfl
 .by_cases hg:0<=Z0p w
  .have e:w.place n=(⟨⟨w.heap.C,w.heap.W,Z1R (Z2u w) (Z0p w).toNat n,w.heap.S,w.heap.B⟩,w.old,w.T++[Z0p w],w.Q,w.D,w.rep⟩,4096+Z0p w*w.heap.C.pw,Y):=by rw[Work.place,if_neg hf,if_pos hg]
   obtain⟨f1,f2,f3,f4⟩:=Z3e (h:=⟨w.heap.C,w.heap.W,w.heap.P,1-w.heap.S,w.heap.B⟩) (by have:=hw.sp;simp only;omega) hg;obtain⟨g1,g2,g3⟩:=Z1F hg;simp only at f1 f2 f3 f4;have hi:(Z0p w).toNat<w.heap.P.length:=by unfold Z0p;omega
   have hk:(w.heap.P.getD (Z0p w).toNat X).K=0:=by
    have:=freeK_iff.1 g3 0 dd;simpa[Z0p]using this
   have hup:occP (w.heap.P.getD (Z0p w).toNat X)=0:=by rw[occP,if_pos hk]
   have hc:(((Z0p w).toNat:Nat):Int)=Z0p w:=by omega
   have hq:Z1R (Z2u w) (Z0p w).toNat n=w.heap.P.set (Z0p w).toNat ⟨1,1-w.heap.S,n,0⟩:=by
    unfold Z1R;have e4:(Z2u w).getD (Z0p w).toNat X=⟨1,1-w.heap.S,0,0⟩:=f4;rw[e4];have e1:Z2u w=w.heap.P.set (Z0p w).toNat ⟨1,1-w.heap.S,0,0⟩:=by
     have:Z2u w=tookP w.heap.P (Z0p w).toNat 1 ⟨1,1-w.heap.S,0,0⟩ ⟨0,0,0,0⟩:=f1;rw[this,Z8t hi]
    rw[e1,L0];simp
   refine⟨(Z0p w).toNat,⟨1,1-w.heap.S,n,0⟩,w.T++[Z0p w],hi,Lc hk,rfl,by rw[hup];simp,by rw[hup];omega,by rw[hup];decide, ?_, ?_, ?_⟩
   .intro x hx;simp only[Lg,Lk]at hx;rcases hx with hx | rfl
    .exact Lc hx
    .exact O hc.symm
   .rw[e,hup,hc];simp
   .rw[e,hq]
  .rw[Work.place,if_neg hf,if_neg hg]at h;simp at h
def Z0Y{i j pw:Int}(h:i<j)(hp:0<=pw):i*pw+pw<=j*pw:=by
 have:=Lx (show i+1<=j by omega) hp;rw[Lw,Int.one_mul]at this;exact this
def CIv.copy{w:Work}(hw:WkOk w)(h:CIv w){r n:Int}(hr:r∈w.old)(hn:n=hlA w.heap.W r+1)(hp:n<=w.heap.C.pw)(hc:(w.place n).2.2=Y):CIv ((w.place n).1.copy r (w.place n).2.1 n):=by
 have hlr:=Z09 w.heap.W r;obtain⟨i,p,t,h1,h2,h3,h4,h5,h6,h7,h8,e⟩:=Z4e hw ⟨by omega,hp⟩ hc;have hb:=validB_iff.1 hw.C;have hpl:=hw.pl;have hL:=h.L;have hio:(i:Int)*w.heap.C.pw+w.heap.C.pw<=w.heap.C.pw*w.heap.C.pg:=by
  have:=Z0Y (i:=i) (j:=w.heap.C.pg) (pw:=w.heap.C.pw) oq oq;rw[Lh w.heap.C.pw];exact this
 have hi0:0<=(i:Int)*w.heap.C.pw:=Lp oq oq;rw[e,h8];generalize hu:occP (w.heap.P.getD i X)=u at *;generalize ha:4096+(i:Int)*w.heap.C.pw+u=at';have hrr:=h.r r (Le _ hr);have hf:=h.f i h1 (by rcases h2 with h2 | h2;exact Lc h2;exact O h2.1);rw[hu]at hf;obtain⟨m1,m2,m3⟩:=Z58 (ws:=w.heap.W) (a:=at') (b:=r) (n:=n) oq oq oq;have hfr:=hf r (Le _ hr);have hne:r≠at':=by omega
 have hsr:4096<=r/\r<4096+(moveA w.heap.W at' r n).1.length:=by omega
 have k1:∀ a∈w.old++w.Q,hlA (Z0B (moveA w.heap.W at' r n).1 r (4*at'+2)).1 a<=hlA w.heap.W a:=by
  intro a hA;have hfa:=hf a hA;have hla:=Z09 w.heap.W a;by_cases hk:a=r
  .subst hk;have:hlA (Z0B (moveA w.heap.W at' a n).1 a (4*at'+2)).1 a=0:=by
    unfold hlA;rw[Z1s hsr];exact Zh3 at'
   omega
  .have:hlA (Z0B (moveA w.heap.W at' r n).1 r (4*at'+2)).1 a=hlA w.heap.W a:=by
    unfold hlA;rw[Z0l hsr hk,m3 a oq]
   omega
 have k2:hlA (Z0B (moveA w.heap.W at' r n).1 r (4*at'+2)).1 at'=n-1:=by
  have:hlA (Z0B (moveA w.heap.W at' r n).1 r (4*at'+2)).1 at'=hlA w.heap.W r:=by
   unfold hlA;rw[Z0l hsr (Ne.symm hne),m2]
  omega
 have hlen:(Z0B (moveA w.heap.W at' r n).1 r (4*at'+2)).1.length=w.heap.W.length:=by rw[Z2m hsr,m1]
 have hmem:∀ a,a∈w.old++(w.Q++[at'])->a∈w.old++w.Q\/a=at':=by
  intro a hA;simp only[Lg,Lk]at hA ⊢;rcases hA with hA | hA | hA
  .exact Lc (Lc hA)
  .exact Lc (O hA)
  .exact O hA
 refine⟨?_, ?_, ?_, ?_, ?_⟩
 .simp only[Work.copy,hlen];exact hL
 .intro a hA;simp only[Work.copy,hlen]at hA ⊢;rcases hmem a hA with hA | rfl
  .have q1:=h.r a hA;have q2:=k1 a hA;omega
  .rw[k2];omega
 .intro a hA b hB hab;simp only[Work.copy]at hA hB ⊢;rcases hmem a hA with hA' | e1<;>rcases hmem b hB with hB' | e2
  .have q1:=h.s a hA' b hB' hab;have q2:=k1 a hA';omega
  .have q1:=hf a hA';have q2:=k1 a hA';omega
  .have q1:=hf b hB';have q2:=Z09 w.heap.W b;rw[e1,k2];omega
  .omega
 .intro j hj hcj a hA;simp only[Work.copy,Lm]at hj hcj hA ⊢;by_cases hij:i=j
  .subst hij;rw[Z0k h1,if_pos rfl];have hup:occP p=u+n:=by rw[occP,if_neg oq,h4]
   rw[hup];rcases hmem a hA with hA | rfl
   .have q1:=hf a hA;have q2:=k1 a hA;omega
   .rw[k2];omega
  .rw[Z0k h1,if_neg hij]at hcj ⊢;have hcj':(w.heap.P.getD j X).K=0\/(j:Int)∈w.T:=by
    rcases hcj with hcj | hcj
    .exact Lc hcj
    .rcases h7 _ hcj with q | q
     .exact O q
     .omega
   rcases hmem a hA with hA | rfl
   .have q1:=h.f j hj hcj' a hA;have q2:=k1 a hA;omega
   .rw[k2];have hus:0<=occP (w.heap.P.getD j X):=by
     have:=hw.us j hj;unfold occP;split<;>omega
    by_cases hlt:i<j
    .have:=Z0Y (i:=i) (j:=j) (pw:=w.heap.C.pw) oq oq;omega
    .have:=Z0Y (i:=j) (j:=i) (pw:=w.heap.C.pw) oq oq;omega
 .intro x hx;simp only[Work.copy]at hx ⊢;have q1:=h.z x hx;have q2:=k1 x (Le _ hx);rw[Z0k h1];split
  .rename_i hxi;rw[<- hxi]at q1;rcases h2 with h2 | h2<;>omega
  .omega
structure CEx (w v:Work):Prop where
 c:v.heap.C=w.heap.C
 o:v.old=w.old
 q:∀ x∈w.Q,x∈v.Q
 l:∀ x∈w.Q,hlA v.heap.W x=hlA w.heap.W x
def CEx.rfl'(w:Work):CEx w w:=⟨rfl,rfl,λ_ h=>h,λ_ _=>rfl⟩
def CEx.trans{u v w:Work}(h1:CEx u v)(h2:CEx v w):CEx u w :=
 ⟨h2.c.trans h1.c,h2.o.trans h1.o,λx hx=>h2.q x (h1.q x hx),λx hx=>(h2.l x (h1.q x hx)).trans (h1.l x hx)⟩
def Z2t(w:Work)(r:Int):sizeH (hdW w r)=hlA w.heap.W r+1:=by
 have hv:Z0d (hdW w r)=Y:=Z22 _;rw[sizeH,if_pos hv];rfl
def Zkz{w:Work}(hw:WkOk w)(h:CIv w){r n:Int}(hr:r∈w.old)(hq:r∉w.Q)(hn:n=hlA w.heap.W r+1)(hp:n<=w.heap.C.pw)(hc:(w.place n).2.2=Y):CEx w ((w.place n).1.copy r (w.place n).2.1 n):=by
 have hlr:=Z09 w.heap.W r;obtain⟨i,p,t,h1,h2,h3,h4,h5,h6,h7,h8,e⟩:=Z4e hw ⟨by omega,hp⟩ hc;have hb:=validB_iff.1 hw.C;have hpl:=hw.pl;have hL:=h.L;have hio:(i:Int)*w.heap.C.pw+w.heap.C.pw<=w.heap.C.pw*w.heap.C.pg:=by
  have:=Z0Y (i:=i) (j:=w.heap.C.pg) (pw:=w.heap.C.pw) oq oq;rw[Lh w.heap.C.pw];exact this
 have hi0:0<=(i:Int)*w.heap.C.pw:=Lp oq oq;rw[e,h8];generalize hu:occP (w.heap.P.getD i X)=u at *;generalize ha:4096+(i:Int)*w.heap.C.pw+u=at';have hrr:=h.r r (Le _ hr);have hf:=h.f i h1 (by rcases h2 with h2 | h2;exact Lc h2;exact O h2.1);rw[hu]at hf;obtain⟨m1,m2,m3⟩:=Z58 (ws:=w.heap.W) (a:=at') (b:=r) (n:=n) oq oq oq;have hsr:4096<=r/\r<4096+(moveA w.heap.W at' r n).1.length:=by omega
 refine⟨rfl,rfl,λx hx=>Le _ hx, ?_⟩;intro x hx;have hfx:=hf x (Ln _ hx);have hlx:=Z09 w.heap.W x;simp only[Work.copy];unfold hlA at *;rw[Z0l hsr (λq=>hq (q▸hx)),m3 x oq]
def Z3z{w:Work}(hw:WkOk w)(h:CIv w)(r:Int)(e:(w.fwd r).2.2=0):CIv (w.fwd r).1/\CEx w (w.fwd r).1:=by
 unfold Work.fwd at e ⊢;split at e
 .rename_i c1;rw[if_pos c1];exact⟨h,CEx.rfl' w⟩
 .rename_i c1;rw[if_neg c1];have c1':r∉w.Q:=λh=>c1 (O h);split at e
  .simp at e
  .rename_i c2;rw[if_neg c2];have c2':r∈w.old:=Li.1 c2;split at e
   .rename_i c3;rw[if_pos c3];exact⟨h,CEx.rfl' w⟩
   .rename_i c3;rw[if_neg c3];split at e
    .simp at e
    .rename_i c4;rw[if_neg c4];split at e
     .rename_i c5;rw[if_pos c5];exact⟨h.keep c2',⟨rfl,rfl,λx hx=>Le _ hx,λ_ _=>rfl⟩⟩
     .rename_i c5;rw[if_neg c5];split at e
      .rename_i c6;rw[if_pos c6];exact⟨(h.flip _).keep c2',⟨rfl,rfl,λx hx=>Le _ hx,λ_ _=>rfl⟩⟩
      .rename_i c6;rw[if_neg c6];split at e
       .simp at e
       .rename_i c7;rw[if_neg c7];have c7':(w.place (sizeH (hdW w r))).2.2=Y:=by simpa using c7
        have hz:=h.z r c2';have hp:sizeH (hdW w r)<=w.heap.C.pw:=by
         rw[Z2t];rcases hz with hz | hz
         .exact absurd hz c6
         .exact hz
        exact⟨h.copy hw c2' (Z2t w r) hp c7',Zkz hw h c2' c1' (Z2t w r) hp c7'⟩
def Zil{w:Work}(hw:WkOk w)(h:CIv w){q j:Int}(hq:q∈w.Q)(hj:0<=j/\j<hlA w.heap.W q)(e:(w.fwd (loadA w.heap.W (q+1+j)).1).2.2=0):CIv (w.in1 (q+1+j))/\CEx w (w.in1 (q+1+j)):=by
 obtain⟨i1,x1⟩:=Z3z hw h _ e;have hq1:=x1.q q hq;have hl1:=x1.l q hq;have hr:=i1.r q (Ln _ hq1);have hs:=i1.s q (Ln _ hq1);have hin:4096<=q+1+j/\q+1+j<4096+(w.fwd (loadA w.heap.W (q+1+j)).1).1.heap.W.length:=by omega
 have hk:∀ a∈(w.fwd (loadA w.heap.W (q+1+j)).1).1.old++(w.fwd (loadA w.heap.W (q+1+j)).1).1.Q,hlA (Z0B (w.fwd (loadA w.heap.W (q+1+j)).1).1.heap.W (q+1+j) (w.fwd (loadA w.heap.W (q+1+j)).1).2.1).1 a=hlA (w.fwd (loadA w.heap.W (q+1+j)).1).1.heap.W a:=by
  intro a ha;unfold hlA;rw[Z0l hin];intro hc;have:=hs a ha oq;omega
 refine⟨i1.withWords (Z2m hin) (λa ha=>Int.le_of_eq (hk a ha)),x1.trans ⟨rfl,rfl,λ_ h=>h,λx hx=>hk x (Ln _ hx)⟩⟩
def Z1S(h:Header):∀ x∈Z01 h,0<=x/\x<h.length:=by
 unfold Z01;split
 .intro x hx;have:=Z1V h _ x hx;omega
 .simp
def Z7U{w:Work}(hw:WkOk w)(h:CIv w){q:Int}(hq:q∈w.Q){l:List Int}(hl:∀ x∈l,0<=x/\x<hlA w.heap.W q):∀ k,k<=l.length->(∀ j,j<k->innE w q l j=0)->CIv (innN w q l k)/\CEx w (innN w q l k)
 | 0,_,_=>⟨h,CEx.rfl' w⟩
 | k+1,hk,he=>by
  have ih:=Z7U hw h hq hl k oq (λj hj=>he j oq);have ok:=(Z4q hw q l k (λj hj=>he j oq)).1;have hx:=hl _ (getD_mem_iff.2 ⟨k,by omega,rfl⟩);have:=Zil ok ih.1 (ih.2.q q hq) (j:=l.getD k X) ⟨hx.1,by rw[ih.2.l q hq];exact hx.2⟩ (he k oq);exact⟨this.1,ih.2.trans this.2⟩
def Z9o{w:Work}(hw:WkOk w)(h:CIv w)(e:(Z0r w).2.2=0):CIv (Z0r w).1/\CEx w (Z0r w).1:=by
 by_cases hs:w.D<w.Q.length
 .have hsc:=hw.sc;have hq:Z1G w∈w.Q:=getD_mem_iff.2 ⟨w.D.toNat,by omega,rfl⟩;unfold Z0r at e ⊢;rw[if_pos hs]at e ⊢;cases hb:(Lo (Z0T w).length).find? (λk=>La (innE w (Z1G w) (Z0T w) k≠0))with
  | none =>
   have h0:∀ j,j<(Z0T w).length->innE w (Z1G w) (Z0T w) j=0:=λj hj=>by
    have:=Ls.1 hb j (Lr.2 hj);simpa using this
   obtain⟨k1,k2⟩:=Z7U hw h hq (l:=Z0T w) (Z1S (hdW w (Z1G w))) (Z0T w).length (Lj _) h0;exact⟨⟨k1.L,k1.r,k1.s,k1.f,k1.z⟩,⟨k2.c,k2.o,k2.q,k2.l⟩⟩
  | some k =>
   simp only[hb]at e;have:=(Ll.1 hb).1;simp[e]at this
 .have e:Z0r w=(w,M,0):=by rw[Z0r,if_neg hs]
  rw[e];exact⟨h,CEx.rfl' w⟩
def Z7o{w:Work}(hw:WkOk w)(h:CIv w):∀ k,(∀ j,j<k->Z2T w j=M)->CIv (itW w k)/\CEx w (itW w k)
 | 0,_=>⟨h,CEx.rfl' w⟩
 | k+1,hh=>by
  have ih:=Z7o hw h k (λj hj=>hh j oq);have ok:=(Z4a hw k (λj hj=>hh j oq)).1;have hk:=hh k oq;simp only[Z2T,decide_eq_false_iff_not,not_or,Li]at hk;have:=Z9o ok ih.1 hk.1;exact⟨this.1,ih.2.trans this.2⟩
def ZfD{w:Work}(hw:WkOk w)(h:CIv w)(e:(allF w).2=0):CIv (allF w).1/\CEx w (allF w).1:=by
 obtain⟨k,hb⟩:=Z3A hw;obtain⟨h1,h2,h3⟩:=Ll.1 hb;have h0:∀ j,j<k->Z2T w j=M:=λj hj=>by simpa using h3 j hj
 unfold allF at e ⊢;rw[hb]at e ⊢;simp only at e ⊢;split at e
 .rename_i c;rw[if_pos c];have i1:=Z7o hw h k h0;have i2:=Z9o (Z4a hw k h0).1 i1.1 c;exact⟨i2.1,i1.2.trans i2.2⟩
 .rename_i c;exact absurd e c
def Z5D{w:Work}{roots:List Int}(hw:WkOk w)(h:CIv w):∀ k,(∀ j,j<k->Z1W w roots j=0)->CIv (rootsN w roots k).1/\CEx w (rootsN w roots k).1
 | 0,_=>⟨h,CEx.rfl' w⟩
 | k+1,hh=>by
  have ih:=Z5D hw h k (λj hj=>hh j oq);have ok:=(Z3h (roots:=roots) hw k (λj hj=>hh j oq)).1;have:=Z3z ok ih.1 (roots.getD k X) (hh k oq);exact⟨this.1,ih.2.trans this.2⟩
def Z3w{w:Work}{roots:List Int}(hw:WkOk w)(h:CIv w)(e:(rootsF w roots).2.2=0):WkOk (rootsF w roots).1/\CIv (rootsF w roots).1/\CEx w (rootsF w roots).1/\(∀ x∈(rootsF w roots).2.1,0<=x/\x<=4294967296)/\(rootsF w roots).2.1.length=roots.length:=by
 unfold rootsF at e ⊢;cases hb:(Lo roots.length).find? (λk=>La (Z1W w roots k≠0))with
 | none =>
  have h0:∀ j,j<roots.length->Z1W w roots j=0:=λj hj=>by
   have:=Ls.1 hb j (Lr.2 hj);simpa using this
  have k1:=Z3h (roots:=roots) hw roots.length h0;have k2:=Z5D (roots:=roots) hw h roots.length h0;exact⟨k1.1,k2.1,k2.2,k1.2.1,Z2F w roots _⟩
 | some k =>
  simp only[hb]at e;have:=(Ll.1 hb).1;simp[e]at this
def Z5X(sp:Int):∀ (l:List Page) (m:Nat),m<Z17 sp l->m<l.length/\(l.getD m X).K=3/\(l.getD m X).S=sp
 | [],m,h=>by simp[Z17]at h
 | p::l,m,h=>by
  unfold Z17 at h;split at h
  .rename_i hp;cases m with
   | zero=>exact⟨by simp,hp⟩
   | succ m =>
    obtain⟨h1,h2⟩:=Z5X sp l m oq;exact⟨by simp;omega,by simpa using h2⟩
  .omega
def Z4S{c:Conf}{n:Int}(h:1<=need c n):n<=need c n*c.pw:=by
 unfold need at h ⊢;split at h
 .rename_i hc;rw[if_pos hc];have hb:=validB_iff.1 hc.1;split at h
  .omega
  .rename_i hd;rw[if_neg hd];have e:=LK (n+c.pw-1) c.pw;have l:=LB (n+c.pw-1) (b:=c.pw) oq;rw[Lh]at e;omega
 .omega
def Z7A{h:Heap}(hp:Z03 h=Y){j:Nat}(hj:j<h.P.length)(hk:(h.P.getD j X).K=2) :
  1<=need h.C (h.P.getD j X).U/\∀ m:Nat,1<=m->(m:Int)<need h.C (h.P.getD j X).U->j+m<h.P.length/\(h.P.getD (j+m) X).K=3/\(h.P.getD (j+m) X).S=(h.P.getD j X).S:=by
 have hi:=properB_iff.1 hp;obtain⟨d,_,hc⟩:=Zhy oq hi.2.2.2.2.2 oq j oq hj;have ht:=hc.2.2.2.2.2.2.2.2.2.1 hk;refine⟨ht.1, ?_⟩;intro m h1 h2;obtain⟨g1,g2⟩:=Z5X (h.P.getD j X).S (h.P.drop (j+1)) (m-1) oq;have g3:j+m<h.P.length:=by simp at g1;omega
 refine⟨g3, ?_⟩;have:(h.P.drop (j+1)).getD (m-1) X=h.P.getD (j+m) X:=by
  rw[Lb,Lb,Ly,show j+1+(m-1)=j+m by omega]
 rw[this]at g2;exact g2
def ZaU{h:Heap}(hp:Z03 h=Y){j:Nat}(hj:j<h.P.length)(hk:(h.P.getD j X).K=1\/(h.P.getD j X).K=2):(j:Int)*h.C.pw+(h.P.getD j X).U<=h.C.pw*h.C.pg:=by
 have po:=Z07 hp;have pp:=Z0u hp hj;rcases hk with hk | hk
 .have:=Z0Y (i:=j) (j:=h.C.pg) (pw:=h.C.pw) oq oq;rw[Lh h.C.pg]at this;omega
 .obtain⟨t1,t2⟩:=Z7A hp hj hk;have nu:=Z4S t1;have hl:(j:Int)+need h.C (h.P.getD j X).U<=h.C.pg:=by
   by_cases h1:need h.C (h.P.getD j X).U=1
   .omega
   .have:=(t2 (need h.C (h.P.getD j X).U-1).toNat oq oq).1;omega
  have:=Lx hl (show 0<=h.C.pw by omega);rw[Lw,Lh h.C.pg]at this;omega
def Z4t{h:Heap}(hp:Z03 h=Y){i j:Nat}(hij:i<j)(hj:j<h.P.length)(hk:(h.P.getD i X).K=1\/(h.P.getD i X).K=2)(hk':(h.P.getD j X).K≠3):(i:Int)*h.C.pw+(h.P.getD i X).U<=j*h.C.pw:=by
 have po:=Z07 hp;have pp:=Z0u hp (show i<h.P.length by omega);rcases hk with hk | hk
 .have:=Z0Y (i:=i) (j:=j) (pw:=h.C.pw) oq oq;omega
 .obtain⟨t1,t2⟩:=Z7A hp (show i<h.P.length by omega) hk;have nu:=Z4S t1;have hl:(i:Int)+need h.C (h.P.getD i X).U<=j:=by
   by_cases h1:(i:Int)+need h.C (h.P.getD i X).U<=j
   .exact h1
   .have:=(t2 (j-i) oq oq).2;rw[show i+(j-i)=j by omega]at this;exact absurd this.1 hk'
  have:=Lx hl (show 0<=h.C.pw by omega);rw[Lw]at this;omega
def Zf3{c:Conf}{i o:Int}(hv:Z06 c=Y)(h1:0<=i/\i<c.pg)(h2:0<=o/\o<c.pw):ofA c (4096+(i*c.pw+o))=(i,o,0):=by
 have hb:=validB_iff.1 hv;have hs:=Z0Y (i:=i) (j:=c.pg) (pw:=c.pw) h1.2 oq;have h0:0<=i*c.pw:=Lp h1.1 oq;rw[Lh c.pg]at hs;unfold ofA;rw[if_pos hv,if_pos oq,show 4096+(i*c.pw+o)-4096=o+i*c.pw by omega,Int.add_mul_ediv_right _ _ oq,Int.add_mul_emod_self_right,Int.ediv_eq_zero_of_lt h2.1 h2.2,Int.emod_eq_of_lt h2.1 h2.2];simp
structure OnP (h:Heap) (j:Nat) (a:Int):Prop where
 k:(h.P.getD j X).K=1\/(h.P.getD j X).K=2
 lo:4096+j*h.C.pw<=a
 hi:a<4096+j*h.C.pw+h.C.pw
 of:(ofA h.C a).1=j
 e:a+hlA h.W a<4096+j*h.C.pw+(h.P.getD j X).U
 z:(h.P.getD j X).K=2\/hlA h.W a+1<=h.C.pw
 at':(atH h a).2=0
def Zf5{h:Heap}{j:Nat}(hp:Z03 h=Y)(hj:j<h.P.length)(hk:(h.P.getD j X).K=1\/(h.P.getD j X).K=2):∀ (f:Nat) (o:Int) (l:List Int),0<=o->((h.P.getD j X).K=2->o=0)->Z2Z h j f o=some l ->
  (∀ a∈l,OnP h j a/\4096+j*h.C.pw+o<=a)/\l.Pairwise (λa b=>a+hlA h.W a<b)
 | 0,o,l,_,_,e=>by simp[Z2Z]at e;subst e;simp
 | f+1,o,l,h0,h2,e=>by
  have po:=Z07 hp;have pp:=Z0u hp hj;unfold Z2Z at e;have hpg:pg h (j:Int)=h.P.getD j X:=by simp[pg]
  rw[hpg]at e;split at e
  .rename_i ho;have hop:o<h.C.pw:=by
    rcases hk with hk | hk
    .omega
    .have:=h2 hk;omega
   have ea:adr h j o=4096+(j*h.C.pw+o):=by
    unfold adr address;rw[if_pos po.1,if_pos (inB_iff.2 ⟨by omega,by omega,h0,hop⟩)]
   have eo:=Zf3 (c:=h.C) (i:=j) (o:=o) po.1 oq ⟨h0,hop⟩;split at e
   .rename_i hat
    have hat':=hat
    rw[ea]at hat';have hsz:sizeH (decodeH (loadA h.W (4096+(j*h.C.pw+o))).1).1=hlA h.W (4096+(j*h.C.pw+o))+1:=by
     rw[sizeH,if_pos (Z22 _)];rfl
    have hle:=Z09 h.W (4096+(j*h.C.pw+o));have key:((h.P.getD j X).K=1->o+(hlA h.W (4096+(j*h.C.pw+o))+1)<=(h.P.getD j X).U)/\((h.P.getD j X).K=2->hlA h.W (4096+(j*h.C.pw+o))+1=(h.P.getD j X).U)/\sizeH (atH h (4096+(j*h.C.pw+o))).1=hlA h.W (4096+(j*h.C.pw+o))+1:=by
     unfold atH at hat' ⊢;rw[if_pos hp]at hat' ⊢;simp only[eo,hsz,if_true,LO]at hat' ⊢;split at hat'
     .rename_i g1;split at hat'
      .simp at hat'
      .rename_i g2;rw[if_pos g1,if_neg g2];refine⟨λhk1=>?_,λhk2=>?_,hsz⟩
       .omega
       .omega
     .simp at hat'
    have hon:OnP h j (adr h j o):=by
     refine⟨hk, ?_, ?_, ?_, ?_, ?_,hat⟩
     .rw[ea];omega
     .rw[ea];omega
     .rw[ea,eo]
     .rw[ea];rcases hk with hk | hk
      .have:=key.1 hk;omega
      .have:=key.2.1 hk;have:=h2 hk;omega
     .rw[ea];rcases hk with hk | hk
      .have:=key.1 hk;omega
      .exact Lc hk
    split at e
    .cases e;simp only[Lk,LY,LX,List.Pairwise.nil];refine⟨?_,by simp⟩;rintro a rfl;exact⟨hon,by rw[ea];omega⟩
    .rename_i hk2;rw[Option.map_eq_some_iff]at e;obtain⟨m,hm,rfl⟩:=e;rw[ea,key.2.2]at hm;obtain⟨i1,i2⟩:=Zf5 hp hj hk f _ m oq (λq=>absurd q hk2) hm;constructor
     .intro a ha;rcases LF.1 ha with rfl | ha
      .exact⟨hon,by rw[ea];omega⟩
      .have:=i1 a ha;exact⟨this.1,by omega⟩
     .rw[LY];refine⟨λb hb=>?_,i2⟩;have:=(i1 b hb).2;rw[ea];omega
   .cases e
  .cases e;simp
def Zao{h:Heap}(hp:Z03 h=Y):∀ (f i:Nat),i+f=h.P.length->(Z0D h f i).1.Pairwise (λa b=>a+hlA h.W a<b)/\∀ a∈(Z0D h f i).1,∃ j,i<=j/\j<h.P.length/\OnP h j a
 | 0,i,_=>by simp[Z0D]
 | f+1,i,hf=>by
  have ih:=Zao hp f (i+1) oq;have hpg:(Z0m h i).1.Pairwise (λa b=>a+hlA h.W a<b)/\∀ a∈(Z0m h i).1,OnP h i a:=by
   unfold Z0m;rw[if_pos hp,if_pos oq];have hg:pg h (i:Int)=h.P.getD i X:=by simp[pg]
   rw[hg];split
   .simp
   .rename_i hk;cases hw:Z2Z h i 256 0 with
    | none=>simp
    | some l =>
     have pp:=Z0u hp (show i<h.P.length by omega);obtain⟨w1,w2⟩:=Zf5 hp (show i<h.P.length by omega) oq 256 0 l oq (λ_=>rfl) hw;exact⟨w2,λa ha=>(w1 a ha).1⟩
  unfold Z0D;split
  .split
   .simp only;constructor
    .rw[List.pairwise_append];refine⟨hpg.1,ih.1,λa ha b hb=>?_⟩;have o1:=hpg.2 a ha;obtain⟨j,j1,j2,o2⟩:=ih.2 b hb;have:=Z4t hp (show i<j by omega) j2 o1.k (by have:=o2.k;omega);have:=o1.e;have:=o2.lo;omega
    .intro a ha;rcases Lg.1 ha with ha | ha
     .exact⟨i,by omega,by omega,hpg.2 a ha⟩
     .obtain⟨j,j1,j2,o2⟩:=ih.2 a ha;exact⟨j,by omega,j2,o2⟩
   .simp
  .simp
def Z8Y{h:Heap}(hp:Z03 h=Y):(∀ a∈(Z04 h).1,∃ j,j<h.P.length/\OnP h j a)/\∀ a∈(Z04 h).1,∀ b∈(Z04 h).1,a<b->a+hlA h.W a<b:=by
 have hs:=Zao hp h.P.length 0 oq;have e:Z0P h=Z0D h h.P.length 0:=by rw[Z0P,if_pos hp]
 rw[<- e]at hs;have h1:∀ a∈(Z04 h).1,∃ j,j<h.P.length/\OnP h j a:=by
  intro a ha;obtain⟨j,_,j2,o⟩:=hs.2 a (List.mem_filter.1 ha).1;exact⟨j,j2,o⟩
 refine⟨h1, ?_⟩;have hpw:(Z04 h).1.Pairwise (λa b=>a+hlA h.W a<b):=List.Pairwise.filter _ hs.1;intro a ha b hb hab;obtain⟨i,hi,ei⟩:=Lu.1 ha;obtain⟨k,hk,ek⟩:=Lu.1 hb;have hlb:=Z09 h.W b;rcases Nat.lt_trichotomy i k with q | q | q
 .have:=LZ.1 hpw i k hi hk q;rw[ei,ek]at this;exact this
 .subst q;omega
 .have:=LZ.1 hpw k i hk hi q;rw[ei,ek]at this;omega
def Z3g{h:Heap}(hp:Z03 h=Y):CIv (beginW h):=by
 have po:=Z07 hp;have hs:=Z8Y hp;have hq:∀ j,((h.P.map (begQ (1-h.S))).getD j X).K=(h.P.getD j X).K/\((h.P.map (begQ (1-h.S))).getD j X).U=(h.P.getD j X).U:=by
  intro j;by_cases hj:j<h.P.length
  .have:(h.P.map (begQ (1-h.S))).getD j X=begQ (1-h.S) (h.P.getD j X):=by simp[Lb,hj]
   rw[this,begQ];split
   .exact⟨rfl,rfl⟩
   .exact⟨rfl,rfl⟩
  .rw[Lb,Lb,Lt qo,Lt oq];exact⟨rfl,rfl⟩
 refine⟨po.2.2.2.2.2.1, ?_, ?_, ?_, ?_⟩
 .intro a ha;simp only[beginW,LC]at ha ⊢;obtain⟨j,j1,o⟩:=hs.1 a ha;have h1:=o.lo;have h2:=o.e;have h3:=ZaU hp j1 o.k;have h4:0<=(j:Int)*h.C.pw:=Lp oq oq;have h5:=po.2.2.2.2.2.1;omega
 .intro a ha b hb hab;simp only[beginW,LC]at ha hb ⊢;exact hs.2 a ha b hb hab
 .intro i hi hc a ha;simp only[beginW,LC,Lf,LX,or_false]at hi hc ha ⊢;rw[(hq i).1]at hc;have hoc:occP ((h.P.map (begQ (1-h.S))).getD i X)=0:=by rw[occP,(hq i).1,if_pos hc]
  rw[hoc];obtain⟨j,j1,o⟩:=hs.1 a ha;have hk:=o.k;have hne:i≠j:=by rintro rfl;omega
  by_cases hlt:i<j
  .have:=Z0Y (i:=i) (j:=j) (pw:=h.C.pw) oq oq;have:=o.lo;omega
  .have:=Z4t hp (show j<i by omega) hi hk oq;have:=o.e;omega
 .intro x hx;simp only[beginW]at hx ⊢;obtain⟨j,j1,o⟩:=hs.1 x hx;rw[o.of,LO,(hq j).1];exact o.z
def Z3o{h:Heap}(hw:WOk h.W)(hp:Z03 h=Y):WkOk (beginW h):=by
 have po:=Z07 hp;have ho:=Z19 h;have hr:=Z1f h;have hus:∀ j,j<h.P.length->0<=((h.P.map (begQ (1-h.S))).getD j X).U/\((h.P.map (begQ (1-h.S))).getD j X).U<=1024:=by
  intro j hj;have pp:=Z0u hp hj;have:(h.P.map (begQ (1-h.S))).getD j X=begQ (1-h.S) (h.P.getD j X):=by simp[Lb,hj]
  rw[this,begQ];split
  .simp only;omega
  .omega
 refine⟨hw,po.2.2.2.2.2.2.1,po.1,by simp only[beginW,Lf];exact po.2.2.2.2.2.2.2.1,po.2.2.2.2.2.2.2.2,by simp only[beginW];omega,hr,by simp[beginW],by simp[beginW],by simp[beginW],by simpa only[beginW,Lf]using hus, ?_,by simp[beginW],by simp[beginW],by simp[beginW],by simp[beginW]⟩;simp only[beginW,muW,List.length_nil];have h1:Zc8 (Z04 h).1 []<=(Z04 h).1.length:=List.length_filter_le _ _;have h2:∀ l:List Page,(∀ p∈l,Zby h.C.pw p<=64)->Z8X h.C.pw l<=64*l.length:=by
  intro l;induction l with
  | nil=>intro _;simp[Z8X]
  | cons p l ih =>
   intro hl;have:=ih λq hq=>hl q (List.mem_cons_of_mem _ hq);have:=hl p (List.mem_cons_self);simp only[Z8X,List.map_cons,List.sum_cons,List.length_cons]at *;omega
 have h3:=h2 (h.P.map (begQ (1-h.S))) (by
  intro p hp';obtain⟨j,hj,e⟩:=Lu.1 hp';have:=hus j (by simpa using hj);rw[show(h.P.map (begQ (1-h.S))).getD j X=p by simp only[Lb,Lz hj,e];rfl]at this;unfold Zby;split<;>omega)
 simp only[Lf]at h3;omega
structure PgOk (c:Conf) (p:Page):Prop where
 s:0<=p.S/\p.S<=1
 n:0<=p.N/\p.N<=2147483647
 k:0<=p.K/\p.K<=3
 k0:p.K=0->p.S=0/\p.U=0/\p.N=0
 k1:p.K=1->0<=p.U/\p.U<=c.pw
 k3:p.K=3->p.U=0/\p.N=0
structure PT (c:Conf) (l:List Page):Prop where
 b:∀ i,i<l.length->PgOk c (l.getD i X)
 lg:∀ i,i<l.length->(l.getD i X).K=2->1<=need c (l.getD i X).U/\∀ m:Nat,1<=m->(m:Int)<need c (l.getD i X).U->i+m<l.length/\(l.getD (i+m) X).K=3/\(l.getD (i+m) X).S=(l.getD i X).S
 tl:∀ i,i<l.length->(l.getD i X).K=3->∃ j,j<i/\(l.getD j X).K=2/\(i:Int)<j+need c (l.getD j X).U
def Z4Z(c:Conf)(l:List Page):Nat->Int
 | 0=>0
 | i+1=>rdue c l i (Z4Z c l i)
def Zib{c:Conf}{l:List Page}:∀ {f i:Nat},l.length<=i+f->(rpB c l f i (Z4Z c l i)=Y↔∀ j,i<=j->j<l.length->rchk c l j (Z4Z c l j))
 | 0,i,h=>by
  simp only[rpB,true_iff];intro j h1 h2;omega
 | f+1,i,h=>by
  unfold rpB;by_cases hi:i<l.length
  .rw[if_pos hi,LJ,decide_eq_true_eq,show rdue c l i (Z4Z c l i)=Z4Z c l (i+1)from rfl,Zib (f:=f) (i:=i+1) oq];constructor
   .rintro⟨h1,h2⟩ j h3 h4;by_cases hj:j=i
    .subst hj;exact h1
    .exact h2 j oq h4
   .intro hh;exact⟨hh i (Lj _) hi,λj h3 h4=>hh j oq h4⟩
  .rw[if_neg hi];simp only[true_iff];intro j h1 h2;omega
def Z8M{c:Conf}{l:List Page}:∀ i,0<=Z4Z c l i->0<Z4Z c l i->∃ j,j<i/\(l.getD j X).K=2/\Z4Z c l i=j+need c (l.getD j X).U-i
 | 0,_,h=>by simp[Z4Z]at h
 | i+1,h0,h=>by
  simp only[Z4Z,rdue]at h0 h ⊢;split at h
  .rename_i hk;refine⟨i,by omega,hk, ?_⟩;rw[if_pos hk];omega
  .rename_i hk;have h1:1<Z4Z c l i:=by omega
   obtain⟨j,j1,j2,j3⟩:=Z8M (c:=c) (l:=l) i oq oq;refine⟨j,by omega,j2, ?_⟩;rw[if_neg hk];omega
def Zaj(sp:Int):∀ (l:List Page) (k:Nat),(∀ m,m<k->m<l.length/\(l.getD m X).K=3/\(l.getD m X).S=sp)->k<=Z17 sp l
 | _,0,_=>Nat.zero_le _
 | [],k+1,h=>by have:=(h 0 oq).1;simp at this
 | p::l,k+1,h=>by
  have h0:=(h 0 oq).2;simp only[List.getD_cons_zero]at h0;rw[Z17,if_pos h0];have:=Zaj sp l k λm hm=>by
   have:=h (m+1) oq;simpa using this
  omega
def PT.due{c:Conf}{l:List Page}(h:PT c l){i:Nat}(hi:i<l.length)(hk:(l.getD i X).K=2):∀ m:Nat,(m:Int)<need c (l.getD i X).U->Z4Z c l (i+1+m)=need c (l.getD i X).U-1-m
 | 0,hm=>by
  show rdue c l i (Z4Z c l i)=_;rw[rdue,if_pos hk];omega
 | m+1,hm=>by
  have ih:=h.due hi hk m oq;have ht:=((h.lg i hi hk).2 (m+1) oq hm).2.1;show rdue c l (i+1+m) (Z4Z c l (i+1+m))=_;rw[rdue,show i+1+m=i+(m+1) by omega,if_neg (by rw[ht];decide),show i+(m+1)=i+1+m by omega,ih];omega
def Z7z{c:Conf}{l:List Page}(h:∀ i,i<l.length->(l.getD i X).K=2->1<=need c (l.getD i X).U):∀ i,i<=l.length->0<=Z4Z c l i
 | 0,_=>Int.le_refl _
 | i+1,hi=>by
  have ih:=Z7z h i oq;simp only[Z4Z,rdue];split
  .rename_i hk;have:=h i oq hk;omega
  .omega
def ZoQ{c:Conf}{l:List Page}:rpB c l l.length 0 0=Y↔PT c l:=by
 have e:=Zib (c:=c) (l:=l) (f:=l.length) (i:=0) oq;rw[show Z4Z c l 0=0 from rfl]at e;rw[e];constructor
 .intro h;have hb:∀ i,i<l.length->PgOk c (l.getD i X):=by
   intro i hi;have q:=h i oq hi;unfold rchk at q;exact⟨⟨q.2.1,q.2.2.1⟩,⟨q.2.2.2.1,q.2.2.2.2.1⟩,⟨q.2.2.2.2.2.1,q.2.2.2.2.2.2.1⟩,q.2.2.2.2.2.2.2.1,q.2.2.2.2.2.2.2.2.1,q.2.2.2.2.2.2.2.2.2.2⟩
  have hl:∀ i,i<l.length->(l.getD i X).K=2->1<=need c (l.getD i X).U/\∀ m:Nat,1<=m->(m:Int)<need c (l.getD i X).U->i+m<l.length/\(l.getD (i+m) X).K=3/\(l.getD (i+m) X).S=(l.getD i X).S:=by
   intro i hi hk;have q:=(h i oq hi).2.2.2.2.2.2.2.2.2.1 hk;refine⟨q.1, ?_⟩;intro m h1 h2;obtain⟨g1,g2⟩:=Z5X (l.getD i X).S (l.drop (i+1)) (m-1) oq;have g3:i+m<l.length:=by simp at g1;omega
   have:(l.drop (i+1)).getD (m-1) X=l.getD (i+m) X:=by
    rw[Lb,Lb,Ly,show i+1+(m-1)=i+m by omega]
   rw[this]at g2;exact⟨g3,g2⟩
  refine⟨hb,hl, ?_⟩;intro i hi hk;have q:=(h i oq hi).1.1 hk;obtain⟨j,j1,j2,j3⟩:=Z8M (c:=c) (l:=l) i oq q;exact⟨j,j1,j2,by omega⟩
 .intro h j _ hj;have b:=h.b j hj;have hd:=Z7z (λi hi hk=>(h.lg i hi hk).1) j oq;refine⟨⟨?_, ?_⟩,b.s.1,b.s.2,b.n.1,b.n.2,b.k.1,b.k.2,b.k0,b.k1, ?_,b.k3⟩
  .intro hk;obtain⟨i,i1,i2,i3⟩:=h.tl j hj hk;have:=h.due (show i<l.length by omega) i2 (j-i-1) oq;rw[show i+1+(j-i-1)=j by omega]at this;omega
  .intro hp;obtain⟨i,i1,i2,i3⟩:=Z8M j hd hp;have:=((h.lg i oq i2).2 (j-i) oq oq).2.1;rw[show i+(j-i)=j by omega]at this;exact this
  .intro hk;have q:=h.lg j hj hk;refine⟨q.1, ?_⟩;have:=Zaj (l.getD j X).S (l.drop (j+1)) (need c (l.getD j X).U-1).toNat λm hm=>by
    have r:=q.2 (m+1) oq oq;have e2:(l.drop (j+1)).getD m X=l.getD (j+(m+1)) X:=by
     rw[Lb,Lb,Ly,show j+1+m=j+(m+1) by omega]
    rw[e2];exact⟨by simp;omega,r.2⟩
   omega
def Z1A{h:Heap}:Z03 h=Y↔Z06 h.C=Y/\(h.W.length:Int)=h.C.pw*h.C.pg/\(h.P.length:Int)=h.C.pg/\(h.S=0\/h.S=1) /\
  (h.B=-1\/(0<=h.B/\h.B<h.P.length/\(h.P.getD h.B.toNat X).K=1))/\PT h.C h.P:=by
 rw[properB_iff,ZoQ]
def PT.setPage{c:Conf}{l:List Page}(h:PT c l){i:Nat}(hi:i<l.length)(hk:(l.getD i X).K=0\/(l.getD i X).K=1){p:Page}(hp:PgOk c p)(hpk:p.K=0\/p.K=1):PT c (l.set i p):=by
 refine⟨?_, ?_, ?_⟩
 .intro j hj;rw[Lm]at hj;rw[Z0k hi];split
  .exact hp
  .exact h.b j hj
 .intro j hj hk2;rw[Lm]at hj;rw[Z0k hi]at hk2 ⊢;by_cases hij:i=j
  .rw[if_pos hij]at hk2;omega
  .rw[if_neg hij]at hk2 ⊢;have q:=h.lg j hj hk2;refine⟨q.1,λm h1 h2=>?_⟩;have r:=q.2 m h1 h2;rw[Lm,Z0k hi,if_neg (by rintro rfl;omega)];exact r
 .intro j hj hk3;rw[Lm]at hj;rw[Z0k hi]at hk3;by_cases hij:i=j
  .rw[if_pos hij]at hk3;omega
  .rw[if_neg hij]at hk3;obtain⟨a,a1,a2,a3⟩:=h.tl j hj hk3;refine⟨a,a1, ?_⟩;rw[Z0k hi,if_neg (by rintro rfl;omega)];exact⟨a2,a3⟩
def PT.mapPages{c:Conf}{l:List Page}(h:PT c l)(f:Page->Page)(h1:∀ p,PgOk c p->PgOk c (f p))(h2:∀ p,PgOk c p->(f p).K=2->p.K=2/\(f p).U=p.U)
  (h3:∀ p,PgOk c p->(f p).K=3->p.K=3) (h4:∀ p q,PgOk c p->PgOk c q->p.K=2->q.K=3->q.S=p.S->((f p).K=2↔(f q).K=3)/\((f p).K=2->(f q).S=(f p).S)):PT c (l.map f):=by
 have hg:∀ j,j<l.length->(l.map f).getD j X=f (l.getD j X):=by
  intro j hj;simp[Lb,hj]
 refine⟨?_, ?_, ?_⟩
 .intro j hj;rw[Lf]at hj;rw[hg j hj];exact h1 _ (h.b j hj)
 .intro j hj hk;rw[Lf]at hj;rw[hg j hj]at hk ⊢;have q:=h2 _ (h.b j hj) hk;have r:=h.lg j hj q.1;rw[q.2];refine⟨r.1,λm m1 m2=>?_⟩;have s:=r.2 m m1 m2;have t:=h4 _ _ (h.b j hj) (h.b (j+m) s.1) q.1 s.2.1 s.2.2;rw[Lf,hg _ s.1];exact⟨s.1,t.1.1 hk,t.2 hk⟩
 .intro j hj hk;rw[Lf]at hj;rw[hg j hj]at hk;have q:=h3 _ (h.b j hj) hk;obtain⟨a,a1,a2,a3⟩:=h.tl j hj q;have ha:a<l.length:=by omega
  have s:=(h.lg a ha a2).2 (j-a) oq oq;rw[show a+(j-a)=j by omega]at s;have t:=h4 _ _ (h.b a ha) (h.b j hj) a2 s.2.1 s.2.2;have hk2:=t.1.2 hk;refine⟨a,a1, ?_⟩;rw[hg a ha];exact⟨hk2,by rw[(h2 _ (h.b a ha) hk2).2];exact a3⟩
def Z8E{l:List Page}{i k:Nat}{p q:Page}(hk:1<=k)(h:i+k<=l.length)(j:Nat):(tookP l i k p q).getD j X=if j=i then p else if i<j/\j<i+k then q else l.getD j X:=by
 have hl:(wr l (Ld k q) i k).length=l.length:=Z48 (by simpa using h) pq;unfold tookP;rw[Lb,List.getElem?_set];by_cases hj:j=i
 .subst hj;rw[if_pos rfl,if_pos rfl,if_pos oq];rfl
 .rw[if_neg (λe=>hj e.symm),if_neg hj,Z8p (by simpa using h) pq];by_cases h1:j<i
  .rw[if_pos h1,if_neg oq,Lb]
  .rw[if_neg h1];by_cases h2:j<i+k
   .rw[if_pos h2,if_pos oq];simp[show j-i<k by omega]
   .rw[if_neg h2,if_neg oq,Lb]
def PT.took{c:Conf}{l:List Page}(h:PT c l){i k:Nat}{n sp:Int}(hk:1<=k)(hik:i+k<=l.length)(hf:∀ j,j<k->(l.getD (i+j) X).K=0)(hn:need c n=k)(hs:sp=0\/sp=1):PT c (tookP l i k ⟨2,sp,n,0⟩ ⟨3,sp,0,0⟩):=by
 have hg:=Z8E (p:=⟨2,sp,n,0⟩) (q:=⟨3,sp,0,0⟩) hk hik;have hl:(tookP l i k ⟨2,sp,n,0⟩ ⟨3,sp,0,0⟩).length=l.length:=Z6s hik;have hf':∀ j,i<=j->j<i+k->(l.getD j X).K=0:=λj h1 h2=>by
  have:=hf (j-i) oq;rwa [show i+(j-i)=j by omega]at this
 refine⟨?_, ?_, ?_⟩
 .intro j hj;rw[hl]at hj;rw[hg];split
  .exact⟨by simp only;omega,by simp,by simp,by simp,by simp,by simp⟩
  .split
   .exact⟨by simp only;omega,by simp,by simp,by simp,by simp,by simp⟩
   .exact h.b j hj
 .intro j hj hk2;rw[hl]at hj ⊢;simp only[hg]at hk2 ⊢;by_cases hji:j=i
  .subst hji;simp only[if_pos]at hk2 ⊢;rw[hn];refine⟨by omega,λm h1 h2=>⟨by omega, ?_⟩⟩;rw[if_neg oq,if_pos oq];exact⟨rfl,rfl⟩
  .rw[if_neg hji]at hk2 ⊢;by_cases hr:i<j/\j<i+k
   .rw[if_pos hr]at hk2;simp at hk2
   .rw[if_neg hr]at hk2 ⊢;have q:=h.lg j hj hk2;refine⟨q.1,λm h1 h2=>?_⟩;have r:=q.2 m h1 h2;have hne:¬ (i<=j+m/\j+m<i+k):=λhc=>by
     have:=hf' (j+m) hc.1 hc.2;omega
    rw[if_neg oq,if_neg oq];exact r
 .intro j hj hk3;rw[hl]at hj;simp only[hg]at hk3 ⊢;by_cases hji:j=i
  .rw[if_pos hji]at hk3;simp at hk3
  .rw[if_neg hji]at hk3;by_cases hr:i<j/\j<i+k
   .refine⟨i,hr.1, ?_⟩;simp only[if_pos];refine⟨trivial, ?_⟩;rw[hn];omega
   .rw[if_neg hr]at hk3;obtain⟨a,a1,a2,a3⟩:=h.tl j hj hk3;have hne:¬ (i<=a/\a<i+k):=λhc=>by
     have:=hf' a hc.1 hc.2;omega
    refine⟨a,a1, ?_⟩;rw[if_neg oq,if_neg oq];exact⟨a2,a3⟩
def Z3E{l:List Page}{i:Nat}{n:Int}:Z1R l i n=l.set i ⟨(l.getD i X).K,(l.getD i X).S,(l.getD i X).U+n,(l.getD i X).N⟩:=rfl
def Z2X{h:Heap}(hs:h.S=0\/h.S=1)(hf:0<=first h.P 1)(n:Int):Z1R (Z3m h) (first h.P 1).toNat n=h.P.set (first h.P 1).toNat ⟨1,h.S,n,0⟩/\(h.P.getD (first h.P 1).toNat X).K=0/\(first h.P 1).toNat<h.P.length:=by
 obtain⟨f1,f2,f3,f4⟩:=Z3e hs hf;obtain⟨g1,g2,g3⟩:=Z1F hf;have hi:(first h.P 1).toNat<h.P.length:=by omega
 refine⟨?_, ?_,hi⟩
 .rw[Z3E,f4,f1,Z8t hi,L0];simp
 .have:=freeK_iff.1 g3 0 dd;simpa using this
structure PutOk (h:Heap) (n:Int) (h':Heap) (a:Int):Prop where
 pr:Z03 h'=Y
 c:h'.C=h.C
 w:h'.W=h.W
 l:h'.P.length=h.P.length
 sp:h'.S=h.S
 pin:∀ p∈h'.P,p.N=0\/∃ q∈h.P,p.N=q.N
 lo:4096<=a
 hi:a+n<=4096+h.W.length
def getD_in{l:List Page}{i:Nat}(h:i<l.length):l.getD i X∈l:=by
 rw[Lb,Lz h];exact List.getElem_mem h
def ZgD{h:Heap}{n:Int}(hp:Z03 h=Y)(hn:1<=n/\n<=h.C.pw)(e:(Z0j h n).2.2=Y):PutOk h n (Z0j h n).1 (Z0j h n).2.1:=by
 have hp':=hp;rw[Z1A]at hp;obtain⟨p1,p2,p3,p4,p5,p6⟩:=hp;have hb:=validB_iff.1 p1;by_cases hf:Z7J h n
 .have e7:Z0j h n=(⟨h.C,h.W,Z1R h.P h.B.toNat n,h.S,h.B⟩,4096+h.B*h.C.pw+(h.P.getD h.B.toNat X).U,Y):=by rw[Z0j,if_pos hf]
  unfold Z7J at hf;have hbi:h.B.toNat<h.P.length:=by omega
  have hk:(h.P.getD h.B.toNat X).K=1:=by omega
  have ok:=p6.b h.B.toNat hbi;have u:=ok.k1 hk;have ha:=Z2R p1 (i:=h.B) oq oq;have hio:=Z0Y (i:=h.B) (j:=h.C.pg) (pw:=h.C.pw) oq oq;rw[Lh h.C.pg]at hio;rw[e7];refine⟨?_,rfl,rfl,by simp[Z1R],rfl, ?_,by simp only;omega,by simp only;omega⟩
  .rw[Z1A];refine⟨p1,p2,by simp[Z1R,p3],p4, ?_, ?_⟩
   .refine O ⟨hf.1,by simp[Z1R];omega, ?_⟩;show((Z1R h.P h.B.toNat n).getD h.B.toNat X).K=1;rw[Z3E,Z0k hbi,if_pos rfl];exact hk
   .exact p6.setPage hbi (O hk) ⟨ok.s,ok.n,ok.k,λq=>by simp only at q;omega,λ_=>by simp only;omega,λq=>by simp only at q;omega⟩ (O hk)
  .intro p hp;rcases Lv hp with hp | rfl
   .exact O ⟨p,hp,rfl⟩
   .exact O ⟨_,getD_in hbi,rfl⟩
 .by_cases hg:0<=first h.P 1/\(Z1M h.P:Int)<Z2c h.C
  .have e7:Z0j h n=(⟨h.C,h.W,Z1R (Z3m h) (first h.P 1).toNat n,h.S,first h.P 1⟩,4096+first h.P 1*h.C.pw+((Z3m h).getD (first h.P 1).toNat X).U,Y):=by rw[Z0j,if_neg hf,if_pos hg]
   obtain⟨g1,g2,g3⟩:=Z2X p4 hg.1 n;have g4:=congrArg Page.U (Z3e p4 hg.1).2.2.2;simp only at g4;have ha:=Z2R p1 (i:=first h.P 1) oq oq;have hio:=Z0Y (i:=first h.P 1) (j:=h.C.pg) (pw:=h.C.pw) oq oq;rw[Lh h.C.pg]at hio;rw[e7,g1,g4];refine⟨?_,rfl,rfl,by simp,rfl, ?_,by simp only;omega,by simp only;omega⟩
   .rw[Z1A];refine⟨p1,p2,by simp[p3],p4, ?_, ?_⟩
    .refine O ⟨hg.1,by simp only[Lm];omega, ?_⟩;simp only;rw[Z0k g3,if_pos rfl]
    .exact p6.setPage g3 (Lc g2) ⟨by simp only;omega,by simp,by simp,by simp,λ_=>by simp only;omega,by simp⟩ (O rfl)
   .intro p hp;rcases Lv hp with hp | rfl
    .exact O ⟨p,hp,rfl⟩
    .exact Lc rfl
  .rw[Z0j,if_neg hf,if_neg hg]at e;simp at e
def Zhd{h:Heap}{n:Int}(hp:Z03 h=Y)(hk:1<=need h.C n)(e:(Z0s h n (need h.C n)).2.2=Y):PutOk h n (Z0s h n (need h.C n)).1 (Z0s h n (need h.C n)).2.1:=by
 have hp':=hp;rw[Z1A]at hp;obtain⟨p1,p2,p3,p4,p5,p6⟩:=hp;have hb:=validB_iff.1 p1;by_cases hg:0<=first h.P (need h.C n)/\Z1M h.P+need h.C n<=Z2c h.C
 .obtain⟨g1,g2,g3⟩:=Z1F hg.1;have el:(Z2w h.C h.P (first h.P (need h.C n)) h.S n).1=tookP h.P (first h.P (need h.C n)).toNat (need h.C n).toNat ⟨2,h.S,n,0⟩ ⟨3,h.S,0,0⟩:=by
   rw[Z2w,if_pos ⟨hk,by omega⟩,Z2K,if_pos oq,if_pos g3]
  have e7:Z0s h n (need h.C n)=(⟨h.C,h.W,tookP h.P (first h.P (need h.C n)).toNat (need h.C n).toNat ⟨2,h.S,n,0⟩ ⟨3,h.S,0,0⟩,h.S,h.B⟩,4096+first h.P (need h.C n)*h.C.pw,Y):=by rw[Z0s,if_pos hg,el]
  have hf:∀ j,j<(need h.C n).toNat->(h.P.getD ((first h.P (need h.C n)).toNat+j) X).K=0:=freeK_iff.1 g3;have hlen:(tookP h.P (first h.P (need h.C n)).toNat (need h.C n).toNat ⟨2,h.S,n,0⟩ ⟨3,h.S,0,0⟩).length=h.P.length:=Z6s oq;have hu:=Z4S hk;have h0:0<=first h.P (need h.C n)*h.C.pw:=Lp hg.1 oq
  have hio:=Lx (show first h.P (need h.C n)+need h.C n<=h.C.pg by omega) (show 0<=h.C.pw by omega);rw[Lw,Lh h.C.pg]at hio;rw[e7];refine⟨?_,rfl,rfl,hlen,rfl, ?_,by simp only;omega,by simp only;omega⟩
  .rw[Z1A];refine⟨p1,p2,by simp only[hlen];exact p3,p4, ?_, ?_⟩
   .simp only[hlen];rcases p5 with p5 | p5
    .exact Lc p5
    .refine O ⟨p5.1,p5.2.1, ?_⟩;have hne:¬ ((first h.P (need h.C n)).toNat<=h.B.toNat/\h.B.toNat<(first h.P (need h.C n)).toNat+(need h.C n).toNat):=λhc=>by
      have:=hf (h.B.toNat-(first h.P (need h.C n)).toNat) oq;rw[show(first h.P (need h.C n)).toNat+(h.B.toNat-(first h.P (need h.C n)).toNat)=h.B.toNat by omega]at this;omega
     rw[Z8E oq oq,if_neg oq,if_neg oq];exact p5.2.2
   .exact p6.took oq oq hf oq p4
  .intro p hp;rcases Lv hp with hp | rfl
   .simp only[wr,Lg]at hp;rcases hp with(hp | hp) | hp
    .exact O ⟨p,LA hp,rfl⟩
    .have:=List.eq_of_mem_replicate (LA hp);subst this;exact Lc rfl
    .exact O ⟨p,LH hp,rfl⟩
   .exact Lc rfl
 .rw[Z0s,if_neg hg]at e;simp at e
def Zip{hd:Header}(hv:Z0d hd=Y)(hm:0<=hd.map/\hd.map<=4294967295):WOk (objW hd)/\((objW hd).length:Int)=sizeH hd:=by
 have hb:=Zbu hv hm.1 hm.2;constructor
 .intro x hx;simp only[objW,LF,LI,Z0a,if_pos hv]at hx;rcases hx with rfl | ⟨_,rfl⟩<;>omega
 .rw[sizeH,if_pos hv];simp[objW];omega
def Zey{h:Heap}{hd:Header}(hw:WOk h.W)(hm:0<=hd.map/\hd.map<=4294967295)(e:(new7 h hd).2.2=0) :
  Z03 h=Y/\Z3b h.C hd=Y/\PutOk h (sizeH hd) (put7 h hd).1 (put7 h hd).2.1/\(put7 h hd).2.2=Y/\(new7 h hd).2.1=(put7 h hd).2.1/\(new7 h hd).1 = { (put7 h hd).1 with W:=(Z0t h.W (put7 h hd).2.1 (objW hd)).1 }/\Z03 (new7 h hd).1=Y/\WOk (new7 h hd).1.W:=by
 unfold new7 at e;split at e
 .rename_i c1;split at e
  .rename_i c2;obtain⟨a1,a2,a3,a4,a5⟩:=Z7W c1.2;have po:=Z07 c1.1;have hput:PutOk h (sizeH hd) (put7 h hd).1 (put7 h hd).2.1:=by
    by_cases hn:0<need h.C (sizeH hd)
    .have e7:put7 h hd=Z0s h (sizeH hd) (need h.C (sizeH hd)):=by rw[put7,if_pos hn]
     rw[e7]at c2 ⊢;exact Zhd c1.1 oq c2
    .have e7:put7 h hd=Z0j h (sizeH hd):=by rw[put7,if_neg hn]
     rw[e7]at c2 ⊢;refine ZgD c1.1 ⟨a2, ?_⟩ c2;unfold need at hn a4;split at a4
     .rename_i hc;rw[if_pos hc]at hn;split at a4
      .omega
      .rename_i hd';rw[if_neg hd']at hn;have e:=LK (sizeH hd+h.C.pw-1) h.C.pw;have hz:(sizeH hd+h.C.pw-1)/h.C.pw=0:=by omega
       rw[hz]at e;have:=LB (sizeH hd+h.C.pw-1) (b:=h.C.pw) oq;omega
     .omega
   have ho:=Zip a1 hm;have hin:4096<=(put7 h hd).2.1/\(put7 h hd).2.1-4096+(objW hd).length<=h.W.length:=⟨hput.lo,by have:=hput.hi;omega⟩
   have e2:Z0t h.W (put7 h hd).2.1 (objW hd)=(spl h.W ((put7 h hd).2.1-4096).toNat (objW hd),0):=by rw[Z0t,if_pos hin]
   have hlen:(spl h.W ((put7 h hd).2.1-4096).toNat (objW hd)).length=h.W.length:=Z3V oq;have e3:(Z1k (put7 h hd).1 (put7 h hd).2.1 hd).1 = { (put7 h hd).1 with W:=(Z0t h.W (put7 h hd).2.1 (objW hd)).1 }:=by
    rw[Z1k,if_pos ⟨hput.pr,a1⟩,hput.w,e2];simp
   have e4:new7 h hd=((Z1k (put7 h hd).1 (put7 h hd).2.1 hd).1,(put7 h hd).2.1,0):=by rw[new7,if_pos c1,if_pos c2]
   refine⟨c1.1,c1.2,hput,c2,by rw[e4],by rw[e4];exact e3, ?_, ?_⟩
   .rw[e4];simp only;rw[e3,e2];have q:=hput.pr;rw[Z1A]at q ⊢;refine⟨q.1, ?_,q.2.2.1,q.2.2.2.1,q.2.2.2.2.1,q.2.2.2.2.2⟩;simp only[hlen];have:=q.2.1;rw[hput.w]at this;exact this
   .rw[e4];simp only;rw[e3];exact Z6r hw ho.1 _
  .simp at e
 .simp at e
def ZeX{h:Heap}{a:Int}(e:(atH h a).2=0):4096<=a/\a+(atH h a).1.length<4096+h.W.length:=by
 have k:=ZeU e;have po:=Z07 k.1;have o:=Z3I po.1 k.2.1;have hj:(ofA h.C a).1.toNat<h.P.length:=by omega
 have hk:(((ofA h.C a).1.toNat:Nat):Int)=(ofA h.C a).1:=by omega
 have h2:=e;unfold atH at h2 ⊢;rw[if_pos k.1,if_pos k.2.1]at h2 ⊢;split at h2
 .rename_i g1;split at h2
  .simp at h2
  .rename_i g2;rw[if_pos g1,if_neg g2];have hv:Z0d (decodeH (loadA h.W a).1).1=Y:=Z22 _;have hs:sizeH (decodeH (loadA h.W a).1).1=(decodeH (loadA h.W a).1).1.length+1:=by rw[sizeH,if_pos hv]
   have hvb:=(validH_iff.1 hv).2.2.1;have ue:=ZaU k.1 hj g1.1;rw[hk]at ue;have h0:0<=(ofA h.C a).1*h.C.pw:=Lp o.1 oq;have hio:=Z0Y (i:=(ofA h.C a).1) (j:=h.C.pg) (pw:=h.C.pw) o.2.1 oq;rw[Lh h.C.pg]at hio;have hL:=po.2.2.2.2.2.1;refine⟨by omega, ?_⟩;simp only;rcases g1.1 with g | g<;>omega
 .simp at h2
def Z5V{h:Heap}{a i v:Int}(hw:WOk h.W)(hv:0<=v/\v<=18446744073709551615)(e:(getH h a).2=0)(hi:0<=i/\i<(getH h a).1.length):Z0n h a i v=({ h with W:=(Z0B h.W (a+1+i) v).1 },0)/\Z03 (Z0n h a i v).1=Y/\WOk (Z0n h a i v).1.W:=by
 have g:=Z3B e;have k:=ZeX g.2.1;rw[<- g.1]at k;have hin:4096<=a+1+i/\a+1+i<4096+h.W.length:=by omega
 have hf:(Z1X h a i).2=0:=by
  unfold Z1X;rw[if_pos e,if_pos hi];unfold loadA;rw[if_pos hin]
 have e1:Z0n h a i v=({ h with W:=(Z0B h.W (a+1+i) v).1 },0):=by rw[Z0n,if_pos hf]
 refine⟨e1, ?_, ?_⟩
 .rw[e1];have q:=g.2.2.1;rw[Z1A]at q ⊢;refine⟨q.1, ?_,q.2.2.1,q.2.2.2.1,q.2.2.2.2.1,q.2.2.2.2.2⟩;simp only[Z2m hin];exact q.2.1
 .rw[e1];exact Z8C hw hv _
def Z1z(w:Work)(r:Int):Int:=if r∈w.Q then r else(Z0e (loadA w.heap.W r).1).1
def Zay(w:Work)(r:Int)(hw:WOk w.heap.W)(hl:w.heap.W.length<=4096)(hq:w.Q.length<=1048576)(h0:0<=r/\r<=18446744073709551615):GP 85 [w.av,u64 r] Y (u64 (Z1z w r)) []:=by
 have h1:=Z0J hw r;rcases bb (La (r∈w.Q))with hc0 | hc0<;>have hc0p:=hc0<;>simp only[bs]at hc0p
 .exact gF [] func85 [Y] (Fh 12 [.call Y (Sx.bool (La (r∈w.Q))) [],.br Y] (Fa (@Z0X w.Q r aa) (Fa hc0 (Fa (by simp[Z1z, *]:r=Z1z w r) Fz))))
 .exact gF [] func85 [Y] (Fh 12 [.call Y (Sx.bool (La (r∈w.Q))) [],.br M] (Fa (@Z0X w.Q r aa) (Fa hc0 (Fc 19 (@Z1N w.heap.W r oq aa) (Fc 24 (@Z33 ((loadA w.heap.W r).1) oq oq) (Fa (by simp[Z1z, *]:(Z0e (loadA w.heap.W r).1).1=Z1z w r) Fz))))))
def ZiZ(w:Work)(a:Int)(hw:WOk w.heap.W)(h1:w.heap.W.length<=4096)(h0:0<=a/\a<=18446744073709551615):GP 142 [w.av,u64 a] Y (hdW w a).av []:=by
 have h2:=Z0J hw a;exact gF [] func142 [] (Fc 14 (@Z1N w.heap.W a oq aa) (Fc 19 (@Z2W ((loadA w.heap.W a).1) oq oq) Fz))
def Z5I(w:Work)(x:Int):Work:=if Z13 w (ofA w.heap.C x).1=Y/\x∉w.Q then⟨⟨w.heap.C,(Z0t w.heap.W x (objW ⟨0,(hdW w x).length,0⟩)).1,w.heap.P,w.heap.S,w.heap.B⟩,w.old,w.T,w.Q,w.D,⟨w.rep.copied,w.rep.kept,w.rep.filled+1,w.rep.freed,w.rep.cleared,w.rep.steps⟩⟩else w
def fillN(w:Work):Nat->Work
 | 0=>w
 | k+1=>Z5I (fillN w k) (w.old.getD k X)
def Zl2(w:Work)(i:Nat):Tg:=⟨tm 84 [(1,.pt 8001 0 0),(2,.pt 8002 0 0),(3,int i)],[(8002,.box 138 zW),(8001,.box 138 w.cells)],60⟩
structure FOk (w:Work):Prop where
 W:WOk w.heap.W
 wl:w.heap.W.length<=4096
 pl:w.heap.P.length<=64
 ol:w.old.length<=524288
 o:∀ x∈w.old,0<=x/\x<=8192
 tl:w.T.length<=1000000
 ql:w.Q.length<=1000000
def WkOk.fok{w:Work}(h:WkOk w):FOk w:=by
 have h1:=h.mu;have h2:=h.tl;have h3:=h.pl;have h4:=validB_iff.1 h.C;exact⟨h.W,h.wl,by omega,h.ol,h.o,by omega,by omega⟩
def Z5s{n:Int}(h:0<=n/\n<=255):Z0a ⟨0,n,0⟩=(1+16*n,0):=by
 have hv:Z0d ⟨0,n,0⟩=Y:=validH_iff.2 ⟨by simp,by simp,h.1,h.2,by simp⟩;rw[Z0a,if_pos hv];simp
section
variable (w:Work) (i:Nat) (hw:FOk w) (hi:i<w.old.length) (hr:0<=w.rep.filled/\w.rep.filled<=1000000)
include hw hi hr
theorem Zia:CP (rndF f87 0) (Zl2 w i).st .nrm (Zl2 (Z5I w (w.old.getD i X)) (i+1)).st:=by
 have h1:=hw.W;have h2:=hw.wl;have h3:=hw.pl;have h4:=hw.ol;have h5:=hw.tl;have h6:=hw.ql;have hx:=hw.o _ (getD_mem_iff.2 ⟨i,hi,rfl⟩);have hm:=Z2n (loadA w.heap.W (w.old.getD i X)).1 (Z0J h1 _).1;have hh:0<=(hdW w (w.old.getD i X)).length/\(hdW w (w.old.getD i X)).length<=255:=Z09 w.heap.W (w.old.getD i X);have he:=Z5s hh;by_cases c1:Z13 w (ofA w.heap.C (w.old.getD i X)).1=Y
 .by_cases c2:w.old.getD i X∈w.Q
  .have e7:Z5I w (w.old.getD i X)=w:=by rw[Z5I,if_neg (by rintro⟨_,q⟩;exact q c2)]
   rw[e7];exact sF [] [] (FN 13 14 24 wdv w.old i (Fc 26 (@Z4K w.heap.C (w.old.getD i X) oq oq) (Fc 32 (@Z1Z w ((ofA w.heap.C (w.old.getD i X)).1) oq oq) (FeG 40 (!!Z13 w (ofA w.heap.C (w.old.getD i X)).1) wdv w.old (↑i) i (FcG 42 (!!Z13 w (ofA w.heap.C (w.old.getD i X)).1) (λhg=>by(try simp only[bs]at hg);exact @Z0X w.Q (w.old.getD i X) oq) (Fts 43 (!Z13 w (ofA w.heap.C (w.old.getD i X)).1||La (w.old.getD i X∈w.Q)) (Fx 16 i Fz)))))))
  .have e7:Z5I w (w.old.getD i X)=⟨⟨w.heap.C,(Z0t w.heap.W (w.old.getD i X) (objW ⟨0,(hdW w (w.old.getD i X)).length,0⟩)).1,w.heap.P,w.heap.S,w.heap.B⟩,w.old,w.T,w.Q,w.D,⟨w.rep.copied,w.rep.kept,w.rep.filled+1,w.rep.freed,w.rep.cleared,w.rep.steps⟩⟩:=by rw[Z5I,if_pos ⟨c1,c2⟩]
   rw[e7];exact sF [] [] (Fh 71 [.els (Z wdv ([(Z0a (Header.mk 0 (hdW w (w.old.getD i X)).length 0)).1]++Ld (hdW w (w.old.getD i X)).length.toNat 0))] (FN 13 14 24 wdv w.old i (Fc 26 (@Z4K w.heap.C (w.old.getD i X) oq oq) (Fc 32 (@Z1Z w ((ofA w.heap.C (w.old.getD i X)).1) oq oq) (FeG 40 (!!Z13 w (ofA w.heap.C (w.old.getD i X)).1) wdv w.old (↑i) i (FcG 42 (!!Z13 w (ofA w.heap.C (w.old.getD i X)).1) (λhg=>by(try simp only[bs]at hg);exact @Z0X w.Q (w.old.getD i X) oq) (Ffs 43 (!Z13 w (ofA w.heap.C (w.old.getD i X)).1||La (w.old.getD i X∈w.Q)) (Fek 48 wdv w.old (↑i) i (Fc 50 (@ZiZ w (w.old.getD i X) aa aa oq) (Fc 55 (@Z3s (Header.mk 0 (hdW w (w.old.getD i X)).length 0) (by(simp only[bs];omega))) (Fek 65 wdv w.old (↑i) i (Fs 68 (Z wdv [(Z0a (Header.mk 0 (hdW w (w.old.getD i X)).length 0)).1]) (Fa (by grind[objW]:0<=(hdW w (w.old.getD i X)).length/\(↑(Z wdv [(Z0a (Header.mk 0 (hdW w (w.old.getD i X)).length 0)).1]).length:Int)+(hdW w (w.old.getD i X)).length<=2^30) (Fa (by simp[objW,LW,LV,LD,LU,wdv,idv]:Z wdv [(Z0a (Header.mk 0 (hdW w (w.old.getD i X)).length 0)).1]++Ld (hdW w (w.old.getD i X)).length.toNat [du64 0]=Z wdv ([(Z0a (Header.mk 0 (hdW w (w.old.getD i X)).length 0)).1]++Ld (hdW w (w.old.getD i X)).length.toNat 0)) (Fc 72 (@Z4U w.heap.W ([(Z0a (Header.mk 0 (hdW w (w.old.getD i X)).length 0)).1]++Ld (hdW w (w.old.getD i X)).length.toNat 0) (w.old.getD i X) oq oq (by grind[objW])) (Fi 80 (w.rep.filled+1) (Fx 16 i Fz)))))))))))))))))
 .have e7:Z5I w (w.old.getD i X)=w:=by rw[Z5I,if_neg (by rintro⟨q,_⟩;exact c1 q)]
  rw[e7];exact sF [] [] (FN 13 14 24 wdv w.old i (Fc 26 (@Z4K w.heap.C (w.old.getD i X) oq oq) (Fc 32 (@Z1Z w ((ofA w.heap.C (w.old.getD i X)).1) oq oq) (FeG 40 (!!Z13 w (ofA w.heap.C (w.old.getD i X)).1) wdv w.old (↑i) i (FcG 42 (!!Z13 w (ofA w.heap.C (w.old.getD i X)).1) (λhg=>by(try simp only[bs]at hg);exact @Z0X w.Q (w.old.getD i X) oq) (Fts 43 (!Z13 w (ofA w.heap.C (w.old.getD i X)).1||La (w.old.getD i X∈w.Q)) (Fx 16 i Fz)))))))
end
def ZnB(w:Work):CP (rndF f87 0) (Zl2 w w.old.length).st (.ext 0) (Tg.st ⟨tm 84 [(1,.pt 8001 0 0),(2,.pt 8002 0 0)],[(8002,.box 138 zW),(8001,.box 138 w.cells)],60⟩):=by
 exact sF [] [] (FO 13 14 wdv w.old Fz)
def ZkW(w:Work)(x:Int):∃ l n,Z5I w x=⟨⟨w.heap.C,l,w.heap.P,w.heap.S,w.heap.B⟩,w.old,w.T,w.Q,w.D,⟨w.rep.copied,w.rep.kept,n,w.rep.freed,w.rep.cleared,w.rep.steps⟩⟩/\l.length<=w.heap.W.length/\(WOk w.heap.W->WOk l)/\w.rep.filled<=n/\n<=w.rep.filled+1:=by
 unfold Z5I;split
 .refine⟨_,_,rfl,Z8Q _ _ _,λh=>Z6r h ?_ _,by omega,by omega⟩;intro y hy;have hh:0<=(hdW w x).length/\(hdW w x).length<=255:=Z09 w.heap.W x;simp only[objW,LF,LI,Z5s hh]at hy;rcases hy with rfl | ⟨_,rfl⟩<;>omega
 .exact⟨w.heap.W,w.rep.filled,rfl,Lj _,λh=>h,by omega,by omega⟩
def Z5F(w:Work)(hw:FOk w):∀ k,FOk (fillN w k)/\(fillN w k).heap.C=w.heap.C/\(fillN w k).heap.P=w.heap.P/\(fillN w k).heap.S=w.heap.S/\(fillN w k).heap.B=w.heap.B/\(fillN w k).old=w.old/\(fillN w k).T=w.T/\(fillN w k).Q=w.Q/\(fillN w k).rep.freed=w.rep.freed/\(fillN w k).rep.cleared=w.rep.cleared/\w.rep.filled<=(fillN w k).rep.filled/\(fillN w k).rep.filled<=w.rep.filled+k
 | 0=>⟨hw,rfl,rfl,rfl,rfl,rfl,rfl,rfl,rfl,rfl,by simp[fillN],by simp[fillN]⟩
 | k+1=>by
  obtain⟨i0,i1,i2,i3,i4,i5,i6,i7,i8,i9,i10,i11⟩:=Z5F w hw k;obtain⟨l,n,e,e1,e2,e3,e4⟩:=ZkW (fillN w k) (w.old.getD k X);have:fillN w (k+1)=_:=e;rw[this];have hl:=i0.wl;exact⟨⟨e2 i0.W,by simp only;omega,i0.pl,i0.ol,i0.o,i0.tl,i0.ql⟩,i1,i2,i3,i4,i5,i6,i7,i8,i9,by simp only;omega,by simp only;omega⟩
section
variable (w:Work) (hw:FOk w) (hr:w.rep.filled=0)
include hw hr
theorem ZkP:CP (blkF f87 0) (Tg.st ⟨tm 84 [(1,.pt 8001 0 0),(2,.pt 8002 0 0),(3,int 0)],[(8002,.box 138 zW),(8001,.box 138 w.cells)],60⟩) .nrm (Tg.st ⟨tm 84 [(1,.pt 8001 0 0),(2,.pt 8002 0 0)],[(8002,.box 138 zW),(8001,.box 138 (fillN w w.old.length).cells)],60⟩):=by
 have hol:=hw.ol;refine Z0b (S:=λk=>(Zl2 (fillN w k) k).st) w.old.length kr (λk hk=>?_) ?_
 .have h:=Z5F w hw k;have:=Zia (fillN w k) k h.1 (by rw[h.2.2.2.2.2.1];exact hk) oq;rw[h.2.2.2.2.2.1]at this;exact this
 .have h:=Z5F w hw w.old.length;have:=ZnB (fillN w w.old.length);rw[h.2.2.2.2.2.1]at this;exact this
theorem ZcE:GP 87 [w.av] M (fillN w w.old.length).av []:=by
 exact gF [] func87 [] (Fu (@ZkP w aa aa) Fz)
end
def Z2h(s:Int)(p:Page):Prop:=p.K≠0/\p.S=s
instance (s:Int) (p:Page):Decidable (Z2h s p):=by unfold Z2h;infer_instance
def Z12(s:Int)(p:Page):Page:=if Z2h s p then⟨0,0,0,0⟩else p
def Z2e(pw s:Int)(l:List Page)(ws:List Int):Nat->List Int
 | 0=>ws
 | i+1=>if Z2h s (l.getD i X)then spl (Z2e pw s l ws i) (i*pw.toNat) (Ld pw.toNat 0)else Z2e pw s l ws i
def Z4J(n s:Int)(l:List Page):Nat->Int
 | 0=>n
 | i+1=>if Z2h s (l.getD i X)then Z4J n s l i+1 else Z4J n s l i
def Zgn(w:Work)(ps:List Page)(ws:List Int)(n:Int)(i:Nat):Tg:=⟨tm 78 [(1,.pt 8001 0 0),(2,.pt 8002 0 0),(3,int i)],[(8001,.box 138 [int w.heap.C.pw,int w.heap.C.pg,.ow 24017,.ow 16010,int w.heap.S,int w.heap.B,Z02 w.old,Z0x w.T,Z02 w.Q,int w.D,int w.rep.copied,int w.rep.kept,int w.rep.filled,int n,int w.rep.cleared,int w.rep.steps]),(24017,.arr 35 1 (ws.map wdv)),(16010,.arr 86 4 (ps.map Page.dv)),(8002,.box 138 zW)],60⟩
def Zlf(w:Work)(ps:List Page)(ws:List Int)(n:Int)(i:Nat)(hl:ps.length<=64)(hi:i<ps.length)(hb:¬ Z2h w.heap.S (ps.getD i X)):CP (rndF f86 0) (Zgn w ps ws n i).st .nrm (Zgn w ps ws n (i+1)).st:=by
 unfold Z2h at hb;have hb':¬ ((ps.getD (i:Int).toNat X).K≠0/\(ps.getD (i:Int).toNat X).S=w.heap.S):=hb;exact sF [] [] (FM 24 25 Page.dv ps i (Fmq 33 Page.dv ps (↑i) (Ftb 44 ((ps.getD (i:Int).toNat X).K==0||(ps.getD (i:Int).toNat X).S != w.heap.S) (Fx 27 i Fz))))
def Zhp(w:Work)(ps:List Page)(ws:List Int)(n:Int)(i k:Nat):Tg:=⟨tm 78 [(1,.pt 8001 0 0),(2,.pt 8002 0 0),(3,int i),(5,int k)],[(8001,.box 138 [int w.heap.C.pw,int w.heap.C.pg,.ow 24017,.ow 16010,int w.heap.S,int w.heap.B,Z02 w.old,Z0x w.T,Z02 w.Q,int w.D,int w.rep.copied,int w.rep.kept,int w.rep.filled,int n,int w.rep.cleared,int w.rep.steps]),(16010,.arr 86 4 (ps.map Page.dv)),(24017,.arr 35 1 ((wr ws (Ld w.heap.C.pw.toNat 0) (i*w.heap.C.pw.toNat) k).map wdv)),(8002,.box 138 zW)],64⟩
section
variable (w:Work) (ps:List Page) (ws:List Int) (n:Int) (i k:Nat) (hp:0<=w.heap.C.pw/\w.heap.C.pw<=64) (hi:i<=64) (hl:i*w.heap.C.pw.toNat+w.heap.C.pw.toNat<=ws.length) (hw:ws.length<=4096)
include hp hi hl hw
theorem ZiR(hk:k<w.heap.C.pw.toNat):CP (rndF f86 2) (Zhp w ps ws n i k).st .nrm (Zhp w ps ws n i (k+1)).st:=by
 have hs:=Z9c (ws:=ws) (l:=Ld w.heap.C.pw.toNat 0) (i:=i*w.heap.C.pw.toNat) (k:=k) (by simpa using hl) (by simpa using hk) (0:Int);rw[show(Ld w.heap.C.pw.toNat (0:Int)).getD k 0=0 by simp[List.getD,hk]]at hs;have hn:=Z48 (ws:=ws) (l:=Ld w.heap.C.pw.toNat (0:Int)) (i:=i*w.heap.C.pw.toNat) (k:=k) (by simpa using hl) qo;have em:(i:Int)*w.heap.C.pw=((i*w.heap.C.pw.toNat:Nat):Int):=by rw[LL,LQ hp.1]
 have ei:(i:Int)*w.heap.C.pw+k=((i*w.heap.C.pw.toNat+k:Nat):Int):=by omega
 exact sF [] (fO 6) (Fh 10076 [.els (Z wdv ((wr ws (Ld w.heap.C.pw.toNat 0) (i*w.heap.C.pw.toNat) k).set (↑(i*w.heap.C.pw.toNat+k):Int).toNat 0))] (Ftb 62 (La ((k:Int)<w.heap.C.pw)) (Fi 73 ((i:Int)*w.heap.C.pw) (Fg 75 (by rw[wrapI' oq oq];omega:Lq.wrap ((i:Int)*w.heap.C.pw+(k:Int))=(↑(i*w.heap.C.pw.toNat+k):Int)) (Fa (by(simp only[Lf];omega):0<=(↑(i*w.heap.C.pw.toNat+k):Int)/\(↑(i*w.heap.C.pw.toNat+k):Int).toNat<(Z wdv (wr ws (Ld w.heap.C.pw.toNat 0) (i*w.heap.C.pw.toNat) k)).length) (Fa (by(simp only[Lf];omega):(↑(i*w.heap.C.pw.toNat+k):Int).toNat<(Z wdv (wr ws (Ld w.heap.C.pw.toNat 0) (i*w.heap.C.pw.toNat) k)).length) (Fa (ms:(Z wdv (wr ws (Ld w.heap.C.pw.toNat 0) (i*w.heap.C.pw.toNat) k)).set (↑(i*w.heap.C.pw.toNat+k):Int).toNat [du64 0]=Z wdv ((wr ws (Ld w.heap.C.pw.toNat 0) (i*w.heap.C.pw.toNat) k).set (↑(i*w.heap.C.pw.toNat+k):Int).toNat 0)) (Fx 64 k (Fr (35:Int) (Fa (by refine congrArg _ ?_;exact hs:Z wdv ((wr ws (Ld w.heap.C.pw.toNat 0) (i*w.heap.C.pw.toNat) k).set (↑(i*w.heap.C.pw.toNat+k):Int).toNat 0)=Z wdv (wr ws (Ld w.heap.C.pw.toNat 0) (i*w.heap.C.pw.toNat) (k+1))) Fz))))))))))
theorem Zn2:CP (rndF f86 2) (Zhp w ps ws n i w.heap.C.pw.toNat).st (.ext 2) (Tg.st ⟨tm 78 [(1,.pt 8001 0 0),(2,.pt 8002 0 0),(3,int i)],[(8001,.box 138 [int w.heap.C.pw,int w.heap.C.pg,.ow 24017,.ow 16010,int w.heap.S,int w.heap.B,Z02 w.old,Z0x w.T,Z02 w.Q,int w.D,int w.rep.copied,int w.rep.kept,int w.rep.filled,int n,int w.rep.cleared,int w.rep.steps]),(16010,.arr 86 4 (ps.map Page.dv)),(24017,.arr 35 1 ((spl ws (i*w.heap.C.pw.toNat) (Ld w.heap.C.pw.toNat 0)).map wdv)),(8002,.box 138 zW)],64⟩):=by
 have hs:=ZdH ws (Ld w.heap.C.pw.toNat (0:Int)) (i*w.heap.C.pw.toNat);rw[List.length_replicate]at hs;exact sF [] (fO 5) (Ffb 62 (La ((w.heap.C.pw.toNat:Int)<w.heap.C.pw)) (Fr (35:Int) (Fa (by refine congrArg _ ?_;assumption:Z wdv (wr ws (Ld w.heap.C.pw.toNat 0) (i*w.heap.C.pw.toNat) w.heap.C.pw.toNat)=Z wdv (spl ws (i*w.heap.C.pw.toNat) (Ld w.heap.C.pw.toNat 0))) Fz)))
theorem Zkg:CP (blkF f86 2) (Tg.st ⟨tm 78 [(1,.pt 8001 0 0),(2,.pt 8002 0 0),(3,int i),(5,int 0)],[(8001,.box 138 [int w.heap.C.pw,int w.heap.C.pg,.ow 24017,.ow 16010,int w.heap.S,int w.heap.B,Z02 w.old,Z0x w.T,Z02 w.Q,int w.D,int w.rep.copied,int w.rep.kept,int w.rep.filled,int n,int w.rep.cleared,int w.rep.steps]),(16010,.arr 86 4 (ps.map Page.dv)),(24017,.arr 35 1 (ws.map wdv)),(8002,.box 138 zW)],64⟩) .nrm (Tg.st ⟨tm 78 [(1,.pt 8001 0 0),(2,.pt 8002 0 0),(3,int i)],[(8001,.box 138 [int w.heap.C.pw,int w.heap.C.pg,.ow 24017,.ow 16010,int w.heap.S,int w.heap.B,Z02 w.old,Z0x w.T,Z02 w.Q,int w.D,int w.rep.copied,int w.rep.kept,int w.rep.filled,int n,int w.rep.cleared,int w.rep.steps]),(16010,.arr 86 4 (ps.map Page.dv)),(24017,.arr 35 1 ((spl ws (i*w.heap.C.pw.toNat) (Ld w.heap.C.pw.toNat 0)).map wdv)),(8002,.box 138 zW)],64⟩):=by
 have:=Z0b (S:=λk=>(Zhp w ps ws n i k).st) w.heap.C.pw.toNat kr (λk hk=>ZiR w ps ws n i k hp hi hl hw hk) (Zn2 w ps ws n i hp hi hl hw)
 simp only[Zhp,Z76]at this;exact this
end
def Zkd(w:Work)(ps:List Page)(ws:List Int)(n:Int)(i:Nat)(hl:ps.length<=64)(hi:i<ps.length)(hb:Z2h w.heap.S (ps.getD i X))(hp:0<=w.heap.C.pw/\w.heap.C.pw<=64)(hs:i*w.heap.C.pw.toNat+w.heap.C.pw.toNat<=ws.length)(hw:ws.length<=4096)(hn:0<=n/\n<=64):CP (rndF f86 0) (Zgn w ps ws n i).st .nrm (Zgn w (ps.set i ⟨0,0,0,0⟩) (spl ws (i*w.heap.C.pw.toNat) (Ld w.heap.C.pw.toNat 0)) (n+1) (i+1)).st:=by
 unfold Z2h at hb;have hb':(ps.getD (i:Int).toNat X).K≠0/\(ps.getD (i:Int).toNat X).S=w.heap.S:=hb;exact sF [] [] (Fh 10050 [.els (Z Page.dv (ps.set (i:Int).toNat (Page.mk 0 0 0 0)))] (FM 24 25 Page.dv ps i (Fmq 33 Page.dv ps (↑i) (Ffb 44 ((ps.getD (i:Int).toNat X).K==0||(ps.getD (i:Int).toNat X).S != w.heap.S) (Fa (by(simp only[Lf];omega):0<=(i:Int)/\(i:Int).toNat<(Z Page.dv ps).length) (Fa (by(simp only[Lf];omega):(i:Int).toNat<(Z Page.dv ps).length) (Fa (by rw[LD];rfl:(Z Page.dv ps).set (i:Int).toNat [dint 0,dint 0,dint 0,dint 0]=Z Page.dv (ps.set (i:Int).toNat (Page.mk 0 0 0 0))) (Fi 54 (n+1) (Fu (@Zkg w (ps.set (i:Int).toNat (Page.mk 0 0 0 0)) ws (n+1) i aa oq aa aa) (Fx 27 i Fz))))))))))
def Z5C{pw s:Int}{l:List Page}{ws:List Int}(h:l.length*pw.toNat<=ws.length):∀ i,i<=l.length->(Z2e pw s l ws i).length=ws.length
 | 0,_=>rfl
 | i+1,hi=>by
  have ih:=Z5C (s:=s) h i oq;have hm:(i+1)*pw.toNat<=l.length*pw.toNat:=L3 _ hi;rw[L1,L4]at hm;unfold Z2e;split
  .rw[Z3V qo,ih]
  .exact ih
def Z64(n s:Int)(l:List Page):∀ i:Nat,n<=Z4J n s l i/\Z4J n s l i<=n+i
 | 0=>by simp[Z4J]
 | i+1=>by
  have ih:=Z64 n s l i;unfold Z4J;split<;>omega
def Z16(w:Work):Work:=⟨⟨w.heap.C,Z2e w.heap.C.pw w.heap.S w.heap.P w.heap.W w.heap.P.length,w.heap.P.map (Z12 w.heap.S),w.heap.S,w.heap.B⟩,w.old,w.T,w.Q,w.D,⟨w.rep.copied,w.rep.kept,w.rep.filled,Z4J w.rep.freed w.heap.S w.heap.P w.heap.P.length,w.rep.cleared,w.rep.steps⟩⟩
def Zng(w:Work)(ps:List Page)(ws:List Int)(n:Int):CP (rndF f86 0) (Zgn w ps ws n ps.length).st (.ext 0) (Tg.st ⟨tm 78 [(1,.pt 8001 0 0),(2,.pt 8002 0 0)],[(8001,.box 138 [int w.heap.C.pw,int w.heap.C.pg,.ow 24017,.ow 16010,int w.heap.S,int w.heap.B,Z02 w.old,Z0x w.T,Z02 w.Q,int w.D,int w.rep.copied,int w.rep.kept,int w.rep.filled,int n,int w.rep.cleared,int w.rep.steps]),(24017,.arr 35 1 (ws.map wdv)),(16010,.arr 86 4 (ps.map Page.dv)),(8002,.box 138 zW)],60⟩):=by
 exact sF [] [] (FO 24 25 Page.dv ps Fz)
section
variable (w:Work) (hl:w.heap.P.length<=64) (hp:0<=w.heap.C.pw/\w.heap.C.pw<=64) (hs:w.heap.P.length*w.heap.C.pw.toNat<=w.heap.W.length) (hw:w.heap.W.length<=4096) (hr:w.rep.freed=0)
include hl hp hs hw hr
theorem Zlr:CP (blkF f86 0) (Tg.st ⟨tm 78 [(1,.pt 8001 0 0),(2,.pt 8002 0 0),(3,int 0)],[(8001,.box 138 [int w.heap.C.pw,int w.heap.C.pg,.ow 24017,.ow 16010,int w.heap.S,int w.heap.B,Z02 w.old,Z0x w.T,Z02 w.Q,int w.D,int w.rep.copied,int w.rep.kept,int w.rep.filled,int w.rep.freed,int w.rep.cleared,int w.rep.steps]),(24017,.arr 35 1 (w.heap.W.map wdv)),(16010,.arr 86 4 (w.heap.P.map Page.dv)),(8002,.box 138 zW)],60⟩) .nrm (Tg.st ⟨tm 78 [(1,.pt 8001 0 0),(2,.pt 8002 0 0)],[(8001,.box 138 [int w.heap.C.pw,int w.heap.C.pg,.ow 24017,.ow 16010,int w.heap.S,int w.heap.B,Z02 w.old,Z0x w.T,Z02 w.Q,int w.D,int w.rep.copied,int w.rep.kept,int w.rep.filled,int (Z4J w.rep.freed w.heap.S w.heap.P w.heap.P.length),int w.rep.cleared,int w.rep.steps]),(24017,.arr 35 1 ((Z2e w.heap.C.pw w.heap.S w.heap.P w.heap.W w.heap.P.length).map wdv)),(16010,.arr 86 4 ((w.heap.P.map (Z12 w.heap.S)).map Page.dv)),(8002,.box 138 zW)],60⟩):=by
 refine Z0b (S:=λk=>(Zgn w (preM (Z12 w.heap.S) w.heap.P k) (Z2e w.heap.C.pw w.heap.S w.heap.P w.heap.W k) (Z4J w.rep.freed w.heap.S w.heap.P k) k).st) w.heap.P.length kr (λk hk=>?_) ?_
 .have h1:=Z5f (Z12 w.heap.S) w.heap.P k;have h2:=ZaX (Z12 w.heap.S) w.heap.P (Lj k) X;have h3:=Z5C (s:=w.heap.S) hs k oq;have h4:=Z64 w.rep.freed w.heap.S w.heap.P k;by_cases hb:Z2h w.heap.S (w.heap.P.getD k X)
  .have e1:=Z8s (Z12 w.heap.S) w.heap.P hk X;have e2:Z2e w.heap.C.pw w.heap.S w.heap.P w.heap.W (k+1)=spl (Z2e w.heap.C.pw w.heap.S w.heap.P w.heap.W k) (k*w.heap.C.pw.toNat) (Ld w.heap.C.pw.toNat 0):=by rw[Z2e,if_pos hb]
   have e3:Z4J w.rep.freed w.heap.S w.heap.P (k+1)=Z4J w.rep.freed w.heap.S w.heap.P k+1:=by rw[Z4J,if_pos hb]
   rw[Z12,if_pos hb]at e1;rw[<- e1,e2,e3];have hm:(k+1)*w.heap.C.pw.toNat<=w.heap.P.length*w.heap.C.pw.toNat:=L3 _ hk;rw[L1,L4]at hm;exact Zkd w _ _ _ k oq oq (by rw[h2];exact hb) hp oq oq oq
  .have e1:=ZcF (Z12 w.heap.S) w.heap.P hk X (by rw[Z12,if_neg hb]);have e2:Z2e w.heap.C.pw w.heap.S w.heap.P w.heap.W (k+1)=Z2e w.heap.C.pw w.heap.S w.heap.P w.heap.W k:=by rw[Z2e,if_neg hb]
   have e3:Z4J w.rep.freed w.heap.S w.heap.P (k+1)=Z4J w.rep.freed w.heap.S w.heap.P k:=by rw[Z4J,if_neg hb]
   rw[<- e1,e2,e3];exact Zlf w _ _ _ k oq oq (by rw[h2];exact hb)
 .have h:=Zng w (preM (Z12 w.heap.S) w.heap.P w.heap.P.length) (Z2e w.heap.C.pw w.heap.S w.heap.P w.heap.W w.heap.P.length) (Z4J w.rep.freed w.heap.S w.heap.P w.heap.P.length);rw[Z5f,Zbp]at h;simp only[Zbp];exact h
theorem ZcH:GP 86 [w.av] M (Z16 w).av []:=by
 have h1:=Z5C (s:=w.heap.S) hs w.heap.P.length (Lj _);have h2:=Z64 w.rep.freed w.heap.S w.heap.P w.heap.P.length;exact gF [] func86 [] (FAx 6 10 Page.dv w.heap.P (by(simp[Z16, *];omega)) (FAx 13 17 wdv w.heap.W (by(simp[Z16, *];omega)) (Fu (@Zlr w aa aa aa aa aa) Fz)))
end
def rep0:Rep:=⟨0,0,0,0,0,0⟩
def Z55{h:Heap}{l:List Int}(e:Z0i h l=Y):Z0R h=⟨0,0,0⟩:=by
 simp only[Z0i,LJ,decide_eq_true_eq]at e;exact e.1
section
variable (h:Heap) (s k:List Int) (hw:WOk h.W) (hs:s.length<=1048575) (hk:k.length<=1048575) (hs2:ULe s) (hk2:ULe k)
include hw hs hk hs2 hk2
theorem Zk7(hp:Z03 h=M):GP 36 [h.av,Z02 s,Z02 k] M (.tu [noHeap.av,Z02 [],Z02 [],.ag rep0.cells,int 1]) []:=by
 exact gF [] func36 [] (Fc 20 (@Z0g h) (Ftb 21 (!Z03 h) (Fnl (Fnl (Fnl (Fnl Fz))))))
theorem ZlV(hp:Z03 h=Y)(hr:Z0i h s=M\/Z0i h k=M):GP 36 [h.av,Z02 s,Z02 k] M (.tu [noHeap.av,Z02 [],Z02 [],.ag rep0.cells,int 19]) []:=by
 by_cases h1:Z0i h s=M
 .exact gF [] func36 [] (Fc 20 (@Z0g h) (Ffb 21 (!Z03 h) (Fc 26 (@Z1O h s aa oq) (FcG 31 (!!Z0i h s) (λhg=>by(try simp only[bs]at hg);exact @Zch h k aa (by(try simp only[bs]at hg);grind[noHeap,rep0])) (Fts 33 (!Z0i h s||Y) (Fnl (Fnl (Fnl (Fnl Fz)))))))))
 .have h2:Z0i h k=M:=by
   rcases hr with hr | hr
   .exact absurd hr h1
   .exact hr
  exact gF [] func36 [] (Fc 20 (@Z0g h) (Ffb 21 (!Z03 h) (Fc 26 (@Z1O h s aa oq) (FcG 31 (!!Z0i h s) (λhg=>by(try simp only[bs]at hg);exact @Z1O h k aa oq) (Ftb 33 (!Z0i h s||!Z0i h k) (Fnl (Fnl (Fnl (Fnl Fz)))))))))
theorem Zk5(hp:Z03 h=Y)(hr:Z0i h s=Y)(hr':Z0i h k=Y)(e:¬ (rootsF (beginW h) s).2.2=0):GP 36 [h.av,Z02 s,Z02 k] M (.tu [noHeap.av,Z02 [],Z02 [],.ag rep0.cells,int (rootsF (beginW h) s).2.2]) []:=by
 have hb:=Z3o hw hp;have hg:=Z55 hr;exact gF [] func36 [] (Fc 20 (@Z0g h) (Ffb 21 (!Z03 h) (Fc 26 (@Z1O h s aa oq) (FcG 31 (!!Z0i h s) (λhg=>by(try simp only[bs]at hg);exact @Z1O h k aa oq) (Ffs 33 (!Z0i h s||!Z0i h k) (Fc 38 (@Z4l h aa aa aa) (Fc 44 (@Z5x (beginW h) s aa aa aa) (Ftb 49 ((rootsF (beginW h) s).2.2 != 0) (Fnl (Fnl (Fnl (Fnl Fz))))))))))))
theorem ZkV(hp:Z03 h=Y)(hr:Z0i h s=Y)(hr':Z0i h k=Y)(e:(rootsF (beginW h) s).2.2=0)(e2:¬ (allF (rootsF (beginW h) s).1).2=0):GP 36 [h.av,Z02 s,Z02 k] M (.tu [noHeap.av,Z02 [],Z02 [],.ag rep0.cells,int (allF (rootsF (beginW h) s).1).2]) []:=by
 have hb:=Z3o hw hp;have hi:=Z3g hp;have hg:=Z55 hr;have ho:=Z3w (roots:=s) hb hi e;have ho1:=ho.1;let y0:=rootsF (beginW h) s;exact gF [] func36 [] (Fc 20 (@Z0g h) (Ffb 21 (!Z03 h) (Fc 26 (@Z1O h s aa oq) (FcG 31 (!!Z0i h s) (λhg=>by(try simp only[bs]at hg);exact @Z1O h k aa oq) (Ffs 33 (!Z0i h s||!Z0i h k) (Fc 38 (@Z4l h aa aa aa) (Fc 44 (@Z5x (beginW h) s aa aa aa) (Ffb 49 (y0.2.2 != 0) (Fc 55 (@Zbt (y0.1) aa) (Ftb 59 ((allF y0.1).2 != 0) (Fnl (Fnl (Fnl (Fnl Fz))))))))))))))
end
def Z7E(w:Work)(x:Int):Int:=if x=0 then 0 else Z1z w x
def Z9J(w:Work)(x:Int):Work:=⟨w.heap,w.old,w.T,w.Q,w.D,⟨w.rep.copied,w.rep.kept,w.rep.filled,w.rep.freed,if x≠0/\Z1z w x=0 then w.rep.cleared+1 else w.rep.cleared,w.rep.steps⟩⟩
def weakS(w:Work)(k:List Int):Nat->Work
 | 0=>w
 | i+1=>Z9J (weakS w k i) (k.getD i X)
def Z3U(w:Work)(k:List Int):Nat->List Int
 | 0=>[]
 | i+1=>Z3U w k i++[Z7E (weakS w k i) (k.getD i X)]
def Z5o(w:Work)(k:List Int):∀ i,(weakS w k i).heap=w.heap/\(weakS w k i).old=w.old/\(weakS w k i).T=w.T/\(weakS w k i).Q=w.Q/\(weakS w k i).rep.filled=w.rep.filled/\(weakS w k i).rep.freed=w.rep.freed/\w.rep.cleared<=(weakS w k i).rep.cleared/\(weakS w k i).rep.cleared<=w.rep.cleared+i
 | 0=>⟨rfl,rfl,rfl,rfl,rfl,rfl,by simp[weakS],by simp[weakS]⟩
 | i+1=>by
  obtain⟨h1,h2,h3,h4,h5,h6,h7,h8⟩:=Z5o w k i;refine⟨h1,h2,h3,h4,h5,h6, ?_, ?_⟩
  .simp only[weakS,Z9J];split<;>omega
  .simp only[weakS,Z9J];split<;>omega
def Z97(w:Work)(k:List Int):∀ i,(Z3U w k i).length=i
 | 0=>rfl
 | i+1=>by simp[Z3U,Z97 w k i]
def Zki(w:Work)(k roots out:List Int)(i:Nat):Tg:=⟨tm 122 [(2,Z02 k),(6,.pt 8006 0 0),(7,.d (.sl 0 [])),(8,.d (.sl 0 [])),(9,.pt 8009 0 0),(10,int 0),(11,.pt 32011 0 0),(13,Z02 roots),(15,.ow 72015),(16,int i)],[(72015,.arr 35 1 (out.map wdv)),(32011,.box 138 w.cells),(8009,.box 73 [int 0,int 0,int 0,int 0,int 0,int 0]),(8006,.box 28 [int 0,int 0,.d (.sl 0 []),.d (.sl 0 []),int 0,int 0])],60⟩
section
variable (w:Work) (k roots out:List Int) (i:Nat) (hw:WOk w.heap.W) (hl:w.heap.W.length<=4096) (hq:w.Q.length<=1048576) (hk:k.length<=1048575) (hx:0<=k.getD i X/\k.getD i X<=18446744073709551615) (ho:out.length<=1048576) (hi:i<k.length) (hc:0<=w.rep.cleared/\w.rep.cleared<=2097152)
include hw hl hq hk hx ho hi hc
theorem Zjo:CP (rndF f36 0) (Zki w k roots out i).st .nrm (Zki (Z9J w (k.getD i X)) k roots (out++[Z7E w (k.getD i X)]) (i+1)).st:=by
 by_cases h0:k.getD i X=0
 .have e1:Z7E w (k.getD i X)=0:=by rw[Z7E,if_pos h0]
  have e2:Z9J w (k.getD i X)=w:=by rw[Z9J,if_neg (by rintro⟨q,_⟩;exact q h0)]
  rw[e1,e2];exact sF [(504091,72015)] [] (Fh 91 [.els (Z wdv (out++[0]))] (FN 65 66 71 wdv k i (Ffb 73 (k.getD i X != 0) (Fs 90 (Z wdv [0]) (Fa (by(simp[*];omega):(Z wdv out).length+(Z wdv [0]).length<=2^30) (Fa (ms:Z wdv out++Z wdv [0]=Z wdv (out++[0])) (Fx 68 i Fz)))))))
 .have e1:Z7E w (k.getD i X)=Z1z w (k.getD i X):=by rw[Z7E,if_neg h0]
  rw[e1];by_cases h2:Z1z w (k.getD i X)=0
  .have e2:Z9J w (k.getD i X)=⟨w.heap,w.old,w.T,w.Q,w.D,⟨w.rep.copied,w.rep.kept,w.rep.filled,w.rep.freed,w.rep.cleared+1,w.rep.steps⟩⟩:=by rw[Z9J,if_pos ⟨h0,h2⟩]
   rw[e2];let y0:=k.getD i X;exact sF [(528091,72015)] [] (Fh 91 [.els (Z wdv (out++[Z1z w y0]))] (FN 65 66 71 wdv k i (Ftb 73 (k.getD i X != 0) (Fek 77 wdv k (↑i) i (Fc 79 (@Zay w y0 aa aa aa aa) (Ftb 81 (Z1z w y0==0) (Fi 85 (w.rep.cleared+1) (Fs 90 (Z wdv [Z1z w y0]) (Fa (by(simp[*];omega):(Z wdv out).length+(Z wdv [Z1z w y0]).length<=2^30) (Fa (ms:Z wdv out++Z wdv [Z1z w y0]=Z wdv (out++[Z1z w y0])) (Fx 68 i Fz)))))))))))
  .have e2:Z9J w (k.getD i X)=w:=by rw[Z9J,if_neg (by rintro⟨_,q⟩;exact h2 q)]
   rw[e2];let y1:=k.getD i X;exact sF [(520091,72015)] [] (Fh 91 [.els (Z wdv (out++[Z1z w y1]))] (FN 65 66 71 wdv k i (Ftb 73 (k.getD i X != 0) (Fek 77 wdv k (↑i) i (Fc 79 (@Zay w y1 aa aa aa aa) (Ffb 81 (Z1z w y1==0) (Fs 90 (Z wdv [Z1z w y1]) (Fa (by(simp[*];omega):(Z wdv out).length+(Z wdv [Z1z w y1]).length<=2^30) (Fa (ms:Z wdv out++Z wdv [Z1z w y1]=Z wdv (out++[Z1z w y1])) (Fx 68 i Fz))))))))))
end
def ZnK(w:Work)(k roots out:List Int):CP (rndF f36 0) (Zki w k roots out k.length).st (.ext 0) (Tg.st ⟨tm 122 [(6,.pt 8006 0 0),(7,.d (.sl 0 [])),(8,.d (.sl 0 [])),(9,.pt 8009 0 0),(10,int 0),(11,.pt 32011 0 0),(13,Z02 roots),(15,.ow 72015)],[(72015,.arr 35 1 (out.map wdv)),(32011,.box 138 w.cells),(8009,.box 73 [int 0,int 0,int 0,int 0,int 0,int 0]),(8006,.box 28 [int 0,int 0,.d (.sl 0 []),.d (.sl 0 []),int 0,int 0])],60⟩):=by
 exact sF [] [] (FO 65 66 wdv k Fz)
def Zgg(w:Work)(k roots:List Int)(hw:WOk w.heap.W)(hl:w.heap.W.length<=4096)(hq:w.Q.length<=1048576)(hk:k.length<=1048575)(hx:ULe k)(hc:w.rep.cleared=0):CP (blkF f36 0) (Zki (weakS w k 0) k roots (Z3U w k 0) 0).st .nrm (Tg.st ⟨tm 122 [(6,.pt 8006 0 0),(7,.d (.sl 0 [])),(8,.d (.sl 0 [])),(9,.pt 8009 0 0),(10,int 0),(11,.pt 32011 0 0),(13,Z02 roots),(15,.ow 72015)],[(72015,.arr 35 1 ((Z3U w k k.length).map wdv)),(32011,.box 138 (weakS w k k.length).cells),(8009,.box 73 [int 0,int 0,int 0,int 0,int 0,int 0]),(8006,.box 28 [int 0,int 0,.d (.sl 0 []),.d (.sl 0 []),int 0,int 0])],60⟩):=by
 refine Z0b (S:=λi=>(Zki (weakS w k i) k roots (Z3U w k i) i).st) k.length kr (λi hi=>?_) (ZnK _ k roots _);have h:=Z5o w k i;exact Zjo _ k roots _ i (by rw[h.1];exact hw) (by rw[h.1];exact hl) (by rw[h.2.2.2.1];exact hq) hk (Z5w hx i) (by rw[Z97];omega) hi oq
abbrev cB(h:Heap)(s k:List Int):Work:=weakS (allF (rootsF (beginW h) s).1).1 k k.length
abbrev cA(h:Heap)(s k:List Int):Work:=fillN (cB h s k) (cB h s k).old.length
def ZeI{n:Int}(h:0<=n/\n<=255):(decodeH (1+16*n)).1.length=n:=by
 have e:Z2S (1+16*n)=⟨0,n,0⟩:=by
  simp only[Z2S,Header.mk.injEq];omega
 have he:=Z5s h;unfold decodeH;rw[e,he];simp
def ZjP{w:Work}(h:CIv w){x:Int}(hx:x∈w.old):CIv (Z5I w x):=by
 unfold Z5I;split
 .rename_i hc;have hr:=h.r x (Le _ hx);have hh:=Z09 w.heap.W x;have hl:(objW ⟨0,(hdW w x).length,0⟩).length=(hlA w.heap.W x+1).toNat:=by
   show(objW ⟨0,hlA w.heap.W x,0⟩).length=_;simp[objW];omega
  have hin:4096<=x/\x-4096+(objW ⟨0,(hdW w x).length,0⟩).length<=w.heap.W.length:=by omega
  have hlen:(Z0t w.heap.W x (objW ⟨0,(hdW w x).length,0⟩)).1.length=w.heap.W.length:=by
   unfold Z0t;rw[if_pos hin];exact Z3V oq
  have:=h.withWords hlen (λa ha=>?_)
  .exact⟨this.L,this.r,this.s,this.f,this.z⟩
  .by_cases he:a=x
   .subst he;have:hlA (Z0t w.heap.W a (objW ⟨0,(hdW w a).length,0⟩)).1 a=hlA w.heap.W a:=by
     have e1:=Z1H (b:=a) hin oq;unfold hlA at *;rw[e1];have e2:(objW ⟨0,(hdW w a).length,0⟩).getD (a-a).toNat 0=1+16*(decodeH (loadA w.heap.W a).1).1.length:=by
      rw[LM];show(Z0a ⟨0,(hdW w a).length,0⟩).1=_;rw[Z5s (show 0<=(hdW w a).length/\(hdW w a).length<=255 from hh)];rfl
     rw[e2];exact ZeI hh
    omega
   .have s1:=h.s a ha x (Le _ hx);have s2:=h.s x (Le _ hx) a ha;have ha0:=Z09 w.heap.W a;have:hlA (Z0t w.heap.W x (objW ⟨0,(hdW w x).length,0⟩)).1 a=hlA w.heap.W a:=by
     have e1:=Z29 (b:=a) hin (by
      rcases Int.lt_or_lt_of_ne he with q | q
      .exact Lc q
      .have:=s2 q;exact O oq)
     unfold hlA;rw[e1]
    omega
 .exact h
def ZcU{w:Work}(hw:FOk w)(h:CIv w):∀ k,k<=w.old.length->CIv (fillN w k)
 | 0,_=>h
 | k+1,hk=>ZjP (ZcU hw h k oq) (by rw[(Z5F w hw k).2.2.2.2.2.1];exact getD_mem_iff.2 ⟨k,by omega,rfl⟩)
def Zdi{w:Work}(h:CIv w)(k:List Int):∀ i,CIv (weakS w k i)
 | 0=>h
 | i+1=>by
  have ih:=Zdi h k i;exact⟨ih.L,ih.r,ih.s,ih.f,ih.z⟩
def Zd2{w:Work}(h:FOk w)(k:List Int):∀ i,FOk (weakS w k i)
 | 0=>h
 | i+1=>by
  have ih:=Zd2 h k i;exact⟨ih.W,ih.wl,ih.pl,ih.ol,ih.o,ih.tl,ih.ql⟩
def cW2(h:Heap)(s:List Int):Work:=(allF (rootsF (beginW h) s).1).1
def cW3(h:Heap)(s k:List Int):Work:=weakS (cW2 h s) k k.length
def cW4(h:Heap)(s k:List Int):Work:=fillN (cW3 h s k) (cW3 h s k).old.length
def cW5(h:Heap)(s k:List Int):Work:=Z16 (cW4 h s k)
def endH(w:Work):Heap:=⟨w.heap.C,w.heap.W,w.heap.P,1-w.heap.S,if 0<w.T.length then Z0E w else -1⟩
structure COk (h:Heap) (s k:List Int):Prop where
 w2:WkOk (cW2 h s)
 i2:CIv (cW2 h s)
 x2:CEx (beginW h) (cW2 h s)
 f3:FOk (cW3 h s k)
 i3:CIv (cW3 h s k)
 r3:(cW3 h s k).rep.filled=0/\(cW3 h s k).rep.freed=0
 f4:FOk (cW4 h s k)
 i4:CIv (cW4 h s k)
 h4:(cW4 h s k).heap.C=h.C/\(cW4 h s k).heap.P=(cW2 h s).heap.P/\(cW4 h s k).heap.S=(cW2 h s).heap.S/\(cW4 h s k).T=(cW2 h s).T/\(cW4 h s k).rep.freed=0
section
variable (h:Heap) (s k:List Int) (hw:WOk h.W) (hp:Z03 h=Y) (e:(rootsF (beginW h) s).2.2=0) (e2:(allF (rootsF (beginW h) s).1).2=0)
include hw hp e e2
theorem cOk:COk h s k:=by
 have hb:=Z3o hw hp;have hi:=Z3g hp;have ho:=Z3w (roots:=s) hb hi e;have w2:WkOk (cW2 h s):=Zn8 _ ho.1 e2;have i2:=ZfD ho.1 ho.2.1 e2;have x2:CEx (beginW h) (cW2 h s):=ho.2.2.1.trans i2.2;have f3:FOk (cW3 h s k):=Zd2 w2.fok k _;have i3:CIv (cW3 h s k):=Zdi i2.1 k _;obtain⟨a1,a2,a3,a4,a5,a6,a7,a8⟩:=Z5o (cW2 h s) k k.length;have hr0:=w2.r0;have r3:(cW3 h s k).rep.filled=0/\(cW3 h s k).rep.freed=0:=⟨a5.trans hr0.1,a6.trans hr0.2.1⟩
 obtain⟨b0,b1,b2,b3,b4,b5,b6,b7,b8,b9,b10,b11⟩:=Z5F (cW3 h s k) f3 (cW3 h s k).old.length;refine⟨w2,i2.1,x2,f3,i3,r3,b0,ZcU f3 i3 _ (Lj _), ?_, ?_, ?_, ?_, ?_⟩
 .show(fillN (cW3 h s k) (cW3 h s k).old.length).heap.C=_;rw[b1];show(weakS (cW2 h s) k k.length).heap.C=_;rw[a1];exact x2.c
 .show(fillN (cW3 h s k) (cW3 h s k).old.length).heap.P=_;rw[b2];show(weakS (cW2 h s) k k.length).heap.P=_;rw[a1]
 .show(fillN (cW3 h s k) (cW3 h s k).old.length).heap.S=_;rw[b3];show(weakS (cW2 h s) k k.length).heap.S=_;rw[a1]
 .show(fillN (cW3 h s k) (cW3 h s k).old.length).T=_;rw[b6];exact a3
 .show(fillN (cW3 h s k) (cW3 h s k).old.length).rep.freed=_;rw[b8];exact r3.2
theorem cOk5:(cW4 h s k).heap.P.length<=64/\0<=(cW4 h s k).heap.C.pw/\(cW4 h s k).heap.C.pw<=64/\(cW4 h s k).heap.P.length*(cW4 h s k).heap.C.pw.toNat<=(cW4 h s k).heap.W.length/\(cW4 h s k).heap.W.length<=4096:=by
 have c:=cOk h s k hw hp e e2;have po:=Z07 hp;have hL:=c.i4.L;have hpl:=c.w2.pl;have hc2:=c.x2.c;have hc:(cW2 h s).heap.C=h.C:=hc2;rw[hc]at hpl;rw[c.h4.1]at hL;have hl4:=c.f4.wl;rw[c.h4.1,c.h4.2.1];refine⟨by omega,by omega,by omega, ?_,hl4⟩;have:(((cW2 h s).heap.P.length*h.C.pw.toNat:Nat):Int)=h.C.pw*h.C.pg:=by
  rw[LL,LQ oq,hpl,Lh]
 omega
end
def collectF(h:Heap)(s k:List Int):Heap×List Int×List Int×Rep×Int :=
 if Z03 h=Y then
  (if Z0i h s=Y/\Z0i h k=Y then
   (if(rootsF (beginW h) s).2.2=0 then
    (if(allF (rootsF (beginW h) s).1).2=0 then(endH (cW5 h s k),(rootsF (beginW h) s).2.1,Z3U (cW2 h s) k k.length,(cW5 h s k).rep,0)
    else(noHeap,[],[],rep0,(allF (rootsF (beginW h) s).1).2))
   else(noHeap,[],[],rep0,(rootsF (beginW h) s).2.2))
  else(noHeap,[],[],rep0,19))
 else(noHeap,[],[],rep0,1)
section
variable (h:Heap) (s k:List Int) (hw:WOk h.W) (hs:s.length<=1048575) (hk:k.length<=1048575) (hs2:ULe s) (hk2:ULe k)
include hw hs hk hs2 hk2
theorem ZkL(hp:Z03 h=Y)(hr:Z0i h s=Y)(hr':Z0i h k=Y)(e:(rootsF (beginW h) s).2.2=0)(e2:(allF (rootsF (beginW h) s).1).2=0):GP 36 [h.av,Z02 s,Z02 k] M (.tu [(endH (cW5 h s k)).av,Z02 (rootsF (beginW h) s).2.1,Z02 (Z3U (cW2 h s) k k.length),.ag (cW5 h s k).rep.cells,int 0]) []:=by
 have hb:=Z3o hw hp;have hi:=Z3g hp;have hg:=Z55 hr;have ho:=Z3w (roots:=s) hb hi e;have ho1:=ho.1;have ho4:=ho.2.2.2.2;have c:=cOk h s k hw hp e e2;obtain⟨q1,q2,q3,q4,q5⟩:=cOk5 h s k hw hp e e2;have w2:=c.w2;have f3:=c.f3;have r3:=c.r3.1;obtain⟨g1,g2,g3,g4,g5⟩:=c.h4;have v1:=w2.W;have v2:=w2.wl;have v3:=w2.mu;have v4:=w2.tl;have v5:=w2.sp;have v6:=w2.r0.2.2;have v7:=congrArg LR g4;have z1:(Z16 (cW4 h s k)).T=(cW4 h s k).T:=rfl;have v8:=congrArg LR z1;have z2:(Z16 (cW4 h s k)).heap.S=(cW4 h s k).heap.S:=rfl;clear c;unfold cW4 at *;unfold cW3 at *;unfold cW2 at *;rcases bb (La (0<(↑(Z16 (fillN (weakS (allF (rootsF (beginW h) s).1).1 k k.length) (weakS (allF (rootsF (beginW h) s).1).1 k k.length).old.length)).T.length:Int)))with hc0 | hc0<;>have hc0p:=hc0<;>simp only[bs]at hc0p
 .rw[show endH (cW5 h s k)=Heap.mk (Z16 (fillN (weakS (allF (rootsF (beginW h) s).1).1 k k.length) (weakS (allF (rootsF (beginW h) s).1).1 k k.length).old.length)).heap.C (Z16 (fillN (weakS (allF (rootsF (beginW h) s).1).1 k k.length) (weakS (allF (rootsF (beginW h) s).1).1 k k.length).old.length)).heap.W (Z16 (fillN (weakS (allF (rootsF (beginW h) s).1).1 k k.length) (weakS (allF (rootsF (beginW h) s).1).1 k k.length).old.length)).heap.P ((1:Int)-(Z16 (fillN (weakS (allF (rootsF (beginW h) s).1).1 k k.length) (weakS (allF (rootsF (beginW h) s).1).1 k k.length).old.length)).heap.S) ((Z16 (fillN (weakS (allF (rootsF (beginW h) s).1).1 k k.length) (weakS (allF (rootsF (beginW h) s).1).1 k k.length).old.length)).T.getD ((↑(Z16 (fillN (weakS (allF (rootsF (beginW h) s).1).1 k k.length) (weakS (allF (rootsF (beginW h) s).1).1 k k.length).old.length)).T.length:Int)-(1:Int)).toNat X)from by(simp only[endH,cW5,cW4,cW3,cW2,Z0E] ;exact sj)];refine gspec_ofE [((20:Nat),[Hint.call Y (Sx.bool (Z03 h)) []]),((21:Nat),[Hint.br M]),((26:Nat),[Hint.call Y (Sx.bool (Z0i h s)) []]),((31:Nat),[Hint.call Y (Sx.bool (Z0i h k)) []]),((33:Nat),[Hint.br M]),((38:Nat),[Hint.call M (AV.tu [(beginW h).av,int (0:Int)]) []]),((44:Nat),[Hint.call M (AV.tu [(rootsF (beginW h) s).1.av,Z02 (rootsF (beginW h) s).2.1,int (rootsF (beginW h) s).2.2]) []]),((49:Nat),[Hint.br M]),((55:Nat),[Hint.call M (AV.tu [(allF (rootsF (beginW h) s).1).1.av,int (allF (rootsF (beginW h) s).1).2]) []]),((59:Nat),[Hint.br M]),((15:Nat),[Hint.own]),((93:Nat),[Hint.call M (fillN (weakS (allF (rootsF (beginW h) s).1).1 k k.length) (weakS (allF (rootsF (beginW h) s).1).1 k k.length).old.length).av []]),((94:Nat),[Hint.call M (Z16 (fillN (weakS (allF (rootsF (beginW h) s).1).1 k k.length) (weakS (allF (rootsF (beginW h) s).1).1 k k.length).old.length)).av []]),((98:Nat),[Hint.int ((1:Int)-(Z16 (fillN (weakS (allF (rootsF (beginW h) s).1).1 k k.length) (weakS (allF (rootsF (beginW h) s).1).1 k k.length).old.length)).heap.S)]),((105:Nat),[Hint.int (↑(Z16 (fillN (weakS (allF (rootsF (beginW h) s).1).1 k k.length) (weakS (allF (rootsF (beginW h) s).1).1 k k.length).old.length)).T.length:Int)]),((107:Nat),[Hint.br Y]),((111:Nat),[Hint.int ((↑(Z16 (fillN (weakS (allF (rootsF (beginW h) s).1).1 k k.length) (weakS (allF (rootsF (beginW h) s).1).1 k k.length).old.length)).T.length:Int)-(1:Int))]),((112:Nat),[Hint.el (idv ((Z16 (fillN (weakS (allF (rootsF (beginW h) s).1).1 k k.length) (weakS (allF (rootsF (beginW h) s).1).1 k k.length).old.length)).T.getD ((↑(Z16 (fillN (weakS (allF (rootsF (beginW h) s).1).1 k k.length) (weakS (allF (rootsF (beginW h) s).1).1 k k.length).old.length)).T.length:Int)-(1:Int)).toNat X))])] [((0:Nat),Tg.mk (tm (122:Nat) [((2:Nat),Z02 k),((6:Nat),AV.pt (8006:Nat) (0:Nat) (0:Nat)),((7:Nat),AV.d (DV.sl (0:Nat) [])),((8:Nat),AV.d (DV.sl (0:Nat) [])),((9:Nat),AV.pt (8009:Nat) (0:Nat) (0:Nat)),((10:Nat),int (0:Int)),((11:Nat),AV.pt (32011:Nat) (0:Nat) (0:Nat)),((13:Nat),Z02 (rootsF (beginW h) s).2.1),((15:Nat),AV.ow (72015:Nat)),((16:Nat),int (0:Int))]) [((72015:Nat),Blk.arr 35 (1:Nat) []),((32011:Nat),Blk.box 138 (allF (rootsF (beginW h) s).1).1.cells),((8009:Nat),Blk.box 73 [int (0:Int),int (0:Int),int (0:Int),int (0:Int),int (0:Int),int (0:Int)]),((8006:Nat),Blk.box 28 [int (0:Int),int (0:Int),AV.d (DV.sl (0:Nat) []),AV.d (DV.sl (0:Nat) []),int (0:Int),int (0:Int)])] (60:Nat),Ex.nrm,Tg.mk (tm (122:Nat) [((6:Nat),AV.pt (8006:Nat) (0:Nat) (0:Nat)),((7:Nat),AV.d (DV.sl (0:Nat) [])),((8:Nat),AV.d (DV.sl (0:Nat) [])),((9:Nat),AV.pt (8009:Nat) (0:Nat) (0:Nat)),((10:Nat),int (0:Int)),((11:Nat),AV.pt (32011:Nat) (0:Nat) (0:Nat)),((13:Nat),Z02 (rootsF (beginW h) s).2.1),((15:Nat),AV.ow (72015:Nat))]) [((72015:Nat),Blk.arr 35 (1:Nat) (Z wdv (Z3U (allF (rootsF (beginW h) s).1).1 k k.length))),((32011:Nat),Blk.box 138 (weakS (allF (rootsF (beginW h) s).1).1 k k.length).cells),((8009:Nat),Blk.box 73 [int (0:Int),int (0:Int),int (0:Int),int (0:Int),int (0:Int),int (0:Int)]),((8006:Nat),Blk.box 28 [int (0:Int),int (0:Int),AV.d (DV.sl (0:Nat) []),AV.d (DV.sl (0:Nat) []),int (0:Int),int (0:Int)])] (60:Nat))] [] dd func36 [] (φ:=GP 65 [h.av] Y (Sx.bool (Z03 h)) []/\(!Z03 h)=M/\M=M/\GP 42 [h.av,Z02 s] Y (Sx.bool (Z0i h s)) []/\((!!Z0i h s)=Y->GP 42 [h.av,Z02 k] Y (Sx.bool (Z0i h k)) [])/\(!Z0i h s||!Z0i h k)=M/\M=M/\GP 82 [h.av] M (AV.tu [(beginW h).av,int (0:Int)]) []/\GP 83 [(beginW h).av,Z02 s] M (AV.tu [(rootsF (beginW h) s).1.av,Z02 (rootsF (beginW h) s).2.1,int (rootsF (beginW h) s).2.2]) []/\((rootsF (beginW h) s).2.2 != (0:Int))=M/\M=M/\GP 84 [(rootsF (beginW h) s).1.av] M (AV.tu [(allF (rootsF (beginW h) s).1).1.av,int (allF (rootsF (beginW h) s).1).2]) []/\((allF (rootsF (beginW h) s).1).2 != (0:Int))=M/\M=M/\CP (blkF f36 (0:Nat)) (Tg.mk (tm (122:Nat) [((2:Nat),Z02 k),((6:Nat),AV.pt (8006:Nat) (0:Nat) (0:Nat)),((7:Nat),AV.d (DV.sl (0:Nat) [])),((8:Nat),AV.d (DV.sl (0:Nat) [])),((9:Nat),AV.pt (8009:Nat) (0:Nat) (0:Nat)),((10:Nat),int (0:Int)),((11:Nat),AV.pt (32011:Nat) (0:Nat) (0:Nat)),((13:Nat),Z02 (rootsF (beginW h) s).2.1),((15:Nat),AV.ow (72015:Nat)),((16:Nat),int (0:Int))]) [((72015:Nat),Blk.arr 35 (1:Nat) []),((32011:Nat),Blk.box 138 (allF (rootsF (beginW h) s).1).1.cells),((8009:Nat),Blk.box 73 [int (0:Int),int (0:Int),int (0:Int),int (0:Int),int (0:Int),int (0:Int)]),((8006:Nat),Blk.box 28 [int (0:Int),int (0:Int),AV.d (DV.sl (0:Nat) []),AV.d (DV.sl (0:Nat) []),int (0:Int),int (0:Int)])] (60:Nat)).st Ex.nrm (Tg.mk (tm (122:Nat) [((6:Nat),AV.pt (8006:Nat) (0:Nat) (0:Nat)),((7:Nat),AV.d (DV.sl (0:Nat) [])),((8:Nat),AV.d (DV.sl (0:Nat) [])),((9:Nat),AV.pt (8009:Nat) (0:Nat) (0:Nat)),((10:Nat),int (0:Int)),((11:Nat),AV.pt (32011:Nat) (0:Nat) (0:Nat)),((13:Nat),Z02 (rootsF (beginW h) s).2.1),((15:Nat),AV.ow (72015:Nat))]) [((72015:Nat),Blk.arr 35 (1:Nat) (Z wdv (Z3U (allF (rootsF (beginW h) s).1).1 k k.length))),((32011:Nat),Blk.box 138 (weakS (allF (rootsF (beginW h) s).1).1 k k.length).cells),((8009:Nat),Blk.box 73 [int (0:Int),int (0:Int),int (0:Int),int (0:Int),int (0:Int),int (0:Int)]),((8006:Nat),Blk.box 28 [int (0:Int),int (0:Int),AV.d (DV.sl (0:Nat) []),AV.d (DV.sl (0:Nat) []),int (0:Int),int (0:Int)])] (60:Nat)).st/\GP 87 [(weakS (allF (rootsF (beginW h) s).1).1 k k.length).av] M (fillN (weakS (allF (rootsF (beginW h) s).1).1 k k.length) (weakS (allF (rootsF (beginW h) s).1).1 k k.length).old.length).av []/\GP 86 [(fillN (weakS (allF (rootsF (beginW h) s).1).1 k k.length) (weakS (allF (rootsF (beginW h) s).1).1 k k.length).old.length).av] M (Z16 (fillN (weakS (allF (rootsF (beginW h) s).1).1 k k.length) (weakS (allF (rootsF (beginW h) s).1).1 k k.length).old.length)).av []/\Lq.wrap ((1:Int)-(Z16 (fillN (weakS (allF (rootsF (beginW h) s).1).1 k k.length) (weakS (allF (rootsF (beginW h) s).1).1 k k.length).old.length)).heap.S)=(1:Int)-(Z16 (fillN (weakS (allF (rootsF (beginW h) s).1).1 k k.length) (weakS (allF (rootsF (beginW h) s).1).1 k k.length).old.length)).heap.S/\(↑(Z idv (Z16 (fillN (weakS (allF (rootsF (beginW h) s).1).1 k k.length) (weakS (allF (rootsF (beginW h) s).1).1 k k.length).old.length)).T).length:Int)=(↑(Z16 (fillN (weakS (allF (rootsF (beginW h) s).1).1 k k.length) (weakS (allF (rootsF (beginW h) s).1).1 k k.length).old.length)).T.length:Int)/\La ((0:Int)<(↑(Z16 (fillN (weakS (allF (rootsF (beginW h) s).1).1 k k.length) (weakS (allF (rootsF (beginW h) s).1).1 k k.length).old.length)).T.length:Int))=Y/\Y=Y/\Lq.wrap ((↑(Z16 (fillN (weakS (allF (rootsF (beginW h) s).1).1 k k.length) (weakS (allF (rootsF (beginW h) s).1).1 k k.length).old.length)).T.length:Int)-(1:Int))=(↑(Z16 (fillN (weakS (allF (rootsF (beginW h) s).1).1 k k.length) (weakS (allF (rootsF (beginW h) s).1).1 k k.length).old.length)).T.length:Int)-(1:Int)/\(0:Int)<=(↑(Z16 (fillN (weakS (allF (rootsF (beginW h) s).1).1 k k.length) (weakS (allF (rootsF (beginW h) s).1).1 k k.length).old.length)).T.length:Int)-(1:Int)/\(Z idv (Z16 (fillN (weakS (allF (rootsF (beginW h) s).1).1 k k.length) (weakS (allF (rootsF (beginW h) s).1).1 k k.length).old.length)).T)[((↑(Z16 (fillN (weakS (allF (rootsF (beginW h) s).1).1 k k.length) (weakS (allF (rootsF (beginW h) s).1).1 k k.length).old.length)).T.length:Int)-(1:Int)).toNat]? = some (idv ((Z16 (fillN (weakS (allF (rootsF (beginW h) s).1).1 k k.length) (weakS (allF (rootsF (beginW h) s).1).1 k k.length).old.length)).T.getD ((↑(Z16 (fillN (weakS (allF (rootsF (beginW h) s).1).1 k k.length) (weakS (allF (rootsF (beginW h) s).1).1 k k.length).old.length)).T.length:Int)-(1:Int)).toNat X))) ?_ kr kr;exact⟨(@Z0g (h)),(by(simp only[bs];omega)),rfl,(@Z1O (h) (s) aa oq),(λhg=>by(try simp only[bs]at hg);exact @Z1O (h) (k) (by(try simp only[bs]at hg);assumption) (by(try simp only[bs]at hg);omega)),(by simp only[bs, *,true_or,or_true,true_and,and_true,not_true_eq_false,not_false_eq_true,Bool.true_eq_false,Bool.false_eq_true]),rfl,(@Z4l (h) aa aa aa),(@Z5x (beginW h) (s) aa aa aa),(by(simp only[bs];omega)),rfl,(@Zbt ((rootsF (beginW h) s).1) aa),(by(simp only[bs];omega)),rfl,(@Zgg ((allF (rootsF (beginW h) s).1).1) (k) ((rootsF (beginW h) s).2.1) aa aa oq aa aa aa),(@ZcE (weakS (allF (rootsF (beginW h) s).1).1 k k.length) aa aa),(@ZcH (fillN (weakS (allF (rootsF (beginW h) s).1).1 k k.length) (weakS (allF (rootsF (beginW h) s).1).1 k k.length).old.length) aa oq aa aa aa),(by exact wrapI2 rfl oq oq),(by simp only[Lf]),aa,rfl,(by exact wrapI2 rfl oq oq),(by exact elI oq oq oq)⟩
 .rw[show endH (cW5 h s k)=Heap.mk (Z16 (fillN (weakS (allF (rootsF (beginW h) s).1).1 k k.length) (weakS (allF (rootsF (beginW h) s).1).1 k k.length).old.length)).heap.C (Z16 (fillN (weakS (allF (rootsF (beginW h) s).1).1 k k.length) (weakS (allF (rootsF (beginW h) s).1).1 k k.length).old.length)).heap.W (Z16 (fillN (weakS (allF (rootsF (beginW h) s).1).1 k k.length) (weakS (allF (rootsF (beginW h) s).1).1 k k.length).old.length)).heap.P ((1:Int)-(Z16 (fillN (weakS (allF (rootsF (beginW h) s).1).1 k k.length) (weakS (allF (rootsF (beginW h) s).1).1 k k.length).old.length)).heap.S) (-1:Int)from by(simp[endH,cW5,cW4,cW3,cW2,Z0E, *];omega)];let y1:=rootsF (beginW h) s;let y0:=weakS (allF y1.1).1 k k.length;let y2:=fillN y0 y0.old.length;exact gF [] func36 [] (Fh 15 [.own] (Fc 20 (@Z0g h) (Ffb 21 (!Z03 h) (Fc 26 (@Z1O h s aa oq) (FcG 31 (!!Z0i h s) (λhg=>by(try simp only[bs]at hg);exact @Z1O h k aa oq) (Ffs 33 (!Z0i h s||!Z0i h k) (Fc 38 (@Z4l h aa aa aa) (Fc 44 (@Z5x (beginW h) s aa aa aa) (Ffb 49 (y1.2.2 != 0) (Fc 55 (@Zbt (y1.1) aa) (Ffb 59 ((allF y1.1).2 != 0) (Fu (@Zgg ((allF y1.1).1) k (y1.2.1) aa aa oq aa aa aa) (Fc 93 (@ZcE y0 aa aa) (Fc 94 (@ZcH y2 aa oq aa aa aa) (Fi 98 (1-(Z16 y2).heap.S) (Fl 105 idv (Z16 y2).T (Ff 107 hc0 Fz)))))))))))))))))
end
def pinB(w:WorldM)(i:Nat)(n:Int):WorldM:=⟨⟨w.heap.C,w.heap.W,w.heap.P.set i ⟨(w.heap.P.getD i X).K,(w.heap.P.getD i X).S,(w.heap.P.getD i X).U,(w.heap.P.getD i X).N+n⟩,w.heap.S,w.heap.B⟩,w.G,w.E⟩
def pinI(w:WorldM)(t:Tape):Nat:=(ofA w.heap.C (w.pick t)).1.toNat
def WorldM.pin(w:WorldM)(t:Tape):WorldM :=
  if(ofA w.heap.C (w.pick t)).2.2=0 then
    (if 0<(w.heap.P.getD (pinI w t) X).N/\(w.pickT t).next 2=0 then pinB w (pinI w t) (-1)
     else if 0<(w.heap.P.getD (pinI w t) X).N\/(w.heap.P.getD (pinI w t) X).K=2\/(crowd w.heap.P:Int)<w.heap.C.pg/4 then pinB w (pinI w t) 1 else w)else w
def WorldM.pinT(w:WorldM)(t:Tape):Tape:=if(ofA w.heap.C (w.pick t)).2.2=0/\0<(w.heap.P.getD (pinI w t) X).N then(w.pickT t).step 2 else w.pickT t
def Zkm(w:WorldM)(t:Tape)(hw:WMok w)(ht:TOk t)(ha:t.at'<=1000000)(hv:Z06 w.heap.C=Y)(hp:(w.heap.P.length:Int)=w.heap.C.pg)(hpn:∀ j,j<w.heap.P.length->-1048576<=(w.heap.P.getD j X).N/\(w.heap.P.getD j X).N<=4294967296):LP 104 [w.av,.pt 0 0 0] [t.b] (w.pin t).av [(w.pinT t).b]:=by
 have hb:=validB_iff.1 hv;have s1:=Zbz w t;have k1:=Z50 ht s1.2.2 oq oq;have p1:=Z36 hw t;have q1:=hpn (pinI w t);have hcr:=Z41 w.heap.P w.heap.P.length;unfold pinI at q1;have o1:=λe=>Z3I (a:=w.pick t) hv e;by_cases e:(ofA w.heap.C (w.pick t)).2.2=0
 .have o2:=o1 e;by_cases c1:0<(w.heap.P.getD (ofA w.heap.C (w.pick t)).1.toNat X).N
  .have eT:w.pinT t=(w.pickT t).step 2:=by rw[WorldM.pinT,if_pos ⟨e,c1⟩]
   by_cases c2:(w.pickT t).next 2=0
   .have eP:w.pin t=⟨⟨w.heap.C,w.heap.W,w.heap.P.set (ofA w.heap.C (w.pick t)).1.toNat ⟨(w.heap.P.getD (ofA w.heap.C (w.pick t)).1.toNat X).K,(w.heap.P.getD (ofA w.heap.C (w.pick t)).1.toNat X).S,(w.heap.P.getD (ofA w.heap.C (w.pick t)).1.toNat X).U,(w.heap.P.getD (ofA w.heap.C (w.pick t)).1.toNat X).N-1⟩,w.heap.S,w.heap.B⟩,w.G,w.E⟩:=by rw[WorldM.pin,if_pos e,if_pos ⟨c1,c2⟩];rfl
    rw[eP,eT];exact lF func104 [] (Fh 42 [.br Y] (Fh 37 [.br Y] (Fh 51 [.el (w.heap.P.getD (ofA w.heap.C (w.pick t)).1.toNat X).dv] (Fp 12 (@Z25 w t aa aa oq) (Fc 18 (@Z4K w.heap.C (w.pick t) oq oq) (Ffb 23 ((ofA w.heap.C (w.pick t)).2.2 != 0) (FA 25 29 Page.dv w.heap.P (Fmq 41 Page.dv w.heap.P ((ofA w.heap.C (w.pick t)).1) (Fb (La (0<(w.heap.P.getD (ofA w.heap.C (w.pick t)).1.toNat X).N)=Y) (Fp 45 (@Z0A (w.pickT t) (2) aa oq oq) (Fb (((w.pickT t).next (2:Int)==0)=Y) (Fa (by exact Z10 oq:(Z Page.dv w.heap.P)[(ofA w.heap.C (w.pick t)).1.toNat]? = some (w.heap.P.getD (ofA w.heap.C (w.pick t)).1.toNat X).dv) (Fi 52 ((w.heap.P.getD (ofA w.heap.C (w.pick t)).1.toNat X).N-1) (Fa (by exact Z10 oq:(Z Page.dv w.heap.P)[(ofA w.heap.C (w.pick t)).1.toNat]? = some (w.heap.P.getD (ofA w.heap.C (w.pick t)).1.toNat X).dv) (FS 10054 Page.dv w.heap.P ((ofA w.heap.C (w.pick t)).1.toNat) (Page.mk (w.heap.P.getD (ofA w.heap.C (w.pick t)).1.toNat X).K (w.heap.P.getD (ofA w.heap.C (w.pick t)).1.toNat X).S (w.heap.P.getD (ofA w.heap.C (w.pick t)).1.toNat X).U ((w.heap.P.getD (ofA w.heap.C (w.pick t)).1.toNat X).N-1)) ((w.heap.P.getD (ofA w.heap.C (w.pick t)).1.toNat X).dv) Fz)))))))))))))))
   .have eP:w.pin t=⟨⟨w.heap.C,w.heap.W,w.heap.P.set (ofA w.heap.C (w.pick t)).1.toNat ⟨(w.heap.P.getD (ofA w.heap.C (w.pick t)).1.toNat X).K,(w.heap.P.getD (ofA w.heap.C (w.pick t)).1.toNat X).S,(w.heap.P.getD (ofA w.heap.C (w.pick t)).1.toNat X).U,(w.heap.P.getD (ofA w.heap.C (w.pick t)).1.toNat X).N+1⟩,w.heap.S,w.heap.B⟩,w.G,w.E⟩:=by rw[WorldM.pin,if_pos e,if_neg (λq=>c2 q.2),if_pos (.inl c1)];rfl
    rw[eP,eT];exact lF func104 [] (Fh 42 [.br Y] (Fh 37 [.br M] (Fh 59 [.el (w.heap.P.getD (ofA w.heap.C (w.pick t)).1.toNat X).dv] (Fh 65 [.el (w.heap.P.getD (ofA w.heap.C (w.pick t)).1.toNat X).dv] (Fh 76 [.int (w.heap.C.pg/4)] (Fh 55 [.br Y] (Fh 82 [.el (w.heap.P.getD (ofA w.heap.C (w.pick t)).1.toNat X).dv] (Fp 12 (@Z25 w t aa aa oq) (Fc 18 (@Z4K w.heap.C (w.pick t) oq oq) (Ffb 23 ((ofA w.heap.C (w.pick t)).2.2 != 0) (FA 25 29 Page.dv w.heap.P (Fmq 41 Page.dv w.heap.P ((ofA w.heap.C (w.pick t)).1) (Fb (La (0<(w.heap.P.getD (ofA w.heap.C (w.pick t)).1.toNat X).N)=Y) (Fp 45 (@Z0A (w.pickT t) (2) aa oq oq) (Fb (((w.pickT t).next (2:Int)==0)=M) (Fa (by exact Z10 oq:(Z Page.dv w.heap.P)[(ofA w.heap.C (w.pick t)).1.toNat]? = some (w.heap.P.getD (ofA w.heap.C (w.pick t)).1.toNat X).dv) (Fa (by intro hg;(try simp only[bs]at hg);exact Z10 oq:(!decide (0<(w.heap.P.getD (ofA w.heap.C (w.pick t)).1.toNat X).N))=Y->(Z Page.dv w.heap.P)[(ofA w.heap.C (w.pick t)).1.toNat]? = some (w.heap.P.getD (ofA w.heap.C (w.pick t)).1.toNat X).dv) (FcG 71 (!(La (0<(w.heap.P.getD (ofA w.heap.C (w.pick t)).1.toNat X).N)||(w.heap.P.getD (ofA w.heap.C (w.pick t)).1.toNat X).K==2)) (λhg=>by(try simp only[bs]at hg);exact @Z9w w.heap oq) (Fa (by intro hg;(try simp only[bs]at hg);rw[wrapI' oq oq];omega:(!(La (0<(w.heap.P.getD (ofA w.heap.C (w.pick t)).1.toNat X).N)||(w.heap.P.getD (ofA w.heap.C (w.pick t)).1.toNat X).K==2))=Y->Lq.wrap (w.heap.C.pg.tdiv 4)=w.heap.C.pg/4) (Fa (by intro hg;(try simp only[bs]at hg);omega:(!(La (0<(w.heap.P.getD (ofA w.heap.C (w.pick t)).1.toNat X).N)||(w.heap.P.getD (ofA w.heap.C (w.pick t)).1.toNat X).K==2))=Y->(4:Int)=0->False) (Fb ((La (0<(w.heap.P.getD (ofA w.heap.C (w.pick t)).1.toNat X).N)||(w.heap.P.getD (ofA w.heap.C (w.pick t)).1.toNat X).K==2||La ((↑(crowd w.heap.P):Int)<w.heap.C.pg/4))=Y) (Fa (by exact Z10 oq:(Z Page.dv w.heap.P)[(ofA w.heap.C (w.pick t)).1.toNat]? = some (w.heap.P.getD (ofA w.heap.C (w.pick t)).1.toNat X).dv) (Fi 83 ((w.heap.P.getD (ofA w.heap.C (w.pick t)).1.toNat X).N+1) (Fa (by exact Z10 oq:(Z Page.dv w.heap.P)[(ofA w.heap.C (w.pick t)).1.toNat]? = some (w.heap.P.getD (ofA w.heap.C (w.pick t)).1.toNat X).dv) (FS 10085 Page.dv w.heap.P ((ofA w.heap.C (w.pick t)).1.toNat) (Page.mk (w.heap.P.getD (ofA w.heap.C (w.pick t)).1.toNat X).K (w.heap.P.getD (ofA w.heap.C (w.pick t)).1.toNat X).S (w.heap.P.getD (ofA w.heap.C (w.pick t)).1.toNat X).U ((w.heap.P.getD (ofA w.heap.C (w.pick t)).1.toNat X).N+1)) ((w.heap.P.getD (ofA w.heap.C (w.pick t)).1.toNat X).dv) Fz)))))))))))))))))))))))))
  .have eT:w.pinT t=w.pickT t:=by rw[WorldM.pinT,if_neg (λq=>c1 q.2)]
   by_cases c3:(w.heap.P.getD (ofA w.heap.C (w.pick t)).1.toNat X).K=2\/(crowd w.heap.P:Int)<w.heap.C.pg/4
   .have eP:w.pin t=⟨⟨w.heap.C,w.heap.W,w.heap.P.set (ofA w.heap.C (w.pick t)).1.toNat ⟨(w.heap.P.getD (ofA w.heap.C (w.pick t)).1.toNat X).K,(w.heap.P.getD (ofA w.heap.C (w.pick t)).1.toNat X).S,(w.heap.P.getD (ofA w.heap.C (w.pick t)).1.toNat X).U,(w.heap.P.getD (ofA w.heap.C (w.pick t)).1.toNat X).N+1⟩,w.heap.S,w.heap.B⟩,w.G,w.E⟩:=by rw[WorldM.pin,if_pos e,if_neg (λq=>c1 q.1),if_pos (.inr c3)];rfl
    rw[eP,eT];exact lF func104 [] (Fh 42 [.br M] (Fh 45 [.bor [0] (int ((w.pickT t).next 2)) [((w.pickT t).step 2).b]] (Fh 59 [.el (w.heap.P.getD (ofA w.heap.C (w.pick t)).1.toNat X).dv] (Fh 65 [.el (w.heap.P.getD (ofA w.heap.C (w.pick t)).1.toNat X).dv] (Fh 76 [.int (w.heap.C.pg/4)] (Fh 55 [.br Y] (Fh 82 [.el (w.heap.P.getD (ofA w.heap.C (w.pick t)).1.toNat X).dv] (Fp 12 (@Z25 w t aa aa oq) (Fc 18 (@Z4K w.heap.C (w.pick t) oq oq) (Ffb 23 ((ofA w.heap.C (w.pick t)).2.2 != 0) (FA 25 29 Page.dv w.heap.P (Fmq 41 Page.dv w.heap.P ((ofA w.heap.C (w.pick t)).1) (Fb (La (0<(w.heap.P.getD (ofA w.heap.C (w.pick t)).1.toNat X).N)=M) (Fa (by exact Z10 oq:(Z Page.dv w.heap.P)[(ofA w.heap.C (w.pick t)).1.toNat]? = some (w.heap.P.getD (ofA w.heap.C (w.pick t)).1.toNat X).dv) (Fa (by intro hg;(try simp only[bs]at hg);exact Z10 oq:(!decide (0<(w.heap.P.getD (ofA w.heap.C (w.pick t)).1.toNat X).N))=Y->(Z Page.dv w.heap.P)[(ofA w.heap.C (w.pick t)).1.toNat]? = some (w.heap.P.getD (ofA w.heap.C (w.pick t)).1.toNat X).dv) (FcG 71 (!(La (0<(w.heap.P.getD (ofA w.heap.C (w.pick t)).1.toNat X).N)||(w.heap.P.getD (ofA w.heap.C (w.pick t)).1.toNat X).K==2)) (λhg=>by(try simp only[bs]at hg);exact @Z9w w.heap oq) (Fa (by intro hg;(try simp only[bs]at hg);rw[LN oq,wrapI' oq oq]:(!(La (0<(w.heap.P.getD (ofA w.heap.C (w.pick t)).1.toNat X).N)||(w.heap.P.getD (ofA w.heap.C (w.pick t)).1.toNat X).K==2))=Y->Lq.wrap (w.heap.C.pg.tdiv 4)=w.heap.C.pg/4) (Fa (by intro hg;(try simp only[bs]at hg);omega:(!(La (0<(w.heap.P.getD (ofA w.heap.C (w.pick t)).1.toNat X).N)||(w.heap.P.getD (ofA w.heap.C (w.pick t)).1.toNat X).K==2))=Y->(4:Int)=0->False) (Fb ((La (0<(w.heap.P.getD (ofA w.heap.C (w.pick t)).1.toNat X).N)||(w.heap.P.getD (ofA w.heap.C (w.pick t)).1.toNat X).K==2||La ((↑(crowd w.heap.P):Int)<w.heap.C.pg/4))=Y) (Fa (by exact Z10 oq:(Z Page.dv w.heap.P)[(ofA w.heap.C (w.pick t)).1.toNat]? = some (w.heap.P.getD (ofA w.heap.C (w.pick t)).1.toNat X).dv) (Fi 83 ((w.heap.P.getD (ofA w.heap.C (w.pick t)).1.toNat X).N+1) (Fa (by exact Z10 oq:(Z Page.dv w.heap.P)[(ofA w.heap.C (w.pick t)).1.toNat]? = some (w.heap.P.getD (ofA w.heap.C (w.pick t)).1.toNat X).dv) (FS 10085 Page.dv w.heap.P ((ofA w.heap.C (w.pick t)).1.toNat) (Page.mk (w.heap.P.getD (ofA w.heap.C (w.pick t)).1.toNat X).K (w.heap.P.getD (ofA w.heap.C (w.pick t)).1.toNat X).S (w.heap.P.getD (ofA w.heap.C (w.pick t)).1.toNat X).U ((w.heap.P.getD (ofA w.heap.C (w.pick t)).1.toNat X).N+1)) ((w.heap.P.getD (ofA w.heap.C (w.pick t)).1.toNat X).dv) Fz)))))))))))))))))))))))
   .have eP:w.pin t=w:=by rw[WorldM.pin,if_pos e,if_neg (λq=>c1 q.1),if_neg (λq=>q.elim c1 c3)]
    rw[eP,eT];exact lF func104 [] (Fh 42 [.br M] (Fh 45 [.bor [0] (int ((w.pickT t).next 2)) [((w.pickT t).step 2).b]] (Fh 59 [.el (w.heap.P.getD (ofA w.heap.C (w.pick t)).1.toNat X).dv] (Fh 65 [.el (w.heap.P.getD (ofA w.heap.C (w.pick t)).1.toNat X).dv] (Fh 76 [.int (w.heap.C.pg/4)] (Fh 55 [.br M] (Fp 12 (@Z25 w t aa aa oq) (Fc 18 (@Z4K w.heap.C (w.pick t) oq oq) (Ffb 23 ((ofA w.heap.C (w.pick t)).2.2 != 0) (FA 25 29 Page.dv w.heap.P (Fmq 41 Page.dv w.heap.P ((ofA w.heap.C (w.pick t)).1) (Fb (La (0<(w.heap.P.getD (ofA w.heap.C (w.pick t)).1.toNat X).N)=M) (Fa (by exact Z10 oq:(Z Page.dv w.heap.P)[(ofA w.heap.C (w.pick t)).1.toNat]? = some (w.heap.P.getD (ofA w.heap.C (w.pick t)).1.toNat X).dv) (Fa (by intro hg;(try simp only[bs]at hg);exact Z10 oq:(!decide (0<(w.heap.P.getD (ofA w.heap.C (w.pick t)).1.toNat X).N))=Y->(Z Page.dv w.heap.P)[(ofA w.heap.C (w.pick t)).1.toNat]? = some (w.heap.P.getD (ofA w.heap.C (w.pick t)).1.toNat X).dv) (FcG 71 (!(La (0<(w.heap.P.getD (ofA w.heap.C (w.pick t)).1.toNat X).N)||(w.heap.P.getD (ofA w.heap.C (w.pick t)).1.toNat X).K==2)) (λhg=>by(try simp only[bs]at hg);exact @Z9w w.heap oq) (Fa (by intro hg;(try simp only[bs]at hg);rw[LN oq,wrapI' oq oq]:(!(La (0<(w.heap.P.getD (ofA w.heap.C (w.pick t)).1.toNat X).N)||(w.heap.P.getD (ofA w.heap.C (w.pick t)).1.toNat X).K==2))=Y->Lq.wrap (w.heap.C.pg.tdiv 4)=w.heap.C.pg/4) (Fa (by intro hg;(try simp only[bs]at hg);omega:(!(La (0<(w.heap.P.getD (ofA w.heap.C (w.pick t)).1.toNat X).N)||(w.heap.P.getD (ofA w.heap.C (w.pick t)).1.toNat X).K==2))=Y->(4:Int)=0->False) (Fb ((La (0<(w.heap.P.getD (ofA w.heap.C (w.pick t)).1.toNat X).N)||(w.heap.P.getD (ofA w.heap.C (w.pick t)).1.toNat X).K==2||La ((↑(crowd w.heap.P):Int)<w.heap.C.pg/4))=M) Fz))))))))))))))))))
 .have eP:w.pin t=w:=by rw[WorldM.pin,if_neg e]
  have eT:w.pinT t=w.pickT t:=by rw[WorldM.pinT,if_neg (λq=>e q.1)]
  rw[eP,eT];exact lF func104 [] (Fp 12 (@Z25 w t aa aa oq) (Fc 18 (@Z4K w.heap.C (w.pick t) oq oq) (Ftb 23 ((ofA w.heap.C (w.pick t)).2.2 != 0) Fz)))
def Z7D(h:Heap)(s k:List Int)(hw:WOk h.W)(hs:s.length<=1048575)(hk:k.length<=1048575)(hs2:ULe s)(hk2:ULe k):GP 36 [h.av,Z02 s,Z02 k] M (.tu [(collectF h s k).1.av,Z02 (collectF h s k).2.1,Z02 (collectF h s k).2.2.1,.ag (collectF h s k).2.2.2.1.cells,int (collectF h s k).2.2.2.2]) []:=by
 unfold collectF;by_cases hp:Z03 h=Y
 .rw[if_pos hp];by_cases hr:Z0i h s=Y/\Z0i h k=Y
  .rw[if_pos hr];by_cases e:(rootsF (beginW h) s).2.2=0
   .rw[if_pos e];by_cases e2:(allF (rootsF (beginW h) s).1).2=0
    .rw[if_pos e2];exact ZkL h s k hw hs hk hs2 hk2 hp hr.1 hr.2 e e2
    .rw[if_neg e2];exact ZkV h s k hw hs hk hs2 hk2 hp hr.1 hr.2 e e2
   .rw[if_neg e];exact Zk5 h s k hw hs hk hs2 hk2 hp hr.1 hr.2 e
  .rw[if_neg hr];refine ZlV h s k hw hs hk hs2 hk2 hp ?_;by_cases q:Z0i h s=Y
   .refine O ?_;have:¬ Z0i h k=Y:=λq2=>hr ⟨q,q2⟩;simpa using this
   .exact Lc (by simpa using q)
 .rw[if_neg hp];exact Zk7 h s k hw hs hk hs2 hk2 (by simpa using hp)
def WorldM.collect(w:WorldM):WorldM:=if(collectF w.heap w.G w.E).2.2.2.2=0 then⟨(collectF w.heap w.G w.E).1,(collectF w.heap w.G w.E).2.1,(collectF w.heap w.G w.E).2.2.1⟩else w
def Z7C(w:WorldM)(hw:WOk w.heap.W)(hs:w.G.length<=1048575)(hk:w.E.length<=1048575)(hs2:ULe w.G)(hk2:ULe w.E):GP 23 [w.av] M w.collect.av []:=by
 by_cases e:(collectF w.heap w.G w.E).2.2.2.2=0
 .have e7:w.collect=⟨(collectF w.heap w.G w.E).1,(collectF w.heap w.G w.E).2.1,(collectF w.heap w.G w.E).2.2.1⟩:=by rw[WorldM.collect,if_pos e]
  rw[e7];exact gF [] func23 [] (Fc 15 (@Z7D w.heap w.G w.E aa aa aa aa aa) (Ftb 22 ((collectF w.heap w.G w.E).2.2.2.2==0) Fz))
 .have e7:w.collect=w:=by rw[WorldM.collect,if_neg e]
  rw[e7];exact gF [] func23 [] (Fc 15 (@Z7D w.heap w.G w.E aa aa aa aa aa) (Ffb 22 ((collectF w.heap w.G w.E).2.2.2.2==0) Fz))
section
variable (P:Work->Prop) (hf:∀ w r,WkOk w->CIv w->P w->(w.fwd r).2.2=0->P (w.fwd r).1)
 (hin:∀ w q j,WkOk w->CIv w->P w->q∈w.Q->0<=j->j<hlA w.heap.W q->(w.fwd (loadA w.heap.W (q+1+j)).1).2.2=0->P (w.in1 (q+1+j))) (hsd:∀ w n,P w->P (Z7H w n))
include hin in
theorem ZjN{w:Work}(hw:WkOk w)(h:CIv w)(hp:P w){q:Int}(hq:q∈w.Q){l:List Int}(hl:∀ x∈l,0<=x/\x<hlA w.heap.W q):∀ k,k<=l.length->(∀ j,j<k->innE w q l j=0)->P (innN w q l k)
 | 0,_,_=>hp
 | k+1,hk,he=>by
  have ih:=ZjN hw h hp hq hl k oq (λj hj=>he j oq);have ok:=(Z4q hw q l k (λj hj=>he j oq)).1;have iv:=Z7U hw h hq hl k oq (λj hj=>he j oq);have hx:=hl _ (getD_mem_iff.2 ⟨k,by omega,rfl⟩);exact hin _ q (l.getD k X) ok iv.1 ih (iv.2.q q hq) hx.1 (by rw[iv.2.l q hq];exact hx.2) (he k oq)
include hin hsd in
theorem ZbB{w:Work}(hw:WkOk w)(h:CIv w)(hp:P w)(e:(Z0r w).2.2=0):P (Z0r w).1:=by
 by_cases hs:w.D<w.Q.length
 .have hsc:=hw.sc;have hq:Z1G w∈w.Q:=getD_mem_iff.2 ⟨w.D.toNat,by omega,rfl⟩;unfold Z0r at e ⊢;rw[if_pos hs]at e ⊢;cases hb:(Lo (Z0T w).length).find? (λk=>La (innE w (Z1G w) (Z0T w) k≠0))with
  | none =>
   have h0:∀ j,j<(Z0T w).length->innE w (Z1G w) (Z0T w) j=0:=λj hj=>by
    have:=Ls.1 hb j (Lr.2 hj);simpa using this
   exact hsd _ _ (ZjN P hin hw h hp hq (l:=Z0T w) (Z1S (hdW w (Z1G w))) (Z0T w).length (Lj _) h0)
  | some k =>
   simp only[hb]at e;have:=(Ll.1 hb).1;simp[e]at this
 .have e:Z0r w=(w,M,0):=by rw[Z0r,if_neg hs]
  rw[e];exact hp
include hin hsd in
theorem ZkR{w:Work}(hw:WkOk w)(h:CIv w)(hp:P w):∀ k,(∀ j,j<k->Z2T w j=M)->P (itW w k)
 | 0,_=>hp
 | k+1,hh=>by
  have ih:=ZkR hw h hp k (λj hj=>hh j oq);have ok:=(Z4a hw k (λj hj=>hh j oq)).1;have iv:=(Z7o hw h k (λj hj=>hh j oq)).1;have hk:=hh k oq;simp only[Z2T,decide_eq_false_iff_not,not_or,Li]at hk;exact ZbB P hin hsd ok iv ih hk.1
include hin hsd in
theorem Zp8{w:Work}(hw:WkOk w)(h:CIv w)(hp:P w)(e:(allF w).2=0):P (allF w).1:=by
 obtain⟨k,hb⟩:=Z3A hw;obtain⟨h1,h2,h3⟩:=Ll.1 hb;have h0:∀ j,j<k->Z2T w j=M:=λj hj=>by simpa using h3 j hj
 unfold allF at e ⊢;rw[hb]at e ⊢;simp only at e ⊢;split at e
 .rename_i c;rw[if_pos c];exact ZbB P hin hsd (Z4a hw k h0).1 (Z7o hw h k h0).1 (ZkR P hin hsd hw h hp k h0) c
 .rename_i c;exact absurd e c
include hf in
theorem ZbY{w:Work}{roots:List Int}(hw:WkOk w)(h:CIv w)(hp:P w):∀ k,(∀ j,j<k->Z1W w roots j=0)->P (rootsN w roots k).1
 | 0,_=>hp
 | k+1,hh=>by
  have ih:=ZbY hw h hp k (λj hj=>hh j oq);have ok:=(Z3h (roots:=roots) hw k (λj hj=>hh j oq)).1;have iv:=(Z5D (roots:=roots) hw h k (λj hj=>hh j oq)).1;exact hf _ _ ok iv ih (hh k oq)
include hf in
theorem ZaP{w:Work}{roots:List Int}(hw:WkOk w)(h:CIv w)(hp:P w)(e:(rootsF w roots).2.2=0):P (rootsF w roots).1:=by
 unfold rootsF at e ⊢;cases hb:(Lo roots.length).find? (λk=>La (Z1W w roots k≠0))with
 | none =>
  have h0:∀ j,j<roots.length->Z1W w roots j=0:=λj hj=>by
   have:=Ls.1 hb j (Lr.2 hj);simpa using this
  exact ZbY P hf hw h hp roots.length h0
 | some k =>
  simp only[hb]at e;have:=(Ll.1 hb).1;simp[e]at this
include hf hin hsd in
theorem Zkn{h:Heap}{s:List Int}(hw:WOk h.W)(hp:Z03 h=Y)(h0:P (beginW h))(e:(rootsF (beginW h) s).2.2=0)(e2:(allF (rootsF (beginW h) s).1).2=0):P (cW2 h s):=by
 have hb:=Z3o hw hp;have hi:=Z3g hp;have ho:=Z3w (roots:=s) hb hi e;exact Zp8 P hin hsd ho.1 ho.2.1 (ZaP P hf hb hi h0 e) e2
end
def Zid{l:List Page}{i k:Nat}(h:∀ m,m<k->i+1+m<l.length/\(l.getD (i+1+m) X).K=3):k<=Z0z l i:=by
 by_cases hc:k<=Z0z l i
 .exact hc
 .have h1:=h (Z0z l i) oq;exact absurd h1.2 (ZfF h1.1)
def PT.flip{c:Conf}{l:List Page}(h:PT c l){i:Nat}(hi:i<l.length)(hk:(l.getD i X).K=2){s:Int}(hs:0<=s/\s<=1):PT c (Z0H l i (Z0z l i) s):=by
 have hr:∀ j,i<j->j<=i+Z0z l i->(l.getD j X).K=3:=λj h1 h2=>by
  have:=(Z7h (l:=l) (i:=i) (m:=j-i-1) oq).2;rwa [show i+1+(j-i-1)=j by omega]at this
 have hg:∀ j,j<l.length->((Z0H l i (Z0z l i) s).getD j X).K=(l.getD j X).K/\((Z0H l i (Z0z l i) s).getD j X).U=(l.getD j X).U/\((Z0H l i (Z0z l i) s).getD j X).N=(l.getD j X).N:=λj hj=>by
  rw[Z1h hj];split
  .exact⟨rfl,rfl,rfl⟩
  .exact⟨rfl,rfl,rfl⟩
 refine⟨?_, ?_, ?_⟩
 .intro j hj;rw[Z1i]at hj;have b:=h.b j hj;rw[Z1h hj];split
  .rename_i hc;refine⟨hs,b.n,b.k,λq=>?_,b.k1,b.k3⟩;exfalso;have q':(l.getD j X).K=0:=q;by_cases hij:j=i
   .subst hij;omega
   .have:=hr j oq hc.2;omega
  .exact b
 .intro j hj hk2;rw[Z1i]at hj ⊢;rw[(hg j hj).1]at hk2;rw[(hg j hj).2.1];have q:=h.lg j hj hk2;refine⟨q.1,λm h1 h2=>?_⟩;have r:=q.2 m h1 h2;refine⟨r.1,by rw[(hg _ r.1).1];exact r.2.1, ?_⟩;rw[Z1h r.1,Z1h hj];by_cases hij:j=i
  .subst hij;have hT:(need c (l.getD j X).U-1).toNat<=Z0z l j:=Zid λm' hm'=>by
    have:=q.2 (m'+1) oq oq;rw[show j+1+m'=j+(m'+1) by omega];exact⟨this.1,this.2.1⟩
   rw[if_pos oq,if_pos oq];rfl
  .have hj1:¬ (i<=j/\j<=i+Z0z l i):=λhc=>by
    have:=hr j oq hc.2;omega
   have hj2:¬ (i<=j+m/\j+m<=i+Z0z l i):=λhc=>by
    by_cases hlt:j<i
    .by_cases he:j+m=i
     .have:=r.2.1;rw[he]at this;omega
     .have:=(q.2 (i-j) oq oq).2.1;rw[show j+(i-j)=i by omega]at this;omega
    .omega
   rw[if_neg hj1,if_neg hj2];exact r.2.2
 .intro j hj hk3;rw[Z1i]at hj;rw[(hg j hj).1]at hk3;obtain⟨a,a1,a2,a3⟩:=h.tl j hj hk3;exact⟨a,a1,by rw[(hg a oq).1];exact a2,by rw[(hg a oq).2.1];exact a3⟩
structure Tab (B:Int) (w:Work):Prop where
 pt:PT w.heap.C w.heap.P
 tk:∀ x∈w.T,(w.heap.P.getD x.toNat X).S=1-w.heap.S
 pin:∀ p∈w.heap.P,p.N<=B
def Tab.withWords{B:Int}{w:Work}(h:Tab B w)(l:List Int):Tab B ⟨⟨w.heap.C,l,w.heap.P,w.heap.S,w.heap.B⟩,w.old,w.T,w.Q,w.D,w.rep⟩:=⟨h.pt,h.tk,h.pin⟩
def Tab.place{B:Int}(hB:0<=B){w:Work}(hw:WkOk w)(h:Tab B w){n:Int}(hn:1<=n/\n<=w.heap.C.pw)(hc:(w.place n).2.2=Y):PT (w.place n).1.heap.C (w.place n).1.heap.P/\(∀ x∈(w.place n).1.T,((w.place n).1.heap.P.getD x.toNat X).S=1-(w.place n).1.heap.S)/\∀ p∈(w.place n).1.heap.P,p.N<=B:=by
 have hsp:=hw.sp;by_cases hf:Z3C w n
 .have e:w.place n=(⟨⟨w.heap.C,w.heap.W,Z1R w.heap.P (Z0E w).toNat n,w.heap.S,w.heap.B⟩,w.old,w.T,w.Q,w.D,w.rep⟩,4096+Z0E w*w.heap.C.pw+(w.heap.P.getD (Z0E w).toNat X).U,Y):=by rw[Work.place,if_pos hf]
  unfold Z3C at hf;have hm:=hw.tk _ (Z1c hf.1);have hi:(Z0E w).toNat<w.heap.P.length:=by omega
  have ok:=h.pt.b _ hi;have u:=ok.k1 hm.2.2;rw[e];refine⟨h.pt.setPage hi (O hm.2.2) ⟨ok.s,ok.n,ok.k,λq=>by simp only at q;omega,λ_=>by simp only;omega,λq=>by simp only at q;omega⟩ (O hm.2.2), ?_, ?_⟩
  .intro x hx;simp only;rw[Z3E,Z0k hi];split
   .rename_i q;have:=h.tk _ (Z1c hf.1);simp only;omega
   .exact h.tk x hx
  .intro p hp;rcases Lv hp with hp | rfl
   .exact h.pin p hp
   .exact h.pin (w.heap.P.getD (Z0E w).toNat X) (getD_in hi)
 .by_cases hg:0<=Z0p w
  .have e:w.place n=(⟨⟨w.heap.C,w.heap.W,Z1R (Z2u w) (Z0p w).toNat n,w.heap.S,w.heap.B⟩,w.old,w.T++[Z0p w],w.Q,w.D,w.rep⟩,4096+Z0p w*w.heap.C.pw,Y):=by rw[Work.place,if_neg hf,if_pos hg]
   obtain⟨g1,g2,g3⟩:=Z2X (h:=⟨w.heap.C,w.heap.W,w.heap.P,1-w.heap.S,w.heap.B⟩) (by simp only;omega) hg n;have g1':Z1R (Z2u w) (Z0p w).toNat n=w.heap.P.set (Z0p w).toNat ⟨1,1-w.heap.S,n,0⟩:=g1;have g2':(w.heap.P.getD (Z0p w).toNat X).K=0:=g2;have g3':(Z0p w).toNat<w.heap.P.length:=g3;rw[e,g1'];refine⟨h.pt.setPage g3' (Lc g2') ⟨by simp only;omega,by simp,by simp,by simp,λ_=>by simp only;omega,by simp⟩ (O rfl), ?_, ?_⟩
   .intro x hx;simp only at hx ⊢;rw[Z0k g3'];split
    .rfl
    .rename_i hne;rcases Lg.1 hx with hx | hx
     .exact h.tk x hx
     .simp at hx;subst hx;exact absurd rfl hne
   .intro p hp;rcases Lv hp with hp | rfl
    .exact h.pin p hp
    .exact hB
  .rw[Work.place,if_neg hf,if_neg hg]at hc;simp at hc
def Tab.fwd{B:Int}(hB:0<=B)(w:Work)(r:Int)(hw:WkOk w)(hi:CIv w)(h:Tab B w)(e:(w.fwd r).2.2=0):Tab B (w.fwd r).1:=by
 unfold Work.fwd at e ⊢;split at e
 .rename_i c1;rw[if_pos c1];exact h
 .rename_i c1;rw[if_neg c1];split at e
  .simp at e
  .rename_i c2;rw[if_neg c2];have c2':r∈w.old:=Li.1 c2;split at e
   .rename_i c3;rw[if_pos c3];exact h
   .rename_i c3;rw[if_neg c3];split at e
    .simp at e
    .rename_i c4;rw[if_neg c4];split at e
     .rename_i c5;rw[if_pos c5];exact⟨h.pt,h.tk,h.pin⟩
     .rename_i c5;rw[if_neg c5];split at e
      .rename_i c6;rw[if_pos c6];have hsp:=hw.sp;have o:=Z3I hw.C (Li.1 c4);have hpl:=hw.pl;have hl:Z1q w r<w.heap.P.length:=by unfold Z1q;omega
       refine⟨h.pt.flip hl c6 oq, ?_, ?_⟩
       .intro x hx;have t:=hw.tk x hx;simp only[Work.keep,Work.flip];rw[Z1h oq];split
        .rename_i hc;exfalso;by_cases hx':x.toNat=Z1q w r
         .rw[hx']at t;omega
         .have:=(Z7h (l:=w.heap.P) (i:=Z1q w r) (m:=x.toNat-Z1q w r-1) oq).2;rw[show Z1q w r+1+(x.toNat-Z1q w r-1)=x.toNat by omega]at this;omega
        .exact h.tk x hx
       .intro p hp;simp only[Work.keep,Work.flip,Z0H,LG,Lr]at hp;obtain⟨j,hj,rfl⟩:=hp;split
        .exact h.pin (w.heap.P.getD j X) (getD_in hj)
        .exact h.pin (w.heap.P.getD j X) (getD_in hj)
      .rename_i c6;rw[if_neg c6];split at e
       .simp at e
       .rename_i c7;rw[if_neg c7];have c7':(w.place (sizeH (hdW w r))).2.2=Y:=by simpa using c7
        have hz:=hi.z r c2';have hs:=Z6z w r;have hp:sizeH (hdW w r)<=w.heap.C.pw:=by
         rw[Z2t];rcases hz with hz | hz
         .exact absurd hz c6
         .exact hz
        obtain⟨q1,q2,q3⟩:=h.place hB hw ⟨hs.1,hp⟩ c7';exact⟨q1,q2,q3⟩
def Z6u{B:Int}{h:Heap}(hp:Z03 h=Y)(hb:∀ p∈h.P,p.N<=B):Tab B (beginW h):=by
 have hp':=hp;rw[Z1A]at hp';have hs:=hp'.2.2.2.1;refine⟨?_,by simp[beginW], ?_⟩
 .refine hp'.2.2.2.2.2.mapPages _ ?_ ?_ ?_ ?_
  .intro p hp;unfold begQ;split
   .rename_i hc;exact⟨by simp only;omega,hp.n,hp.k,λq=>by simp only at q;omega,hp.k1,λq=>by simp only at q;omega⟩
   .exact hp
  .intro p hp hk;unfold begQ at hk ⊢;split at hk
   .rename_i hc;simp only at hk;omega
   .rename_i hc;rw[if_neg hc];exact⟨hk,rfl⟩
  .intro p hp hk;unfold begQ at hk;split at hk
   .rename_i hc;simp only at hk;omega
   .exact hk
  .intro p q hp hq h2 h3 he;have e1:begQ (1-h.S) p=p:=by rw[begQ,if_neg oq]
   have e2:begQ (1-h.S) q=q:=by rw[begQ,if_neg oq]
   rw[e1,e2];exact⟨⟨λ_=>h3,λ_=>h2⟩,λ_=>he⟩
 .intro p hp;simp only[beginW,LG]at hp;obtain⟨q,hq,rfl⟩:=hp;unfold begQ;split
  .exact hb q hq
  .exact hb q hq
def Zn5{B:Int}(hB:0<=B){h:Heap}{s:List Int}(hw:WOk h.W)(hp:Z03 h=Y)(hb:∀ p∈h.P,p.N<=B)(e:(rootsF (beginW h) s).2.2=0)(e2:(allF (rootsF (beginW h) s).1).2=0):Tab B (cW2 h s) :=
 Zkn (Tab B) (λw r hw hi h e=>h.fwd hB w r hw hi e) (λw q j hw hi h hq h0 h1 e=>(Tab.fwd hB w _ hw hi h e).withWords _) (λw n h=>⟨h.pt,h.tk,h.pin⟩) hw hp (Z6u hp hb) e e2
structure MOk (w:WorldM) (n:Nat):Prop where
 W:WOk w.heap.W
 hv:Z06 w.heap.C=Y
 pl:(w.heap.P.length:Int)=w.heap.C.pg
 L:(w.heap.W.length:Int)=w.heap.C.pw*w.heap.C.pg
 N:∀ j,j<w.heap.P.length->0<=(w.heap.P.getD j X).N/\(w.heap.P.getD j X).N<=n
 us:∀ j,j<w.heap.P.length->0<=(w.heap.P.getD j X).U/\(w.heap.P.getD j X).U<=256
 G:ULe w.G
 E:ULe w.E
 sl:w.G.length<=n
 wl:w.E.length<=n
def MOk.wm{w:WorldM}{n:Nat}(h:MOk w n)(hn:n<=1000000):WMok w:=⟨h.W,h.G,h.E,L2 h.sl oq,L2 h.wl oq⟩
def WorldM.dup(w:WorldM)(t:Tape):WorldM:=⟨w.heap,w.G++[w.pick t],w.E⟩
def WorldM.step(w:WorldM)(t:Tape):WorldM :=
 if t.next 12<=3 then w.put ((t.step 12).header w.heap.C)
 else if t.next 12<=6 then w.link (t.step 12)
 else if t.next 12<=7 then w.pin (t.step 12)
 else if t.next 12<=9 then w.drop (t.step 12)
 else if t.next 12<=10 then w.collect
 else w.dup (t.step 12)
def WorldM.stepT(w:WorldM)(t:Tape):Tape :=
 if t.next 12<=3 then(t.step 12).headerT w.heap.C
 else if t.next 12<=6 then w.linkT (t.step 12)
 else if t.next 12<=7 then w.pinT (t.step 12)
 else if t.next 12<=9 then w.dropT (t.step 12)
 else if t.next 12<=10 then t.step 12
 else w.pickT (t.step 12)
def Z5u(t:Tape)(c:Conf):0<=(t.header c).map/\(t.header c).map<=4294967295:=by
 have h:∀ n:Int,0<=((Z3j t c).step 4).next (2^(min (min n 32) 12).toNat)/\((Z3j t c).step 4).next (2^(min (min n 32) 12).toNat)<=4294967295:=by
  intro n;have p:=ZmO (n:=min (min n 32) 12) oq;have r:=Z0M ((Z3j t c).step 4) (n:=2^(min (min n 32) 12).toNat) p.1;omega
 unfold Tape.header;split
 .simp
 .split
  .simp
  .exact h _
def Z27(t:Tape)(d:Int)(hd:t.next 12=d)(ht:TOk t):LP 22 [.pt 0 0 0,int 12] [t.b] (int d) [(t.step 12).b]:=by
 rw[<- hd];exact Z0A t 12 ht dd dd
section
variable (w:WorldM) (t:Tape) (n:Nat) (hm:MOk w n) (hn:n<=1000000) (ht:TOk t) (ha:t.at'<=900000)
include hm hn ht ha
theorem Zj4:LP 54 [w.av,.pt 0 0 0] [t.b] (w.step t).av [(w.stepT t).b]:=by
 have hw:=hm.wm hn;have h1:=hm.W;have h2:=hm.G;have h3:=hm.E;have h4:=hm.sl;have h5:=hm.wl;have s1:=Z40 (t:=t) 12;have k1:=Z50 ht s1.2.2 oq oq;have n1:=Z0M t (n:=12) dd;have hmap:=Z5u (t.step 12) w.heap.C;have hv:=hm.hv;have hpl:=hm.pl;have hpn:∀ j,j<w.heap.P.length->-1048576<=(w.heap.P.getD j X).N/\(w.heap.P.getD j X).N<=4294967296:=λj hj=>by
  have:=hm.N j hj;omega
 have hd:t.next 12=0\/t.next 12=1\/t.next 12=2\/t.next 12=3\/t.next 12=4\/t.next 12=5\/t.next 12=6\/t.next 12=7\/t.next 12=8\/t.next 12=9\/t.next 12=10\/t.next 12=11:=by omega
 rcases hd with hd | hd | hd | hd | hd | hd | hd | hd | hd | hd | hd | hd
 .have e7:w.step t=w.put ((t.step 12).header w.heap.C):=by simp[WorldM.step,hd]
  have e8:w.stepT t=(t.step 12).headerT w.heap.C:=by simp[WorldM.stepT,hd]
  rw[e7,e8];exact lF func54 [] (Fp 6 (@Z27 t (0) aa aa) (Fp 17 (@Z5E (t.step 12) w.heap.C aa oq aa) (Fc 18 (@Z6V w ((t.step 12).header w.heap.C) aa aa) Fz)))
 .have e7:w.step t=w.put ((t.step 12).header w.heap.C):=by simp[WorldM.step,hd]
  have e8:w.stepT t=(t.step 12).headerT w.heap.C:=by simp[WorldM.stepT,hd]
  rw[e7,e8];exact lF func54 [] (Fp 6 (@Z27 t (1) aa aa) (Fp 17 (@Z5E (t.step 12) w.heap.C aa oq aa) (Fc 18 (@Z6V w ((t.step 12).header w.heap.C) aa aa) Fz)))
 .have e7:w.step t=w.put ((t.step 12).header w.heap.C):=by simp[WorldM.step,hd]
  have e8:w.stepT t=(t.step 12).headerT w.heap.C:=by simp[WorldM.stepT,hd]
  rw[e7,e8];exact lF func54 [] (Fp 6 (@Z27 t (2) aa aa) (Fp 17 (@Z5E (t.step 12) w.heap.C aa oq aa) (Fc 18 (@Z6V w ((t.step 12).header w.heap.C) aa aa) Fz)))
 .have e7:w.step t=w.put ((t.step 12).header w.heap.C):=by simp[WorldM.step,hd]
  have e8:w.stepT t=(t.step 12).headerT w.heap.C:=by simp[WorldM.stepT,hd]
  rw[e7,e8];exact lF func54 [] (Fp 6 (@Z27 t (3) aa aa) (Fp 17 (@Z5E (t.step 12) w.heap.C aa oq aa) (Fc 18 (@Z6V w ((t.step 12).header w.heap.C) aa aa) Fz)))
 .have e7:w.step t=w.link (t.step 12):=by simp[WorldM.step,hd]
  have e8:w.stepT t=w.linkT (t.step 12):=by simp[WorldM.stepT,hd]
  rw[e7,e8];exact lF func54 [] (Fp 6 (@Z27 t (4) aa aa) (Fp 25 (@Z9r w (t.step 12) aa aa oq) Fz))
 .have e7:w.step t=w.link (t.step 12):=by simp[WorldM.step,hd]
  have e8:w.stepT t=w.linkT (t.step 12):=by simp[WorldM.stepT,hd]
  rw[e7,e8];exact lF func54 [] (Fp 6 (@Z27 t (5) aa aa) (Fp 25 (@Z9r w (t.step 12) aa aa oq) Fz))
 .have e7:w.step t=w.link (t.step 12):=by simp[WorldM.step,hd]
  have e8:w.stepT t=w.linkT (t.step 12):=by simp[WorldM.stepT,hd]
  rw[e7,e8];exact lF func54 [] (Fp 6 (@Z27 t (6) aa aa) (Fp 25 (@Z9r w (t.step 12) aa aa oq) Fz))
 .have e7:w.step t=w.pin (t.step 12):=by simp[WorldM.step,hd]
  have e8:w.stepT t=w.pinT (t.step 12):=by simp[WorldM.stepT,hd]
  rw[e7,e8];exact lF func54 [] (Fp 6 (@Z27 t (7) aa aa) (Fp 30 (@Zkm w (t.step 12) aa aa oq aa oq aa) Fz))
 .have e7:w.step t=w.drop (t.step 12):=by simp[WorldM.step,hd]
  have e8:w.stepT t=w.dropT (t.step 12):=by simp[WorldM.stepT,hd]
  rw[e7,e8];exact lF func54 [] (Fp 6 (@Z27 t (8) aa aa) (Fp 36 (@ZcR w (t.step 12) aa aa oq) Fz))
 .have e7:w.step t=w.drop (t.step 12):=by simp[WorldM.step,hd]
  have e8:w.stepT t=w.dropT (t.step 12):=by simp[WorldM.stepT,hd]
  rw[e7,e8];exact lF func54 [] (Fp 6 (@Z27 t (9) aa aa) (Fp 36 (@ZcR w (t.step 12) aa aa oq) Fz))
 .have e7:w.step t=w.collect:=by simp[WorldM.step,hd]
  have e8:w.stepT t=t.step 12:=by simp[WorldM.stepT,hd]
  rw[e7,e8];exact lF func54 [] (Fp 6 (@Z27 t (10) aa aa) (Fc 40 (@Z7C w aa oq oq aa aa) Fz))
 .have e7:w.step t=w.dup (t.step 12):=by simp[WorldM.step,hd]
  have e8:w.stepT t=w.pickT (t.step 12):=by simp[WorldM.stepT,hd]
  rw[e7,e8];exact lF func54 [] (Fh 49 [.els (Z wdv (w.G++[w.pick (t.step 12)]))] (Fp 6 (@Z27 t (11) aa aa) (FAx 41 44 wdv w.G (by(simp[WorldM.dup, *];omega)) (Fp 47 (@Z25 w (t.step 12) aa aa oq) (Fs 48 (Z wdv [w.pick (t.step 12)]) (Fa (by(simp[WorldM.dup, *];omega):(Z wdv w.G).length+(Z wdv [w.pick (t.step 12)]).length<=2^30) (Fa (by simp[WorldM.dup,LW,LV,LD,LU,wdv,idv]:Z wdv w.G++Z wdv [w.pick (t.step 12)]=Z wdv (w.G++[w.pick (t.step 12)])) Fz)))))))
end
def Zap{pw s:Int}{l:List Page}{ws:List Int}(h:WOk ws):∀ i,WOk (Z2e pw s l ws i)
 | 0=>h
 | i+1=>by
  have ih:=Zap (pw:=pw) (s:=s) (l:=l) h i;unfold Z2e;split
  .intro x hx;simp only[spl,Lg,LI]at hx;rcases hx with(hx | hx) | hx
   .exact ih x (LA hx)
   .omega
   .exact ih x (LH hx)
  .exact ih
def Zo9{c:Conf}{l:List Page}(h:PT c l)(s:Int):PT c (l.map (Z12 s)):=by
 refine h.mapPages _ ?_ ?_ ?_ ?_
 .intro p hp;unfold Z12;split
  .exact⟨by simp,by simp,by simp,by simp,by simp,by simp⟩
  .exact hp
 .intro p hp hk;unfold Z12 at hk ⊢;split at hk
  .simp at hk
  .rename_i hc;rw[if_neg hc];exact⟨hk,rfl⟩
 .intro p hp hk;unfold Z12 at hk;split at hk
  .simp at hk
  .exact hk
 .intro p q hp hq h2 h3 he;by_cases hg:p.S=s
  .have e1:Z12 s p=⟨0,0,0,0⟩:=by rw[Z12,if_pos ⟨by omega,hg⟩]
   have e2:Z12 s q=⟨0,0,0,0⟩:=by rw[Z12,if_pos ⟨by omega,by omega⟩]
   rw[e1,e2];simp
  .have e1:Z12 s p=p:=by rw[Z12,if_neg (by unfold Z2h;omega)]
   have e2:Z12 s q=q:=by rw[Z12,if_neg (by unfold Z2h;omega)]
   rw[e1,e2];exact⟨⟨λ_=>h3,λ_=>h2⟩,λ_=>he⟩
def Z88{w:Work}(hw:WkOk w)(k:List Int):∀ i,∀ x∈Z3U w k i,0<=x/\x<=4294967296
 | 0,x,hx=>by simp[Z3U]at hx
 | i+1,x,hx=>by
  simp only[Z3U,Lg,Lk]at hx;rcases hx with hx | rfl
  .exact Z88 hw k i x hx
  .have h:=Z5o w k i;unfold Z7E;split
   .omega
   .unfold Z1z;rw[h.2.2.2.1,h.1];split
    .rename_i hq;have:=hw.q _ hq;omega
    .have:=Z6H (Z0J hw.W (k.getD i X)).1;omega
structure ColOk (B:Int) (h:Heap) (s k:List Int):Prop where
 p0:Z03 h=Y
 p1:Z03 (collectF h s k).1=Y
 w:WOk (collectF h s k).1.W
 n:∀ p∈(collectF h s k).1.P,p.N<=B
 c:(collectF h s k).1.C=h.C
 r:∀ x∈(collectF h s k).2.1,0<=x/\x<=4294967296
 rl:(collectF h s k).2.1.length=s.length
 v:∀ x∈(collectF h s k).2.2.1,0<=x/\x<=4294967296
 vl:(collectF h s k).2.2.1.length=k.length
def Z7a{B:Int}(hB:0<=B){h:Heap}{s k:List Int}(hw:WOk h.W)(hb:∀ p∈h.P,p.N<=B)(e:(collectF h s k).2.2.2.2=0):ColOk B h s k:=by
 by_cases hp:Z03 h=Y
 .by_cases hr:Z0i h s=Y/\Z0i h k=Y
  .by_cases e1:(rootsF (beginW h) s).2.2=0
   .by_cases e2:(allF (rootsF (beginW h) s).1).2=0
    .have e7:collectF h s k=(endH (cW5 h s k),(rootsF (beginW h) s).2.1,Z3U (cW2 h s) k k.length,(cW5 h s k).rep,0):=by rw[collectF,if_pos hp,if_pos hr,if_pos e1,if_pos e2]
     have ho:=Z3w (roots:=s) (Z3o hw hp) (Z3g hp) e1;have c:=cOk h s k hw hp e1 e2;have c5:=cOk5 h s k hw hp e1 e2;have tb:=Zn5 hB hw hp hb e1 e2;obtain⟨g1,g2,g3,g4,g5⟩:=c.h4;have hsp:=c.w2.sp;have hc2:(cW2 h s).heap.C=h.C:=c.x2.c;have hpl:=c.w2.pl;rw[hc2]at hpl;have hL:=c.i4.L;rw[g1]at hL;have hfl:=Z5C (s:=(cW4 h s k).heap.S) c5.2.2.2.1 (cW4 h s k).heap.P.length (Lj _);refine⟨hp, ?_, ?_, ?_, ?_, ?_, ?_, ?_, ?_⟩
     .rw[e7,Z1A];simp only[endH,cW5,Z16,g1,g2,g3,g4];have hptf:=Zo9 (s:=(cW2 h s).heap.S) tb.pt;rw[hc2]at hptf;refine⟨(Z07 hp).1, ?_,by simp only[Lf];exact hpl,by omega, ?_,hptf⟩
      .rw[g1,g2,g3]at hfl;rw[hfl];exact hL
      .split
       .rename_i ht;have hm:=Z1c (w:=cW2 h s) ht;have t1:=c.w2.tk _ hm;have t2:=tb.tk _ hm;refine O ⟨t1.1,by simp only[Lf];exact t1.2.1, ?_⟩;have hx:(Z (Z12 (cW2 h s).heap.S) (cW2 h s).heap.P).getD (Z0E (cW2 h s)).toNat X=(cW2 h s).heap.P.getD (Z0E (cW2 h s)).toNat X:=by
         have hi:(Z0E (cW2 h s)).toNat<(cW2 h s).heap.P.length:=by omega
         have:(Z (Z12 (cW2 h s).heap.S) (cW2 h s).heap.P).getD (Z0E (cW2 h s)).toNat X=Z12 (cW2 h s).heap.S ((cW2 h s).heap.P.getD (Z0E (cW2 h s)).toNat X):=by simp[Lb,hi]
         rw[this,Z12,if_neg (by unfold Z2h;omega)]
        show((Z (Z12 (cW2 h s).heap.S) (cW2 h s).heap.P).getD (Z0E (cW2 h s)).toNat X).K=1;rw[hx];exact t1.2.2
       .exact Lc rfl
     .rw[e7];exact Zap c.f4.W _
     .rw[e7];intro p hp';simp only[endH,cW5,Z16,g2,LG]at hp';obtain⟨q,hq,rfl⟩:=hp';unfold Z12;split
      .exact hB
      .exact tb.pin q hq
     .rw[e7];exact g1
     .rw[e7];exact ho.2.2.2.1
     .rw[e7];exact ho.2.2.2.2
     .rw[e7];exact Z88 c.w2 k _
     .rw[e7];exact Z97 _ _ _
    .rw[collectF,if_pos hp,if_pos hr,if_pos e1,if_neg e2]at e;exact absurd e e2
   .rw[collectF,if_pos hp,if_pos hr,if_neg e1]at e;exact absurd e e1
  .rw[collectF,if_pos hp,if_neg hr]at e;simp at e
 .rw[collectF,if_neg hp]at e;simp at e
def ZdM{h:Heap}(hp:Z03 h=Y):∀ p∈h.P,0<=p.N:=by
 rw[Z1A]at hp;intro p hp';obtain⟨i,hi,e⟩:=Lu.1 hp';have:=(hp.2.2.2.2.2.b i hi).n.1;rwa [show h.P.getD i X=p by rw[Lb,Lz hi,e];rfl]at this
def MOk.of_proper{w:WorldM}{n:Nat}(hp:Z03 w.heap=Y)(hw:WOk w.heap.W)(hn:∀ p∈w.heap.P,p.N<=n)(h1:ULe w.G)(h2:ULe w.E)(h3:w.G.length<=n)(h4:w.E.length<=n):MOk w n:=by
 have po:=Z07 hp;exact⟨hw,po.1,po.2.2.2.2.2.2.2.1,po.2.2.2.2.2.1,λj hj=>⟨ZdM hp _ (getD_in hj),hn _ (getD_in hj)⟩,λj hj=>by have:=Z0u hp hj;omega,h1,h2,h3,h4⟩
def MOk.pin_mem{w:WorldM}{n:Nat}(h:MOk w n):∀ p∈w.heap.P,0<=p.N/\p.N<=n:=by
 intro p hp;obtain⟨i,hi,e⟩:=Lu.1 hp;have:=h.N i hi;rwa [show w.heap.P.getD i X=p by rw[Lb,Lz hi,e];rfl]at this
def MOk.mono{w:WorldM}{n:Nat}(h:MOk w n):MOk w (n+1) :=
 ⟨h.W,h.hv,h.pl,h.L,λj hj=>by have:=h.N j hj;omega,h.us,h.G,h.E,by have:=h.sl;omega,by have:=h.wl;omega⟩
def Zet{l:List Int}(h:ULe l){x:Int}(hx:0<=x/\x<=18446744073709551615):ULe (l++[x]):=by
 intro y hy;simp only[Lg,Lk]at hy;rcases hy with hy | rfl
 .exact h y hy
 .exact hx
def MOk.put{w:WorldM}{n:Nat}(h:MOk w n){hd:Header}(hm:0<=hd.map/\hd.map<=4294967295):MOk (w.put hd) (n+1):=by
 unfold WorldM.put;split
 .rename_i e;obtain⟨k1,k2,k3,k4,k5,k6,k7,k8⟩:=Zey h.W hm e;have po:=Z07 k1;have hl:=h.sl;have hl2:=h.wl;have z:=(Z7W k2).2.1;have a1:=k3.lo;have a2:=k3.hi;refine MOk.of_proper k7 k8 ?_ (Zet h.G (by rw[k5];omega)) h.E qo (by simp only;omega);intro p hp;simp only at hp;rw[k6]at hp;simp only at hp;rcases k3.pin p hp with q | ⟨q,q1,q2⟩
  .omega
  .have:=h.pin_mem q q1;omega
 .exact h.mono
def MOk.link{w:WorldM}{n:Nat}(h:MOk w n)(hn:n<=1000000)(t:Tape):MOk (w.link t) (n+1):=by
 unfold WorldM.link;split
 .rename_i hc;have g:=Z3B hc.1;have hw:=h.wm hn;have hlen:1<=(getH w.heap (w.pick t)).1.length:=by omega
  have n1:=Z0M (w.pickT (w.pickT t)) (n:=8) dd;have hi:0<=Z4M w t/\Z4M w t<(getH w.heap (w.pick t)).1.length:=by
   unfold Z4M;rw[Int.tmod_eq_emod_of_nonneg n1.1];exact⟨Int.emod_nonneg _ oq,LB _ oq⟩
  have hv:0<=Z53 w t/\Z53 w t<=18446744073709551615:=by
   unfold Z53;split
   .exact Z36 hw _
   .have:=Z0M ((w.pickT (w.pickT t)).step 8) (n:=1048576) dd;omega
  obtain⟨s1,s2,s3⟩:=Z5V h.W hv hc.1 hi;have hl:=h.sl;have hl2:=h.wl;refine MOk.of_proper s2 s3 ?_ h.G h.E (by simp only;omega) (by simp only;omega);intro p hp;simp only at hp;rw[s1]at hp;have:=h.pin_mem p hp;omega
 .exact h.mono
def ZhY{w:WorldM}{n:Nat}(h:MOk w n){i:Nat}(hi:i<w.heap.P.length){d:Int}(hd:d=1\/(d=-1/\0<(w.heap.P.getD i X).N)):MOk (pinB w i d) (n+1):=by
 have hp:=h.N i hi;refine⟨h.W,h.hv, ?_,h.L, ?_, ?_,h.G,h.E,by have:=h.sl;simp only[pinB];omega,by have:=h.wl;simp only[pinB];omega⟩
 .simp only[pinB,Lm];exact h.pl
 .intro j hj;simp only[pinB,Lm]at hj ⊢;rw[Z0k hi];split
  .simp only;omega
  .have:=h.N j hj;omega
 .intro j hj;simp only[pinB,Lm]at hj ⊢;rw[Z0k hi];split
  .exact h.us i hi
  .exact h.us j hj
def MOk.pin{w:WorldM}{n:Nat}(h:MOk w n)(t:Tape):MOk (w.pin t) (n+1):=by
 unfold WorldM.pin;split
 .rename_i e;have o:=Z3I h.hv e;have hpl:=h.pl;have hi:pinI w t<w.heap.P.length:=by unfold pinI;omega
  split
  .rename_i hc;exact ZhY h hi (O ⟨rfl,hc.1⟩)
  .split
   .exact ZhY h hi (Lc rfl)
   .exact h.mono
 .exact h.mono
def MOk.drop{w:WorldM}{n:Nat}(h:MOk w n)(t:Tape):MOk (w.drop t) (n+1):=by
 unfold WorldM.drop;split
 .have hl:=h.sl;have hl2:=h.wl;refine⟨h.W,h.hv,h.pl,h.L,λj hj=>by have:=h.N j hj;simp only;omega,h.us, ?_, ?_, ?_, ?_⟩
  .intro x hx;rcases Lg.1 hx with hx | hx
   .exact h.G x (LA hx)
   .exact h.G x (LH hx)
  .simp only;split
   .exact Zet h.E (Z5w h.G _)
   .exact h.E
  .simp only[LS,List.length_take,List.length_drop];omega
  .simp only;split
   .simp;omega
   .omega
 .exact h.mono
def MOk.collect{w:WorldM}{n:Nat}(h:MOk w n):MOk w.collect (n+1):=by
 unfold WorldM.collect;split
 .rename_i e;have c:=Z7a (B:=n) oq h.W (λp hp=>(h.pin_mem p hp).2) e;have hl:=h.sl;have hl2:=h.wl;refine MOk.of_proper c.p1 c.w (λp hp=>by have:=c.n p hp;omega) (λx hx=>by have:=c.r x hx;omega) (λx hx=>by have:=c.v x hx;omega) (by simp only[c.rl];omega) (by simp only[c.vl];omega)
 .exact h.mono
def MOk.step{w:WorldM}{n:Nat}(h:MOk w n)(hn:n<=1000000)(t:Tape):MOk (w.step t) (n+1):=by
 unfold WorldM.step;repeat' split
 .exact h.put (Z5u _ _)
 .exact h.link hn _
 .exact h.pin _
 .exact h.drop _
 .exact h.collect
 .have hl:=h.sl;have hl2:=h.wl;exact⟨h.W,h.hv,h.pl,h.L,λj hj=>by have:=h.N j hj;simp only[WorldM.dup]at *;omega,h.us,Zet h.G (Z36 (h.wm hn) _),h.E,by simp only[WorldM.dup,LS,List.length_singleton];omega,by simp only[WorldM.dup];omega⟩
def pgOf(w:Work)(x:Int):Page:=w.heap.P.getD (ofA w.heap.C x).1.toNat X
structure Rt (w:Work):Prop where
 q:∀ x∈w.Q,((pgOf w x).K=1\/(pgOf w x).K=2)/\(pgOf w x).S=1-w.heap.S
 t:∀ x∈w.old,(Z0e (loadA w.heap.W x).1).2=Y->(Z0e (loadA w.heap.W x).1).1∈w.Q
def Z5y{a:Int}(h0:0<=a)(h1:a<4294967296):Z0e (4*a+2)=(a,Y):=by
 have e:(4*a+2)/4=a:=by omega
 rw[Z0e,if_pos oq,e]
def Rt.copy{B:Int}{w:Work}(hw:WkOk w)(h:CIv w)(hT:Tab B w)(hR:Rt w){r n:Int}(hr:r∈w.old)(hq:r∉w.Q)(hn:n=hlA w.heap.W r+1)(hp:n<=w.heap.C.pw)(hc:(w.place n).2.2=Y):Rt ((w.place n).1.copy r (w.place n).2.1 n):=by
 have hlr:=Z09 w.heap.W r;obtain⟨i,p,t,h1,h2,h3,h4,h5,h6,h7,h8,e⟩:=Z4e hw ⟨by omega,hp⟩ hc;have hsp:p.S=1-w.heap.S:=by
  by_cases hf:Z3C w n
  .have e7:w.place n=(⟨⟨w.heap.C,w.heap.W,Z1R w.heap.P (Z0E w).toNat n,w.heap.S,w.heap.B⟩,w.old,w.T,w.Q,w.D,w.rep⟩,4096+Z0E w*w.heap.C.pw+(w.heap.P.getD (Z0E w).toNat X).U,Y):=by rw[Work.place,if_pos hf]
   unfold Z3C at hf;have hm:=hw.tk _ (Z1c hf.1);have ht:=hT.tk _ (Z1c hf.1);have hi:(Z0E w).toNat<w.heap.P.length:=by omega
   rw[e7]at e;simp only[Z3E,Work.mk.injEq,Heap.mk.injEq]at e;have e2:=e.1.2.2.1;have g1:(w.heap.P.set i p).getD i X=p:=by rw[Z0k h1,if_pos rfl]
   rw[<- e2,Z0k hi]at g1;split at g1
   .rw[<- g1];exact ht
   .rename_i hne;have g2:(w.heap.P.set i p).getD (Z0E w).toNat X=w.heap.P.getD (Z0E w).toNat X:=by rw[Z0k h1,if_neg (λq=>hne q.symm)]
    rw[<- e2,Z0k hi,if_pos rfl]at g2;have:=congrArg Page.U g2;simp only at this;omega
  .by_cases hg:0<=Z0p w
   .have e7:w.place n=(⟨⟨w.heap.C,w.heap.W,Z1R (Z2u w) (Z0p w).toNat n,w.heap.S,w.heap.B⟩,w.old,w.T++[Z0p w],w.Q,w.D,w.rep⟩,4096+Z0p w*w.heap.C.pw,Y):=by rw[Work.place,if_neg hf,if_pos hg]
    obtain⟨g1,g2,g3⟩:=Z2X (h:=⟨w.heap.C,w.heap.W,w.heap.P,1-w.heap.S,w.heap.B⟩) (by have:=hw.sp;simp only;omega) hg n;have g1':Z1R (Z2u w) (Z0p w).toNat n=w.heap.P.set (Z0p w).toNat ⟨1,1-w.heap.S,n,0⟩:=g1;have g2':(w.heap.P.getD (Z0p w).toNat X).K=0:=g2;have g3':(Z0p w).toNat<w.heap.P.length:=g3;rw[e7,g1']at e;simp only[Work.mk.injEq,Heap.mk.injEq]at e;have e2:=e.1.2.2.1;have k1:(w.heap.P.set i p).getD i X=p:=by rw[Z0k h1,if_pos rfl]
    rw[<- e2,Z0k g3']at k1;split at k1
    .rw[<- k1]
    .rename_i hne;have k2:(w.heap.P.set i p).getD (Z0p w).toNat X=w.heap.P.getD (Z0p w).toNat X:=by rw[Z0k h1,if_neg (λq=>hne q.symm)]
     rw[<- e2,Z0k g3',if_pos rfl]at k2;rw[<- k2]at g2';simp at g2'
   .rw[Work.place,if_neg hf,if_neg hg]at hc;simp at hc
 have hb:=validB_iff.1 hw.C;have hpl:=hw.pl;have hL:=h.L;have hio:(i:Int)*w.heap.C.pw+w.heap.C.pw<=w.heap.C.pw*w.heap.C.pg:=by
  have:=Z0Y (i:=i) (j:=w.heap.C.pg) (pw:=w.heap.C.pw) oq oq;rw[Lh w.heap.C.pw];exact this
 have hi0:0<=(i:Int)*w.heap.C.pw:=Lp oq oq;have har:=area hw.C;rw[e,h8];generalize hu:occP (w.heap.P.getD i X)=u at *;have hof:(ofA w.heap.C (4096+(i:Int)*w.heap.C.pw+u)).1.toNat=i:=by
  have:=Zf3 (c:=w.heap.C) (i:=i) (o:=u) hw.C oq oq;rw[show 4096+(i:Int)*w.heap.C.pw+u=4096+((i:Int)*w.heap.C.pw+u) by omega,this];simp
 generalize ha:4096+(i:Int)*w.heap.C.pw+u=at' at *;have hrr:=h.r r (Le _ hr);have hf:=h.f i h1 (by rcases h2 with h2 | h2;exact Lc h2;exact O h2.1);rw[hu]at hf;obtain⟨m1,m2,m3⟩:=Z58 (ws:=w.heap.W) (a:=at') (b:=r) (n:=n) oq oq oq;have hsr:4096<=r/\r<4096+(moveA w.heap.W at' r n).1.length:=by omega
 refine⟨?_, ?_⟩
 .intro x hx;simp only[Work.copy,Lg,Lk]at hx;simp only[pgOf,Work.copy];rw[Z0k h1];split
  .exact⟨Lc h3,hsp⟩
  .rename_i hne;rcases hx with hx | rfl
   .exact hR.q x hx
   .exact absurd hof.symm hne
 .intro x hx ht;simp only[Work.copy]at hx ht ⊢;by_cases hxr:x=r
  .subst hxr;rw[Z1s hsr]at ht ⊢;simp only;rw[Z5y oq oq];simp
  .have hfx:=hf x (Le _ hx);have hlx:=Z09 w.heap.W x;have el:loadA (Z0B (moveA w.heap.W at' r n).1 r (4*at'+2)).1 x=loadA w.heap.W x:=by rw[Z0l hsr hxr,m3 x oq]
   rw[el]at ht ⊢;exact Le _ (hR.t x hx ht)
structure PR (B:Int) (w:Work):Prop where
 tab:Tab B w
 rt:Rt w
def ToOk(w:Work)(x:Int):Prop:=x=0\/x∈w.Q
def Zmm{B:Int}(w:Work)(r:Int)(hp:PR B w)(e:(w.fwd r).2.2=0):ToOk (w.fwd r).1 (w.fwd r).2.1:=by
 unfold Work.fwd at e ⊢;split at e
 .rename_i c1;rw[if_pos c1];exact c1
 .rename_i c1;rw[if_neg c1];split at e
  .simp at e
  .rename_i c2;rw[if_neg c2];have c2':r∈w.old:=Li.1 c2;split at e
   .rename_i c3;rw[if_pos c3];exact O (hp.rt.t r c2' c3)
   .rename_i c3;rw[if_neg c3];split at e
    .simp at e
    .rename_i c4;rw[if_neg c4];split at e
     .rename_i c5;rw[if_pos c5];exact O (Ln _ pq)
     .rename_i c5;rw[if_neg c5];split at e
      .rename_i c6;rw[if_pos c6];exact O (Ln _ pq)
      .rename_i c6;rw[if_neg c6];split at e
       .simp at e
       .rename_i c7;rw[if_neg c7];exact O (Ln _ pq)
def PR.fwd{B:Int}(hB:0<=B)(w:Work)(r:Int)(hw:WkOk w)(hi:CIv w)(h:PR B w)(e:(w.fwd r).2.2=0):PR B (w.fwd r).1:=by
 refine⟨h.tab.fwd hB w r hw hi e, ?_⟩;have hR:=h.rt;have hsp:=hw.sp;unfold Work.fwd at e ⊢;split at e
 .rename_i c1;rw[if_pos c1];exact hR
 .rename_i c1;rw[if_neg c1];have c1':r∉w.Q:=λh=>c1 (O h);split at e
  .simp at e
  .rename_i c2;rw[if_neg c2];have c2':r∈w.old:=Li.1 c2;split at e
   .rename_i c3;rw[if_pos c3];exact hR
   .rename_i c3;rw[if_neg c3];split at e
    .simp at e
    .rename_i c4;rw[if_neg c4];have o:=Z3I hw.C (Li.1 c4);have hpl:=hw.pl;split at e
     .rename_i c5;rw[if_pos c5];simp only[Z13,decide_eq_true_eq]at c5;have ok:=h.tab.pt.b (ofA w.heap.C r).1.toNat oq
      have oks:=ok.s;refine⟨?_,λx hx ht=>Le _ (hR.t x hx ht)⟩;intro x hx;simp only[Work.keep,Lg,Lk]at hx;rcases hx with hx | rfl
      .exact hR.q x hx
      .refine⟨Lc c5.2.2.1, ?_⟩;simp only[pgOf,Work.keep];omega
     .rename_i c5;rw[if_neg c5];split at e
      .rename_i c6;rw[if_pos c6];refine⟨?_,λx hx ht=>Le _ (hR.t x hx ht)⟩;have hlr:(ofA w.heap.C r).1.toNat<w.heap.P.length:=by omega
       intro x hx;simp only[Work.keep,Lg,Lk]at hx;have hxl:(ofA w.heap.C x).1.toNat<w.heap.P.length:=by
        rcases hx with hx | rfl
        .by_cases q:(ofA w.heap.C x).1.toNat<w.heap.P.length
         .exact q
         .have:=(hR.q x hx).1;rw[pgOf,Lb,Lt oq]at this;simp only[Option.getD_none]at this;have d:(X:Page).K=0:=rfl;omega
        .exact hlr
       simp only[pgOf,Work.keep,Work.flip];rw[Z1h hxl];split
       .refine⟨?_,rfl⟩;rcases hx with hx | rfl
        .exact(hR.q x hx).1
        .exact O c6
       .rename_i hne;rcases hx with hx | rfl
        .exact hR.q x hx
        .exact absurd ⟨Lj _,Nat.le_add_right _ _⟩ hne
      .rename_i c6;rw[if_neg c6];split at e
       .simp at e
       .rename_i c7;rw[if_neg c7];have c7':(w.place (sizeH (hdW w r))).2.2=Y:=by simpa using c7
        have hz:=hi.z r c2';have hp:sizeH (hdW w r)<=w.heap.C.pw:=by
         rw[Z2t];rcases hz with hz | hz
         .exact absurd hz c6
         .exact hz
        exact hR.copy hw hi h.tab c2' c1' (Z2t w r) hp c7'
def PR.in1{B:Int}(hB:0<=B)(w:Work)(q j:Int)(hw:WkOk w)(hi:CIv w)(h:PR B w)(hq:q∈w.Q)(h0:0<=j)(h1:j<hlA w.heap.W q)(e:(w.fwd (loadA w.heap.W (q+1+j)).1).2.2=0):PR B (w.in1 (q+1+j)):=by
 have hf:=PR.fwd hB w _ hw hi h e;obtain⟨i1,x1⟩:=Z3z hw hi _ e;have hq1:=x1.q q hq;have hl1:=x1.l q hq;have hr:=i1.r q (Ln _ hq1);have hs:=i1.s q (Ln _ hq1);have hin:4096<=q+1+j/\q+1+j<4096+(w.fwd (loadA w.heap.W (q+1+j)).1).1.heap.W.length:=by omega
 refine⟨hf.tab.withWords _,hf.rt.q,λx hx ht=>?_⟩;have el:loadA (Z0B (w.fwd (loadA w.heap.W (q+1+j)).1).1.heap.W (q+1+j) (w.fwd (loadA w.heap.W (q+1+j)).1).2.1).1 x=loadA (w.fwd (loadA w.heap.W (q+1+j)).1).1.heap.W x:=by
  refine Z0l hin λhc=>?_;have:=hs x (Le _ hx) oq;omega
 simp only[Work.in1]at hx ht ⊢;rw[el]at ht ⊢;exact hf.rt.t x hx ht
def ZbG{h:Heap}(hp:Z03 h=Y):Rt (beginW h):=by
 refine⟨by simp[beginW],λx hx ht=>?_⟩;exfalso;simp only[beginW]at hx ht;obtain⟨j,j1,o⟩:=(Z8Y hp).1 x hx;have e:=o.at';have k:=ZeU e;unfold atH at e;rw[if_pos k.1,if_pos k.2.1]at e;split at e
 .rename_i g;have hd:=g.2.2;unfold decodeH at hd;split at hd
  .rename_i c;have c1:=c.1;have c2:=c.2;unfold Z0a at c1 c2;split at c2
   .unfold Z0e at ht;split at ht
    .simp only at c2;omega
    .simp at ht
   .rename_i hv;rw[if_neg hv]at c1;simp at c1
  .simp at hd
 .simp at e
def ZiH{B:Int}(hB:0<=B){h:Heap}{s:List Int}(hw:WOk h.W)(hp:Z03 h=Y)(hb:∀ p∈h.P,p.N<=B)(e:(rootsF (beginW h) s).2.2=0)(e2:(allF (rootsF (beginW h) s).1).2=0):PR B (cW2 h s) :=
 Zkn (PR B) (λw r hw hi h e=>PR.fwd hB w r hw hi h e) (λw q j hw hi h hq h0 h1 e=>PR.in1 hB w q j hw hi h hq h0 h1 e) (λw n h=>⟨⟨h.tab.pt,h.tab.tk,h.tab.pin⟩,h.rt.q,h.rt.t⟩) hw hp ⟨Z6u hp hb,ZbG hp⟩ e e2
def Zdc{B:Int}(hB:0<=B){w:Work}{roots:List Int}(hw:WkOk w)(h:CIv w)(hp:PR B w):∀ k,(∀ j,j<k->Z1W w roots j=0)->∀ x∈(rootsN w roots k).2,ToOk (rootsN w roots k).1 x
 | 0,_,x,hx=>by simp[rootsN]at hx
 | k+1,hh,x,hx=>by
  have ih:=Zdc hB (roots:=roots) hw h hp k (λj hj=>hh j oq);have ok:=(Z3h (roots:=roots) hw k (λj hj=>hh j oq)).1;have iv:=(Z5D (roots:=roots) hw h k (λj hj=>hh j oq)).1;have pr:=ZbY (PR B) (λw r hw hi h e=>PR.fwd hB w r hw hi h e) (roots:=roots) hw h hp k (λj hj=>hh j oq);have he:=hh k oq;simp only[rootsN,Lg,Lk]at hx ⊢;rcases hx with hx | rfl
  .rcases ih x hx with q | q
   .exact Lc q
   .exact O ((Z3z ok iv _ he).2.q x q)
  .exact Zmm _ _ pr he
end Go.Proofs.YtgedmeaemofdkaaGreat
