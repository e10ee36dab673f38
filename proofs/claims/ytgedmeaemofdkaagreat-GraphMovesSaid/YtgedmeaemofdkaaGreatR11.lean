/-
 The statement GraphMoves: part 11.
 Conditions: none.
-/
import Derived.Test.YtgedmeaemofdkaaGreatR10
set_option maxRecDepth 100000
set_option maxHeartbeats 2000000
set_option linter.all false
open Inhabited renaming default->X
open Or renaming inl->Y,inr->O
open Bool renaming true->Z,false->Lf,and_eq_true->LI
open List renaming getD_eq_getElem?_getD->M,mem_append_left->La,mem_range->Lb,range->Ld,getElem?_eq_none->Lg,length_set->Lh,mem_append->Li,map_cons->Lj,mem_singleton->Lk,replicate->Ll,sum_cons->Lm,getElem?_eq_getElem->Ln,length_replicate->Lo,find?_eq_none->Lq,mem_append_right->Lr,mem_cons_of_mem->Lu,take->Lv,getElem?_replicate->Lz,length_map->LA,mem_cons->LB,find?_range_eq_some->LG,getElem_of_mem->LH,map->LL,getElem?_map->LU,length_append->LV,length_singleton->LW,map_append->LX,map_nil->LY,range_succ->LZ,sum_append->L0,sum_nil->L1,eq_nil_iff_forall_not_mem->L8,ext_getElem->L9,getElem?_drop->Xa,getElem?_take_of_lt->Xb,mem_map->Xc,set_eq_of_length_le->Xd
open Int renaming toNat_natCast->Lc,le_refl->Lp,mul_comm->Ls,toNat->Lt,mul_nonneg->Lx,mul_le_mul_of_nonneg_right->Ly,emod_lt_of_pos->LF,emod_nonneg->LJ,tmod_eq_emod_of_nonneg->LK,add_assoc->LO,add_mul->LQ,mul_ediv_add_emod->LR,toNat_of_nonneg->LS,add_zero->L3,ediv_lt_of_lt_mul->L4,ediv_nonneg->L5,sub_mul->L6,tdiv_eq_ediv_of_nonneg->L7
open Nat renaming le_refl->Le,lt_trichotomy->LM,add_zero->Xe
open Option renaming getD_some->Lw,none->LD,map_some->L2,getD_none->Xf
open Decidable renaming decide->LC,not_not->LN
namespace Go.Proofs.YtgedmeaemofdkaaGreat
open Go.Sx
def Z7w(w:WorldM)(t:Tape)(n:Nat)(hm:MOk w n)(hn:n<=1000000)(ht:TOk t)(ha:t.at'<=900000):LP 54 [w.av,.pt 0 0 0] [t.b] (w.step t).av [(w.stepT t).b] :=
 Zj4 w t n hm hn ht ha
structure TUp (n:Int) (t u:Tape):Prop where
 l:u.l=t.l
 lo:t.at'<=u.at'
 hi:u.at'<=t.at'+n
def TUp.step(t:Tape)(n:Int):TUp 1 t (t.step n):=by
 have:=Z40 (t:=t) n;exact⟨this.2.2,this.1,this.2.1⟩
def TUp.trans{m n:Int}{t u v:Tape}(h1:TUp m t u)(h2:TUp n u v):TUp (m+n) t v :=
 ⟨h2.l.trans h1.l,by have:=h1.lo;have:=h2.lo;omega,by have:=h1.hi;have:=h2.hi;omega⟩
def TUp.mono{m n:Int}{t u:Tape}(h:TUp m t u)(hmn:m<=n):TUp n t u:=⟨h.l,h.lo,by have:=h.hi;omega⟩
def Zh5(t:Tape)(c:Conf):TUp 10 t (t.headerT c):=by
 have h1:TUp 4 t (Z3j t c):=by
  unfold Z3j;split
  .exact(((TUp.step t _).trans (TUp.step _ 12)).trans (TUp.step _ _)).mono dd
  .exact((TUp.step t _).trans (TUp.step _ 12)).mono dd
 unfold Tape.headerT;repeat' split
 .exact(h1.trans (TUp.step _ 4)).mono dd
 .exact(h1.trans (TUp.step _ 4)).mono dd
 .exact((h1.trans (TUp.step _ 4)).trans (TUp.step _ _)).mono dd
def ZlY(w:WorldM)(t:Tape):TUp 10 t (w.linkT t):=by
 have h1:TUp 1 t (w.pickT t):=TUp.step _ _;have h2:TUp 1 (w.pickT t) (w.pickT (w.pickT t)):=TUp.step _ _;unfold WorldM.linkT;split
 .exact((((h1.trans h2).trans (TUp.step _ 8))).trans (TUp.step _ _)).mono dd
 .exact((h1.trans h2).trans (TUp.step _ 8)).mono dd
def Zko(w:WorldM)(t:Tape):(w.stepT t).l=t.l/\t.at'+1<=(w.stepT t).at'/\(w.stepT t).at'<=t.at'+20:=by
 have h0:(t.step 12).at'=t.at'+1/\(t.step 12).l=t.l:=by simp[Tape.step]
 have key:TUp 10 (t.step 12) (w.stepT t):=by
  unfold WorldM.stepT;repeat' split
  .exact Zh5 _ _
  .exact ZlY _ _
  .unfold WorldM.pinT;split
   .exact((TUp.step _ _).trans (TUp.step _ 2)).mono dd
   .exact(TUp.step _ _).mono dd
  .unfold WorldM.dropT;split
   .exact((TUp.step _ _).trans (TUp.step _ 3)).mono dd
   .exact⟨rfl,by omega,by omega⟩
  .exact⟨rfl,by omega,by omega⟩
  .exact(TUp.step _ _).mono dd
 have a:=key.l;have b:=key.lo;have c:=key.hi;exact⟨a.trans h0.2,by omega,by omega⟩
def mkS(w:WorldM)(t:Tape):Nat->WorldM×Tape
 | 0=>(w,t)
 | k+1=>((mkS w t k).1.step (mkS w t k).2,(mkS w t k).1.stepT (mkS w t k).2)
def mkB(w:WorldM)(t:Tape)(k:Nat):Bool:=LC (((mkS w t k).2.l.length:Int)<=(mkS w t k).2.at')
def mkN(w:WorldM)(t:Tape):Nat:=((Ld (2+t.l.length)).find? (mkB w t)).getD 0
def ZdN(w:WorldM)(t:Tape):WorldM:=(mkS w t (mkN w t)).1
def ZfL(w:WorldM)(t:Tape):∀ k:Nat,(mkS w t k).2.l=t.l/\t.at'+k<=(mkS w t k).2.at'/\(mkS w t k).2.at'<=t.at'+20*k
 | 0=>by simp[mkS]
 | k+1=>by
  have ih:=ZfL w t k;have:=Zko (mkS w t k).1 (mkS w t k).2;refine⟨this.1.trans ih.1, ?_, ?_⟩
  .simp only[mkS];omega
  .simp only[mkS];omega
def ZaH{w:WorldM}{n:Nat}(h:MOk w n)(t:Tape):∀ k,n+k<=1000000->MOk (mkS w t k).1 (n+k)
 | 0,_=>h
 | k+1,hk=>(ZaH h t k oq).step oq _
def Zcm(w:WorldM)(t:Tape)(ht:0<=t.at'):mkB w t (mkN w t)=Z/\(∀ j,j<mkN w t->mkB w t j=Lf)/\mkN w t<=t.l.length+1:=by
 cases hb:(Ld (2+t.l.length)).find? (mkB w t)with
 | none =>
  exfalso;have:=Lq.1 hb t.l.length (Lb.2 oq);have u:=ZfL w t t.l.length;simp only[mkB,decide_eq_true_eq,u.1]at this;omega
 | some k =>
  obtain⟨h1,h2,h3⟩:=LG.1 hb;have h2:=Lb.1 h2;have e:mkN w t=k:=by rw[mkN,hb];rfl
  rw[e];exact⟨h1,λj hj=>by simpa using h3 j hj,by omega⟩
def mkLA(w:WorldM)(t:Tape):Tg:=⟨tm 22 [(2,.pt 8002 0 0),(3,.pt 32012 0 0),(4,.pt 40004 0 0)],[(40004,.box 30 w.cells),(32012,t.b),(8002,.box 30 [int 0,int 0,.d (.sl 0 []),.d (.sl 0 []),int 0,int 0,.d (.sl 0 []),.d (.sl 0 [])])],60⟩
def ZlT(w:WorldM)(t:Tape)(n:Nat)(hm:MOk w n)(hn:n<=1000000)(ht:TOk t)(ha:t.at'<=900000)(hd:t.at'<t.l.length):CP (rndF Tryz.f15 0) (mkLA w t).st .nrm (mkLA (w.step t) (w.stepT t)).st:=by
 exact sF [] [] (Fbq 16 [32012] (@Z7Q t aa) (Ftb 17 (!decide ((t.l.length:Int)<=t.at')) (Fbr 20 [32012] (@Z7w w t n aa aa aa aa) Fz)))
def Zp0(w:WorldM)(t:Tape)(ht:TOk t)(hd:¬ t.at'<t.l.length):CP (rndF Tryz.f15 0) (mkLA w t).st (.ext 0) (Tg.st ⟨tm 22 [(2,.pt 8002 0 0),(4,.pt 40004 0 0)],[(40004,.box 30 w.cells),(8002,.box 30 [int 0,int 0,.d (.sl 0 []),.d (.sl 0 []),int 0,int 0,.d (.sl 0 []),.d (.sl 0 [])])],60⟩):=by
 exact sF [] [] (Fbq 16 [32012] (@Z7Q t aa) (Ffb 17 (!decide ((t.l.length:Int)<=t.at')) Fz))
def Znr(w:WorldM)(t:Tape)(hm:MOk w 0)(hl:t.l.length<=300)(h0:0<=t.at')(h1:t.at'<=1000):CP (blkF Tryz.f15 0) (Tg.st ⟨tm 22 [(2,.pt 8002 0 0),(3,.pt 32012 0 0),(4,.pt 40004 0 0)],[(40004,.box 30 w.cells),(32012,t.b),(8002,.box 30 [int 0,int 0,.d (.sl 0 []),.d (.sl 0 []),int 0,int 0,.d (.sl 0 []),.d (.sl 0 [])])],60⟩) .nrm (Tg.st ⟨tm 22 [(2,.pt 8002 0 0),(4,.pt 40004 0 0)],[(40004,.box 30 (ZdN w t).cells),(8002,.box 30 [int 0,int 0,.d (.sl 0 []),.d (.sl 0 []),int 0,int 0,.d (.sl 0 []),.d (.sl 0 [])])],60⟩):=by
 have hk:=Zcm w t h0;have tok:∀ k,k<=mkN w t->TOk (mkS w t k).2/\(mkS w t k).2.at'<=900000:=λk hk'=>by
  have u:=ZfL w t k;refine⟨?_,by omega⟩;unfold TOk;rw[u.1];omega
 refine Z0b (S:=λk=>(mkLA (mkS w t k).1 (mkS w t k).2).st) (mkN w t) kr (λk hk'=>?_) ?_
 .have hs:=hk.2.1 k hk';simp only[mkB,decide_eq_false_iff_not]at hs;have m:=ZaH hm t k oq;exact ZlT _ _ (0+k) m oq (tok k oq).1 (tok k oq).2 oq
 .have hs:=hk.1;simp only[mkB,decide_eq_true_eq]at hs;exact Zp0 _ _ (tok _ (Le _)).1 oq
def mkLB(w:WorldM)(t:Tape):Tg:=⟨tm 22 [(2,.pt 8002 0 0),(3,.pt 24012 0 0),(4,.pt 32004 0 0)],[(32004,.box 30 w.cells),(24012,t.b),(8002,.box 30 [int 0,int 0,.d (.sl 0 []),.d (.sl 0 []),int 0,int 0,.d (.sl 0 []),.d (.sl 0 [])])],60⟩
def ZkB(w:WorldM)(t:Tape)(n:Nat)(hm:MOk w n)(hn:n<=1000000)(ht:TOk t)(ha:t.at'<=900000)(hd:t.at'<t.l.length):CP (rndF Tryz.f15 0) (mkLB w t).st .nrm (mkLB (w.step t) (w.stepT t)).st:=by
 exact sF [] [] (Fbq 16 [24012] (@Z7Q t aa) (Ftb 17 (!decide ((t.l.length:Int)<=t.at')) (Fbr 20 [24012] (@Z7w w t n aa aa aa aa) Fz)))
def Zpj(w:WorldM)(t:Tape)(ht:TOk t)(hd:¬ t.at'<t.l.length):CP (rndF Tryz.f15 0) (mkLB w t).st (.ext 0) (Tg.st ⟨tm 22 [(2,.pt 8002 0 0),(4,.pt 32004 0 0)],[(32004,.box 30 w.cells),(8002,.box 30 [int 0,int 0,.d (.sl 0 []),.d (.sl 0 []),int 0,int 0,.d (.sl 0 []),.d (.sl 0 [])])],60⟩):=by
 exact sF [] [] (Fbq 16 [24012] (@Z7Q t aa) (Ffb 17 (!decide ((t.l.length:Int)<=t.at')) Fz))
def Zn6(w:WorldM)(t:Tape)(hm:MOk w 0)(hl:t.l.length<=300)(h0:0<=t.at')(h1:t.at'<=1000):CP (blkF Tryz.f15 0) (Tg.st ⟨tm 22 [(2,.pt 8002 0 0),(3,.pt 24012 0 0),(4,.pt 32004 0 0)],[(32004,.box 30 w.cells),(24012,t.b),(8002,.box 30 [int 0,int 0,.d (.sl 0 []),.d (.sl 0 []),int 0,int 0,.d (.sl 0 []),.d (.sl 0 [])])],60⟩) .nrm (Tg.st ⟨tm 22 [(2,.pt 8002 0 0),(4,.pt 32004 0 0)],[(32004,.box 30 (ZdN w t).cells),(8002,.box 30 [int 0,int 0,.d (.sl 0 []),.d (.sl 0 []),int 0,int 0,.d (.sl 0 []),.d (.sl 0 [])])],60⟩):=by
 have hk:=Zcm w t h0;have tok:∀ k,k<=mkN w t->TOk (mkS w t k).2/\(mkS w t k).2.at'<=900000:=λk hk'=>by
  have u:=ZfL w t k;refine⟨?_,by omega⟩;unfold TOk;rw[u.1];omega
 refine Z0b (S:=λk=>(mkLB (mkS w t k).1 (mkS w t k).2).st) (mkN w t) kr (λk hk'=>?_) ?_
 .have hs:=hk.2.1 k hk';simp only[mkB,decide_eq_false_iff_not]at hs;have m:=ZaH hm t k oq;exact ZkB _ _ (0+k) m oq (tok k oq).1 (tok k oq).2 oq
 .have hs:=hk.1;simp only[mkB,decide_eq_true_eq]at hs;exact Zpj _ _ (tok _ (Le _)).1 oq
def Z2N(l:List Int):Tape:=⟨l.take 300,0⟩
def Z0o(l:List Int):WorldM:=ZdN (Z2N l).empty (((Z2N l).step 4).step 5)
def Z7P(t:Tape):MOk t.empty 0:=by
 have hv:=Z2P t;have hb:=validB_iff.1 hv;refine⟨?_,hv, ?_, ?_, ?_, ?_, ?_, ?_,by simp[Tape.empty],by simp[Tape.empty]⟩
 .intro x hx;simp only[Tape.empty,Z2M,List.mem_replicate]at hx;omega
 .simp only[Tape.empty,Z2M,Lo];omega
 .have:=area hv;simp only[Tape.empty,Z2M,Lo];omega
 .intro j hj;simp only[Tape.empty,Z2M,Lo]at hj ⊢;have:(Ll t.C.pg.toNat (⟨0,0,0,0⟩:Page)).getD j X=⟨0,0,0,0⟩:=by simp[M,hj]
  rw[this];simp
 .intro j hj;simp only[Tape.empty,Z2M,Lo]at hj ⊢;have:(Ll t.C.pg.toNat (⟨0,0,0,0⟩:Page)).getD j X=⟨0,0,0,0⟩:=by simp[M,hj]
  rw[this];simp
 .intro x hx;simp[Tape.empty]at hx
 .intro x hx;simp[Tape.empty]at hx
def Z5n(l:List Int):(((Z2N l).step 4).step 5).l=l.take 300/\(((Z2N l).step 4).step 5).at'=2:=by simp[Z2N,Tape.step]
def Zbh(l:List Int):MOk (Z0o l) 1000:=by
 have e:=Z5n l;have hl:(((Z2N l).step 4).step 5).l.length<=300:=by rw[e.1];simp;omega
 have hk:=Zcm (Z2N l).empty (((Z2N l).step 4).step 5) oq;have m:=ZaH (Z7P (Z2N l)) (((Z2N l).step 4).step 5) (mkN (Z2N l).empty (((Z2N l).step 4).step 5)) oq;have h2:∀ (w:WorldM) (a b:Nat),MOk w a->a<=b->MOk w b:=λw a b h hab =>
  ⟨h.W,h.hv,h.pl,h.L,λj hj=>by have:=h.N j hj;omega,h.us,h.G,h.E,by have:=h.sl;omega,by have:=h.wl;omega⟩
 exact h2 _ _ _ m oq
def Zf2(l:List Int)(hl:l.length<=140737488355328):GP 15 [Z0x l] Lf (Z0o l).av []:=by
 have e:=Z5n l;have he:=Z7P (Z2N l);have h1:(((Z2N l).step 4).step 5).l.length<=300:=by rw[e.1];simp;omega
 have h2:=e.2;by_cases h:300<l.length
 .have ht:TOk ⟨Lv (Lt 300) l,0⟩:=by simp[TOk];omega
  have e9:Z2N l=⟨Lv (Lt 300) l,0⟩:=rfl;unfold Z0o;rw[e9]at he h1 h2 ⊢;exact gF [] Tryz.func15 [] (Fh 9 [.els (LL idv (Lv (Lt 300) l))] (Fl 6 idv l (Ftb 7 (LC (300<(l.length:Int))) (Fa (by(simp only[LA];omega):(0:Int)<=(300:Int)/\300<=(↑(LL idv l).length:Int)) (Fa (ms:Lv (Lt 300) (LL idv l)=LL idv (Lv (Lt 300) l)) (Fbr 14 [32012] (@Zc6 (Tape.mk (Lv (Lt 300) l) 0) aa (by(simp only[bs];omega))) (Fu (@Znr ((Tape.mk (Lv (Lt 300) l) 0).empty) (((Tape.mk (Lv (Lt 300) l) 0).step 4).step 5) aa aa oq oq) Fz)))))))
 .have ht:TOk ⟨l,0⟩:=by simp[TOk];omega
  have e9:Z2N l=⟨l,0⟩:=by rw[Z2N,List.take_of_length_le oq]
  unfold Z0o;rw[e9]at he h1 h2 ⊢;exact gF [] Tryz.func15 [] (Fl 6 idv l (Ffb 7 (LC (300<(l.length:Int))) (Fbr 14 [24012] (@Zc6 (Tape.mk l 0) aa (by(simp only[bs];omega))) (Fu (@Zn6 ((Tape.mk l 0).empty) (((Tape.mk l 0).step 4).step 5) aa aa oq oq) Fz))))
def RootOn(h:Heap)(r:Int):Prop:=(ofA h.C r).2.2=0->(h.P.getD (ofA h.C r).1.toNat X).K=1\/(h.P.getD (ofA h.C r).1.toNat X).K=2
structure POk (w:WorldM):Prop where
 p:Z03 w.heap=Z
 s:∀ r∈w.G,RootOn w.heap r
 k:∀ r∈w.E,RootOn w.heap r
def ZoS(h:Heap):RootOn h 0:=by
 intro e;exfalso;unfold ofA at e;split at e
 .split at e
  .omega
  .simp at e
 .simp at e
def RootOn.mono{h h':Heap}{r:Int}(hr:RootOn h r)(hc:h'.C=h.C)(hk:∀ j:Nat,(h.P.getD j X).K≠0->(h'.P.getD j X).K=(h.P.getD j X).K):RootOn h' r:=by
 intro e;rw[hc]at e ⊢;have q:=hr e;rw[hk _ oq];exact q
def PT.setPins{c:Conf}{l:List Page}(h:PT c l){i:Nat}(hi:i<l.length)(hk:(l.getD i X).K=1\/(l.getD i X).K=2){n:Int}(hn:0<=n/\n<=2147483647):PT c (l.set i ⟨(l.getD i X).K,(l.getD i X).S,(l.getD i X).U,n⟩):=by
 have e:∀ j,((l.set i ⟨(l.getD i X).K,(l.getD i X).S,(l.getD i X).U,n⟩).getD j X).K=(l.getD j X).K/\((l.set i ⟨(l.getD i X).K,(l.getD i X).S,(l.getD i X).U,n⟩).getD j X).S=(l.getD j X).S/\((l.set i ⟨(l.getD i X).K,(l.getD i X).S,(l.getD i X).U,n⟩).getD j X).U=(l.getD j X).U:=by
  intro j;rw[Z0k hi];split
  .rename_i q;subst q;exact⟨rfl,rfl,rfl⟩
  .exact⟨rfl,rfl,rfl⟩
 refine⟨?_, ?_, ?_⟩
 .intro j hj;rw[Lh]at hj;rw[Z0k hi];split
  .have b:=h.b i hi;exact⟨b.s,hn,b.k,λq=>by simp only at q;omega,b.k1,λq=>by simp only at q;omega⟩
  .exact h.b j hj
 .intro j hj hk2;rw[Lh]at hj;rw[(e j).1]at hk2;rw[(e j).2.2,(e j).2.1];have q:=h.lg j hj hk2;refine⟨q.1,λm h1 h2=>?_⟩;rw[Lh,(e _).1,(e _).2.1];exact q.2 m h1 h2
 .intro j hj hk3;rw[Lh]at hj;rw[(e j).1]at hk3;obtain⟨a,a1,a2,a3⟩:=h.tl j hj hk3;exact⟨a,a1,by rw[(e a).1];exact a2,by rw[(e a).2.2];exact a3⟩
def ZfU{w:WorldM}{n:Nat}(h:POk w)(hm:MOk w n)(hn:n<=1000000){i:Nat}(hi:i<w.heap.P.length)(hk:(w.heap.P.getD i X).K=1\/(w.heap.P.getD i X).K=2){d:Int}(hd:d=1\/(d=-1/\0<(w.heap.P.getD i X).N)):POk (pinB w i d):=by
 have hp:=hm.N i hi;have kk:∀ j:Nat,((pinB w i d).heap.P.getD j X).K=(w.heap.P.getD j X).K:=by
  intro j;simp only[pinB];rw[Z0k hi];split
  .rename_i q;subst q;rfl
  .rfl
 have pr:=h.p;rw[Z1A]at pr;obtain⟨p1,p2,p3,p4,p5,p6⟩:=pr;refine⟨?_,λr hr=>(h.s r hr).mono rfl (λj _=>kk j),λr hr=>(h.k r hr).mono rfl (λj _=>kk j)⟩;rw[Z1A];refine⟨p1,p2,by simp only[pinB,Lh];exact p3,p4, ?_,p6.setPins hi hk oq⟩;rcases p5 with p5 | p5
 .exact Y p5
 .refine O ⟨p5.1,by simp only[pinB,Lh];exact p5.2.1, ?_⟩;rw[show(pinB w i d).heap.B=w.heap.B from rfl,kk];exact p5.2.2
def Zg6(w:WorldM)(t:Tape):w.pick t=0\/w.pick t∈w.G\/w.pick t∈w.E:=by
 have hn:=Z0M t (n:=(w.refs.length:Int)) (by simp[WorldM.refs];omega);have:w.pick t∈w.refs:=getD_mem_iff.2 ⟨_,by omega,rfl⟩;simpa[WorldM.refs]using this
def POk.pick{w:WorldM}(h:POk w)(t:Tape):RootOn w.heap (w.pick t):=by
 rcases Zg6 w t with e | e | e
 .rw[e];exact ZoS _
 .exact h.s _ e
 .exact h.k _ e
def POk.pin{w:WorldM}{n:Nat}(h:POk w)(hm:MOk w n)(hn:n<=1000000)(t:Tape):POk (w.pin t):=by
 unfold WorldM.pin;split
 .rename_i e;have o:=Z3I hm.hv e;have hpl:=hm.pl;have hi:pinI w t<w.heap.P.length:=by unfold pinI;omega
  have hk:=h.pick t e;split
  .rename_i hc;exact ZfU h hm hn hi hk (O ⟨rfl,hc.1⟩)
  .split
   .exact ZfU h hm hn hi hk (Y rfl)
   .exact h
 .exact h
def Zjh(t:Tape):POk t.empty:=by
 refine⟨?_,by simp[Tape.empty],by simp[Tape.empty]⟩;have hv:=Z2P t;have hb:=validB_iff.1 hv;have ha:=area hv;rw[Z1A];have hg:∀ j,j<t.C.pg.toNat->(Ll t.C.pg.toNat (⟨0,0,0,0⟩:Page)).getD j X=⟨0,0,0,0⟩:=λj hj=>by simp[M,hj]
 refine⟨hv,by simp only[Tape.empty,Z2M,Lo];omega,by simp only[Tape.empty,Z2M,Lo];omega,Y rfl,Y rfl, ?_⟩;simp only[Tape.empty,Z2M];refine⟨λj hj=>?_,λj hj hk=>?_,λj hj hk=>?_⟩
 .rw[Lo]at hj;rw[hg j hj];exact⟨by simp,by simp,by simp,by simp,by simp,by simp⟩
 .rw[Lo]at hj;rw[hg j hj]at hk;simp at hk
 .rw[Lo]at hj;rw[hg j hj]at hk;simp at hk
def hdA(ws:List Int)(a:Int):Header:=(decodeH (loadA ws a).1).1
def okA(ws:List Int)(a:Int):Prop:=(decodeH (loadA ws a).1).2=Z
def kdA(ws:List Int)(a:Int):Int:=(hdA ws a).K
def kpA(ws:List Int)(a:Int):Int:=if kdA ws a=0 then 1 else hlA ws a+1
def bsP(h:Heap)(i:Nat):Int:=4096+i*h.C.pw
def tile(ws:List Int):Int->Int->List Int->Prop
 | a,b,[]=>a=b
 | a,b,x::l=>x=a/\okA ws a/\tile ws (a+hlA ws a+1) b l
def Z6E(ws:List Int)(a:Int):sizeH (hdA ws a)=hlA ws a+1:=by
 unfold hdA;rw[sizeH,if_pos (Z22 _)];rfl
def ZeN{ws:List Int}:∀ {l:List Int} {a b:Int},tile ws a b l->a<=b
 | [],a,b,h=>by simp only[tile]at h;omega
 | x::l,a,b,h=>by
  have:=ZeN h.2.2;have:=Z09 ws a;omega
def Z1C{ws:List Int}{x:Int}:∀ {l:List Int} {a b:Int},tile ws a b l->x∈l->okA ws x/\a<=x/\x+hlA ws x<b
 | [],_,_,_,hx=>by simp at hx
 | y::l,a,b,h,hx=>by
  have hr:=Z09 ws a;rcases LB.1 hx with rfl | hx
  .have:=ZeN h.2.2;rw[h.1];exact⟨h.2.1,by omega,by omega⟩
  .have:=Z1C h.2.2 hx;exact⟨this.1,by omega,this.2.2⟩
def Zbm{ws:List Int}{x y:Int}:∀ {l:List Int} {a b:Int},tile ws a b l->x∈l->y∈l->x<y->x+hlA ws x<y
 | [],_,_,_,hx,_,_=>by simp at hx
 | z::l,a,b,h,hx,hy,hxy=>by
  have hr:=Z09 ws a;have h1:=h.1;rcases LB.1 hx with e | hx'
  .rcases LB.1 hy with e2 | hy'
   .omega
   .have:=(Z1C h.2.2 hy').2.1;rw[e,h1];omega
  .rcases LB.1 hy with e2 | hy'
   .have:=(Z1C h.2.2 hx').2.1;omega
   .exact Zbm h.2.2 hx' hy' hxy
def ZaT{ws:List Int}{m:List Int}{b c:Int}:∀ {l:List Int} {a:Int},tile ws a b l->tile ws b c m->tile ws a c (l++m)
 | [],a,h,h2=>by simp only[tile]at h;subst h;exact h2
 | _::_,_,h,h2=>⟨h.1,h.2.1,ZaT h.2.2 h2⟩
def Z2p{ws ws':List Int}:∀ {l:List Int} {a b:Int},tile ws a b l->(∀ x∈l,okA ws' x/\hlA ws' x=hlA ws x)->tile ws' a b l
 | [],_,_,h,_=>h
 | x::l,a,b,h,hh=>by
  have hx:=hh x pq;have h1:=h.1;subst h1;refine⟨rfl,hx.1, ?_⟩;rw[hx.2];exact Z2p h.2.2 λy hy=>hh y (Lu _ hy)
def Zae{ws:List Int}{c:Int}:∀ {l:List Int} {a b:Int},tile ws a b l->a<=c->c<b->∃ x∈l,x<=c/\c<=x+hlA ws x
 | [],a,b,h,h1,h2=>by simp only[tile]at h;omega
 | x::l,a,b,h,h1,h2=>by
  by_cases hc:c<=a+hlA ws a
  .exact⟨a,by rw[h.1];simp,h1,hc⟩
  .obtain⟨y,hy,h3⟩:=Zae h.2.2 (show a+hlA ws a+1<=c by omega) h2;exact⟨y,Lu _ hy,h3⟩
def Z1E{ws ws':List Int}{a:Int}(h:(loadA ws' a).1=(loadA ws a).1):(okA ws a->okA ws' a)/\hlA ws' a=hlA ws a/\kdA ws' a=kdA ws a/\hdA ws' a=hdA ws a/\kpA ws' a=kpA ws a:=by
 have e:hdA ws' a=hdA ws a:=by rw[hdA,hdA,h]
 have e2:hlA ws' a=hlA ws a:=by rw[hlA,hlA,h]
 have e3:kdA ws' a=kdA ws a:=by rw[kdA,kdA,e]
 exact⟨λq=>by rw[okA,h];exact q,e2,e3,e,by rw[kpA,kpA,e2,e3]⟩
structure Gt (h:Heap) (T:Nat->List Int):Prop where
 p:Z03 h=Z
 t1:∀ i,i<h.P.length->(h.P.getD i X).K=1->tile h.W (bsP h i) (bsP h i+(h.P.getD i X).U) (T i)
 t2:∀ i,i<h.P.length->(h.P.getD i X).K=2->T i=[bsP h i]/\okA h.W (bsP h i)/\hlA h.W (bsP h i)+1=(h.P.getD i X).U
 t0:∀ i x,x∈T i->i<h.P.length/\((h.P.getD i X).K=1\/(h.P.getD i X).K=2)
structure Gd (h:Heap) (T:Nat->List Int):Prop where
 p:Z03 h=Z
 sp:∀ i,i<h.P.length->(h.P.getD i X).K≠0->(h.P.getD i X).S=h.S
 t1:∀ i,i<h.P.length->(h.P.getD i X).K=1->tile h.W (bsP h i) (bsP h i+(h.P.getD i X).U) (T i)/\∀ x∈T i,hlA h.W x+1<=Z00 h.C
 t2:∀ i,i<h.P.length->(h.P.getD i X).K=2->T i=[bsP h i]/\okA h.W (bsP h i)/\hlA h.W (bsP h i)+1=(h.P.getD i X).U/\kdA h.W (bsP h i)≠0
 t0:∀ i x,x∈T i->i<h.P.length/\((h.P.getD i X).K=1\/(h.P.getD i X).K=2)
 d:∀ a,(loadA h.W a).1≠0->∃ i x,x∈T i/\x<=a/\a<x+kpA h.W x
 q:∀ i x k,x∈T i->kdA h.W x≠0->0<=k->k<hlA h.W x->Z0c (hdA h.W x) k=Z->(loadA h.W (x+1+k)).1=0\/∃ j,(loadA h.W (x+1+k)).1∈T j/\kdA h.W (loadA h.W (x+1+k)).1≠0
 cr:(crowd h.P:Int)<=h.C.pg/4
def Ob(h:Heap)(T:Nat->List Int)(x:Int):Prop:=∃ j,x∈T j/\kdA h.W x≠0
section
variable {h:Heap} {T:Nat->List Int} (g:Gt h T)
include g
theorem Gt.on{i:Nat}{x:Int}(hx:x∈T i):i<h.P.length/\((h.P.getD i X).K=1\/(h.P.getD i X).K=2)/\bsP h i<=x/\x<bsP h i+h.C.pw/\x+hlA h.W x<bsP h i+(h.P.getD i X).U/\okA h.W x/\((h.P.getD i X).K=2->x=bsP h i/\hlA h.W x+1=(h.P.getD i X).U):=by
 have t:=g.t0 i x hx;have po:=Z07 g.p;have pp:=Z0u g.p t.1;have hr:=Z09 h.W x;refine⟨t.1,t.2, ?_⟩;rcases t.2 with k | k
 .have m:=Z1C (g.t1 i t.1 k) hx;exact⟨m.2.1,by omega,m.2.2,m.1,λq=>by omega⟩
 .have m:=g.t2 i t.1 k;rw[m.1]at hx;have hx:=Lk.1 hx;subst hx;exact⟨by omega,by omega,by omega,m.2.1,λ_=>⟨rfl,m.2.2⟩⟩
theorem Gt.ofx{i:Nat}{x:Int}(hx:x∈T i):ofA h.C x=((i:Int),x-bsP h i,0):=by
 have o:=g.on hx;have po:=Z07 g.p;have:=Zf3 (c:=h.C) (i:=i) (o:=x-bsP h i) po.1 oq oq;rw[<- this];congr 1;unfold bsP;omega
theorem Gt.sep{i j:Nat}{x y:Int}(hx:x∈T i)(hy:y∈T j)(hxy:x<y):x+hlA h.W x<y:=by
 have o1:=g.on hx;have o2:=g.on hy;have r2:=Z09 h.W y;have r1:=Z09 h.W x;unfold bsP at o1 o2;rcases LM i j with q | q | q
 .have:=Z4t g.p q o2.1 o1.2.1 oq;omega
 .subst q;rcases o1.2.1 with k | k
  .exact Zbm (g.t1 i o1.1 k) hx hy hxy
  .have:=(o1.2.2.2.2.2.2 k).1;have:=(o2.2.2.2.2.2.2 k).1;omega
 .have:=Z4t g.p q o1.1 o2.2.1 oq;omega
theorem Gt.free{i j:Nat}{x:Int}(hi:i<h.P.length)(hk:(h.P.getD i X).K=0\/(h.P.getD i X).K=1)(hx:x∈T j):x+hlA h.W x<bsP h i+occP (h.P.getD i X)\/bsP h i+h.C.pw<=x:=by
 have o:=g.on hx;have po:=Z07 g.p;have pp:=Z0u g.p hi;have hoc:0<=occP (h.P.getD i X):=by unfold occP;split<;>omega
 unfold bsP at o ⊢;rcases LM i j with q | q | q
 .have:=Z0Y (i:=i) (j:=j) (pw:=h.C.pw) oq oq;omega
 .subst q;rw[occP,if_neg oq];omega
 .have:=Z4t g.p q hi o.2.1 oq;omega
theorem Gt.at'{i:Nat}{x:Int}(hx:x∈T i):atH h x=(hdA h.W x,0):=by
 have o:=g.on hx;have r:=Z09 h.W x;have s:sizeH (decodeH (loadA h.W x).1).1=hlA h.W x+1:=Z6E h.W x;unfold atH;rw[if_pos g.p,g.ofx hx];simp only[Lc,s,if_true];rw[if_pos ⟨o.2.1,by omega,o.2.2.2.2.2.1⟩,if_neg]
 .rfl
 .have:=o.2.2.2.2.2.2;omega
theorem ZcI{i:Nat}(hi:i<h.P.length)(hk:(h.P.getD i X).K=1):∀ (f:Nat) (o:Int) (l:List Int),tile h.W (bsP h i+o) (bsP h i+(h.P.getD i X).U) l->(∀ x∈l,x∈T i)->0<=o->(h.P.getD i X).U-o<=f->Z2Z h i f o=some l
 | 0,o,[],ht,hm,h0,hf=>rfl
 | 0,o,x::l,ht,hm,h0,hf=>by
  have:=ZeN ht.2.2;have:=Z09 h.W (bsP h i+o);omega
 | f+1,o,[],ht,hm,h0,hf=>by
  simp only[tile]at ht;unfold Z2Z;rw[if_neg];show ¬ o<(h.P.getD (i:Int).toNat X).U;rw[Lc];omega
 | f+1,o,x::l,ht,hm,h0,hf=>by
  have hx:=hm x pq;have e:=ht.1;have on:=g.on hx;have po:=Z07 g.p;have hr:=Z09 h.W x;have hpg:pg h (i:Int)=h.P.getD i X:=by simp[pg]
  have ea:adr h i o=x:=by
   unfold adr address;rw[if_pos po.1,if_pos (inB_iff.2 ⟨by omega,by omega,h0,by omega⟩),e];unfold bsP;simp only;omega
  have t3:=ht.2.2;rw[<- e]at t3;have ih:=ZcI hi hk f (o+(hlA h.W x+1)) l (by rw[show bsP h i+(o+(hlA h.W x+1))=x+hlA h.W x+1 by omega];exact t3) (λy hy=>hm y (Lu _ hy)) oq oq;unfold Z2Z;rw[hpg,if_pos oq,ea,g.at' hx];simp only[if_true];rw[if_neg oq,Z6E,ih];rfl
theorem Gt.page{i:Nat}(hi:i<h.P.length):Z0m h i=(T i,0):=by
 have pp:=Z0u g.p hi;have hpg:pg h (i:Int)=h.P.getD i X:=by simp[pg]
 unfold Z0m;rw[if_pos g.p,if_pos oq,hpg];by_cases hk:(h.P.getD i X).K=0\/(h.P.getD i X).K=3
 .rw[if_pos hk];have:T i=[]:=L8.2 λx hx=>by have:=(g.t0 i x hx).2;omega
  rw[this]
 .rw[if_neg hk];by_cases h1:(h.P.getD i X).K=1
  .have:=ZcI g hi h1 256 0 (T i) (by rw[L3];exact(g.t1 i hi h1)) (λ_ q=>q) oq oq;rw[this]
  .have h2:(h.P.getD i X).K=2:=by omega
   have t:=g.t2 i hi h2;have hx:bsP h i∈T i:=by rw[t.1];simp
   have on:=g.on hx;have po:=Z07 g.p;have hr:=Z09 h.W (bsP h i);have ea:adr h i 0=bsP h i:=by
    unfold adr address;rw[if_pos po.1,if_pos (inB_iff.2 ⟨by omega,by omega,by omega,by omega⟩)];unfold bsP;simp
   have:Z2Z h i 256 0=some (T i):=by
    unfold Z2Z;rw[hpg,if_pos oq,ea,g.at' hx];simp only[if_true];rw[if_pos h2,t.1]
   rw[this]
theorem Gt.starts:∀ (f i:Nat),i+f=h.P.length->(Z0D h f i).2=0/\∀ x,x∈(Z0D h f i).1↔∃ j,i<=j/\x∈T j
 | 0,i,hf=>by
  refine⟨rfl,λx=>⟨λhx=>by simp[Z0D]at hx, ?_⟩⟩;rintro⟨j,hj,hx⟩;have:=(g.t0 j x hx).1;omega
 | f+1,i,hf=>by
  obtain⟨i1,i2⟩:=Gt.starts f (i+1) oq;unfold Z0D;rw[g.page (show i<h.P.length by omega)];simp only[i1,if_true];refine⟨trivial,λx=>?_⟩;rw[Li,i2];constructor
  .rintro(hx | ⟨j,hj,hx⟩)
   .exact⟨i,Le _,hx⟩
   .exact⟨j,by omega,hx⟩
  .rintro⟨j,hj,hx⟩;by_cases q:j=i
   .subst q;exact Y hx
   .exact O ⟨j,by omega,hx⟩
theorem Gt.objs:(Z04 h).2=0/\∀ x,x∈(Z04 h).1↔Ob h T x:=by
 have s:=g.starts h.P.length 0 oq;have e:Z0P h=Z0D h h.P.length 0:=by rw[Z0P,if_pos g.p]
 unfold Z04;rw[e];refine⟨s.1,λx=>?_⟩;rw[List.mem_filter,s.2];constructor
 .rintro⟨⟨j,_,hj⟩,hb⟩;have hb':(atH h x).1.K≠0:=of_decide_eq_true hb;rw[g.at' hj]at hb';exact⟨j,hj,hb'⟩
 .rintro⟨j,hj,hb⟩;refine⟨⟨j,by omega,hj⟩,decide_eq_true ?_⟩;rw[g.at' hj];exact hb
end
section
variable {h:Heap} {T:Nat->List Int} (g:Gd h T)
include g
theorem Gd.gt:Gt h T:=⟨g.p,λi hi hk=>(g.t1 i hi hk).1,λi hi hk=>⟨(g.t2 i hi hk).1,(g.t2 i hi hk).2.1,(g.t2 i hi hk).2.2.1⟩,g.t0⟩
theorem Gd.on{i:Nat}{x:Int}(hx:x∈T i):i<h.P.length/\((h.P.getD i X).K=1\/(h.P.getD i X).K=2)/\bsP h i<=x/\x<bsP h i+h.C.pw/\x+hlA h.W x<bsP h i+(h.P.getD i X).U/\okA h.W x/\((h.P.getD i X).K=2->x=bsP h i/\hlA h.W x+1=(h.P.getD i X).U):=g.gt.on hx
theorem Gd.ofx{i:Nat}{x:Int}(hx:x∈T i):ofA h.C x=((i:Int),x-bsP h i,0):=g.gt.ofx hx
theorem Gd.sep{i j:Nat}{x y:Int}(hx:x∈T i)(hy:y∈T j)(hxy:x<y):x+hlA h.W x<y:=g.gt.sep hx hy hxy
theorem Gd.free{i j:Nat}{x:Int}(hi:i<h.P.length)(hk:(h.P.getD i X).K=0\/(h.P.getD i X).K=1)(hx:x∈T j):x+hlA h.W x<bsP h i+occP (h.P.getD i X)\/bsP h i+h.C.pw<=x:=g.gt.free hi hk hx
theorem Gd.at'{i:Nat}{x:Int}(hx:x∈T i):atH h x=(hdA h.W x,0):=g.gt.at' hx
theorem Gd.page{i:Nat}(hi:i<h.P.length):Z0m h i=(T i,0):=g.gt.page hi
theorem Gd.objs:(Z04 h).2=0/\∀ x,x∈(Z04 h).1↔Ob h T x:=g.gt.objs
end
def ZjG{l:List Page}:∀ {i j:Nat},j<=i->(l.getD j X).K≠3->(∀ m,j<m->m<=i->(l.getD m X).K=3)->Z1l l i=j
 | 0,j,h,_,_=>by simp[Z1l];omega
 | i+1,j,h,hk,hm=>by
  unfold Z1l;by_cases q:j=i+1
  .subst q;rw[if_neg hk]
  .rw[if_pos (hm (i+1) oq (Le _))];exact ZjG oq hk λm h1 h2=>hm m h1 oq
def Zm4{ws:List Int}{a n:Int}{k:Nat}(hn:0<=n)(ha:4096<=a/\a-4096+n<=ws.length)(hk:(k:Int)<n):(Z18 ws a n).1.getD k X=(loadA ws (a+k)).1:=by
 unfold Z18 loadA;rw[if_neg oq,if_pos ha,if_pos oq];simp only[M];rw[Xb oq,Xa,show(a-4096).toNat+k=(a+k-4096).toNat by omega];rfl
section
variable {h:Heap} {T:Nat->List Int} (g:Gd h T)
include g
theorem Gd.inw{i:Nat}{x:Int}(hx:x∈T i):4096<=x/\x+hlA h.W x<4096+h.W.length:=by
 have o:=g.on hx;have po:=Z07 g.p;have u:=ZaU g.p o.1 o.2.1;have h0:0<=(i:Int)*h.C.pw:=Lx oq oq;unfold bsP at o;omega
theorem Gd.head{i j:Nat}{x a:Int}(hx:x∈T j)(h1:x<=a)(h2:a<=x+hlA h.W x)(hi:i<h.P.length)(h3:bsP h i<=a)(h4:a<bsP h i+h.C.pw):Z1l h.P i=j:=by
 have o:=g.on hx;have po:=Z07 g.p;unfold bsP at o h3 h4;have hji:j<=i:=by
  by_cases q:j<=i
  .exact q
  .have:=Z0Y (i:=i) (j:=j) (pw:=h.C.pw) oq oq;omega
 refine ZjG hji oq λm m1 m2=>?_;have hms:=Z0Y (i:=j) (j:=m) (pw:=h.C.pw) oq oq;have hmi:(m:Int)*h.C.pw<=i*h.C.pw:=Ly oq oq;rcases o.2.1 with k | k
 .have pp:=Z0u g.p o.1;omega
 .by_cases q:(h.P.getD m X).K=3
  .exact q
  .have:=Z4t g.p m1 oq (O k) q;omega
theorem Gd.badd{i k:Nat}(hi:i<h.P.length)(hk:(k:Int)<h.C.pw):badD h i (Z4f h i) k=Lf:=by
 have po:=Z07 g.p;unfold badD;have ew:Z4L h i k=(loadA h.W (bsP h i+k)).1:=by
  unfold Z4L address;rw[if_pos po.1,if_pos (inB_iff.2 ⟨by omega,by omega,by omega,by omega⟩)];unfold bsP;simp only;rw[LO]
 rw[ew];by_cases h0:(loadA h.W (bsP h i+k)).1=0
 .rw[h0];simp
 .obtain⟨j,x,hx,h1,h2⟩:=g.d _ h0;have hr:=Z09 h.W x;have hkp:kpA h.W x<=hlA h.W x+1:=by unfold kpA;split<;>omega
  have hh:=g.head hx h1 oq hi oq oq;have hb:(Z4f h i).getD k X=Z:=by
   unfold Z4f Z1J;rw[hh,g.page (g.on hx).1];have hkk:k<h.C.pw.toNat:=by omega
   simp only[M,LU,List.getElem?_range hkk,L2,Lw,List.any_eq_true];refine⟨x,hx, ?_⟩;unfold Zb1;have ek:Z9K h x=kpA h.W x:=by
    unfold Z9K kpA;rw[g.at' hx];rw[Z6E];rfl
   rw[ek,LI,decide_eq_true_eq,decide_eq_true_eq];unfold bsP at h1 h2;omega
  rw[hb];simp
theorem Gd.dirt{i:Nat}(hi:i<h.P.length):Z4y h i (Z4f h i)=0:=by
 have hl:=ZcY h i;unfold Z4y;have:(Ld (Z4f h i).length).find? (badD h i (Z4f h i))=LD:=by
  rw[Lq];intro k hk;have hk:=Lb.1 hk;rw[g.badd hi oq];simp
 rw[this]
theorem Gd.cls{i:Nat}{x:Int}(hx:x∈T i):Z2O h i x=Lf:=by
 have o:=g.on hx;unfold Z2O;rw[g.at' hx,Z6E,Lc];rcases o.2.1 with k | k
 .have:=(g.t1 i o.1 k).2 x hx;rw[k];simp;omega
 .have t:=g.t2 i o.1 k;have hx2:=(o.2.2.2.2.2.2 k).1;have:(hdA h.W x).K≠0:=by rw[hx2];exact t.2.2.2
  rw[k];simp;exact this
theorem Gd.pageF{i:Nat}(hi:i<h.P.length):(pageF h i).fault=0:=by
 have hs:=g.sp i hi;have hc:Z2s h i (T i)=0:=by
  unfold Z2s;have:(T i).find? (Z2O h i)=LD:=by
   rw[Lq];intro x hx;rw[g.cls hx];simp
  rw[this];rfl
 unfold Go.Proofs.YtgedmeaemofdkaaGreat.pageF;rw[if_neg (by rintro⟨q1,q2⟩;exact q2 (hs q1)),g.page hi,if_neg pq,if_neg (by rw[hc];simp),if_neg (by rw[g.dirt hi];simp)]
theorem Gd.fields{i:Nat}{x:Int}(hx:x∈T i)(hk:kdA h.W x≠0):getH h x=(hdA h.W x,0)/\((Z0S h x).1.length:Int)=hlA h.W x/\∀ k:Nat,(k:Int)<hlA h.W x->(Z0S h x).1.getD k X=(loadA h.W (x+1+k)).1:=by
 have n:=g.inw hx;have r:=Z09 h.W x;have eg:getH h x=(hdA h.W x,0):=by
  unfold getH;rw[if_pos g.p,if_neg oq,g.at' hx,if_neg];rintro⟨_,q⟩;exact hk q
 have ef:Z0S h x=Z18 h.W (x+1) (hlA h.W x):=by
  unfold Z0S;rw[eg,if_pos rfl];rfl
 refine⟨eg, ?_, ?_⟩
 .rw[ef];unfold Z18;rw[if_neg oq,if_pos oq];simp only[List.length_take,List.length_drop];omega
 .intro k hk;rw[ef];exact Zm4 r.1 oq hk
theorem Gd.good:Z0R h=⟨0,0,0⟩:=by
 have ob:=g.objs;have h1:Z5Q h=LD:=by
  unfold Z5Q;rw[Lq];intro i hi;have:=g.pageF (Lb.1 hi);simp[this]
 have h2:Z0W h (Z04 h).1=⟨0,0,0⟩:=by
  unfold Z0W;have:(Ld (Z04 h).1.length).find? (λi=>(Z2d h (Z04 h).1 i).isSome)=LD:=by
   rw[Lq];intro i hi;have hm:(Z04 h).1.getD i X∈(Z04 h).1:=getD_mem_iff.2 ⟨i,Lb.1 hi,rfl⟩;have:Z2d h (Z04 h).1 i=LD:=by
    unfold Z2d;generalize (Z04 h).1.getD i X=x at hm ⊢;obtain⟨j,hj,hkd⟩:=(ob.2 x).1 hm;have f:=g.fields hj hkd;rw[Lq];intro k hk;have hk:=Lb.1 hk;have hk2:(k:Int)<hlA h.W x:=by omega
    unfold Zcn;rw[f.1,f.2.2 k hk2];intro hc;simp only[LI,Bool.not_eq_true',decide_eq_true_eq,decide_eq_false_iff_not]at hc;rcases g.q j x k hj hkd oq hk2 hc.1.1 with q | ⟨m,q1,q2⟩
    .exact hc.1.2 q
    .exact hc.2 ((ob.2 _).2 ⟨m,q1,q2⟩)
   rw[this];simp
  rw[this]
 unfold Z0R;rw[if_pos g.p,h1];simp only[h2,ne_eq,not_true_eq_false,if_false];rw[if_neg];have:=g.cr;show ¬ h.C.pg/4<(crowd h.P:Int);omega
theorem Gd.refers{s:List Int}(hs:∀ r∈s,r=0\/Ob h T r):Z0i h s=Z:=by
 unfold Z0i;rw[LI,decide_eq_true_eq];refine⟨g.good, ?_⟩;have:(Ld s.length).find? (rfsB s (Z04 h).1)=LD:=by
  rw[Lq];intro i hi;have hm:s.getD i X∈s:=getD_mem_iff.2 ⟨i,Lb.1 hi,rfl⟩;unfold rfsB;rw[decide_eq_true_eq];rintro⟨q1,q2⟩;rcases hs _ hm with q | q
  .exact q1 q
  .exact q2 ((g.objs.2 _).2 q)
 rw[this];rfl
end
def decode_encode{hd:Header}(hv:Z0d hd=Z)(hm:0<=hd.map/\hd.map<=4294967295):decodeH (Z0a hd).1=(hd,Z):=by
 have b:=validH_iff.1 hv;have e1:Z0a hd=(1+4*hd.K+16*hd.length+65536*hd.map,0):=by rw[Z0a,if_pos hv]
 have e2:Z2S (1+4*hd.K+16*hd.length+65536*hd.map)=hd:=by
  obtain⟨k,l,m⟩:=hd;simp only at b hm;simp only[Z2S,Header.mk.injEq];omega
 rw[e1];unfold decodeH;simp only[e2,e1];simp
def Z8O{l l':List Page}:∀ n:Nat,(∀ i,i<n->(l'.getD i X).K=1->0<(l'.getD i X).N->(l.getD i X).K=1/\0<(l.getD i X).N)->Z0I l' n<=Z0I l n
 | 0,_=>Le _
 | n+1,hh=>by
  have ih:=Z8O n λi hi=>hh i oq;have hn:=hh n oq;unfold Z0I;split
  .rename_i c;rw[if_pos (hn c.1 c.2)];omega
  .split<;>omega
def Z9R{l:List Page}{i:Nat}{p:Page}(hi:i<l.length):∀ n:Nat,Z0I (l.set i p) n<=Z0I l n+1/\(n<=i->Z0I (l.set i p) n<=Z0I l n)
 | 0=>⟨by simp[Z0I],λ_=>Le _⟩
 | n+1=>by
  obtain⟨i1,i2⟩:=Z9R (p:=p) hi n;unfold Z0I;rw[Z0k hi];by_cases q:i=n
  .have:=i2 oq;subst q;refine⟨?_,λq=>by omega⟩;split<;>split<;>omega
  .rw[if_neg q];refine⟨?_,λq2=>?_⟩
   .split<;>omega
   .have:=i2 oq;split<;>omega
def Z6j{l l':List Page}(hl:l'.length=l.length)(hh:∀ i,i<l.length->(l'.getD i X).K=1->0<(l'.getD i X).N->(l.getD i X).K=1/\0<(l.getD i X).N):crowd l'<=crowd l:=by
 unfold crowd;rw[hl];exact Z8O _ hh
def Gd.P{h h':Heap}{T:Nat->List Int}(g:Gd h T)(hp:Z03 h'=Z)(hc:h'.C=h.C)(hw:h'.W=h.W)(hs:h'.S=h.S)(hl:h'.P.length=h.P.length)
  (hh:∀ i,i<h.P.length->(h'.P.getD i X).K=(h.P.getD i X).K/\(h'.P.getD i X).S=(h.P.getD i X).S/\(h'.P.getD i X).U=(h.P.getD i X).U) (hcr:(crowd h'.P:Int)<=h.C.pg/4):Gd h' T:=by
 have hb:∀ i,bsP h' i=bsP h i:=λi=>by rw[bsP,bsP,hc]
 refine⟨hp, ?_, ?_, ?_, ?_,by rw[hw];exact g.d,by rw[hw];exact g.q,by rw[hc];exact hcr⟩
 .intro i hi hk;rw[hl]at hi;rw[(hh i hi).1]at hk;rw[(hh i hi).2.1,hs];exact g.sp i hi hk
 .intro i hi hk;rw[hl]at hi;rw[(hh i hi).1]at hk;rw[(hh i hi).2.2,hw,hb,hc];exact g.t1 i hi hk
 .intro i hi hk;rw[hl]at hi;rw[(hh i hi).1]at hk;rw[(hh i hi).2.2,hw,hb];exact g.t2 i hi hk
 .intro i x hx;have t:=g.t0 i x hx;rw[hl,(hh i t.1).1];exact t
def Gd.store{h:Heap}{T:Nat->List Int}(g:Gd h T){x k v:Int}(hx:Ob h T x)(hk:0<=k/\k<hlA h.W x)(hv:Z0c (hdA h.W x) k=Z->v=0\/Ob h T v) :
  Gd { h with W:=(Z0B h.W (x+1+k) v).1 } T/\(∀ i y,y∈T i->(loadA (Z0B h.W (x+1+k) v).1 y).1=(loadA h.W y).1):=by
 obtain⟨j,hj,hkd⟩:=hx;have n:=g.inw hj;have hin:4096<=x+1+k/\x+1+k<4096+h.W.length:=by omega
 have hlen:=Z2m (ws:=h.W) (v:=v) hin;have key:∀ i y,y∈T i->(loadA (Z0B h.W (x+1+k) v).1 y).1=(loadA h.W y).1:=by
  intro i y hy;rw[Z0l hin];intro e;have:=g.sep hj hy oq;omega
 have ky:∀ i y,y∈T i->okA h.W y/\okA (Z0B h.W (x+1+k) v).1 y/\hlA (Z0B h.W (x+1+k) v).1 y=hlA h.W y/\kdA (Z0B h.W (x+1+k) v).1 y=kdA h.W y/\hdA (Z0B h.W (x+1+k) v).1 y=hdA h.W y/\kpA (Z0B h.W (x+1+k) v).1 y=kpA h.W y:=by
  intro i y hy;have o:=Z1E (key i y hy);have:=(g.on hy).2.2.2.2.2.1;exact⟨this,o.1 this,o.2⟩
 refine⟨⟨?_,g.sp, ?_, ?_,g.t0, ?_, ?_,g.cr⟩,key⟩
 .have q:=g.p;rw[Z1A]at q ⊢;refine⟨q.1, ?_,q.2.2.1,q.2.2.2.1,q.2.2.2.2.1,q.2.2.2.2.2⟩;simp only[hlen];exact q.2.1
 .intro i hi hk1;have t:=g.t1 i hi hk1;exact⟨Z2p t.1 λy hy=>⟨(ky i y hy).2.1,(ky i y hy).2.2.1⟩,λy hy=>by rw[(ky i y hy).2.2.1];exact t.2 y hy⟩
 .intro i hi hk2;have t:=g.t2 i hi hk2;have q:=ky i (bsP h i) (by rw[t.1];simp);refine⟨t.1,q.2.1, ?_, ?_⟩
  .exact q.2.2.1▸t.2.2.1
  .exact q.2.2.2.1▸t.2.2.2
 .intro a ha;by_cases e:a=x+1+k
  .refine⟨j,x,hj,by omega, ?_⟩;simp only;rw[(ky j x hj).2.2.2.2.2,kpA,if_neg hkd];omega
  .simp only at ha;rw[Z0l hin e]at ha;obtain⟨i,y,hy,h1,h2⟩:=g.d a ha;refine⟨i,y,hy,h1, ?_⟩;simp only;rw[(ky i y hy).2.2.2.2.2];exact h2
 .intro i y m hy hkd2 h0 h1 hp;simp only at hkd2 h1 hp ⊢;obtain⟨c0,c1,c2,c3,c4,c5⟩:=ky i y hy;rw[c3]at hkd2;rw[c2]at h1;rw[c4]at hp;have fin:∀ z,z=0\/Ob h T z->z=0\/∃ j,z∈T j/\kdA (Z0B h.W (x+1+k) v).1 z≠0:=by
   rintro z (q | ⟨b,b1,b2⟩)
   .exact Y q
   .exact O ⟨b,b1,by rw[(ky b z b1).2.2.2.1];exact b2⟩
  by_cases e:y+1+m=x+1+k
  .have hyx:y=x:=by
    rcases Int.lt_trichotomy y x with q | q | q
    .have:=g.sep hy hj q;omega
    .exact q
    .have:=g.sep hj hy q;omega
   subst hyx;have hmk:m=k:=by omega
   subst hmk;rw[Z1s hin];exact fin _ (hv hp)
  .rw[Z0l hin e];exact fin _ (g.q i y m hy hkd2 h0 h1 hp)
def Gd.add{h h':Heap}{T:Nat->List Int}(g:Gd h T){i:Nat}{a:Int}{hd:Header}(hv:Z0d hd=Z)(hm:0<=hd.map/\hd.map<=4294967295)(hk:hd.K≠0)
  (hp:Z03 h'=Z) (hc:h'.C=h.C) (hs:h'.S=h.S) (hl:h'.P.length=h.P.length) (hw:h'.W=(Z0t h.W a (objW hd)).1)
  (hin:4096<=a/\a+sizeH hd<=4096+h.W.length) (hi:i<h.P.length)
  (hj:∀ j,j<h.P.length->j≠i->h'.P.getD j X=h.P.getD j X\/((h.P.getD j X).K=0/\(h'.P.getD j X).K=3/\(h'.P.getD j X).S=h.S))
  (hI:((h.P.getD i X).K=0\/(h.P.getD i X).K=1)/\(h'.P.getD i X).K=1/\a=bsP h i+occP (h.P.getD i X)/\(h'.P.getD i X).U=occP (h.P.getD i X)+sizeH hd/\sizeH hd<=Z00 h.C\/(h.P.getD i X).K=0/\(h'.P.getD i X).K=2/\a=bsP h i/\(h'.P.getD i X).U=sizeH hd)
  (hsp:(h'.P.getD i X).S=h.S) (hcr:crowd h'.P<=crowd h.P) (hdis:∀ j x,x∈T j->x+hlA h.W x<a\/a+sizeH hd<=x) :
  Gd h' (λj=>if j=i then T i++[a]else T j)/\kdA h'.W a≠0/\hdA h'.W a=hd/\(∀ k,a<k->k<a+sizeH hd->(loadA h'.W k).1=0)/\(∀ k,k<a\/a+sizeH hd<=k->loadA h'.W k=loadA h.W k):=by
 have ow:=Zip hv hm;have hs1:sizeH hd=hd.length+1:=by rw[sizeH,if_pos hv]
 have vb:=validH_iff.1 hv;have hin':4096<=a/\a-4096+(objW hd).length<=h.W.length:=by omega
 have out:∀ k,k<a\/a+sizeH hd<=k->loadA h'.W k=loadA h.W k:=by
  intro k hk;rw[hw];exact Z29 hin' oq
 have wa:(loadA h'.W a).1=(Z0a hd).1:=by
  rw[hw,Z1H hin' oq];simp[objW]
 have z:∀ k,a<k->k<a+sizeH hd->(loadA h'.W k).1=0:=by
  intro k h1 h2;rw[hw,Z1H hin' oq];have:(k-a).toNat=(k-a-1).toNat+1:=by omega
  rw[this,objW];simp[M,Lz];split<;>rfl
 have de:=decode_encode hv hm;have ha1:hdA h'.W a=hd:=by rw[hdA,wa,de]
 have ha2:okA h'.W a:=by rw[okA,wa,de]
 have ha3:hlA h'.W a=hd.length:=by rw[hlA,wa,de]
 have ha4:kdA h'.W a≠0:=by rw[kdA,ha1];exact hk
 have hb:∀ j,bsP h' j=bsP h j:=λj=>by rw[bsP,bsP,hc]
 have ky:∀ j x,x∈T j->okA h'.W x/\hlA h'.W x=hlA h.W x/\kdA h'.W x=kdA h.W x/\hdA h'.W x=hdA h.W x/\kpA h'.W x=kpA h.W x/\∀ m,0<=m->m<=hlA h.W x->loadA h'.W (x+m)=loadA h.W (x+m):=by
  intro j x hx;have d:=hdis j x hx;have r:=Z09 h.W x;have o:=Z1E (ws:=h.W) (ws':=h'.W) (a:=x) (by rw[out x oq]);refine⟨o.1 (g.on hx).2.2.2.2.2.1,o.2.1,o.2.2.1,o.2.2.2.1,o.2.2.2.2,λm h1 h2=>out _ oq⟩
 have mem:∀ j x,x∈(if j=i then T i++[a]else T j)->x∈T j\/(j=i/\x=a):=by
  intro j x hx;split at hx
  .rename_i q;subst q;rcases Li.1 hx with hx | hx
   .exact Y hx
   .exact O ⟨rfl,Lk.1 hx⟩
  .exact Y hx
 have mem2:∀ j x,x∈T j->x∈(if j=i then T i++[a]else T j):=by
  intro j x hx;split
  .rename_i q;subst q;exact La _ hx
  .exact hx
 have mem3:a∈(if i=i then T i++[a]else T i):=by simp
 have hnil:(h.P.getD i X).K=0->T i=[]:=λq=>L8.2 λx hx=>by have:=(g.t0 i x hx).2;omega
 refine⟨⟨hp, ?_, ?_, ?_, ?_, ?_, ?_, ?_⟩,ha4,ha1,z,out⟩
 .intro j hj1 hk1;rw[hl]at hj1;rw[hs];by_cases q:j=i
  .subst q;exact hsp
  .rcases hj j hj1 q with e | e
   .rw[e]at hk1 ⊢;exact g.sp j hj1 hk1
   .exact e.2.2
 .intro j hj1 hk1;rw[hl]at hj1;rw[hb,hc];by_cases q:j=i
  .subst q;simp only[if_true];rcases hI with⟨c1,c2,c3,c4,c5⟩ | c
   .refine⟨?_, ?_⟩
    .have last:tile h'.W a (bsP h j+(h'.P.getD j X).U) [a]:=⟨rfl,ha2,by rw[ha3];simp only[tile];omega⟩
     refine ZaT (b:=a) ?_ last;rcases c1 with c1 | c1
     .rw[hnil c1];rw[occP,if_pos c1]at c3;simp only[tile];omega
     .have t:=(g.t1 j hi c1).1;rw[occP,if_neg oq]at c3;rw[c3];exact Z2p t λx hx=>⟨(ky j x hx).1,(ky j x hx).2.1⟩
    .intro x hx;rcases Li.1 hx with hx | hx
     .rw[(ky j x hx).2.1];rcases c1 with c1 | c1
      .rw[hnil c1]at hx;simp at hx
      .exact(g.t1 j hi c1).2 x hx
     .have:=Lk.1 hx;subst this;omega
   .omega
  .rw[if_neg q];rcases hj j hj1 q with e | e
   .rw[e]at hk1 ⊢;have t:=g.t1 j hj1 hk1;exact⟨Z2p t.1 λx hx=>⟨(ky j x hx).1,(ky j x hx).2.1⟩,λx hx=>by rw[(ky j x hx).2.1];exact t.2 x hx⟩
   .omega
 .intro j hj1 hk2;rw[hl]at hj1;rw[hb];by_cases q:j=i
  .subst q;simp only[if_true];rcases hI with c | ⟨c1,c2,c3,c4⟩
   .omega
   .rw[hnil c1,<- c3,ha3];exact⟨rfl,ha2,by omega,ha4⟩
  .rw[if_neg q];rcases hj j hj1 q with e | e
   .rw[e]at hk2 ⊢;have t:=g.t2 j hj1 hk2;have k:=ky j (bsP h j) (by rw[t.1];simp);exact⟨t.1,k.1,by rw[k.2.1];exact t.2.2.1,by rw[k.2.2.1];exact t.2.2.2⟩
   .omega
 .intro j x hx;rw[hl];rcases mem j x hx with hx | ⟨q,_⟩
  .have t:=g.t0 j x hx;refine⟨t.1, ?_⟩;by_cases q:j=i
   .subst q;rcases hI with c | c<;>omega
   .rcases hj j t.1 q with e | e
    .rw[e];exact t.2
    .omega
  .subst q;exact⟨hi,by rcases hI with c | c<;>omega⟩
 .intro k hk0;by_cases hr:k<a\/a+sizeH hd<=k
  .rw[out k hr]at hk0;obtain⟨j,x,hx,h1,h2⟩:=g.d k hk0;exact⟨j,x,mem2 j x hx,h1,by rw[(ky j x hx).2.2.2.2.1];exact h2⟩
  .refine⟨i,a,mem3,by omega, ?_⟩;rw[kpA,if_neg ha4,ha3];omega
 .intro j x k hx hkd h0 h1 hpt;rcases mem j x hx with hx | ⟨_,q⟩
  .have c:=ky j x hx;rw[c.2.2.1]at hkd;rw[c.2.1]at h1;rw[c.2.2.2.1]at hpt;have e:=c.2.2.2.2.2 (1+k) oq oq;rw[<- LO]at e;rw[e];rcases g.q j x k hx hkd h0 h1 hpt with q | ⟨b,b1,b2⟩
   .exact Y q
   .exact O ⟨b,mem2 b _ b1,by rw[(ky b _ b1).2.2.1];exact b2⟩
  .subst q;rw[ha3]at h1;exact Y (z _ oq oq)
 .rw[hc];have:=g.cr;omega
structure NewOk (h h':Heap) (T:Nat->List Int) (hd:Header) (i:Nat) (a:Int):Prop where
 g:Gd h' (λj=>if j=i then T i++[a]else T j)
 k:kdA h'.W a≠0
 e:hdA h'.W a=hd
 z:∀ k,a<k->k<a+sizeH hd->(loadA h'.W k).1=0
 o:∀ k,k<a\/a+sizeH hd<=k->loadA h'.W k=loadA h.W k
 d:∀ j x,x∈T j->x+hlA h.W x<a\/a+sizeH hd<=x
 c:h'.C=h.C
def ZgX{c:Conf}{n:Int}(hn:¬ 0<need c n)(h0:0<=need c n):n<=Z00 c:=by
 unfold need at hn h0;split at h0
 .rename_i hc;rw[if_pos hc]at hn;have hb:=validB_iff.1 hc.1;rw[Z00,if_pos hc.1,L7 oq];split at h0
  .rename_i hd;exact hd
  .rename_i hd;rw[if_neg hd]at hn;have e:=LR (n+c.pw-1) c.pw;have:=LF (n+c.pw-1) (b:=c.pw) oq;have hz:(n+c.pw-1)/c.pw=0:=by omega
   rw[hz]at e;omega
 .omega
def Gd.newOk{h:Heap}{T:Nat->List Int}(g:Gd h T){hd:Header}(hw:WOk h.W)(hm:0<=hd.map/\hd.map<=4294967295)(e:(new7 h hd).2.2=0):∃ i,NewOk h (new7 h hd).1 T hd i (new7 h hd).2.1:=by
 obtain⟨k1,k2,k3,k4,k5,k6,k7,k8⟩:=Zey hw hm e;obtain⟨a1,a2,a3,a4,a5⟩:=Z7W k2;have po:=Z07 g.p;have hpt:=g.p;rw[Z1A]at hpt;obtain⟨p1,p2,p3,p4,p5,p6⟩:=hpt;have hin:4096<=(put7 h hd).2.1/\(put7 h hd).2.1+sizeH hd<=4096+h.W.length:=⟨k3.lo,k3.hi⟩
 have e1:(new7 h hd).1.C=h.C:=by rw[k6];exact k3.c
 have e2:(new7 h hd).1.S=h.S:=by rw[k6];exact k3.sp
 have e3:(new7 h hd).1.P.length=h.P.length:=by rw[k6];exact k3.l
 have e4:(new7 h hd).1.W=(Z0t h.W (put7 h hd).2.1 (objW hd)).1:=by rw[k6]
 have e5:(new7 h hd).1.P=(put7 h hd).1.P:=by rw[k6]
 rw[k5];have fin:∀ i:Nat,i<h.P.length->(∀ j,j<h.P.length->j≠i->(new7 h hd).1.P.getD j X=h.P.getD j X\/((h.P.getD j X).K=0/\((new7 h hd).1.P.getD j X).K=3/\((new7 h hd).1.P.getD j X).S=h.S)) ->
   ((h.P.getD i X).K=0\/(h.P.getD i X).K=1)/\((new7 h hd).1.P.getD i X).K=1/\(put7 h hd).2.1=bsP h i+occP (h.P.getD i X)/\((new7 h hd).1.P.getD i X).U=occP (h.P.getD i X)+sizeH hd/\sizeH hd<=Z00 h.C\/(h.P.getD i X).K=0/\((new7 h hd).1.P.getD i X).K=2/\(put7 h hd).2.1=bsP h i/\((new7 h hd).1.P.getD i X).U=sizeH hd ->
   ((new7 h hd).1.P.getD i X).S=h.S->crowd (new7 h hd).1.P<=crowd h.P->(∀ j x,x∈T j->x+hlA h.W x<(put7 h hd).2.1\/(put7 h hd).2.1+sizeH hd<=x)->∃ i,NewOk h (new7 h hd).1 T hd i (put7 h hd).2.1:=by
  intro i hi hj hI hsp hcr hdis;obtain⟨q1,q2,q3,q4,q5⟩:=g.add a1 hm a5 k7 e1 e2 e3 e4 hin hi hj hI hsp hcr hdis;exact⟨i,q1,q2,q3,q4,q5,hdis,e1⟩
 rw[e5]at fin;by_cases hn:0<need h.C (sizeH hd)
 .have e7:put7 h hd=Z0s h (sizeH hd) (need h.C (sizeH hd)):=by rw[put7,if_pos hn]
  rw[e7]at k4 fin ⊢;by_cases hg:0<=first h.P (need h.C (sizeH hd))/\Z1M h.P+need h.C (sizeH hd)<=Z2c h.C
  .obtain⟨g1,g2,g3⟩:=Z1F hg.1;have el:(Z2w h.C h.P (first h.P (need h.C (sizeH hd))) h.S (sizeH hd)).1=tookP h.P (first h.P (need h.C (sizeH hd))).toNat (need h.C (sizeH hd)).toNat ⟨2,h.S,sizeH hd,0⟩ ⟨3,h.S,0,0⟩:=by
    rw[Z2w,if_pos ⟨g1,by omega⟩,Z2K,if_pos oq,if_pos g3]
   have e8:Z0s h (sizeH hd) (need h.C (sizeH hd))=(⟨h.C,h.W,tookP h.P (first h.P (need h.C (sizeH hd))).toNat (need h.C (sizeH hd)).toNat ⟨2,h.S,sizeH hd,0⟩ ⟨3,h.S,0,0⟩,h.S,h.B⟩,4096+first h.P (need h.C (sizeH hd))*h.C.pw,Z):=by rw[Z0s,if_pos hg,el]
   have hf:∀ j,j<(need h.C (sizeH hd)).toNat->(h.P.getD ((first h.P (need h.C (sizeH hd))).toNat+j) X).K=0:=freeK_iff.1 g3;have hu:=Z4S g1;rw[e8]at fin ⊢;simp only at fin ⊢;generalize hk:need h.C (sizeH hd)=k at *;generalize hfi:first h.P k=f at *
   have hge:∀ j,(tookP h.P f.toNat k.toNat ⟨2,h.S,sizeH hd,0⟩ ⟨3,h.S,0,0⟩).getD j X=if j=f.toNat then⟨2,h.S,sizeH hd,0⟩else if f.toNat<j/\j<f.toNat+k.toNat then⟨3,h.S,0,0⟩else h.P.getD j X:=Z8E oq oq;have h0:=hf 0 oq;rw[Xe]at h0;refine fin f.toNat oq ?_ ?_ ?_ ?_ ?_
   .intro j hj1 hj2;rw[hge,if_neg hj2];split
    .rename_i q;have:=hf (j-f.toNat) oq;rw[show f.toNat+(j-f.toNat)=j by omega]at this;exact O ⟨this,rfl,rfl⟩
    .exact Y rfl
   .rw[hge,if_pos rfl];refine O ⟨h0,rfl, ?_,rfl⟩;rw[bsP,LS oq]
   .rw[hge,if_pos rfl]
   .refine Z6j (Z6s oq) λj hj1 q1 q2=>?_;rw[hge]at q1 q2;split at q1
    .simp at q1
    .rename_i c1;rw[if_neg c1]at q2;split at q1
     .simp at q1
     .rename_i c2;rw[if_neg c2]at q2;exact⟨q1,q2⟩
   .intro j x hx;have o:=g.on hx;have hr:=Z09 h.W x;unfold bsP at o;have hfe:((f.toNat:Nat):Int)=f:=by omega
    by_cases q:j<f.toNat
    .have:=Z4t g.p q oq o.2.1 oq;rw[hfe]at this;omega
    .have hjk:f.toNat+k.toNat<=j:=by
      by_cases q2:f.toNat+k.toNat<=j
      .exact q2
      .have:=hf (j-f.toNat) oq;rw[show f.toNat+(j-f.toNat)=j by omega]at this;omega
     have:=Ly (show f+k<=(j:Int) by omega) (show 0<=h.C.pw by omega);rw[LQ]at this;omega
  .rw[Z0s,if_neg hg]at k4;simp at k4
 .have e7:put7 h hd=Z0j h (sizeH hd):=by rw[put7,if_neg hn]
  have hsm:=ZgX hn a4;have hsw:Z00 h.C<=h.C.pw:=by
   rw[Z00,if_pos p1,L7 oq];omega
  rw[e7]at k4 fin ⊢;by_cases hf:Z7J h (sizeH hd)
  .have e8:Z0j h (sizeH hd)=(⟨h.C,h.W,Z1R h.P h.B.toNat (sizeH hd),h.S,h.B⟩,4096+h.B*h.C.pw+(h.P.getD h.B.toNat X).U,Z):=by rw[Z0j,if_pos hf]
   unfold Z7J at hf;have hbi:h.B.toNat<h.P.length:=by omega
   have hk:(h.P.getD h.B.toNat X).K=1:=by omega
   have hbe:((h.B.toNat:Nat):Int)=h.B:=by omega
   have hoc:occP (h.P.getD h.B.toNat X)=(h.P.getD h.B.toNat X).U:=by rw[occP,if_neg oq]
   rw[e8,Z3E]at fin;rw[e8];simp only at fin ⊢;refine fin h.B.toNat hbi ?_ ?_ ?_ ?_ ?_
   .intro j hj1 hj2;rw[Z0k hbi,if_neg (λq=>hj2 q.symm)];exact Y rfl
   .rw[Z0k hbi,if_pos rfl,hoc];refine Y ⟨O hk,hk, ?_,rfl,hsm⟩;rw[bsP,hbe]
   .rw[Z0k hbi,if_pos rfl];exact hf.2.1
   .refine Z6j (by rw[Lh]) λj hj1 q1 q2=>?_;rw[Z0k hbi]at q1 q2;split at q1
    .rename_i c;rw[if_pos c]at q2;subst c;exact⟨q1,q2⟩
    .rename_i c;rw[if_neg c]at q2;exact⟨q1,q2⟩
   .intro j x hx;have:=g.free hbi (O hk) hx;rw[hoc,bsP,hbe]at this;omega
  .by_cases hg:0<=first h.P 1/\(Z1M h.P:Int)<Z2c h.C
   .have e8:Z0j h (sizeH hd)=(⟨h.C,h.W,Z1R (Z3m h) (first h.P 1).toNat (sizeH hd),h.S,first h.P 1⟩,4096+first h.P 1*h.C.pw+((Z3m h).getD (first h.P 1).toNat X).U,Z):=by rw[Z0j,if_neg hf,if_pos hg]
    obtain⟨g1,g2,g3⟩:=Z2X p4 hg.1 (sizeH hd);have g4:=congrArg Page.U (Z3e p4 hg.1).2.2.2;simp only at g4;have hbe:(((first h.P 1).toNat:Nat):Int)=first h.P 1:=by omega
    have hoc:occP (h.P.getD (first h.P 1).toNat X)=0:=by rw[occP,if_pos g2]
    rw[e8,g1,g4]at fin;rw[e8,g4];simp only at fin ⊢;refine fin (first h.P 1).toNat g3 ?_ ?_ ?_ ?_ ?_
    .intro j hj1 hj2;rw[Z0k g3,if_neg (λq=>hj2 q.symm)];exact Y rfl
    .rw[Z0k g3,if_pos rfl,hoc];refine Y ⟨Y g2,rfl, ?_,by simp,hsm⟩;rw[bsP,hbe]
    .rw[Z0k g3,if_pos rfl]
    .refine Z6j (by rw[Lh]) λj hj1 q1 q2=>?_;rw[Z0k g3]at q1 q2;split at q1
     .rename_i c;rw[if_pos c]at q2;simp at q2
     .rename_i c;rw[if_neg c]at q2;exact⟨q1,q2⟩
    .intro j x hx;have:=g.free g3 (Y g2) hx;rw[hoc,bsP,hbe]at this;omega
   .rw[Z0j,if_neg hf,if_neg hg]at k4;simp at k4
def RtOb(h:Heap)(T:Nat->List Int)(l:List Int):Prop:=∀ r∈l,r=0\/Ob h T r
def WG(w:WorldM):Prop:=∃ T,Gd w.heap T/\RtOb w.heap T w.G/\RtOb w.heap T w.E
def NewOk.ob{h h':Heap}{T:Nat->List Int}{hd:Header}{i:Nat}{a:Int}(n:NewOk h h' T hd i a){x:Int}(hx:Ob h T x):Ob h' (λj=>if j=i then T i++[a]else T j) x:=by
 obtain⟨j,hj,hk⟩:=hx;have r:=Z09 h.W x;have o:=Z1E (ws:=h.W) (ws':=h'.W) (a:=x) (by rw[n.o x (by have:=n.d j x hj;omega)]);refine⟨j, ?_,by rw[o.2.2.1];exact hk⟩;show x∈(if j=i then T i++[a]else T j);split
 .rename_i q;subst q;exact La _ hj
 .exact hj
def NewOk.ob0{h h':Heap}{T:Nat->List Int}{hd:Header}{i:Nat}{a:Int}(n:NewOk h h' T hd i a):Ob h' (λj=>if j=i then T i++[a]else T j) a :=
 ⟨i,by simp,n.k⟩
def WG.put{w:WorldM}(h:WG w)(hw:WOk w.heap.W){hd:Header}(hm:0<=hd.map/\hd.map<=4294967295):WG (w.put hd):=by
 unfold WorldM.put;split
 .rename_i e;obtain⟨T,g,g1,g2⟩:=h;obtain⟨i,n⟩:=g.newOk hw hm e;refine⟨_,n.g,λr hr=>?_,λr hr=>?_⟩
  .rcases Li.1 hr with hr | hr
   .rcases g1 r hr with q | q
    .exact Y q
    .exact O (n.ob q)
   .have:=Lk.1 hr;subst this;exact O n.ob0
  .rcases g2 r hr with q | q
   .exact Y q
   .exact O (n.ob q)
 .exact h
def WG.pick{w:WorldM}{T:Nat->List Int}(g1:RtOb w.heap T w.G)(g2:RtOb w.heap T w.E)(t:Tape):w.pick t=0\/Ob w.heap T (w.pick t):=by
 rcases Zg6 w t with e | e | e
 .exact Y e
 .exact g1 _ e
 .exact g2 _ e
def Gd.setf{h:Heap}{T:Nat->List Int}(g:Gd h T)(hw:WOk h.W){a i v:Int}(hv:0<=v/\v<=18446744073709551615)(ha:Ob h T a)(hi:0<=i/\i<(getH h a).1.length)(hp:Z0c (getH h a).1 i=Z->v=0\/Ob h T v):Gd (Z0n h a i v).1 T/\∀ x,Ob h T x->Ob (Z0n h a i v).1 T x:=by
 obtain⟨j,hj,hk⟩:=ha;have f:=g.fields hj hk;obtain⟨s1,s2,s3⟩:=Z5V hw hv (a:=a) (i:=i) (by rw[f.1]) hi;rw[f.1]at hi hp;have q:=g.store (v:=v) ⟨j,hj,hk⟩ hi hp;rw[s1];refine⟨q.1, ?_⟩;rintro x ⟨m,m1,m2⟩;refine⟨m,m1, ?_⟩;have:=(Z1E (q.2 m x m1)).2.2.1;simp only;rw[this];exact m2
def WG.link{w:WorldM}{n:Nat}(h:WG w)(hm:MOk w n)(hn:n<=1000000)(t:Tape):WG (w.link t):=by
 unfold WorldM.link;split
 .rename_i hc;obtain⟨T,g,g1,g2⟩:=h;have hw:=hm.wm hn;have gg:=Z3B hc.1;have n1:=Z0M (w.pickT (w.pickT t)) (n:=8) dd;have hi:0<=Z4M w t/\Z4M w t<(getH w.heap (w.pick t)).1.length:=by
   unfold Z4M;rw[LK n1.1];exact⟨LJ _ oq,LF _ oq⟩
  have hv:0<=Z53 w t/\Z53 w t<=18446744073709551615:=by
   unfold Z53;split
   .exact Z36 hw _
   .have:=Z0M ((w.pickT (w.pickT t)).step 8) (n:=1048576) dd;omega
  have ho:Ob w.heap T (w.pick t):=by
   rcases WG.pick g1 g2 t with q | q
   .omega
   .exact q
  have s:=g.setf hm.W hv ho hi (λq=>by
   unfold Z53;rw[if_pos q];exact WG.pick g1 g2 _)
  exact⟨T,s.1,λr hr=>(g1 r hr).imp id (s.2 r),λr hr=>(g2 r hr).imp id (s.2 r)⟩
 .exact h
def WG.pinned{w:WorldM}(h:WG w){i:Nat}{d:Int}(hp:Z03 (pinB w i d).heap=Z)(hi:i<w.heap.P.length)(hd:d=-1\/0<(w.heap.P.getD i X).N\/(w.heap.P.getD i X).K=2\/(crowd w.heap.P:Int)<w.heap.C.pg/4):WG (pinB w i d):=by
 obtain⟨T,g,g1,g2⟩:=h;have pp:=Z0u g.p hi;have ks:∀ j,j<w.heap.P.length->((pinB w i d).heap.P.getD j X).K=(w.heap.P.getD j X).K/\((pinB w i d).heap.P.getD j X).S=(w.heap.P.getD j X).S/\((pinB w i d).heap.P.getD j X).U=(w.heap.P.getD j X).U:=by
  intro j hj;simp only[pinB];rw[Z0k hi];split
  .rename_i q;subst q;exact⟨rfl,rfl,rfl⟩
  .exact⟨rfl,rfl,rfl⟩
 have hcr:(crowd (pinB w i d).heap.P:Int)<=w.heap.C.pg/4:=by
  have c0:=g.cr;have mono:(0<(w.heap.P.getD i X).N+d->(w.heap.P.getD i X).K=1->0<(w.heap.P.getD i X).N)->(crowd (pinB w i d).heap.P:Int)<=w.heap.C.pg/4:=by
   intro hh;have:crowd (pinB w i d).heap.P<=crowd w.heap.P:=by
    refine Z6j (by simp[pinB]) λj hj q1 q2=>?_;simp only[pinB]at q1 q2;rw[Z0k hi]at q1 q2;split at q1
    .rename_i c;rw[if_pos c]at q2;subst c;exact⟨q1,hh q2 q1⟩
    .rename_i c;rw[if_neg c]at q2;exact⟨q1,q2⟩
   omega
  rcases hd with q | q | q | q
  .exact mono oq
  .exact mono oq
  .exact mono oq
  .have:=(Z9R (p:=⟨(w.heap.P.getD i X).K,(w.heap.P.getD i X).S,(w.heap.P.getD i X).U,(w.heap.P.getD i X).N+d⟩) hi w.heap.P.length).1;have e:crowd (pinB w i d).heap.P=Z0I (w.heap.P.set i ⟨(w.heap.P.getD i X).K,(w.heap.P.getD i X).S,(w.heap.P.getD i X).U,(w.heap.P.getD i X).N+d⟩) w.heap.P.length:=by
    simp only[crowd,pinB,Lh]
   have e2:crowd w.heap.P=Z0I w.heap.P w.heap.P.length:=rfl;omega
 exact⟨T,g.P hp rfl rfl rfl (by simp[pinB]) ks hcr,g1,g2⟩
def WG.pok{w:WorldM}(h:WG w):POk w:=by
 obtain⟨T,g,g1,g2⟩:=h;have k:∀ l,RtOb w.heap T l->∀ r∈l,RootOn w.heap r:=λl hl r hr=>by
  rcases hl r hr with rfl | ⟨j,hj,_⟩
  .exact ZoS _
  .intro _;rw[g.ofx hj];simpa using (g.on hj).2.1
 exact⟨g.p,k _ g1,k _ g2⟩
def WG.pin{w:WorldM}{n:Nat}(h:WG w)(hm:MOk w n)(hn:n<=1000000)(t:Tape):WG (w.pin t):=by
 have p1:=(h.pok.pin hm hn t).p;unfold WorldM.pin at p1 ⊢;split
 .rename_i e;rw[if_pos e]at p1;have o:=Z3I hm.hv e;have hpl:=hm.pl;have hi:pinI w t<w.heap.P.length:=by unfold pinI;omega
  split
  .rename_i c;rw[if_pos c]at p1;exact h.pinned p1 hi (Y rfl)
  .rename_i c;rw[if_neg c]at p1;split
   .rename_i c2;rw[if_pos c2]at p1;exact h.pinned p1 hi (O c2)
   .exact h
 .exact h
def WG.drop{w:WorldM}(h:WG w)(t:Tape):WG (w.drop t):=by
 unfold WorldM.drop;split
 .rename_i hl;obtain⟨T,g,g1,g2⟩:=h;have n1:=Z0M t (n:=(w.G.length:Int)) oq;refine⟨T,g,λr hr=>?_,λr hr=>?_⟩
  .rcases Li.1 hr with hr | hr
   .exact g1 r (List.mem_of_mem_take hr)
   .exact g1 r (List.mem_of_mem_drop hr)
  .simp only at hr;split at hr
   .rcases Li.1 hr with hr | hr
    .exact g2 r hr
    .simp only[Lk]at hr;subst hr;refine g1 _ (getD_mem_iff.2 ⟨_, ?_,rfl⟩);unfold Zm2;omega
   .exact g2 r hr
 .exact h
def WG.dup{w:WorldM}(h:WG w)(t:Tape):WG (w.dup t):=by
 obtain⟨T,g,g1,g2⟩:=h;refine⟨T,g,λr hr=>?_,g2⟩;rcases Li.1 hr with hr | hr
 .exact g1 r hr
 .simp only[Lk]at hr;subst hr;exact WG.pick g1 g2 _
def ZbH(t:Tape):WG t.empty:=by
 have hpr:=(Zjh t).p;have hv:=Z2P t;have hb:=validB_iff.1 hv;have hz:∀ j,(t.empty.heap.P.getD j X).K=0/\(t.empty.heap.P.getD j X).N=0:=by
  intro j;simp only[Tape.empty,Z2M,M,Lz];split
  .exact⟨rfl,rfl⟩
  .exact⟨rfl,rfl⟩
 refine⟨λ_=>[],⟨hpr, ?_, ?_, ?_,by simp, ?_,by simp, ?_⟩,by simp[RtOb,Tape.empty],by simp[RtOb,Tape.empty]⟩
 .intro i _ hk;exact absurd (hz i).1 hk
 .intro i _ hk;rw[(hz i).1]at hk;omega
 .intro i _ hk;rw[(hz i).1]at hk;omega
 .intro a ha;exfalso;apply ha;show(loadA (Ll (t.C.pw*t.C.pg).toNat 0) a).1=0;unfold loadA;by_cases c:4096<=a/\a<4096+((Ll (t.C.pw*t.C.pg).toNat (0:Int)).length:Int)
  .rw[if_pos c];simp only[M,Lz];split<;>rfl
  .rw[if_neg c]
 .have:crowd t.empty.heap.P=0:=by
   have h0:∀ n,Z0I t.empty.heap.P n=0:=by
    intro n;induction n with
    | zero=>rfl
    | succ n ih =>
     unfold Z0I;rw[ih,if_neg (by rw[(hz n).1];omega)]
   exact h0 _
  rw[this];show(0:Int)<=t.C.pg/4;omega
def Z49{w:Work}{n:Int}(hw:WkOk w)(hn:1<=n/\n<=w.heap.C.pw)(h:(w.place n).2.2=Z) :
  ∃ (i:Nat) (p:Page) (t:List Int),i<w.heap.P.length/\((w.heap.P.getD i X).K=0/\t=w.T++[(i:Int)]/\p.N=0\/(i:Int)∈w.T/\(w.heap.P.getD i X).K=1/\t=w.T/\p.N=(w.heap.P.getD i X).N)/\p.K=1/\p.U=occP (w.heap.P.getD i X)+n/\occP (w.heap.P.getD i X)+n<=w.heap.C.pw/\0<=occP (w.heap.P.getD i X)/\(w.place n).2.1=4096+i*w.heap.C.pw+occP (w.heap.P.getD i X) /\
  (w.place n).1=⟨⟨w.heap.C,w.heap.W,w.heap.P.set i p,w.heap.S,w.heap.B⟩,w.old,t,w.Q,w.D,w.rep⟩:=by
 by_cases hf:Z3C w n
 .have e:w.place n=(⟨⟨w.heap.C,w.heap.W,Z1R w.heap.P (Z0E w).toNat n,w.heap.S,w.heap.B⟩,w.old,w.T,w.Q,w.D,w.rep⟩,4096+Z0E w*w.heap.C.pw+(w.heap.P.getD (Z0E w).toNat X).U,Z):=by rw[Work.place,if_pos hf]
  unfold Z3C at hf;have hm:=hw.tk _ (Z1c hf.1);have hu:=hw.us (Z0E w).toNat oq
  have hoc:occP (w.heap.P.getD (Z0E w).toNat X)=(w.heap.P.getD (Z0E w).toNat X).U:=by rw[occP,if_neg oq]
  have hle:(((Z0E w).toNat:Nat):Int)=Z0E w:=by omega
  refine⟨(Z0E w).toNat,⟨(w.heap.P.getD (Z0E w).toNat X).K,(w.heap.P.getD (Z0E w).toNat X).S,(w.heap.P.getD (Z0E w).toNat X).U+n,(w.heap.P.getD (Z0E w).toNat X).N⟩,w.T,by omega,O ⟨by rw[hle];exact Z1c hf.1,hm.2.2,rfl,rfl⟩,hm.2.2, ?_,by rw[hoc];omega,by rw[hoc];omega, ?_, ?_⟩
  .rw[hoc]
  .rw[e,hoc,hle]
  .rw[e,Z3E]
 .by_cases hg:0<=Z0p w
  .have e:w.place n=(⟨⟨w.heap.C,w.heap.W,Z1R (Z2u w) (Z0p w).toNat n,w.heap.S,w.heap.B⟩,w.old,w.T++[Z0p w],w.Q,w.D,w.rep⟩,4096+Z0p w*w.heap.C.pw,Z):=by rw[Work.place,if_neg hf,if_pos hg]
   obtain⟨g1,g2,g3⟩:=Z2X (h:=⟨w.heap.C,w.heap.W,w.heap.P,1-w.heap.S,w.heap.B⟩) (by have:=hw.sp;simp only;omega) hg n;have g1':Z1R (Z2u w) (Z0p w).toNat n=w.heap.P.set (Z0p w).toNat ⟨1,1-w.heap.S,n,0⟩:=g1;have g2':(w.heap.P.getD (Z0p w).toNat X).K=0:=g2;have g3':(Z0p w).toNat<w.heap.P.length:=g3;have hoc:occP (w.heap.P.getD (Z0p w).toNat X)=0:=by rw[occP,if_pos g2']
   have hle:(((Z0p w).toNat:Nat):Int)=Z0p w:=by omega
   refine⟨(Z0p w).toNat,⟨1,1-w.heap.S,n,0⟩,w.T++[Z0p w],g3',Y ⟨g2',by rw[hle],rfl⟩,rfl,by rw[hoc];simp,by rw[hoc];omega,by rw[hoc];omega, ?_, ?_⟩
   .rw[e,hoc,hle];simp
   .rw[e,g1']
  .rw[Work.place,if_neg hf,if_neg hg]at h;simp at h
structure KI (h:Heap) (T tq:Nat->List Int) (w:Work):Prop where
 c:w.heap.C=h.C
 sp:w.heap.S=h.S
 old:∀ x,x∈w.old↔Ob h T x
 pl:w.heap.P.length=h.P.length
 wl:w.heap.W.length=h.W.length
 pg:∀ i:Nat,(i:Int)∉w.T->(w.heap.P.getD i X).K=(h.P.getD i X).K/\(w.heap.P.getD i X).U=(h.P.getD i X).U/\(w.heap.P.getD i X).N=(h.P.getD i X).N
 tk:∀ i:Nat,(i:Int)∈w.T->i<h.P.length/\(h.P.getD i X).K=0/\(w.heap.P.getD i X).K=1/\(w.heap.P.getD i X).N=0/\(w.heap.P.getD i X).U<=h.C.pw/\tile w.heap.W (bsP h i) (bsP h i+(w.heap.P.getD i X).U) (tq i)/\∀ x∈tq i,x∈w.Q/\kdA w.heap.W x≠0/\hlA w.heap.W x+1<=Z00 h.C
 tk0:∀ i:Nat,(i:Int)∉w.T->tq i=[]
 q:∀ x∈w.Q,(∃ i:Nat,(i:Int)∉w.T/\x∈T i/\kdA h.W x≠0/\(w.heap.P.getD i X).S≠w.heap.S)\/(∃ i:Nat,(i:Int)∈w.T/\x∈tq i)
 hd:∀ i x,x∈T i->(loadA w.heap.W x).1=(loadA h.W x).1\/((Z0e (loadA w.heap.W x).1).2=Z/\(w.heap.P.getD i X).K=1/\(w.heap.P.getD i X).S=w.heap.S)
 dt:∀ a,(loadA w.heap.W a).1≠0->(∃ i x,x∈T i/\x<=a/\a<x+kpA h.W x)\/(∃ i:Nat,(i:Int)∈w.T/\bsP h i<=a/\a<bsP h i+(w.heap.P.getD i X).U)
 lg:∀ i:Nat,(h.P.getD i X).K=2->(w.heap.P.getD i X).S≠w.heap.S->bsP h i∈w.Q
section
variable {h:Heap} {T:Nat->List Int} (g:Gd h T)
include g
theorem KI.nt{tq:Nat->List Int}{w:Work}(k:KI h T tq w){i:Nat}{x:Int}(hx:x∈T i):(i:Int)∉w.T:=by
 intro q;have:=(k.tk i q).2.1;have:=(g.t0 i x hx).2;omega
theorem KI.sepT{tq:Nat->List Int}{w:Work}(k:KI h T tq w){i j:Nat}{x y:Int}(hi:(i:Int)∈w.T)(hx:x∈tq i)(hy:y∈T j):bsP h i<=x/\x+hlA w.heap.W x<bsP h i+h.C.pw/\(y+hlA h.W y<bsP h i\/bsP h i+h.C.pw<=y):=by
 have t:=k.tk i hi;have m:=Z1C t.2.2.2.2.2.1 hx;have f:=g.free t.1 (Y t.2.1) hy;rw[occP,if_pos t.2.1]at f;exact⟨m.2.1,by omega,by omega⟩
omit g in
theorem KI.sepQ(g:Gd h T){tq:Nat->List Int}{w:Work}(k:KI h T tq w){i j:Nat}{x y:Int}(hi:(i:Int)∈w.T)(hx:x∈tq i)(hj:(j:Int)∈w.T)(hy:y∈tq j)(hxy:x<y):x+hlA w.heap.W x<y:=by
 have t:=k.tk i hi;have u:=k.tk j hj;have m:=Z1C t.2.2.2.2.2.1 hx;have n:=Z1C u.2.2.2.2.2.1 hy;have po:=Z07 g.p;have r:=Z09 w.heap.W y;unfold bsP at m n;rcases LM i j with q | q | q
 .have:=Z0Y (i:=i) (j:=j) (pw:=h.C.pw) oq oq;omega
 .subst q;exact Zbm t.2.2.2.2.2.1 hx hy hxy
 .have:=Z0Y (i:=j) (j:=i) (pw:=h.C.pw) oq oq;omega
theorem KI.withWords{tq:Nat->List Int}{w:Work}(k:KI h T tq w){l:List Int}(hl:l.length=w.heap.W.length)(h1:∀ i x,x∈T i->(loadA l x).1=(loadA w.heap.W x).1)(h2:∀ (i:Nat) x,(i:Int)∈w.T->x∈tq i->(loadA l x).1=(loadA w.heap.W x).1)
  (h3:∀ a,(loadA l a).1≠0->(loadA w.heap.W a).1≠0\/(∃ i x,x∈T i/\x<=a/\a<x+kpA h.W x)\/(∃ i:Nat,(i:Int)∈w.T/\bsP h i<=a/\a<bsP h i+(w.heap.P.getD i X).U)) :
  KI h T tq ⟨⟨w.heap.C,l,w.heap.P,w.heap.S,w.heap.B⟩,w.old,w.T,w.Q,w.D,w.rep⟩:=by
 refine⟨k.c,k.sp,k.old,k.pl,hl.trans k.wl,k.pg, ?_,k.tk0,k.q, ?_, ?_,k.lg⟩
 .intro i hi;obtain⟨t1,t2,t3,t4,t5,t6,t7⟩:=k.tk i hi;have ky:=λx hx=>Z1E (h2 i x hi hx);refine⟨t1,t2,t3,t4,t5,Z2p t6 λx hx=>⟨(ky x hx).1 (Z1C t6 hx).1,(ky x hx).2.1⟩,λx hx=>?_⟩;have:=t7 x hx;simp only;rw[(ky x hx).2.2.1,(ky x hx).2.1];exact this
 .intro i x hx;simp only;rw[h1 i x hx];exact k.hd i x hx
 .intro a ha;rcases h3 a ha with q | q
  .exact k.dt a q
  .exact q
theorem KI.keep{tq:Nat->List Int}{w:Work}(k:KI h T tq w){r:Int}{i:Nat}(hi:r∈T i)(hk:kdA h.W r≠0)(hs:(w.heap.P.getD i X).S≠w.heap.S):KI h T tq (w.keep r):=by
 refine⟨k.c,k.sp,k.old,k.pl,k.wl,k.pg, ?_,k.tk0, ?_,k.hd,k.dt, ?_⟩
 .intro j hj;obtain⟨t1,t2,t3,t4,t5,t6,t7⟩:=k.tk j hj;exact⟨t1,t2,t3,t4,t5,t6,λx hx=>⟨La _ (t7 x hx).1,(t7 x hx).2⟩⟩
 .intro x hx;simp only[Work.keep,Li,Lk]at hx;rcases hx with hx | rfl
  .exact k.q x hx
  .exact Y ⟨i,k.nt g hi,hi,hk,hs⟩
 .intro j h1 h2;exact La _ (k.lg j h1 h2)
theorem KI.flip{tq:Nat->List Int}{w:Work}(k:KI h T tq w)(hw:WkOk w){r:Int}{i:Nat}(hi:r∈T i)(hk:kdA h.W r≠0)(h2:(w.heap.P.getD i X).K=2):KI h T tq ((w.flip i).keep r):=by
 have hil:=(g.t0 i r hi).1;have hpl:=k.pl;have hsp:=hw.sp;have hu:∀ j,((Z0H w.heap.P i (Z0z w.heap.P i) (1-w.heap.S)).getD j X).K=(w.heap.P.getD j X).K/\((Z0H w.heap.P i (Z0z w.heap.P i) (1-w.heap.S)).getD j X).U=(w.heap.P.getD j X).U/\((Z0H w.heap.P i (Z0z w.heap.P i) (1-w.heap.S)).getD j X).N=(w.heap.P.getD j X).N:=by
  intro j;by_cases hj:j<w.heap.P.length
  .rw[Z1h hj];split
   .exact⟨rfl,rfl,rfl⟩
   .exact⟨rfl,rfl,rfl⟩
  .rw[M,M,Lg (by rw[Z1i];omega),Lg oq];exact⟨rfl,rfl,rfl⟩
 have hs1:∀ j,(w.heap.P.getD j X).K=1->((Z0H w.heap.P i (Z0z w.heap.P i) (1-w.heap.S)).getD j X).S=(w.heap.P.getD j X).S:=by
  intro j hj;by_cases hjl:j<w.heap.P.length
  .rw[Z1h hjl];split
   .rename_i c;exfalso;by_cases q:j=i
    .subst q;omega
    .have:=(Z7h (l:=w.heap.P) (i:=i) (m:=j-i-1) oq).2;rw[show i+1+(j-i-1)=j by omega]at this;omega
   .rfl
  .rw[M,M,Lg (by rw[Z1i];omega),Lg oq]
 have hs2:∀ j,(w.heap.P.getD j X).S≠w.heap.S->((Z0H w.heap.P i (Z0z w.heap.P i) (1-w.heap.S)).getD j X).S≠w.heap.S:=by
  intro j hj;by_cases hjl:j<w.heap.P.length
  .rw[Z1h hjl];split
   .simp only[Zb3];omega
   .exact hj
  .rw[M,Lg (by rw[Z1i];omega)];rw[M,Lg oq]at hj;exact hj
 have hs3:∀ j,(w.heap.P.getD j X).K=2->j≠i->((Z0H w.heap.P i (Z0z w.heap.P i) (1-w.heap.S)).getD j X).S=(w.heap.P.getD j X).S:=by
  intro j hj hne;by_cases hjl:j<w.heap.P.length
  .rw[Z1h hjl];split
   .rename_i c;exfalso;have:=(Z7h (l:=w.heap.P) (i:=i) (m:=j-i-1) oq).2;rw[show i+1+(j-i-1)=j by omega]at this;omega
   .rfl
  .rw[M,Lg oq]at hj;have d:(X:Page).K=0:=rfl;simp only[Xf]at hj;omega
 have hsi:((Z0H w.heap.P i (Z0z w.heap.P i) (1-w.heap.S)).getD i X).S≠w.heap.S:=by
  rw[Z1h oq,if_pos ⟨Le _,Nat.le_add_right _ _⟩];simp only[Zb3];omega
 have kf:KI h T tq ⟨⟨w.heap.C,w.heap.W,Z0H w.heap.P i (Z0z w.heap.P i) (1-w.heap.S),w.heap.S,w.heap.B⟩,w.old,w.T,w.Q++[r],w.D,w.rep⟩:=by
  refine⟨k.c,k.sp,k.old,by simp only[Z1i];exact k.pl,k.wl, ?_, ?_,k.tk0, ?_, ?_, ?_, ?_⟩
  .intro j hj;simp only[hu];exact k.pg j hj
  .intro j hj;simp only[hu];obtain⟨t1,t2,t3,t4,t5,t6,t7⟩:=k.tk j hj;exact⟨t1,t2,t3,t4,t5,t6,λx hx=>⟨La _ (t7 x hx).1,(t7 x hx).2⟩⟩
  .intro x hx;simp only[Li,Lk]at hx;rcases hx with hx | rfl
   .rcases k.q x hx with⟨j,j1,j2,j3,j4⟩ | q
    .exact Y ⟨j,j1,j2,j3,hs2 j j4⟩
    .exact O q
   .exact Y ⟨i,k.nt g hi,hi,hk,hsi⟩
  .intro j x hx;rcases k.hd j x hx with q | q
   .exact Y q
   .refine O ⟨q.1, ?_, ?_⟩
    .simp only[hu];exact q.2.1
    .simp only;rw[hs1 j q.2.1];exact q.2.2
  .intro a ha;simp only[hu];exact k.dt a ha
  .intro j h1 h2';simp only at h2' ⊢;by_cases q:j=i
   .subst q;have:=(g.on hi).2.2.2.2.2.2 h1;rw[<- this.1];simp
   .have hjt:(j:Int)∉w.T:=λq=>by have:=(k.tk j q).2.1;omega
    rw[hs3 j (by rw[(k.pg j hjt).1];exact h1) q]at h2';exact La _ (k.lg j h1 h2')
 exact⟨kf.c,kf.sp,kf.old,kf.pl,kf.wl,kf.pg,kf.tk,kf.tk0,kf.q,kf.hd,kf.dt,kf.lg⟩
end
section
variable {h:Heap} {T:Nat->List Int} (g:Gd h T)
include g
theorem KI.copy{tq:Nat->List Int}{w:Work}(k:KI h T tq w)(hw:WkOk w){r n:Int}{i0:Nat}(hr:r∈T i0)(hkd:kdA h.W r≠0)(h1:(h.P.getD i0 X).K=1)(hs:(w.heap.P.getD i0 X).S=w.heap.S)(he:(loadA w.heap.W r).1=(loadA h.W r).1)
  (hn:n=hlA w.heap.W r+1) (hp:n<=w.heap.C.pw) (hc:(w.place n).2.2=Z):∃ tq',KI h T tq' ((w.place n).1.copy r (w.place n).2.1 n):=by
 have hlr:=Z09 w.heap.W r;have ey:=Z1E he;obtain⟨i,p,t,p1,p2,p3,p4,p5,p6,p7,e⟩:=Z49 hw ⟨by omega,hp⟩ hc;have hcc:=k.c;have hpl:=k.pl;have hwl:=k.wl;have po:=Z07 g.p;have hin:=g.inw hr;have hki:(h.P.getD i X).K=0:=by
  rcases p2 with q | q
  .by_cases c:(i:Int)∈w.T
   .exact(k.tk i c).2.1
   .rw[<- (k.pg i c).1];exact q.1
  .exact(k.tk i q.1).2.1
 have hio:=Z0Y (i:=i) (j:=h.C.pg) (pw:=h.C.pw) oq oq;rw[Ls h.C.pg]at hio;have hi0:0<=(i:Int)*h.C.pw:=Lx oq oq;rw[hcc]at p5 p7 hp;have hbp:4096+(i:Int)*h.C.pw=bsP h i:=rfl;rw[e,p7,hbp];generalize hu:occP (w.heap.P.getD i X)=u at *;generalize ha:bsP h i+u=a;have hbl:4096<=a/\a+n<=4096+w.heap.W.length:=by omega
 have far:∀ j x,x∈T j->x+hlA h.W x<bsP h i\/bsP h i+h.C.pw<=x:=by
  intro j x hx;have:=g.free (show i<h.P.length by omega) (Y hki) hx;rw[occP,if_pos hki]at this;omega
 have farr:=far i0 r hr;obtain⟨m1,m2,m3⟩:=Z58 (ws:=w.heap.W) (a:=a) (b:=r) (n:=n) oq oq oq;have hsr:4096<=r/\r<4096+(moveA w.heap.W a r n).1.length:=by omega
 have w1:∀ x,x≠r->(x<a\/a+n<=x)->loadA (Z0B (moveA w.heap.W a r n).1 r (4*a+2)).1 x=loadA w.heap.W x:=λx q1 q2=>by rw[Z0l hsr q1,m3 x q2]
 have w2:(loadA (Z0B (moveA w.heap.W a r n).1 r (4*a+2)).1 r).1=4*a+2:=by rw[Z1s hsr]
 have w3:(loadA (Z0B (moveA w.heap.W a r n).1 r (4*a+2)).1 a).1=(loadA w.heap.W r).1:=by rw[Z0l hsr oq,m2]
 have hlen:(Z0B (moveA w.heap.W a r n).1 r (4*a+2)).1.length=w.heap.W.length:=by rw[Z2m hsr,m1]
 have hit:(i:Int)∈t:=by rcases p2 with q | q;(rw[q.2.1];simp);(rw[q.2.2.1];exact q.1)
 have htt:∀ x,x∈t↔x∈w.T\/x=(i:Int):=by
  intro x;rcases p2 with q | q
  .rw[q.2.1];simp
  .rw[q.2.2.1];exact⟨Y,λc=>c.elim id λc=>c▸q.1⟩
 have w4:∀ (j:Nat) x,(j:Int)∈w.T->x∈tq j->x≠r/\(x<a\/a+n<=x)/\(j=i->x+hlA w.heap.W x<a):=by
  intro j x hj hx;have s:=k.sepT g hj hx hr;have rx:=Z09 w.heap.W x;have t:=k.tk j hj;have m:=Z1C t.2.2.2.2.2.1 hx;refine⟨by omega, ?_⟩;rcases LM j i with q | q | q
  .have:=Z0Y (i:=j) (j:=i) (pw:=h.C.pw) oq oq;unfold bsP at s;rw[<- hbp]at ha;exact⟨Y oq,λq2=>by omega⟩
  .subst q;have:u=(w.heap.P.getD j X).U:=by rw[<- hu,occP,if_neg oq]
   exact⟨Y oq,λ_=>by omega⟩
  .have:=Z0Y (i:=i) (j:=j) (pw:=h.C.pw) oq oq;unfold bsP at s;rw[<- hbp]at ha;exact⟨O oq,λq2=>by omega⟩
 have kq:∀ (j:Nat) x,(j:Int)∈w.T->x∈tq j->(loadA (Z0B (moveA w.heap.W a r n).1 r (4*a+2)).1 x).1=(loadA w.heap.W x).1:=λj x hj hx=>by
  have:=w4 j x hj hx;rw[w1 x this.1 this.2.1]
 refine⟨λj=>if j=i then tq i++[a]else tq j,k.c,k.sp,k.old, ?_, ?_, ?_, ?_, ?_, ?_, ?_, ?_, ?_⟩
 .simp only[Work.copy,Lh];exact k.pl
 .simp only[Work.copy,hlen];exact k.wl
 .intro j hj;simp only[Work.copy]at hj ⊢;have hj':=λq=>hj ((htt _).2 (Y q));have hne:¬ i=j:=λq=>hj (q▸hit);rw[Z0k p1,if_neg hne];exact k.pg j hj'
 .intro j hj;simp only[Work.copy]at hj ⊢;rw[Z0k p1];by_cases q:i=j
  .subst q;rw[if_pos rfl];simp only[if_true];have ka:=Z1E (ws:=w.heap.W) (ws':=(Z0B (moveA w.heap.W a r n).1 r (4*a+2)).1) (a:=a);have ke:hdA (Z0B (moveA w.heap.W a r n).1 r (4*a+2)).1 a=hdA h.W r:=by rw[hdA,hdA,w3,he]
   have kl:hlA (Z0B (moveA w.heap.W a r n).1 r (4*a+2)).1 a=n-1:=by
    have:hlA (Z0B (moveA w.heap.W a r n).1 r (4*a+2)).1 a=hlA w.heap.W r:=by rw[hlA,hlA,w3]
    omega
   have kk:okA (Z0B (moveA w.heap.W a r n).1 r (4*a+2)).1 a:=by
    have:=(g.on hr).2.2.2.2.2.1;rw[okA]at this ⊢;rw[w3,he];exact this
   refine⟨by omega,hki,p3, ?_,by omega, ?_, ?_⟩
   .rcases p2 with q | q
    .exact q.2.2
    .rw[q.2.2.2];exact(k.tk i q.1).2.2.2.1
   .refine ZaT (b:=a) ?_ ⟨rfl,kk,by rw[kl];simp only[tile];omega⟩;by_cases c:(i:Int)∈w.T
    .have t:=k.tk i c;have hue:u=(w.heap.P.getD i X).U:=by rw[<- hu,occP,if_neg oq]
     have t6:=t.2.2.2.2.2.1;rw[<- hue,ha]at t6;exact Z2p t6 λx hx=>⟨(Z1E (kq i x c hx)).1 (Z1C t6 hx).1,(Z1E (kq i x c hx)).2.1⟩
    .rw[k.tk0 i c];have hue:u=0:=by
      rcases p2 with q | q
      .rw[<- hu,occP,if_pos q.1]
      .exact absurd q.1 c
     simp only[tile];omega
   .intro x hx;rcases Li.1 hx with hx | hx
    .by_cases c:(i:Int)∈w.T
     .have t:=(k.tk i c).2.2.2.2.2.2 x hx;have o:=Z1E (kq i x c hx);rw[o.2.2.1,o.2.1];exact⟨La _ t.1,t.2⟩
     .rw[k.tk0 i c]at hx;simp at hx
    .have:=Lk.1 hx;subst this;refine⟨by simp,by rw[kdA,ke];exact hkd, ?_⟩;have:=(g.t1 i0 (g.t0 i0 r hr).1 h1).2 r hr;rw[kl];have:=ey.2.1;omega
  .rw[if_neg q];have hj':(j:Int)∈w.T:=by
    rcases(htt _).1 hj with c | c
    .exact c
    .omega
   obtain⟨t1,t2,t3,t4,t5,t6,t7⟩:=k.tk j hj';simp only[show ¬ j=i from λc=>q c.symm,if_false];refine⟨t1,t2,t3,t4,t5,Z2p t6 λx hx=>⟨(Z1E (kq j x hj' hx)).1 (Z1C t6 hx).1,(Z1E (kq j x hj' hx)).2.1⟩,λx hx=>?_⟩;have o:=Z1E (kq j x hj' hx);rw[o.2.2.1,o.2.1];exact⟨La _ (t7 x hx).1,(t7 x hx).2⟩
 .intro j hj;simp only[Work.copy]at hj;have hne:¬ j=i:=λq=>hj (q▸hit);simp only[hne,if_false];exact k.tk0 j λq=>hj ((htt _).2 (Y q))
 .intro x hx;simp only[Work.copy,Li,Lk]at hx ⊢;rcases hx with hx | rfl
  .rcases k.q x hx with⟨j,j1,j2,j3,j4⟩ | ⟨j,j1,j2⟩
   .have hne:¬ i=j:=by
     rintro rfl;have:=(g.t0 i x j2).2;omega
    refine Y ⟨j,λc=>?_,j2,j3,by rw[Z0k p1,if_neg hne];exact j4⟩;rcases(htt _).1 c with c | c
    .exact j1 c
    .omega
   .refine O ⟨j,(htt _).2 (Y j1), ?_⟩;split
    .rename_i q;subst q;exact La _ j2
    .exact j2
  .exact O ⟨i,hit,by simp⟩
 .intro j x hx;simp only[Work.copy];have hne:¬ i=j:=by
   rintro rfl;have:=(g.t0 i x hx).2;omega
  rw[Z0k p1,if_neg hne];by_cases q:x=r
  .subst q;refine O ⟨by rw[w2,Z5y oq oq], ?_, ?_⟩
   .have e1:=g.ofx hx;have e2:=g.ofx hr;rw[e1]at e2;have:j=i0:=by simp only[Prod.mk.injEq]at e2;omega
    subst this;rw[(k.pg j (k.nt g hx)).1];exact h1
   .have e1:=g.ofx hx;have e2:=g.ofx hr;rw[e1]at e2;have:j=i0:=by simp only[Prod.mk.injEq]at e2;omega
    subst this;exact hs
  .have f:=far j x hx;have rx:=Z09 h.W x;rw[w1 x q oq];exact k.hd j x hx
 .intro b hb;simp only[Work.copy]at hb ⊢;by_cases q:a<=b/\b<a+n
  .exact O ⟨i,hit,by omega,by rw[Z0k p1,if_pos rfl];omega⟩
  .by_cases q2:b=r
   .refine Y ⟨i0,r,hr,by omega, ?_⟩;rw[kpA,if_neg hkd];have:=Z09 h.W r;omega
   .rw[w1 b q2 oq]at hb;rcases k.dt b hb with c | ⟨j,j1,j2,j3⟩
    .exact Y c
    .refine O ⟨j,(htt _).2 (Y j1),j2, ?_⟩;rw[Z0k p1];split
     .rename_i c;subst c;have:=(k.tk i j1).2.2.1;have:u=(w.heap.P.getD i X).U:=by rw[<- hu,occP,if_neg oq]
      omega
     .exact j3
 .intro j h2 hsj;simp only[Work.copy]at hsj ⊢;have hne:¬ i=j:=by rintro rfl;omega
  rw[Z0k p1,if_neg hne]at hsj;exact La _ (k.lg j h2 hsj)
theorem KI.fwd{tq:Nat->List Int}{w:Work}(k:KI h T tq w)(hw:WkOk w)(hi:CIv w)(r:Int)(e:(w.fwd r).2.2=0):∃ tq',KI h T tq' (w.fwd r).1:=by
 unfold Work.fwd at e ⊢;split at e
 .rename_i c1;rw[if_pos c1];exact⟨tq,k⟩
 .rename_i c1;rw[if_neg c1];split at e
  .simp at e
  .rename_i c2;rw[if_neg c2];have c2':r∈w.old:=LN.1 c2;obtain⟨i0,hr,hkd⟩:=(k.old r).1 c2';have ofr:ofA w.heap.C r=((i0:Int),r-bsP h i0,0):=by rw[k.c];exact g.ofx hr
   have nt:=k.nt g hr;have pgi:=k.pg i0 nt;have hil:=(g.t0 i0 r hr).1;have hki:=(g.t0 i0 r hr).2;have hpl:=k.pl;split at e
   .rename_i c3;rw[if_pos c3];exact⟨tq,k⟩
   .rename_i c3;rw[if_neg c3];split at e
    .simp at e
    .rename_i c4;rw[if_neg c4];split at e
     .rename_i c5;rw[if_pos c5];simp only[Z13,decide_eq_true_eq]at c5;rw[ofr]at c5;simp only[Lc]at c5;exact⟨tq,k.keep g hr hkd c5.2.2.2.1⟩
     .rename_i c5;rw[if_neg c5];have epw:Z1q w r=i0:=by rw[Z1q,ofr];simp
      split at e
      .rename_i c6;rw[if_pos c6];rw[epw]at c6 ⊢;exact⟨tq,k.flip g hw hr hkd c6⟩
      .rename_i c6;rw[if_neg c6];split at e
       .simp at e
       .rename_i c7;rw[if_neg c7];have c7':(w.place (sizeH (hdW w r))).2.2=Z:=by simpa using c7
        rw[epw]at c6;have k1:(h.P.getD i0 X).K=1:=by omega
        have hs:(w.heap.P.getD i0 X).S=w.heap.S:=by
         by_cases q:(w.heap.P.getD i0 X).S=w.heap.S
         .exact q
         .exfalso;apply c5;simp only[Z13,decide_eq_true_eq];rw[ofr];simp only[Lc];exact⟨by omega,by omega,by omega,q,nt⟩
        have he:(loadA w.heap.W r).1=(loadA h.W r).1:=by
         rcases k.hd i0 r hr with q | q
         .exact q
         .exact absurd q.1 c3
        have hz:=hi.z r c2';have hp:sizeH (hdW w r)<=w.heap.C.pw:=by
         rw[Z2t];rw[ofr]at hz;simp only[Lc]at hz;rcases hz with hz | hz
         .exact absurd hz c6
         .exact hz
        exact k.copy g hw hr hkd k1 hs he (Z2t w r) hp c7'
theorem KI.field{tq:Nat->List Int}{w:Work}(k:KI h T tq w){q j:Int}(hq:q∈w.Q)(hj:0<=j/\j<hlA w.heap.W q) :
  (∀ i x,x∈T i->x≠q+1+j)/\(∀ (i:Nat) x,(i:Int)∈w.T->x∈tq i->x≠q+1+j)/\((∃ i x,x∈T i/\x<=q+1+j/\q+1+j<x+kpA h.W x)\/(∃ i:Nat,(i:Int)∈w.T/\bsP h i<=q+1+j/\q+1+j<bsP h i+(w.heap.P.getD i X).U)):=by
 rcases k.q q hq with⟨i,i1,i2,i3,i4⟩ | ⟨i,i1,i2⟩
 .have he:(loadA w.heap.W q).1=(loadA h.W q).1:=by
   rcases k.hd i q i2 with c | c
   .exact c
   .exact absurd c.2.2 i4
  have o:=Z1E he;rw[o.2.1]at hj;refine⟨λm x hx c=>?_,λm x hm hx c=>?_,Y ⟨i,q,i2,by omega,by rw[kpA,if_neg i3];omega⟩⟩
  .have:=g.sep i2 hx oq;omega
  .have:=k.sepT g hm hx i2;have:=Z09 w.heap.W x;omega
 .have t:=k.tk i i1;have m:=Z1C t.2.2.2.2.2.1 i2;refine⟨λm x hx c=>?_,λm x hm hx c=>?_,O ⟨i,i1,by omega,by omega⟩⟩
  .have:=k.sepT g i1 i2 hx;have:=Z09 h.W x;omega
  .have:=k.sepQ g i1 i2 hm hx oq;omega
theorem KI.in1{tq:Nat->List Int}{w:Work}(k:KI h T tq w)(hw:WkOk w)(hi:CIv w){q j:Int}(hq:q∈w.Q)(hj:0<=j/\j<hlA w.heap.W q)(e:(w.fwd (loadA w.heap.W (q+1+j)).1).2.2=0):∃ tq',KI h T tq' (w.in1 (q+1+j)):=by
 obtain⟨tq',k'⟩:=k.fwd g hw hi _ e;obtain⟨i1,x1⟩:=Z3z hw hi _ e;have hq1:=x1.q q hq;have hl1:=x1.l q hq;have hr:=i1.r q (Lr _ hq1);have hin:4096<=q+1+j/\q+1+j<4096+(w.fwd (loadA w.heap.W (q+1+j)).1).1.heap.W.length:=by omega
 obtain⟨f1,f2,f3⟩:=k'.field g hq1 (j:=j) oq;refine⟨tq',k'.withWords g (Z2m hin) (λi x hx=>?_) (λi x hm hx=>?_) (λa ha=>?_)⟩
 .rw[Z0l hin (f1 i x hx)]
 .rw[Z0l hin (f2 i x hm hx)]
 .by_cases c:a=q+1+j
  .subst c;exact O f3
  .rw[Z0l hin c]at ha;exact Y ha
theorem KI.begin:KI h T (λ_=>[]) (beginW h):=by
 have hq:∀ j,((h.P.map (begQ (1-h.S))).getD j X).K=(h.P.getD j X).K/\((h.P.map (begQ (1-h.S))).getD j X).U=(h.P.getD j X).U/\((h.P.map (begQ (1-h.S))).getD j X).N=(h.P.getD j X).N/\((h.P.getD j X).K=2->((h.P.map (begQ (1-h.S))).getD j X).S=(h.P.getD j X).S):=by
  intro j;by_cases hj:j<h.P.length
  .have:(h.P.map (begQ (1-h.S))).getD j X=begQ (1-h.S) (h.P.getD j X):=by simp[M,hj]
   rw[this,begQ];split
   .rename_i c;exact⟨rfl,rfl,rfl,λq=>by omega⟩
   .exact⟨rfl,rfl,rfl,λ_=>rfl⟩
  .rw[M,M,Lg qo,Lg oq];exact⟨rfl,rfl,rfl,λ_=>rfl⟩
 refine⟨rfl,rfl,g.objs.2,by simp[beginW],rfl,λi _=>⟨(hq i).1,(hq i).2.1,(hq i).2.2.1⟩,by simp[beginW],λ_ _=>rfl,by simp[beginW],λ_ _ _=>Y rfl,λa ha=>Y (g.d a ha), ?_⟩;intro i h2 hs;exfalso;simp only[beginW]at hs;rw[(hq i).2.2.2 h2]at hs;by_cases hi:i<h.P.length
 .exact hs (g.sp i hi oq)
 .rw[M,Lg oq]at h2;have d:(X:Page).K=0:=rfl;simp only[Xf]at h2;omega
theorem ZoP{s:List Int}(hw:WOk h.W)(e:(rootsF (beginW h) s).2.2=0)(e2:(allF (rootsF (beginW h) s).1).2=0):∃ tq,KI h T tq (cW2 h s) :=
 Zkn (λw=>∃ tq,KI h T tq w) (λw r hw hi ⟨_,k⟩ e=>k.fwd g hw hi r e) (λw q j hw hi ⟨_,k⟩ hq h0 h1 e=>k.in1 g hw hi hq ⟨h0,h1⟩ e) (λw n ⟨tq,k⟩=>⟨tq,k.c,k.sp,k.old,k.pl,k.wl,k.pg,k.tk,k.tk0,k.q,k.hd,k.dt,k.lg⟩) hw g.p ⟨_,KI.begin g⟩ e e2
end
def SpOk(l:List Page):Prop:=∀ p∈l,p.S=0\/p.S=1
def SpOk.at{l:List Page}(h:SpOk l){i:Nat}(hi:i<l.length):(l.getD i X).S=0\/(l.getD i X).S=1:=by
 rw[M,Ln hi];exact h _ (List.getElem_mem hi)
def SpOk.set{l:List Page}(h:SpOk l)(i:Nat){p:Page}(hp:p.S=0\/p.S=1):SpOk (l.set i p):=λq hq=>by
 rcases List.mem_or_eq_of_mem_set hq with q1 | q1
 .exact h q q1
 .rw[q1];exact hp
def SpOk.fwd{w:Work}(hw:WkOk w)(h:SpOk w.heap.P)(r:Int)(e:(w.fwd r).2.2=0):SpOk (w.fwd r).1.heap.P:=by
 have sp:=hw.sp;have pl:∀ n,(w.place n).2.2=Z->SpOk (w.place n).1.heap.P:=λn hn=>by
  by_cases hf:Z3C w n
  .rw[Work.place,if_pos hf];unfold Z3C at hf;have hm:=hw.tk _ (Z1c hf.1);show SpOk (Z1R _ _ _);rw[Z3E];exact h.set _ (h.at oq)
  .by_cases hg:0<=Z0p w
   .rw[Work.place,if_neg hf,if_pos hg];obtain⟨g1,_,_⟩:=Z2X (h:=⟨w.heap.C,w.heap.W,w.heap.P,1-w.heap.S,w.heap.B⟩) (by simp only;omega) hg n;have g1':Z1R (Z2u w) (Z0p w).toNat n=w.heap.P.set (Z0p w).toNat ⟨1,1-w.heap.S,n,0⟩:=g1;show SpOk (Z1R _ _ _);rw[g1'];exact h.set _ (by simp only;omega)
   .rw[Work.place,if_neg hf,if_neg hg]at hn;cases hn
 unfold Work.fwd at e ⊢;repeat' split at e
 all_goals first | (simp at e;done) | skip
 all_goals (repeat' (first | rw[if_pos aa] | rw[if_neg aa]))
 all_goals first | exact h | skip
 .intro p hp;simp only[Work.keep,Work.flip,Z0H,Xc,Lb]at hp;obtain⟨j,hj,rfl⟩:=hp;split
  .simp only[Zb3];omega
  .exact h.at hj
 .exact pl _ (by simp only[Bool.not_eq_false]at *;assumption)
def SpOk.begin{h:Heap}(hp:Z03 h=Z):SpOk (beginW h).heap.P:=λp hq=>by
 have po:=Z07 hp;simp only[beginW,Xc]at hq;obtain⟨q,hq,rfl⟩:=hq;obtain⟨i,hi,rfl⟩:=LH hq;have pp:=Z0u hp hi;rw[M,Ln hi,Lw]at pp;unfold begQ;split
 .simp only;omega
 .omega
structure CkOk (w:Work):Prop where
 ok:WkOk w
 so:SpOk w.heap.P
 L:(w.heap.W.length:Int)=w.heap.C.pw*w.heap.C.pg
structure FwOk (w:Work) (r:Int):Prop where
 ck:CkOk w
 rg:0<=r/\r<=18446744073709551615
 ol:r∈w.old->4096<=r/\r+hlA w.heap.W r<4096+w.heap.W.length/\(ofA w.heap.C r).2.2=0/\(ofA w.heap.C r).1.toNat<w.heap.P.length
 dc:r∈w.old->(Z0e (loadA w.heap.W r).1).2=Lf->(decodeH (loadA w.heap.W r).1).2=Z
 sz:r∈w.old->(w.heap.P.getD (ofA w.heap.C r).1.toNat X).K=2\/hlA w.heap.W r+1<=w.heap.C.pw
structure Col (h:Heap) (T:Nat->List Int) (w:Work):Prop where
 k:∃ tq,KI h T tq w
 ok:WkOk w
 inv:CIv w
 so:SpOk w.heap.P
def Col.begin{h:Heap}{T:Nat->List Int}(g:Gd h T)(hw:WOk h.W):Col h T (beginW h) :=
 ⟨⟨_,KI.begin g⟩,Z3o hw g.p,Z3g g.p,SpOk.begin g.p⟩
def Col.fwd{h:Heap}{T:Nat->List Int}{w:Work}(c:Col h T w)(g:Gd h T){r:Int}(e:(w.fwd r).2.2=0):Col h T (w.fwd r).1:=by
 obtain⟨tq,k⟩:=c.k;exact⟨k.fwd g c.ok c.inv r e,(fwd_ok c.ok r e).1,(Z3z c.ok c.inv r e).1,c.so.fwd c.ok r e⟩
def Col.ck{h:Heap}{T:Nat->List Int}{w:Work}(c:Col h T w):CkOk w:=⟨c.ok,c.so,c.inv.L⟩
def sumP(f:Page->Int)(l:List Page):Int:=(l.map f).sum
def nzP(p:Page):Int:=if p.K=0 then 0 else 1
def usP(p:Page):Int:=if p.K=1 then p.U else 0
def unP(p:Page):Int:=if p.K=1/\¬ 0<p.N then p.U else 0
def lgP(p:Page):Int:=if p.K=2\/p.K=3 then 1 else 0
def Z5h(f:Page->Int)(p:Page):∀ (l:List Page) (i:Nat),i<l.length->sumP f (l.set i p)+f (l.getD i X)=sumP f l+f p
 | [],i,h=>by simp at h
 | x::l,0,_=>by simp[sumP];omega
 | x::l,i+1,h=>by
  have:=Z5h f p l i (by simpa using h);simp only[sumP,List.set_cons_succ,Lj,Lm,List.getD_cons_succ]at this ⊢;omega
def Z2G(f:Page->Int){l l':List Page}(hl:l'.length=l.length)(h:∀ i,i<l.length->f (l'.getD i X)=f (l.getD i X)):sumP f l'=sumP f l:=by
 unfold sumP;congr 1;refine L9 (by simpa using hl) λi h1 h2=>?_;have hi:i<l.length:=by simpa using h2
 have:=h i hi;rw[M,M,Ln hi,Ln oq]at this;simpa using this
def Z1x(f:Page->Int)(l:List Page):sumP f l=((Ld l.length).map λi=>f (l.getD i X)).sum:=by
 unfold sumP;congr 1;refine L9 pq λi h1 h2=>?_;have hi:i<l.length:=by simpa using h1
 simp[M,hi]
def Z4c{α:Type}{f g:α->Int}:∀ {l:List α},(∀ x∈l,f x<=g x)->(l.map f).sum<=(l.map g).sum
 | [],_=>by simp
 | x::l,h=>by
  have:=Z4c (l:=l) λy hy=>h y (Lu _ hy);have:=h x pq;simp only[Lj,Lm];omega
def Ze8{α:Type}{f g:α->Int}{n:Int}{r:α}:∀ {l:List α},(∀ x∈l,f x<=g x)->r∈l->f r+n<=g r->(l.map f).sum+n<=(l.map g).sum
 | [],_,hr,_=>by simp at hr
 | x::l,h,hr,hn=>by
  have h0:=h x pq;have hl:∀ y∈l,f y<=g y:=λy hy=>h y (Lu _ hy);simp only[Lj,Lm];rcases LB.1 hr with rfl | hr
  .have:=Z4c hl;omega
  .have:=Ze8 hl hr hn;omega
def Z2H{α:Type}{f:α->Int}:∀ {l:List α},(∀ x∈l,0<=f x)->0<=(l.map f).sum
 | [],_=>by simp
 | x::l,h=>by
  have:=Z2H (l:=l) λy hy=>h y (Lu _ hy);have:=h x pq;simp only[Lj,Lm];omega
def Zgb{ws:List Int}:∀ {l:List Int} {a b:Int},tile ws a b l->(l.map λx=>hlA ws x+1).sum=b-a
 | [],a,b,h=>by simp only[tile]at h;simp;omega
 | x::l,a,b,h=>by
  have:=Zgb h.2.2;simp only[Lj,Lm,this,h.1];omega
def Zcr(l:List Page):∀ i,i<=l.length->(∃ j,j<i/\(l.getD j X).K=0)->Z05 l i≠[]
 | 0,_,⟨j,hj,_⟩=>by omega
 | i+1,hi,⟨j,hj,hk⟩=>by
  have hpa:Z1b l i=l.getD i X:=by rw[Z4A];simp
  simp only[Z05,Z38];split
  .split<;>simp
  .rename_i c;rw[hpa]at c;exact Zcr l i oq ⟨j,by
    by_cases q:j=i
    .subst q;exact absurd hk c
    .omega,hk⟩
def Zh8{l:List Page}(h:¬ 0<=first l 1):∀ j,j<l.length->(l.getD j X).K≠0:=by
 intro j hj hk;have hn:=Zcr l l.length (Le _) ⟨j,hj,hk⟩;unfold first at h
 rw[if_neg oq]at h;have ok:=(Z2o l l.length).2;cases hr:Z05 l l.length with
 | nil=>exact hn hr
 | cons r rs =>
  have:=ok r (by rw[hr];simp);rw[show runs l=r::rs from hr,Z2D,if_pos oq]at h;omega
def Zow{l:List Page}(h:∀ j,j<l.length->(l.getD j X).K≠0):sumP nzP l=l.length:=by
 rw[Z1x];have:∀ n,n<=l.length->((Ld n).map λi=>nzP (l.getD i X)).sum=n:=by
  intro n;induction n with
  | zero=>simp
  | succ n ih =>
   intro hn;have:=ih oq;rw[LZ,LX,L0,this];simp only[Lj,LY,Lm,L1,nzP,if_neg (h n oq)];omega
 exact this _ (Le _)
def wtW(h:Heap)(w:Work)(x:Int):Int:=if(Z0e (loadA w.heap.W x).1).2=Z then 0 else hlA h.W x+1
def Z8q(h:Heap)(T:Nat->List Int)(w:Work)(i:Nat):Int:=if(h.P.getD i X).K=1/\¬ 0<(h.P.getD i X).N then((T i).map (wtW h w)).sum else 0
def Z5G(h:Heap)(T:Nat->List Int)(w:Work):Int:=((Ld h.P.length).map (Z8q h T w)).sum
structure MI (h:Heap) (T:Nat->List Int) (w:Work):Prop where
 m0:w.heap.P.length=h.P.length/\w.heap.C=h.C
 m1:sumP usP h.P<=sumP usP w.heap.P
 m2:0<w.T.length->((w.T.length:Int)-1)*(h.C.pw/4*3+1)+(w.heap.P.getD (Z0E w).toNat X).U<=sumP usP w.heap.P-sumP usP h.P
 m3:sumP usP w.heap.P+Z5G h T w<=sumP usP h.P+sumP unP h.P
 m4:sumP nzP w.heap.P=sumP nzP h.P+w.T.length
 m5:∀ i,i<h.P.length->(h.P.getD i X).K=1->((w.heap.P.getD i X).S=w.heap.S↔¬ 0<(h.P.getD i X).N)
def Z6q(h:Heap)(w:Work)(x:Int):0<=wtW h w x/\wtW h w x<=hlA h.W x+1:=by
 have:=Z09 h.W x;unfold wtW;split<;>omega
def Zi7{h:Heap}{T:Nat->List Int}{w w':Work}(e:w'.heap.W=w.heap.W):Z5G h T w'=Z5G h T w:=by
 unfold Z5G Z8q wtW;rw[e]
def ZgK{h:Heap}{T:Nat->List Int}(g:Gd h T)(w:Work):Z5G h T w<=sumP unP h.P:=by
 rw[Z1x];refine Z4c λi hi=>?_;have hi:=Lb.1 hi;unfold Z8q unP;split
 .rename_i k;have t:=Zgb (g.t1 i hi k.1).1;have:=Z4c (l:=T i) (f:=wtW h w) (g:=λx=>hlA h.W x+1) λx _=>(Z6q h w x).2;omega
 .omega
def ZdP(h:Heap)(T:Nat->List Int)(w:Work):0<=Z5G h T w:=by
 refine Z2H λi _=>?_;unfold Z8q;split
 .exact Z2H λx _=>(Z6q h w x).1
 .omega
def Zke{h:Heap}{T:Nat->List Int}{w w':Work}{n r:Int}{i0:Nat}(hi:i0<h.P.length)(hk:(h.P.getD i0 X).K=1/\¬ 0<(h.P.getD i0 X).N)(hr:r∈T i0)(h1:∀ i x,x∈T i->wtW h w' x<=wtW h w x)(h2:wtW h w' r+n<=wtW h w r):Z5G h T w'+n<=Z5G h T w:=by
 refine Ze8 (r:=i0) (λi hi=>?_) (Lb.2 hi) ?_
 .unfold Z8q;split
  .exact Z4c λx hx=>h1 i x hx
  .omega
 .unfold Z8q;rw[if_pos hk,if_pos hk];exact Ze8 (λx hx=>h1 i0 x hx) hr h2
def MI.begin{h:Heap}{T:Nat->List Int}(g:Gd h T):MI h T (beginW h):=by
 have e:∀ i,i<h.P.length->(((beginW h).heap.P.getD i X).K=(h.P.getD i X).K/\((beginW h).heap.P.getD i X).U=(h.P.getD i X).U):=by
  intro i hi;simp only[beginW,M,LU,Ln hi,L2,Lw,begQ];split<;>exact⟨rfl,rfl⟩
 have l:(beginW h).heap.P.length=h.P.length:=by simp[beginW]
 have e1:sumP usP (beginW h).heap.P=sumP usP h.P:=Z2G usP l λi hi=>by unfold usP;rw[(e i hi).1,(e i hi).2]
 have e2:sumP nzP (beginW h).heap.P=sumP nzP h.P:=Z2G nzP l λi hi=>by unfold nzP;rw[(e i hi).1]
 have r:=ZgK g (beginW h);refine⟨⟨l,rfl⟩,by omega,by simp[beginW],by omega,by rw[e2];simp[beginW],λi hi hk=>?_⟩;have sp:=g.sp i hi oq;have po:=Z07 g.p;simp only[beginW,M,LU,Ln hi,L2,Lw,begQ]at hk sp ⊢;split
 .rename_i c;simp only;omega
 .rename_i c;omega
def MI.keep{h:Heap}{T:Nat->List Int}{w:Work}(m:MI h T w)(r:Int):MI h T (w.keep r):=⟨m.m0,m.m1,m.m2,m.m3,m.m4,m.m5⟩
def MI.flip{h:Heap}{T tq:Nat->List Int}{w:Work}(m:MI h T w)(k:KI h T tq w){i:Nat}(h2:(w.heap.P.getD i X).K=2):MI h T (w.flip i):=by
 have e:∀ j,((w.flip i).heap.P.getD j X).K=(w.heap.P.getD j X).K/\((w.flip i).heap.P.getD j X).U=(w.heap.P.getD j X).U:=by
  intro j;simp only[Work.flip];by_cases hj:j<w.heap.P.length
  .rw[Z1h hj];split<;>exact⟨rfl,rfl⟩
  .rw[M,M,Lg (by rw[Z1i];omega),Lg oq];exact⟨rfl,rfl⟩
 have l:(w.flip i).heap.P.length=w.heap.P.length:=by simp[Work.flip,Z1i]
 have e1:sumP usP (w.flip i).heap.P=sumP usP w.heap.P:=Z2G usP l λj _=>by unfold usP;rw[(e j).1,(e j).2]
 have e2:sumP nzP (w.flip i).heap.P=sumP nzP w.heap.P:=Z2G nzP l λj _=>by unfold nzP;rw[(e j).1]
 have e3:Z5G h T (w.flip i)=Z5G h T w:=Zi7 rfl;have et:(w.flip i).T=w.T:=rfl;have el:Z0E (w.flip i)=Z0E w:=rfl;refine⟨⟨by rw[l];exact m.m0.1,m.m0.2⟩,by rw[e1];exact m.m1, ?_,by rw[e1,e3];exact m.m3,by rw[e2,et];exact m.m4,λj hj hk=>?_⟩;rotate_left
 .have hpl:=m.m0.1;have jt:(j:Int)∉w.T:=λq=>by have:=(k.tk j q).2.1;omega
  have kj:=(k.pg j jt).1;rw[hk]at kj;have:(w.flip i).heap.P.getD j X=w.heap.P.getD j X:=by
   simp only[Work.flip];rw[Z1h oq,if_neg];rintro⟨q1,q2⟩;by_cases q:j=i
   .subst q;omega
   .have:=(Z7h (l:=w.heap.P) (i:=i) (m:=j-i-1) oq).2;rw[show i+1+(j-i-1)=j by omega]at this;omega
  rw[this];exact m.m5 j hj hk
 intro q;rw[et,el,(e _).2,e1];exact m.m2 q
def MI.copy{h:Heap}{T tq:Nat->List Int}{w:Work}(g:Gd h T)(m:MI h T w)(k:KI h T tq w)(hw:WkOk w){r n:Int}{i0:Nat}(hr:r∈T i0)(h1:(h.P.getD i0 X).K=1)(hup:¬ 0<(h.P.getD i0 X).N)(ht:(Z0e (loadA w.heap.W r).1).2=Lf)(hn:n=hlA w.heap.W r+1)(hc:(w.place n).2.2=Z):MI h T ((w.place n).1.copy r (w.place n).2.1 n):=by
 have he:(loadA w.heap.W r).1=(loadA h.W r).1:=by
  rcases k.hd i0 r hr with q | q
  .exact q
  .rw[q.1]at ht;cases ht
 have hlr:=Z09 w.heap.W r;have ehl:hlA w.heap.W r=hlA h.W r:=(Z1E he).2.1;have hil:=(g.t0 i0 r hr).1;have hsm:=(g.t1 i0 hil h1).2 r hr;have po:=Z07 g.p;have sw:=Z1r po.1;have hv:=validB_iff.1 po.1;have hpw:n<=w.heap.C.pw:=by rw[k.c];omega
 obtain⟨i,p,t,p1,p2,p3,p4,p5,p6,p7,e⟩:=Z49 hw ⟨by omega,hpw⟩ hc;have hcc:=k.c;have hin:=g.inw hr;have hki:(h.P.getD i X).K=0:=by
  rcases p2 with q | q
  .by_cases c:(i:Int)∈w.T
   .exact(k.tk i c).2.1
   .rw[<- (k.pg i c).1];exact q.1
  .exact(k.tk i q.1).2.1
 have hpl:=k.pl;have hwl:=k.wl;have hio:=Z0Y (i:=i) (j:=h.C.pg) (pw:=h.C.pw) oq oq;rw[Ls h.C.pg]at hio;have hi0:0<=(i:Int)*h.C.pw:=Lx oq oq;have hx:∀ j x,x∈T j->x≠r->(loadA (Z0B (moveA w.heap.W (w.place n).2.1 r n).1 r (4*(w.place n).2.1+2)).1 x).1=(loadA w.heap.W x).1:=by
  intro j x hx hne;have far:=g.free (show i<h.P.length by omega) (Y hki) hx;rw[occP,if_pos hki]at far;have r1:=Z09 h.W x;unfold bsP at far;rw[p7,hcc];rw[hcc]at p5;have farr:=g.free (show i<h.P.length by omega) (Y hki) hr;rw[occP,if_pos hki]at farr;unfold bsP at farr;obtain⟨m1,m2,m3⟩:=Z58 (ws:=w.heap.W) (a:=4+4092+(i:Int)*h.C.pw+occP (w.heap.P.getD i X)) (b:=r) (n:=n) oq oq oq;rw[show(4:Int)+4092+(i:Int)*h.C.pw=4096+(i:Int)*h.C.pw by omega]at m1 m2 m3;rw[Z0l (by rw[m1];omega) hne,m3 x oq]
 have hrr:(Z0e (loadA (Z0B (moveA w.heap.W (w.place n).2.1 r n).1 r (4*(w.place n).2.1+2)).1 r).1).2=Z:=by
  have farr:=g.free (show i<h.P.length by omega) (Y hki) hr;rw[occP,if_pos hki]at farr;unfold bsP at farr;rw[p7,hcc];rw[hcc]at p5;obtain⟨m1,m2,m3⟩:=Z58 (ws:=w.heap.W) (a:=4+4092+(i:Int)*h.C.pw+occP (w.heap.P.getD i X)) (b:=r) (n:=n) oq oq oq;rw[show(4:Int)+4092+(i:Int)*h.C.pw=4096+(i:Int)*h.C.pw by omega]at m1 m2 m3;rw[Z1s (by rw[m1];omega)];rw[Z5y oq oq]
 have ew:((w.place n).1.copy r (w.place n).2.1 n).heap.W=(Z0B (moveA w.heap.W (w.place n).2.1 r n).1 r (4*(w.place n).2.1+2)).1:=by
  rw[e];rfl
 have hrest:Z5G h T ((w.place n).1.copy r (w.place n).2.1 n)+n<=Z5G h T w:=by
  refine Zke hil ⟨h1,hup⟩ hr (λj x hxj=>?_) ?_
  .unfold wtW;rw[ew];by_cases q:x=r
   .subst q;rw[if_pos hrr];have:=(Z6q h w x).1;unfold wtW at this;exact this
   .rw[hx j x hxj q];exact Lp _
  .unfold wtW;rw[ew,if_pos hrr,if_neg (by rw[ht];simp)];omega
 have eP:((w.place n).1.copy r (w.place n).2.1 n).heap.P=w.heap.P.set i p:=by rw[e];rfl
 have eT:((w.place n).1.copy r (w.place n).2.1 n).T=t:=by rw[e];rfl
 have eL:Z0E ((w.place n).1.copy r (w.place n).2.1 n)=t.getD ((t.length:Int)-1).toNat X:=by unfold Z0E;rw[eT]
 have s1:=Z5h usP p w.heap.P i p1;have s2:=Z5h nzP p w.heap.P i p1;have u1:usP p=p.U:=by rw[usP,if_pos p3]
 have z1:nzP p=1:=by rw[nzP,if_neg oq]
 have m1:=m.m1;have m3:=m.m3;have m4:=m.m4;have hmul:0<=((w.T.length:Int))*(h.C.pw/4*3+1):=Lx oq oq;have h5:∀ j,j<h.P.length->(h.P.getD j X).K=1->((((w.place n).1.copy r (w.place n).2.1 n).heap.P.getD j X).S=((w.place n).1.copy r (w.place n).2.1 n).heap.S↔¬ 0<(h.P.getD j X).N):=by
  intro j hj hk;have eS:((w.place n).1.copy r (w.place n).2.1 n).heap.S=w.heap.S:=by rw[e];rfl
  rw[eP,eS,Z0k p1,if_neg (by rintro rfl;omega)];exact m.m5 j hj hk
 rcases p2 with⟨q1,q2,q3⟩ | ⟨q1,q2,q3,q4⟩
 .have u2:usP (w.heap.P.getD i X)=0:=by rw[usP,if_neg oq]
  have z2:nzP (w.heap.P.getD i X)=0:=by rw[nzP,if_pos q1]
  have oc:occP (w.heap.P.getD i X)=0:=by rw[occP,if_pos q1]
  rw[oc]at p4;have hu:sumP usP (w.heap.P.set i p)=sumP usP w.heap.P+n:=by omega
  refine⟨⟨by rw[eP,Lh];exact m.m0.1,by rw[e];exact m.m0.2⟩,by rw[eP];omega, ?_,by rw[eP];omega,by rw[eP,eT,q2,LV,LW];omega,h5⟩;intro _;rw[eL,eP,eT,hu,q2];have el:(w.T++[(i:Int)]).getD ((((w.T++[(i:Int)]).length:Nat):Int)-1).toNat X=i:=by
   rw[LV,LW,show(((w.T.length+1:Nat):Int)-1).toNat=w.T.length by omega];simp[M]
  rw[el,Lc,Z0k p1,if_pos rfl,LV,LW];rw[show(((w.T.length+1:Nat):Int)-1)=w.T.length by omega];by_cases z:0<w.T.length
  .have m2:=m.m2 z;have nf:¬ Z3C w n:=by
    intro f;have hp:(w.place n).2.1=4096+Z0E w*w.heap.C.pw+(w.heap.P.getD (Z0E w).toNat X).U:=by rw[Work.place,if_pos f]
    have htk:(w.place n).1.T=w.T:=by rw[Work.place,if_pos f]
    rw[e]at htk;simp only at htk;rw[q2]at htk;have:=congrArg List.length htk;simp at this
   unfold Z3C at nf;have hb:=hw.us (Z0E w).toNat (by have:=hw.tk _ (Z1c z);omega)
   rw[show((w.T.length:Int))*(h.C.pw/4*3+1)=((w.T.length:Int)-1)*(h.C.pw/4*3+1)+(h.C.pw/4*3+1) by rw[L6];omega];have hq:h.C.pw/4*3+1<=(w.heap.P.getD (Z0E w).toNat X).U:=by
    have hpm:h.C.pw=h.C.pw/4*4:=by
     have:=hv.2.2.1;rw[LK oq]at this;omega
    rw[hcc]at nf;omega
   omega
  .have:w.T.length=0:=by omega
   rw[this];simp;omega
 .have u2:usP (w.heap.P.getD i X)=(w.heap.P.getD i X).U:=by rw[usP,if_pos q2]
  have z2:nzP (w.heap.P.getD i X)=1:=by rw[nzP,if_neg oq]
  have oc:occP (w.heap.P.getD i X)=(w.heap.P.getD i X).U:=by rw[occP,if_neg oq]
  rw[oc]at p4;have hu:sumP usP (w.heap.P.set i p)=sumP usP w.heap.P+n:=by omega
  refine⟨⟨by rw[eP,Lh];exact m.m0.1,by rw[e];exact m.m0.2⟩,by rw[eP];omega, ?_,by rw[eP];omega,by rw[eP,eT,q3];omega,h5⟩;intro z;rw[eT,q3]at z;have m2:=m.m2 z;rw[eL,eP,eT,hu,q3];rw[Z0k p1];show((w.T.length:Int)-1)*_+Page.U (if i=(Z0E w).toNat then p else w.heap.P.getD (Z0E w).toNat X)<=_;split
  .rename_i c;rw[p4,c];omega
  .omega
structure MV (h:Heap):Prop where
 v:sumP usP h.P+sumP lgP h.P*h.C.pw<=h.C.pg/4*h.C.pw
 n:∃ t:Int,sumP nzP h.P<=h.C.pg/4+sumP lgP h.P+t/\(t-1)*(h.C.pw/4*3+1)<=sumP usP h.P
def Zi4{α:Type}{f:α->Int}{r:α}:∀ {l:List α},(∀ x∈l,0<=f x)->r∈l->f r<=(l.map f).sum
 | [],_,hr=>by simp at hr
 | x::l,h,hr=>by
  have h0:=h x pq;have hl:∀ y∈l,0<=f y:=λy hy=>h y (Lu _ hy);simp only[Lj,Lm];rcases LB.1 hr with rfl | hr
  .have:=Z2H hl;omega
  .have:=Zi4 hl hr;omega
def ZgR{t t' s q L U nz pg:Int}(hs:4<=s)(hq:2<=q)(hpg:4*q<=pg)(hL:0<=L)(ht:0<=t)(h1:pg=nz+t)(h2:t*(s*3+1)<=U-1)(h3:nz<=q+L+t')(h4:(t'-1)*(s*3+1)<=U)(h5:U+L*(s*4)<=q*(s*4)):False:=by
 have e2:t*(s*3+1)=3*t*s+t:=by grind
 have e4:(t'-1)*(s*3+1)=3*(t'-1)*s+(t'-1):=by grind
 have e5:q*(s*4)-L*(s*4)=4*(q-L)*s:=by grind
 have a1:3*t<4*(q-L):=by
  by_cases c:3*t<4*(q-L)
  .exact c
  .have:=Ly (show 4*(q-L)<=3*t by omega) (show 0<=s by omega);omega
 have a2:3*(t'-1)<4*(q-L):=by
  by_cases c:3*(t'-1)<4*(q-L)
  .exact c
  .have:=Ly (show 4*(q-L)<=3*(t'-1) by omega) (show 0<=s by omega);omega
 omega
def MI.unp{h:Heap}{T tq:Nat->List Int}{w:Work}(m:MI h T w)(k:KI h T tq w){r o:Int}{i0:Nat}(ofr:ofA w.heap.C r=((i0:Int),o,0))(nt:(i0:Int)∉w.T)(hi:i0<h.P.length)(k1:(h.P.getD i0 X).K=1)(c4:¬ Z13 w (ofA w.heap.C r).1=Z):¬ 0<(h.P.getD i0 X).N:=by
 intro hp;apply c4;have hpl:=m.m0.1;have q:=(m.m5 i0 hi k1)
 have kk:=(k.pg i0 nt).1;simp only[Z13,decide_eq_true_eq];rw[ofr];simp only[Lc];exact⟨by omega,by omega,by omega,λc=>(q.1 c) hp,nt⟩
section
variable {h:Heap} {T tq:Nat->List Int} {w:Work} (g:Gd h T) (m:MI h T w) (k:KI h T tq w) (hw:WkOk w) (mv:MV h)
include g m k hw mv
theorem MI.room{r n:Int}{i0:Nat}(hr:r∈T i0)(h1:(h.P.getD i0 X).K=1)(hup:¬ 0<(h.P.getD i0 X).N)(ht:(Z0e (loadA w.heap.W r).1).2=Lf)(hn:n=hlA w.heap.W r+1):(w.place n).2.2=Z:=by
 have he:(loadA w.heap.W r).1=(loadA h.W r).1:=by
  rcases k.hd i0 r hr with q | q
  .exact q
  .rw[q.1]at ht;cases ht
 have hlr:=Z09 w.heap.W r;have ehl:hlA w.heap.W r=hlA h.W r:=(Z1E he).2.1;have hil:=(g.t0 i0 r hr).1;have hsm:=(g.t1 i0 hil h1).2 r hr;have po:=Z07 g.p;have sw:=Z1r po.1;have hv:=validB_iff.1 po.1;have hpm:h.C.pw=h.C.pw/4*4:=by
  have:=hv.2.2.1;rw[LK oq]at this;omega
 by_cases hf:Z3C w n
 .rw[Work.place,if_pos hf]
 .by_cases hg:0<=Z0p w
  .rw[Work.place,if_neg hf,if_pos hg]
  .exfalso;have nz:=Zow (Zh8 (l:=w.heap.P) hg);have m0:=m.m0;have m1:=m.m1;have m3:=m.m3;have m4:=m.m4;have hpl:=hw.pl;rw[m0.2]at hpl;have hrest:n<=Z5G h T w:=by
    have a:Z8q h T w i0<=Z5G h T w:=Zi4 (λi _=>by
     unfold Z8q;split
     .exact Z2H λx _=>(Z6q h w x).1
     .exact Lp _) (Lb.2 hil)
    have b:wtW h w r<=Z8q h T w i0:=by
     unfold Z8q;rw[if_pos ⟨h1,hup⟩];exact Zi4 (λx _=>(Z6q h w x).1) hr
    unfold wtW at b;rw[if_neg (by rw[ht];simp)]at b;omega
   have hun:sumP unP h.P<=sumP usP h.P:=Z4c λp hp=>by
    obtain⟨j,hj,rfl⟩:=LH hp;have pp:=Z0u g.p hj;rw[M,Ln hj,Lw]at pp;unfold unP usP;split
    .rename_i c;rw[if_pos c.1];omega
    .split<;>omega
   have hL:0<=sumP lgP h.P:=Z2H λp _=>by unfold lgP;split<;>omega
   have h2:(w.T.length:Int)*(h.C.pw/4*3+1)<=sumP usP h.P-1:=by
    by_cases z:0<w.T.length
    .have m2:=m.m2 z;unfold Z3C at hf;rw[m0.2]at hf;have hq:h.C.pw/4*3+1<=(w.heap.P.getD (Z0E w).toNat X).U:=by omega
     rw[show(w.T.length:Int)*(h.C.pw/4*3+1)=((w.T.length:Int)-1)*(h.C.pw/4*3+1)+(h.C.pw/4*3+1) by rw[L6];omega];omega
    .have:w.T.length=0:=by omega
     rw[this];simp;omega
   obtain⟨t',n1,n2⟩:=mv.n;have v:=mv.v;exact ZgR (s:=h.C.pw/4) (q:=h.C.pg/4) (pg:=h.C.pg) (nz:=sumP nzP h.P) (L:=sumP lgP h.P) (U:=sumP usP h.P) (t:=w.T.length) (t':=t') oq oq oq hL oq oq h2 n1 n2 (by rw[<- hpm];exact v)
theorem MI.fwd_ok(hi:CIv w){r:Int}(hr:r=0\/r∈w.Q\/r∈w.old):(w.fwd r).2.2=0:=by
 unfold Work.fwd;by_cases c1:r=0\/r∈w.Q
 .rw[if_pos c1]
 rw[if_neg c1];have c2:r∈w.old:=by
  rcases hr with q | q | q
  .exact absurd (Y q) c1
  .exact absurd (O q) c1
  .exact q
 rw[if_neg (by simpa using c2)];obtain⟨i0,hx,hkd⟩:=(k.old r).1 c2;have ofr:ofA w.heap.C r=((i0:Int),r-bsP h i0,0):=by rw[k.c];exact g.ofx hx
 by_cases c3:(Z0e (loadA w.heap.W r).1).2=Z
 .rw[if_pos c3]
 rw[if_neg c3,if_neg (by rw[ofr];simp)];by_cases c4:Z13 w (ofA w.heap.C r).1=Z
 .rw[if_pos c4]
 rw[if_neg c4];by_cases c5:(w.heap.P.getD (Z1q w r) X).K=2
 .rw[if_pos c5]
 rw[if_neg c5];have epw:Z1q w r=i0:=by rw[Z1q,ofr];simp
 rw[epw]at c5;have nt:=k.nt g hx;have k1:(h.P.getD i0 X).K=1:=by
  have:=(g.t0 i0 r hx).2;rw[<- (k.pg i0 nt).1]at this ⊢;omega
 have:=m.room g k hw mv hx k1 (m.unp k ofr nt (g.t0 i0 r hx).1 k1 c4) (by simpa using c3) rfl;rw[<- Z2t w r]at this;rw[if_neg (by rw[this];simp)]
theorem MI.fwd(hi:CIv w){r:Int}(e:(w.fwd r).2.2=0):MI h T (w.fwd r).1:=by
 unfold Work.fwd at e ⊢;by_cases c1:r=0\/r∈w.Q
 .rw[if_pos c1];exact m
 rw[if_neg c1]at e ⊢;by_cases c2:r∈w.old
 .rw[if_neg (by simpa using c2)]at e ⊢;obtain⟨i0,hx,hkd⟩:=(k.old r).1 c2;have ofr:ofA w.heap.C r=((i0:Int),r-bsP h i0,0):=by rw[k.c];exact g.ofx hx
  by_cases c3:(Z0e (loadA w.heap.W r).1).2=Z
  .rw[if_pos c3];exact m
  rw[if_neg c3,if_neg (by rw[ofr];simp)]at e ⊢;by_cases c4:Z13 w (ofA w.heap.C r).1=Z
  .rw[if_pos c4];exact m.keep r
  rw[if_neg c4]at e ⊢;by_cases c5:(w.heap.P.getD (Z1q w r) X).K=2
  .rw[if_pos c5];exact(m.flip k c5).keep r
  rw[if_neg c5]at e ⊢;have epw:Z1q w r=i0:=by rw[Z1q,ofr];simp
  rw[epw]at c5;have nt:=k.nt g hx;have k1:(h.P.getD i0 X).K=1:=by
   have:=(g.t0 i0 r hx).2;rw[<- (k.pg i0 nt).1]at this ⊢;omega
  have hup:=m.unp k ofr nt (g.t0 i0 r hx).1 k1 c4;have c6:=m.room g k hw mv hx k1 hup (by simpa using c3) rfl;rw[<- Z2t w r]at c6;rw[if_neg (by rw[c6];simp)];exact m.copy g k hw hx k1 hup (by simpa using c3) (Z2t w r) c6
 .rw[if_pos c2]at e;simp at e
end
def ZmV{ws:List Int}{a b n k:Int}(ha:4096<=a/\a-4096+n<=ws.length)(hb:4096<=b/\b-4096+n<=ws.length)(hk:0<=k/\k<n):loadA (moveA ws a b n).1 (a+k)=((loadA ws (b+k)).1,0):=by
 have e1:Z18 ws b n=((ws.drop (b-4096).toNat).take n.toNat,0):=by rw[Z18,if_neg oq,if_pos hb]
 have e2:moveA ws a b n=Z0t ws a ((ws.drop (b-4096).toNat).take n.toNat):=by rw[moveA,e1];simp
 have hl:((ws.drop (b-4096).toNat).take n.toNat).length=n.toNat:=by simp;omega
 rw[e2,Z1H oq oq];congr 1;unfold loadA;rw[if_pos oq];simp only[M];rw[show a+k-a=k by omega,Xb oq,Xa];rw[show(b-4096).toNat+k.toNat=(b+k-4096).toNat by omega]
def Z21(w:Work)(y:Int):Int:=if y∈w.Q then y else if(Z0e (loadA w.heap.W y).1).2=Z then(Z0e (loadA w.heap.W y).1).1 else 0
structure NewF (h:Heap) (T:Nat->List Int) (w:Work) (r:Int) (i0:Nat) (w':Work) (a:Int):Prop where
 b:4096<=a
 q:w'.Q=w.Q++[a]
 n:w'.rep.copied+w'.rep.kept=w.rep.copied+w.rep.kept+1
 o:w'.old=w.old
 l:w'.heap.W.length=w.heap.W.length
 s:((h.P.getD i0 X).K=2\/0<(h.P.getD i0 X).N)↔a=r
 e:a-4096+hlA h.W r<w.heap.W.length
 f:a=r->w'.heap.W=w.heap.W
 c:a≠r->Z0e (loadA w'.heap.W r).1=(a,Z)
 t:∀ j x,x∈T j->x≠r->a≠x/\loadA w'.heap.W x=loadA w.heap.W x
 x:∀ k,0<=k->k<=hlA h.W r->(loadA w'.heap.W (a+k)).1=(loadA w.heap.W (r+k)).1
section
variable {h:Heap} {T tq:Nat->List Int} {w:Work} (g:Gd h T) (m:MI h T w) (k:KI h T tq w) (hw:WkOk w) (mv:MV h)
include g m k hw mv
theorem ZmF{r:Int}{i0:Nat}(hx:r∈T i0)(hkd:kdA h.W r≠0)(hq:r∉w.Q)(ht:(Z0e (loadA w.heap.W r).1).2=Lf) :
  (w.fwd r).2.2=0/\NewF h T w r i0 (w.fwd r).1 (w.fwd r).2.1:=by
 have ho:r∈w.old:=(k.old r).2 ⟨i0,hx,hkd⟩;have hin:=g.inw hx;have on:=g.on hx;have hlr:=Z09 h.W r;have he:(loadA w.heap.W r).1=(loadA h.W r).1:=by
  rcases k.hd i0 r hx with q | q
  .exact q
  .rw[q.1]at ht;cases ht
 have ehl:hlA w.heap.W r=hlA h.W r:=(Z1E he).2.1;have nt:=k.nt g hx;have pg:=k.pg i0 nt;have wl:=k.wl;have c1:¬ (r=0\/r∈w.Q):=by
  rintro(q | q)
  .omega
  .exact hq q
 have ofr:ofA w.heap.C r=((i0:Int),r-bsP h i0,0):=by rw[k.c];exact g.ofx hx
 have epw:Z1q w r=i0:=by rw[Z1q,ofr];simp
 by_cases c4:Z13 w (ofA w.heap.C r).1=Z
 .have ef:w.fwd r=(w.keep r,r,0):=by rw[Work.fwd,if_neg c1,if_neg (by simpa using ho),if_neg (by rw[ht];simp),if_neg (by rw[ofr];simp),if_pos c4]
  rw[ef];show(0:Int)=0/\NewF h T w r i0 (w.keep r) r;have hs:(h.P.getD i0 X).K=2\/0<(h.P.getD i0 X).N:=by
   rw[ofr]at c4;simp only[Z13,decide_eq_true_eq,Lc]at c4;have k1:(h.P.getD i0 X).K=1:=by rw[<- pg.1];exact c4.2.2.1
   have:=m.m5 i0 on.1 k1;by_cases q:0<(h.P.getD i0 X).N
   .exact .inr q
   .exact absurd (this.2 q) c4.2.2.2.1
  exact⟨rfl,by omega,rfl,by simp only[Work.keep];omega,rfl,rfl,⟨λ_=>rfl,λ_=>hs⟩,by omega,λ_=>rfl,λq=>absurd rfl q,λj x _ hne=>⟨λq=>hne q.symm,rfl⟩,λ_ _ _=>rfl⟩
 .by_cases c5:(w.heap.P.getD (Z1q w r) X).K=2
  .have ef:w.fwd r=((w.flip (Z1q w r)).keep r,r,0):=by rw[Work.fwd,if_neg c1,if_neg (by simpa using ho),if_neg (by rw[ht];simp),if_neg (by rw[ofr];simp),if_neg c4,if_pos c5]
   rw[ef];show(0:Int)=0/\NewF h T w r i0 ((w.flip (Z1q w r)).keep r) r;have hs:(h.P.getD i0 X).K=2\/0<(h.P.getD i0 X).N:=by
    rw[epw,pg.1]at c5;exact .inl c5
   exact⟨rfl,by omega,rfl,by simp only[Work.keep,Work.flip];omega,rfl,rfl,⟨λ_=>rfl,λ_=>hs⟩,by omega,λ_=>rfl,λq=>absurd rfl q,λj x _ hne=>⟨λq=>hne q.symm,rfl⟩,λ_ _ _=>rfl⟩
  .have k1:(h.P.getD i0 X).K=1:=by
    have:=on.2.1;rw[epw]at c5;rw[<- pg.1]at this ⊢;omega
   have hup:=m.unp k ofr nt on.1 k1 c4;have hroom:=m.room g k hw mv hx k1 hup ht rfl;have hsz:=Z2t w r;have ef:w.fwd r=((w.place (hlA w.heap.W r+1)).1.copy r (w.place (hlA w.heap.W r+1)).2.1 (hlA w.heap.W r+1),(w.place (hlA w.heap.W r+1)).2.1,0):=by
    rw[Work.fwd,if_neg c1,if_neg (by simpa using ho),if_neg (by rw[ht];simp),if_neg (by rw[ofr];simp),if_neg c4,if_neg c5,hsz,if_neg (by rw[hroom];simp)]
   rw[ef];show(0:Int)=0/\NewF h T w r i0 ((w.place (hlA w.heap.W r+1)).1.copy r (w.place (hlA w.heap.W r+1)).2.1 (hlA w.heap.W r+1)) (w.place (hlA w.heap.W r+1)).2.1;have po:=Z07 g.p;have hsm:=(g.t1 i0 on.1 k1).2 r hx;have hsw:=Z1r po.1;have hcv:=validB_iff.1 po.1;obtain⟨i,p,t,p1,p2,p3,p4,p5,p6,p7,e⟩:=Z49 hw ⟨by omega,by rw[k.c];omega⟩ hroom;have hcc:=k.c;have hpl:=k.pl;have hki:(h.P.getD i X).K=0:=by
    rcases p2 with q | q
    .by_cases c:(i:Int)∈w.T
     .exact(k.tk i c).2.1
     .rw[<- (k.pg i c).1];exact q.1
    .exact(k.tk i q.1).2.1
   have hio:=Z0Y (i:=i) (j:=h.C.pg) (pw:=h.C.pw) oq oq;rw[Ls h.C.pg]at hio;have hi0:0<=(i:Int)*h.C.pw:=Lx oq oq;rw[hcc]at p5 p7;have hbp:4096+(i:Int)*h.C.pw=bsP h i:=rfl;rw[e,p7,hbp];generalize hu:occP (w.heap.P.getD i X)=u at *;generalize ha:bsP h i+u=a;have hbl:4096<=a/\a+(hlA w.heap.W r+1)<=4096+w.heap.W.length:=by omega
   have far:∀ j x,x∈T j->x+hlA h.W x<bsP h i\/bsP h i+h.C.pw<=x:=by
    intro j x hx;have:=g.free (show i<h.P.length by omega) (Y hki) hx;rw[occP,if_pos hki]at this;omega
   have farr:=far i0 r hx;obtain⟨m1,m2,m3⟩:=Z58 (ws:=w.heap.W) (a:=a) (b:=r) (n:=hlA w.heap.W r+1) oq oq oq;have hsr:4096<=r/\r<4096+(moveA w.heap.W a r (hlA w.heap.W r+1)).1.length:=by omega
   have hne:a≠r:=by omega
   refine⟨rfl,by omega,rfl,by simp only[Work.copy];omega,rfl, ?_,⟨λq=>?_,λq=>absurd q hne⟩,by omega,λq=>absurd q hne,λ_=>?_,λj x hxj hxr=>?_,λj j0 j1=>?_⟩
   .simp only[Work.copy];rw[Z2m hsr,m1]
   .rcases q with q | q
    .omega
    .exact absurd q hup
   .simp only[Work.copy];rw[Z1s hsr,Z5y oq oq]
   .have fx:=far j x hxj;have rx:=Z09 h.W x;simp only[Work.copy];exact⟨by omega,by rw[Z0l hsr hxr,m3 x oq]⟩
   .simp only[Work.copy];rw[Z0l hsr oq,ZmV oq oq oq]
end
def ZjE{w:Work}(hw:WkOk w)(h:CIv w){r n:Int}(hr:r∈w.old)(hq:r∉w.Q)(hn:n=hlA w.heap.W r+1)(hp:n<=w.heap.C.pw)(hc:(w.place n).2.2=Z):∀ x∈w.old++w.Q,(x∈w.Q\/x≠r)->∀ m,0<=m->m<=hlA w.heap.W x->loadA ((w.place n).1.copy r (w.place n).2.1 n).heap.W (x+m)=loadA w.heap.W (x+m):=by
 have hlr:=Z09 w.heap.W r;obtain⟨i,p,t,h1,h2,h3,h4,h5,h6,h7,h8,e⟩:=Z4e hw ⟨by omega,hp⟩ hc;have hb:=validB_iff.1 hw.C;have hpl:=hw.pl;have hL:=h.L;have hio:(i:Int)*w.heap.C.pw+w.heap.C.pw<=w.heap.C.pw*w.heap.C.pg:=by
  have:=Z0Y (i:=i) (j:=w.heap.C.pg) (pw:=w.heap.C.pw) oq oq;rw[Ls w.heap.C.pw];exact this
 have hi0:0<=(i:Int)*w.heap.C.pw:=Lx oq oq;rw[e,h8];generalize hu:occP (w.heap.P.getD i X)=u at *;generalize ha:4096+(i:Int)*w.heap.C.pw+u=at';have hrr:=h.r r (La _ hr);have hf:=h.f i h1 (by rcases h2 with h2 | h2;exact Y h2;exact O h2.1);rw[hu]at hf;obtain⟨m1,m2,m3⟩:=Z58 (ws:=w.heap.W) (a:=at') (b:=r) (n:=n) oq oq oq;have hsr:4096<=r/\r<4096+(moveA w.heap.W at' r n).1.length:=by omega
 intro x hx hxr m hm0 hm1;have hfx:=hf x hx;simp only[Work.copy];rw[Z0l hsr ?_,m3 _ oq];intro c;by_cases q:x=r
 .exact hxr.elim (λa=>hq (q▸a)) (λa=>a q)
 .have:=h.s x hx r (La _ hr) oq;omega
def Z2Q{w:Work}(hw:WkOk w)(h:CIv w)(r:Int)(e:(w.fwd r).2.2=0):(∃ m,(w.fwd r).1.Q=w.Q++m)/\(w.fwd r).1.D=w.D/\∀ x∈w.old++w.Q,(x∈w.Q\/x≠r)->∀ m,0<=m->m<=hlA w.heap.W x->loadA (w.fwd r).1.heap.W (x+m)=loadA w.heap.W (x+m):=by
 unfold Work.fwd at e ⊢;split at e
 .rename_i c1;rw[if_pos c1];exact⟨⟨[],by simp⟩,rfl,λ_ _ _ _ _ _=>rfl⟩
 .rename_i c1;rw[if_neg c1];have c1':r∉w.Q:=λh=>c1 (O h);split at e
  .simp at e
  .rename_i c2;rw[if_neg c2];have c2':r∈w.old:=LN.1 c2;split at e
   .rename_i c3;rw[if_pos c3];exact⟨⟨[],by simp⟩,rfl,λ_ _ _ _ _ _=>rfl⟩
   .rename_i c3;rw[if_neg c3];split at e
    .simp at e
    .rename_i c4;rw[if_neg c4];split at e
     .rename_i c5;rw[if_pos c5];exact⟨⟨[r],rfl⟩,rfl,λ_ _ _ _ _ _=>rfl⟩
     .rename_i c5;rw[if_neg c5];split at e
      .rename_i c6;rw[if_pos c6];exact⟨⟨[r],rfl⟩,rfl,λ_ _ _ _ _ _=>rfl⟩
      .rename_i c6;rw[if_neg c6];split at e
       .simp at e
       .rename_i c7;rw[if_neg c7];have c7':(w.place (sizeH (hdW w r))).2.2=Z:=by simpa using c7
        have hz:=h.z r c2';have hp:sizeH (hdW w r)<=w.heap.C.pw:=by
         rw[Z2t];rcases hz with hz | hz
         .exact absurd hz c6
         .exact hz
        have hlr:=Z09 w.heap.W r;obtain⟨i,p,t,p1,p2,p3,p4,p5,p6,p7,e8⟩:=Z49 hw ⟨by rw[Z2t];omega,hp⟩ c7';refine⟨⟨[(w.place (sizeH (hdW w r))).2.1], ?_⟩, ?_,ZjE hw h c2' c1' (Z2t w r) hp c7'⟩
        .rw[e8];rfl
        .rw[e8];rfl
def FD(w:Work)(F:Int->Prop):Prop:=∀ z,F z->(∃ q j,q∈w.Q/\0<=j/\j<hlA w.heap.W q/\z=q+1+j)/\ToOk w (loadA w.heap.W z).1
structure Sm (w v:Work):Prop where
 q:∃ m,v.Q=w.Q++m
 h:∀ x∈w.Q,hdA v.heap.W x=hdA w.heap.W x
def Sm.trans{u v w:Work}(a:Sm u v)(b:Sm v w):Sm u w:=by
 obtain⟨m,em⟩:=a.q;obtain⟨n,en⟩:=b.q;exact⟨⟨m++n,by rw[en,em,List.append_assoc]⟩,λx hx=>(b.h x (by rw[em];exact La _ hx)).trans (a.h x hx)⟩
def Sm.mem{w v:Work}(a:Sm w v){x:Int}(hx:x∈w.Q):x∈v.Q:=by
 obtain⟨m,em⟩:=a.q;rw[em];exact La _ hx
def Sm.len{w v:Work}(a:Sm w v){x:Int}(hx:x∈w.Q):hlA v.heap.W x=hlA w.heap.W x:=congrArg Header.length (a.h x hx)
def Sm.to{w v:Work}(a:Sm w v){x:Int}(hx:ToOk w x):ToOk v x:=hx.imp id a.mem
def Zcw{w:Work}(hw:WkOk w)(h:CIv w)(r:Int)(e:(w.fwd r).2.2=0):Sm w (w.fwd r).1:=by
 have s:=Z2Q hw h r e;refine⟨s.1,λx hx=>?_⟩;have:=s.2.2 x (Lr _ hx) (.inl hx) 0 oq (Z09 _ _).1;rw[L3]at this;rw[hdA,hdA,this]
def FD.fwd{w:Work}{F:Int->Prop}(f:FD w F)(hw:WkOk w)(h:CIv w)(r:Int)(e:(w.fwd r).2.2=0):FD (w.fwd r).1 F:=by
 have s:=Z2Q hw h r e;have m:=Zcw hw h r e;intro z hz;obtain⟨⟨q,j,hq,h0,h1,rfl⟩,t⟩:=f z hz;refine⟨⟨q,j,m.mem hq,h0,by rw[m.len hq];exact h1,rfl⟩, ?_⟩;have:=s.2.2 q (Lr _ hq) (.inl hq) (1+j) oq oq;rw[<- LO]at this;rw[this];exact m.to t
def ZoB{B:Int}{w:Work}(hw:WkOk w)(h:CIv w)(hp:PR B w){F:Int->Prop}(f:FD w F){q j:Int}(hq:q∈w.Q)(hj:0<=j/\j<hlA w.heap.W q)(e:(w.fwd (loadA w.heap.W (q+1+j)).1).2.2=0):Sm w (w.in1 (q+1+j))/\(w.in1 (q+1+j)).D=w.D/\FD (w.in1 (q+1+j)) (λz=>F z\/z=q+1+j):=by
 have s:=Z2Q hw h _ e;have m:=Zcw hw h _ e;have ff:=f.fwd hw h _ e;have to:=Zmm w _ hp e;obtain⟨i1,x1⟩:=Z3z hw h _ e;have hq1:=x1.q q hq;have hl1:=x1.l q hq;have hr:=i1.r q (Lr _ hq1);have hin:4096<=q+1+j/\q+1+j<4096+(w.fwd (loadA w.heap.W (q+1+j)).1).1.heap.W.length:=by omega
 have hne:∀ x∈(w.fwd (loadA w.heap.W (q+1+j)).1).1.Q,x≠q+1+j:=by
  intro x hx c;have:=i1.s q (Lr _ hq1) x (Lr _ hx) oq;omega
 have hh:∀ x∈(w.fwd (loadA w.heap.W (q+1+j)).1).1.Q,hdA (w.in1 (q+1+j)).heap.W x=hdA (w.fwd (loadA w.heap.W (q+1+j)).1).1.heap.W x:=by
  intro x hx;simp only[Work.in1];rw[hdA,hdA,Z0l hin (hne x hx)]
 have m2:Sm (w.fwd (loadA w.heap.W (q+1+j)).1).1 (w.in1 (q+1+j)):=⟨⟨[],by simp[Work.in1]⟩,hh⟩
 refine⟨m.trans m2,s.2.1, ?_⟩;intro z hz;have key:(∃ q' j',q'∈w.Q/\0<=j'/\j'<hlA w.heap.W q'/\z=q'+1+j'):=by
  rcases hz with hz | rfl
  .exact(f z hz).1
  .exact⟨q,j,hq,hj.1,hj.2,rfl⟩
 obtain⟨q',j',k1,k2,k3,k4⟩:=key;refine⟨⟨q',j',(m.trans m2).mem k1,k2,by rw[(m.trans m2).len k1];exact k3,k4⟩, ?_⟩;by_cases c:z=q+1+j
 .subst c;have:(loadA (w.in1 (q+1+j)).heap.W (q+1+j)).1=(w.fwd (loadA w.heap.W (q+1+j)).1).2.1:=by
   simp only[Work.in1];rw[Z1s hin]
  rw[this];exact m2.to to
 .have:loadA (w.in1 (q+1+j)).heap.W z=loadA (w.fwd (loadA w.heap.W (q+1+j)).1).1.heap.W z:=by
   simp only[Work.in1];rw[Z0l hin c]
  rw[this];rcases hz with hz | hz
  .exact m2.to (ff z hz).2
  .exact absurd hz c
section
variable {B:Int} (hB:0<=B)
include hB
theorem Zhv{w:Work}(hw:WkOk w)(h:CIv w)(hp:PR B w){F:Int->Prop}(f:FD w F){q:Int}(hq:q∈w.Q){l:List Int}(hl:∀ x∈l,0<=x/\x<hlA w.heap.W q):∀ k,k<=l.length->(∀ j,j<k->innE w q l j=0)->Sm w (innN w q l k)/\(innN w q l k).D=w.D/\FD (innN w q l k) (λz=>F z\/∃ i,i<k/\z=q+1+l.getD i X)
 | 0,_,_=>⟨⟨⟨[],by simp[innN]⟩,λ_ _=>rfl⟩,rfl,λz hz=>f z (hz.resolve_right (by rintro⟨i,hi,_⟩;omega))⟩
 | k+1,hk,he=>by
  obtain⟨a,b,c⟩:=Zhv hw h hp f hq hl k oq (λj hj=>he j oq);have ok:=(Z4q hw q l k (λj hj=>he j oq)).1;have iv:=Z7U hw h hq hl k oq (λj hj=>he j oq);have pr:=ZjN (PR B) (λw q j hw hi h hq h0 h1 e=>PR.in1 hB w q j hw hi h hq h0 h1 e) hw h hp hq hl k oq (λj hj=>he j oq);have hx:=hl _ (getD_mem_iff.2 ⟨k,by omega,rfl⟩);obtain⟨d1,d2,d3⟩:=ZoB ok iv.1 pr c (a.mem hq) (j:=l.getD k X) ⟨hx.1,by rw[a.len hq];exact hx.2⟩ (he k oq);refine⟨a.trans d1,d2.trans b,λz hz=>d3 z ?_⟩;rcases hz with hz | ⟨i,hi,hz⟩
  .exact Y (Y hz)
  .by_cases q2:i=k
   .subst q2;exact O hz
   .exact Y (O ⟨i,by omega,hz⟩)
def SD(w:Work):Prop:=FD w (λz=>∃ i j,i<w.D.toNat/\j∈Z01 (hdA w.heap.W (w.Q.getD i X))/\z=w.Q.getD i X+1+j)
omit hB in
theorem Sm.get{w v:Work}(a:Sm w v){i:Nat}(hi:i<w.Q.length):v.Q.getD i X=w.Q.getD i X:=by
 obtain⟨m,em⟩:=a.q;rw[em,M,M,List.getElem?_append_left hi]
theorem Zf0{w:Work}(hw:WkOk w)(h:CIv w)(hp:PR B w)(f:SD w)(e:(Z0r w).2.2=0):SD (Z0r w).1:=by
 by_cases hs:w.D<w.Q.length
 .have hsc:=hw.sc;have hq:Z1G w∈w.Q:=getD_mem_iff.2 ⟨w.D.toNat,by omega,rfl⟩;unfold Z0r at e ⊢;rw[if_pos hs]at e ⊢;cases hb:(Ld (Z0T w).length).find? (λk=>LC (innE w (Z1G w) (Z0T w) k≠0))with
  | none =>
   have h0:∀ j,j<(Z0T w).length->innE w (Z1G w) (Z0T w) j=0:=λj hj=>by
    have:=Lq.1 hb j (Lb.2 hj);simpa using this
   obtain⟨a,b,c⟩:=Zhv hB hw h hp f hq (l:=Z0T w) (Z1S (hdW w (Z1G w))) (Z0T w).length (Le _) h0;intro z hz;obtain⟨i,j,hi,hj,rfl⟩:=hz;simp only[Z7H]at hi hj ⊢;rw[b]at hi;have hg:=a.get (show i<w.Q.length by omega);have hm:w.Q.getD i X∈w.Q:=getD_mem_iff.2 ⟨i,by omega,rfl⟩;rw[hg,a.h _ hm]at hj;rw[hg];refine c _ ?_;by_cases q:i=w.D.toNat
   .subst q;obtain⟨n,n1,n2⟩:=getD_mem_iff.1 hj;exact O ⟨n,n1,by rw[<- n2];rfl⟩
   .exact Y ⟨i,j,by omega,hj,rfl⟩
  | some k =>
   simp only[hb]at e;have:=(LG.1 hb).1;simp[e]at this
 .have e:Z0r w=(w,Lf,0):=by rw[Z0r,if_neg hs]
  rw[e];exact f
theorem Zmy{w:Work}(hw:WkOk w)(h:CIv w)(hp:PR B w)(f:SD w):∀ k,(∀ j,j<k->Z2T w j=Lf)->SD (itW w k)
 | 0,_=>f
 | k+1,hh=>by
  have ih:=Zmy hw h hp f k (λj hj=>hh j oq);have ok:=(Z4a hw k (λj hj=>hh j oq)).1;have iv:=(Z7o hw h k (λj hj=>hh j oq)).1;have pr:=ZkR (PR B) (λw q j hw hi h hq h0 h1 e=>PR.in1 hB w q j hw hi h hq h0 h1 e) (λw n h=>⟨⟨h.tab.pt,h.tab.tk,h.tab.pin⟩,h.rt.q,h.rt.t⟩) hw h hp k (λj hj=>hh j oq);have hk:=hh k oq;simp only[Z2T,decide_eq_false_iff_not,not_or,LN]at hk;exact Zf0 hB ok iv pr ih hk.1
theorem Zn9{w:Work}(hw:WkOk w)(h:CIv w)(hp:PR B w)(f:SD w)(e:(allF w).2=0):SD (allF w).1/\(allF w).1.D=(allF w).1.Q.length:=by
 obtain⟨k,hb⟩:=Z3A hw;obtain⟨h1,h2,h3⟩:=LG.1 hb;have h0:∀ j,j<k->Z2T w j=Lf:=λj hj=>by simpa using h3 j hj
 unfold allF at e ⊢;rw[hb]at e ⊢;simp only at e ⊢;split at e
 .rename_i c;rw[if_pos c];have ok:=(Z4a hw k h0).1;have iv:=(Z7o hw h k h0).1;have pr:=ZkR (PR B) (λw q j hw hi h hq h0 h1 e=>PR.in1 hB w q j hw hi h hq h0 h1 e) (λw n h=>⟨⟨h.tab.pt,h.tab.tk,h.tab.pin⟩,h.rt.q,h.rt.t⟩) hw h hp k h0;refine⟨Zf0 hB ok iv pr (Zmy hB hw h hp f k h0) c, ?_⟩;simp only[Z2T,decide_eq_true_eq]at h1;have hf:(Z0r (itW w k)).2.1=Lf:=h1.resolve_left (λq=>q c);have hsc:=ok.sc;by_cases hs:(itW w k).D<(itW w k).Q.length
  .exfalso;unfold Z0r at hf c;rw[if_pos hs]at hf c;cases hb2:(Ld (Z0T (itW w k)).length).find? (λm=>LC (innE (itW w k) (Z1G (itW w k)) (Z0T (itW w k)) m≠0))with
   | none =>
    rw[hb2]at hf;simp at hf
   | some m =>
    simp only[hb2]at c;have:=(LG.1 hb2).1;simp[c]at this
  .have e3:Z0r (itW w k)=(itW w k,Lf,0):=by rw[Z0r,if_neg hs]
   rw[e3];simp only;omega
 .rename_i c;exact absurd e c
theorem ZoF{h:Heap}{s:List Int}(hw:WOk h.W)(hp:Z03 h=Z)(hb:∀ p∈h.P,p.N<=B)(e:(rootsF (beginW h) s).2.2=0)(e2:(allF (rootsF (beginW h) s).1).2=0):SD (cW2 h s)/\(cW2 h s).D=(cW2 h s).Q.length:=by
 have wb:=Z3o hw hp;have hi:=Z3g hp;have ho:=Z3w (roots:=s) wb hi e;have pr:=ZaP (PR B) (λw r hw hi h e=>PR.fwd hB w r hw hi h e) (roots:=s) wb hi ⟨Z6u hp hb,ZbG hp⟩ e;have s0:=ZaP (λw=>w.D=0) (λw r hw hi h e=>(Z2Q hw hi r e).2.1.trans h) (roots:=s) wb hi rfl e;exact Zn9 hB ho.1 ho.2.1 pr (λz hz=>by obtain⟨i,j,q,_⟩:=hz;rw[s0]at q;simp at q) e2
end
def Z5O(w:Work)(x:Int):Prop:=Z13 w (ofA w.heap.C x).1=Z/\x∉w.Q
def Z9x(n:Int)(a x:Int):Int:=if a=x then 1+16*n else 0
def ZiC{n:Int}(h:0<=n/\n<=255):decodeH (1+16*n)=(⟨0,n,0⟩,Z):=by
 have hv:Z0d ⟨0,n,0⟩=Z:=validH_iff.2 ⟨by simp,by simp,h.1,h.2,by simp⟩;have:=decode_encode hv pq;rw[Z5s h]at this;exact this
def ZjM{n:Int}(h:0<=n/\n<=255){ws:List Int}{a x:Int}(hx:4096<=x/\x+n<4096+ws.length)(ha:x<=a/\a<=x+n):(loadA (Z0t ws x (objW ⟨0,n,0⟩)).1 a).1=Z9x n a x:=by
 have hl:(objW ⟨0,n,0⟩).length=n.toNat+1:=by simp[objW]
 rw[Z1H oq oq];unfold Z9x;by_cases c:a=x
 .subst c;simp[objW,Z5s h]
 .rw[if_neg c,objW,show(a-x).toNat=(a-x-1).toNat+1 by omega];simp[M,Lz];split<;>rfl
structure FL (v:Work) (ws:List Int) (k:Nat):Prop where
 l:ws.length=v.heap.W.length
 h:∀ x∈v.old,hlA ws x=hlA v.heap.W x
 s:∀ a,loadA ws a=loadA v.heap.W a\/∃ x∈v.old,Z5O v x/\x<=a/\a<=x+hlA v.heap.W x/\(loadA ws a).1=Z9x (hlA v.heap.W x) a x
 f:∀ j,j<k->Z5O v (v.old.getD j X)->∀ a,v.old.getD j X<=a->a<=v.old.getD j X+hlA v.heap.W (v.old.getD j X)->(loadA ws a).1=Z9x (hlA v.heap.W (v.old.getD j X)) a (v.old.getD j X)
def ZfQ{v:Work}(hw:FOk v)(hi:CIv v):∀ k,k<=v.old.length->FL v (fillN v k).heap.W k
 | 0,_=>⟨rfl,λ_ _=>rfl,λ_=>Y rfl,λj hj=>by omega⟩
 | k+1,hk=>by
  have ih:=ZfQ hw hi k oq;obtain⟨i0,i1,i2,i3,i4,i5,i6,i7,i8,i9,i10,i11⟩:=Z5F v hw k;have hm:v.old.getD k X∈v.old:=getD_mem_iff.2 ⟨k,by omega,rfl⟩;have hr:=hi.r _ (La _ hm);have hn:=Z09 v.heap.W (v.old.getD k X);have hprom:Z13 (fillN v k) (ofA (fillN v k).heap.C (v.old.getD k X)).1=Z13 v (ofA v.heap.C (v.old.getD k X)).1:=by
   unfold Z13;rw[i1,i2,i3,i6]
  by_cases c:Z5O v (v.old.getD k X)
  .have e:(fillN v (k+1)).heap.W=(Z0t (fillN v k).heap.W (v.old.getD k X) (objW ⟨0,hlA v.heap.W (v.old.getD k X),0⟩)).1:=by
    show(Z5I (fillN v k) (v.old.getD k X)).heap.W=_;rw[Z5I,hprom,i7,if_pos (show Z13 v (ofA v.heap.C (v.old.getD k X)).1=Z/\v.old.getD k X∉v.Q from c)];simp only;rw[<- ih.h _ hm];rfl
   rw[e];have hl:=ih.l;generalize hx:v.old.getD k X=x at *;have hin:4096<=x/\x+hlA v.heap.W x<4096+(fillN v k).heap.W.length:=by omega
   have ho:(objW ⟨0,hlA v.heap.W x,0⟩).length=(hlA v.heap.W x).toNat+1:=by simp[objW]
   have win:=λa ha=>ZjM hn (ws:=(fillN v k).heap.W) (a:=a) hin ha;have wout:∀ a,a<x\/x+hlA v.heap.W x<a->loadA (Z0t (fillN v k).heap.W x (objW ⟨0,hlA v.heap.W x,0⟩)).1 a=loadA (fillN v k).heap.W a:=λa ha=>Z29 oq oq;have sep:=λy hy=>hi.s x (La _ hm) y (La _ hy);have sep2:=λy hy=>hi.s y (La _ hy) x (La _ hm);refine⟨?_, ?_, ?_, ?_⟩
   .unfold Z0t;rw[if_pos oq];exact(Z3V oq).trans hl
   .intro y hy;by_cases q:y=x
    .subst q;have:=win y oq;rw[hlA,this,Z9x,if_pos rfl,ZiC hn]
    .have s1:=sep y hy;have s2:=sep2 y hy;have:=Z09 v.heap.W y;rw[hlA,wout y oq];exact ih.h y hy
   .intro a;by_cases q:x<=a/\a<=x+hlA v.heap.W x
    .exact O ⟨x,hm,c,q.1,q.2,win a q⟩
    .rw[wout a oq];exact ih.s a
   .intro j hj hf a h1 h2;by_cases q:v.old.getD j X=x
    .rw[q]at h1 h2 ⊢;exact win a ⟨h1,h2⟩
    .have hjk:j<k:=by
      by_cases q2:j=k
      .subst q2;exact absurd hx q
      .omega
     have hmj:v.old.getD j X∈v.old:=getD_mem_iff.2 ⟨j,by omega,rfl⟩;have s1:=sep _ hmj;have s2:=sep2 _ hmj;have:=Z09 v.heap.W (v.old.getD j X);rw[wout a oq];exact ih.f j hjk hf a h1 h2
  .have e:fillN v (k+1)=fillN v k:=by
    show Z5I (fillN v k) (v.old.getD k X)=_;rw[Z5I,hprom,i7,if_neg (show ¬ (Z13 v (ofA v.heap.C (v.old.getD k X)).1=Z/\v.old.getD k X∉v.Q)from c)]
   rw[e];refine⟨ih.l,ih.h,ih.s,λj hj hf=>?_⟩;by_cases q:j=k
   .subst q;exact absurd hf c
   .exact ih.f j oq hf
def Zd0{c:Conf}{s:Int}{l:List Page}{ws:List Int}(hp:0<=c.pw)(hl:(ws.length:Int)=c.pw*l.length):∀ k,k<=l.length->(Z2e c.pw s l ws k).length=ws.length/\∀ (i:Nat) (o:Int),i<l.length->0<=o->o<c.pw->loadA (Z2e c.pw s l ws k) (4096+i*c.pw+o)=if i<k/\Z2h s (l.getD i X)then(0,0)else loadA ws (4096+i*c.pw+o)
 | 0,_=>⟨rfl,λi o _ _ _=>by rw[if_neg oq];rfl⟩
 | k+1,hk=>by
  obtain⟨h1,h2⟩:=Zd0 (s:=s) hp hl k oq;unfold Z2e;by_cases c':Z2h s (l.getD k X)
  .rw[if_pos c'];have hk2:=Z0Y (i:=k) (j:=l.length) (pw:=c.pw) oq hp;have hk0:0<=(k:Int)*c.pw:=Lx oq hp;rw[Ls (l.length:Int)]at hk2;have hlen:(Ll c.pw.toNat (0:Int)).length=c.pw.toNat:=Lo;have en:((k*c.pw.toNat:Nat):Int)=k*c.pw:=by rw[Int.natCast_mul,LS hp]
   have e:spl (Z2e c.pw s l ws k) (k*c.pw.toNat) (Ll c.pw.toNat 0)=(Z0t (Z2e c.pw s l ws k) (4096+k*c.pw) (Ll c.pw.toNat 0)).1:=by
    unfold Z0t;rw[if_pos oq];simp only;congr 1;omega
   refine⟨?_, ?_⟩
   .rw[Z3V oq];exact h1
   .intro i o hi h0 ho;rw[e];by_cases q:i=k
    .subst q;rw[Z1H oq oq,if_pos ⟨by omega,c'⟩];simp[M,Lz];split<;>rfl
    .have hne:4096+(i:Int)*c.pw+o<4096+k*c.pw\/4096+k*c.pw+c.pw<=4096+(i:Int)*c.pw+o:=by
      rcases Nat.lt_or_gt_of_ne q with q | q
      .have:=Z0Y (i:=i) (j:=k) (pw:=c.pw) oq hp;omega
      .have:=Z0Y (i:=k) (j:=i) (pw:=c.pw) oq hp;omega
     rw[Z29 oq oq,h2 i o hi h0 ho];by_cases q2:i<k/\Z2h s (l.getD i X)
     .rw[if_pos q2,if_pos ⟨by omega,q2.2⟩]
     .rw[if_neg q2,if_neg (λq3=>q2 ⟨by omega,q3.2⟩)]
  .rw[if_neg c'];refine⟨h1,λi o hi h0 ho=>?_⟩;rw[h2 i o hi h0 ho];by_cases q2:i<k/\Z2h s (l.getD i X)
   .rw[if_pos q2,if_pos ⟨by omega,q2.2⟩]
   .rw[if_neg q2,if_neg];rintro⟨q3,q4⟩;by_cases q5:i=k
    .subst q5;exact c' q4
    .exact q2 ⟨by omega,q4⟩
def ZaD(hd:Header){k:Int}(h0:0<=k)(hp:Z0c hd k=Z):∀ n:Nat,k<n->k∈Z0G hd n
 | 0,h=>by omega
 | n+1,h=>by
  unfold Z0G;by_cases q:k=n
  .subst q;rw[if_pos hp];simp
  .have ih:=ZaD hd h0 hp n oq;split
   .exact La _ ih
   .exact ih
def Z4C{hd:Header}{k:Int}(h0:0<=k)(h1:k<hd.length)(hp:Z0c hd k=Z):k∈Z01 hd:=by
 have hv:Z0d hd=Z:=by
  unfold Z0c at hp;simp only[LI]at hp;exact hp.1.1.1
 unfold Z01;rw[if_pos hv];exact ZaD hd h0 hp _ oq
structure CE (h:Heap) (T tq:Nat->List Int) (w:Work) (l4 l5:List Int):Prop where
 g:Gd h T
 k:KI h T tq w
 i:CIv w
 s:w.heap.S=0\/w.heap.S=1
 pt:PT w.heap.C w.heap.P
 ts:∀ x∈w.T,(w.heap.P.getD x.toNat X).S=1-w.heap.S
 sd:SD w
 sc:w.D=w.Q.length
 f3:∀ a,loadA l4 a=loadA w.heap.W a\/∃ x∈w.old,Z5O w x/\x<=a/\a<=x+hlA w.heap.W x/\(loadA l4 a).1=Z9x (hlA w.heap.W x) a x
 f4:∀ x∈w.old,Z5O w x->∀ a,x<=a->a<=x+hlA w.heap.W x->(loadA l4 a).1=Z9x (hlA w.heap.W x) a x
 n4:l4.length=w.heap.W.length
 n5:l5.length=w.heap.W.length
 fr:∀ (i:Nat) (o:Int),i<h.P.length->0<=o->o<h.C.pw->loadA l5 (bsP h i+o)=if Z2h w.heap.S (w.heap.P.getD i X)then(0,0)else loadA l4 (bsP h i+o)
def tE(T tq:Nat->List Int)(w:Work)(i:Nat):List Int:=if(i:Int)∈w.T then tq i else if(w.heap.P.getD i X).S≠w.heap.S then T i else []
section
variable {h:Heap} {T tq:Nat->List Int} {w:Work} {l4 l5:List Int} (c:CE h T tq w l4 l5)
include c
theorem CE.mem{i:Nat}{x:Int}(hx:x∈tE T tq w i):(i:Int)∈w.T/\x∈tq i\/(i:Int)∉w.T/\(w.heap.P.getD i X).S≠w.heap.S/\x∈T i:=by
 unfold tE at hx;split at hx
 .rename_i q;exact Y ⟨q,hx⟩
 .rename_i q;split at hx
  .rename_i q2;exact O ⟨q,q2,hx⟩
  .simp at hx
theorem CE.gone0{i:Nat}(hi:(i:Int)∈w.T):¬ Z2h w.heap.S (w.heap.P.getD i X):=by
 have:=c.ts _ hi;rw[Lc]at this;have:=c.s;unfold Z2h;omega
theorem CE.pgof{i:Nat}{x a:Int}(hx:x∈T i)(h1:x<=a)(h2:a<=x+hlA h.W x):∃ (j:Nat) (o:Int),j<h.P.length/\0<=o/\o<h.C.pw/\a=bsP h j+o/\(w.heap.P.getD j X).K≠0/\(w.heap.P.getD j X).S=(w.heap.P.getD i X).S:=by
 have g:=c.g;have o:=g.on hx;have po:=Z07 g.p;have pg:=c.k.pg i (c.k.nt g hx);have hcc:=c.k.c;have hpl:=c.k.pl;rcases o.2.1 with k | k
 .have pp:=Z0u g.p o.1;exact⟨i,a-bsP h i,o.1,by omega,by omega,by omega,by omega,rfl⟩
 .have hx2:=o.2.2.2.2.2.2 k;have lg:=c.pt.lg i oq oq;rw[pg.2.1,hcc]at lg;have nu:=Z4S lg.1;have h0:0<=(a-bsP h i)/h.C.pw:=L5 oq oq;have h3:=LR (a-bsP h i) h.C.pw;have h4:=LJ (a-bsP h i) (b:=h.C.pw) oq;have h5:=LF (a-bsP h i) (b:=h.C.pw) oq;have h6:(a-bsP h i)/h.C.pw<need h.C (h.P.getD i X).U:=L4 oq oq;rw[Ls]at h3;generalize hm:(a-bsP h i)/h.C.pw=m at *;have hmn:((m.toNat:Nat):Int)=m:=by omega
  refine⟨i+m.toNat,(a-bsP h i)%h.C.pw, ?_,h4,h5, ?_, ?_⟩
  .by_cases q:m.toNat=0
   .omega
   .have:=(lg.2 m.toNat oq oq).1;omega
  .unfold bsP at h3 ⊢;rw[Int.natCast_add,hmn,LQ];omega
  .by_cases q:m.toNat=0
   .rw[q,Xe];exact⟨by omega,rfl⟩
   .have:=(lg.2 m.toNat oq oq).2;exact⟨by omega,this.2⟩
theorem CE.keptw{i:Nat}{x a:Int}(hx:x∈T i)(hs:(w.heap.P.getD i X).S≠w.heap.S)(h1:x<=a)(h2:a<=x+hlA h.W x):loadA l5 a=loadA l4 a:=by
 obtain⟨j,o,j1,o1,o2,e,k0,k1⟩:=c.pgof hx h1 h2;rw[e,c.fr j o j1 o1 o2,if_neg];unfold Z2h;rw[k1];exact λq=>hs q.2
theorem CE.gonew{i:Nat}{x a:Int}(hx:x∈T i)(hs:(w.heap.P.getD i X).S=w.heap.S)(h1:x<=a)(h2:a<=x+hlA h.W x):(loadA l5 a).1=0:=by
 obtain⟨j,o,j1,o1,o2,e,k0,k1⟩:=c.pgof hx h1 h2;rw[e,c.fr j o j1 o1 o2,if_pos ⟨k0,k1.trans hs⟩]
theorem CE.seen4{x a:Int}(hx:x∈w.Q)(h1:x<=a)(h2:a<=x+hlA w.heap.W x):loadA l4 a=loadA w.heap.W a:=by
 rcases c.f3 a with q | ⟨y,hy,q1,q2,q3,q4⟩
 .exact q
 .exfalso;have hne:x≠y:=λe=>q1.2 (e▸hx);have s1:=c.i.s x (Lr _ hx) y (La _ hy);have s2:=c.i.s y (La _ hy) x (Lr _ hx);have r1:=Z09 w.heap.W x;have r2:=Z09 w.heap.W y;rcases Int.lt_or_gt_of_ne hne with q | q
  .have:=s1 q;omega
  .have:=s2 q;omega
theorem CE.takenw{i:Nat}{a:Int}(hi:(i:Int)∈w.T)(h1:bsP h i<=a)(h2:a<bsP h i+h.C.pw):loadA l5 a=loadA l4 a:=by
 have t:=c.k.tk i hi;have:=c.fr i (a-bsP h i) t.1 oq oq;rw[show bsP h i+(a-bsP h i)=a by omega,if_neg (c.gone0 hi)]at this;exact this
theorem CE.seen{x a:Int}(hx:x∈w.Q)(h1:x<=a)(h2:a<=x+hlA w.heap.W x):loadA l5 a=loadA w.heap.W a:=by
 rw[<- c.seen4 hx h1 h2];rcases c.k.q x hx with⟨i,i1,i2,i3,i4⟩ | ⟨i,i1,i2⟩
 .have he:(loadA w.heap.W x).1=(loadA h.W x).1:=by
   rcases c.k.hd i x i2 with q | q
   .exact q
   .exact absurd q.2.2 i4
  rw[(Z1E he).2.1]at h2;exact c.keptw i2 i4 h1 h2
 .have t:=c.k.tk i i1;have m:=Z1C t.2.2.2.2.2.1 i2;exact c.takenw i1 oq oq
theorem CE.where'{x:Int}(hx:x∈w.Q):∃ i,x∈tE T tq w i:=by
 rcases c.k.q x hx with⟨i,i1,i2,i3,i4⟩ | ⟨i,i1,i2⟩
 .exact⟨i,by rw[tE,if_neg i1,if_pos i4];exact i2⟩
 .exact⟨i,by rw[tE,if_pos i1];exact i2⟩
theorem CE.seenK{x:Int}(hx:x∈w.Q):kdA w.heap.W x≠0/\okA w.heap.W x:=by
 rcases c.k.q x hx with⟨i,i1,i2,i3,i4⟩ | ⟨i,i1,i2⟩
 .have he:(loadA w.heap.W x).1=(loadA h.W x).1:=by
   rcases c.k.hd i x i2 with q | q
   .exact q
   .exact absurd q.2.2 i4
  have o:=Z1E he;exact⟨by rw[o.2.2.1];exact i3,o.1 (c.g.on i2).2.2.2.2.2.1⟩
 .have t:=c.k.tk i i1;exact⟨(t.2.2.2.2.2.2 x i2).2.1,(Z1C t.2.2.2.2.2.1 i2).1⟩
theorem CE.kept{i:Nat}{x:Int}(hx:x∈T i)(hn:(i:Int)∉w.T)(hs:(w.heap.P.getD i X).S≠w.heap.S):(loadA w.heap.W x).1=(loadA h.W x).1/\okA l5 x/\hlA l5 x=hlA h.W x/\(x∉w.Q->kdA l5 x=0/\(h.P.getD i X).K=1/\(kdA h.W x≠0->x∈w.old/\Z5O w x)):=by
 have he:(loadA w.heap.W x).1=(loadA h.W x).1:=by
  rcases c.k.hd i x hx with q | q
  .exact q
  .exact absurd q.2.2 hs
 have on:=c.g.on hx;have oh:=Z1E he;have rx:=Z09 h.W x;refine⟨he, ?_⟩;by_cases hq:x∈w.Q
 .have e:=Z1E (congrArg Prod.fst (c.seen hq (Lp _) (by have:=Z09 w.heap.W x;omega)));exact⟨e.1 (oh.1 on.2.2.2.2.2.1),by rw[e.2.1,oh.2.1],λq=>absurd hq q⟩
 .have k1:(h.P.getD i X).K=1:=by
   rcases on.2.1 with q | q
   .exact q
   .have:=c.k.lg i q hs;rw[<- (on.2.2.2.2.2.2 q).1]at this;exact absurd this hq
  have e5:loadA l5 x=loadA l4 x:=c.keptw hx hs (Lp _) oq;by_cases hk:kdA h.W x=0
  .have e4:loadA l4 x=loadA w.heap.W x:=by
    rcases c.f3 x with q | ⟨y,hy,q1,q2,q3,q4⟩
    .exact q
    .exfalso;obtain⟨j,hj,hjk⟩:=(c.k.old y).1 hy;by_cases e:y=x
     .subst e;exact hjk hk
     .have sj:(loadA w.heap.W y).1=(loadA h.W y).1:=by
       rcases c.k.hd j y hj with q | q
       .exact q
       .exfalso;have o2:=q1.1;unfold Z13 at o2;rw[c.k.c,c.g.ofx hj]at o2;simp only[decide_eq_true_eq,Lc]at o2;exact o2.2.2.2.1 q.2.2
      rw[(Z1E sj).2.1]at q3;have:=c.g.sep hj hx oq;omega
   have e:=Z1E (ws:=h.W) (ws':=l5) (a:=x) (by rw[e5,e4,he]);exact⟨e.1 on.2.2.2.2.2.1,e.2.1,λ_=>⟨by rw[e.2.2.1];exact hk,k1,λq=>absurd hk q⟩⟩
  .have ho:x∈w.old:=(c.k.old x).2 ⟨i,hx,hk⟩;have hf:Z5O w x:=by
    refine⟨?_,hq⟩;have pg:=c.k.pg i hn;have pl:=c.k.pl;unfold Z13;rw[c.k.c,c.g.ofx hx];simp only[decide_eq_true_eq,Lc];exact⟨by omega,by omega,by omega,hs,hn⟩
   have v:=c.f4 x ho hf x (Lp _) (by have:=Z09 w.heap.W x;omega);rw[Z9x,if_pos rfl,oh.2.1]at v;rw[<- e5]at v;have d:=ZiC rx;exact⟨by rw[okA,v,d],by rw[hlA,v,d],λ_=>⟨by rw[kdA,hdA,v,d],k1,λ_=>⟨ho,hf⟩⟩⟩
theorem CE.start{i:Nat}{x:Int}(hx:x∈tE T tq w i):okA l5 x/\(kdA l5 x≠0↔x∈w.Q):=by
 have sq:x∈w.Q->okA l5 x/\kdA l5 x≠0:=λhq=>by
  have e:=Z1E (congrArg Prod.fst (c.seen hq (Lp _) (by have:=Z09 w.heap.W x;omega)));have s:=c.seenK hq;exact⟨e.1 s.2,by rw[e.2.2.1];exact s.1⟩
 rcases c.mem hx with⟨q1,q2⟩ | ⟨q1,q2,q3⟩
 .have hq:=((c.k.tk i q1).2.2.2.2.2.2 x q2).1;exact⟨(sq hq).1,λ_=>hq,λ_=>(sq hq).2⟩
 .have kk:=c.kept q3 q1 q2;refine⟨kk.2.1,λhk=>?_,λhq=>(sq hq).2⟩;by_cases hq:x∈w.Q
  .exact hq
  .exact absurd (kk.2.2.2 hq).1 hk
theorem CE.good{b:Int}(hp:Z03 ⟨w.heap.C,l5,w.heap.P.map (Z12 w.heap.S),1-w.heap.S,b⟩=Z):Gd ⟨w.heap.C,l5,w.heap.P.map (Z12 w.heap.S),1-w.heap.S,b⟩ (tE T tq w):=by
 have g:=c.g;have hcc:=c.k.c;have hpl:=c.k.pl;have hs:=c.s;have po:=Z07 g.p;have hgt:∀ i,i<h.P.length->(w.heap.P.map (Z12 w.heap.S)).getD i X=Z12 w.heap.S (w.heap.P.getD i X):=λi hi=>by
  have:i<w.heap.P.length:=by omega
  simp[M,this]
 have hng:∀ i,i<h.P.length->((w.heap.P.map (Z12 w.heap.S)).getD i X).K≠0->¬ Z2h w.heap.S (w.heap.P.getD i X)/\(w.heap.P.map (Z12 w.heap.S)).getD i X=w.heap.P.getD i X:=by
  intro i hi hk;rw[hgt i hi]at hk ⊢;unfold Z12 at hk ⊢;split at hk
  .simp at hk
  .rename_i q;rw[if_neg q];exact⟨q,rfl⟩
 have hb:∀ i,bsP ⟨w.heap.C,l5,w.heap.P.map (Z12 w.heap.S),1-w.heap.S,b⟩ i=bsP h i:=λi=>by simp only[bsP,hcc]
 have hk5:∀ x,x∈w.Q->okA w.heap.W x->okA l5 x/\hlA l5 x=hlA w.heap.W x/\kdA l5 x=kdA w.heap.W x/\hdA l5 x=hdA w.heap.W x:=λx hq ho=>by
  have e:=Z1E (congrArg Prod.fst (c.seen hq (Lp _) (by have:=Z09 w.heap.W x;omega)));exact⟨e.1 ho,e.2.1,e.2.2.1,e.2.2.2.1⟩
 have hkept:∀ i,i<h.P.length->(i:Int)∉w.T->((w.heap.P.map (Z12 w.heap.S)).getD i X).K≠0->(w.heap.P.getD i X).S≠w.heap.S/\(h.P.getD i X).K=((w.heap.P.map (Z12 w.heap.S)).getD i X).K/\(h.P.getD i X).U=((w.heap.P.map (Z12 w.heap.S)).getD i X).U/\(h.P.getD i X).N=((w.heap.P.map (Z12 w.heap.S)).getD i X).N:=by
  intro i hi hn hk;have n:=hng i hi hk;have pg:=c.k.pg i hn;rw[n.2]at hk ⊢;refine⟨λq=>n.1 ⟨hk,q⟩,pg.1.symm,pg.2.1.symm,pg.2.2.symm⟩
 refine⟨hp, ?_, ?_, ?_, ?_, ?_, ?_, ?_⟩
 .intro i hi hk;simp only[LA]at hi hk ⊢;have n:=hng i oq hk;rw[n.2]at hk ⊢;have:=(c.pt.b i hi).s;have n1:=n.1;unfold Z2h at n1;omega
 .intro i hi hk;simp only[LA]at hi hk ⊢;rw[hb];have n:=hng i oq oq;by_cases q:(i:Int)∈w.T
  .have t:=c.k.tk i q;rw[tE,if_pos q,n.2,hcc];refine⟨Z2p t.2.2.2.2.2.1 λx hx=>?_,λx hx=>?_⟩
   .have e:=hk5 x (t.2.2.2.2.2.2 x hx).1 (Z1C t.2.2.2.2.2.1 hx).1;exact⟨e.1,e.2.1⟩
   .have e:=hk5 x (t.2.2.2.2.2.2 x hx).1 (Z1C t.2.2.2.2.2.1 hx).1;rw[e.2.1];exact(t.2.2.2.2.2.2 x hx).2.2
  .have kp:=hkept i oq q oq;rw[tE,if_neg q,if_pos kp.1,<- kp.2.2.1,hcc];have t:=g.t1 i oq oq;refine⟨Z2p t.1 λx hx=>?_,λx hx=>?_⟩
   .have e:=c.kept hx q kp.1;exact⟨e.2.1,e.2.2.1⟩
   .rw[(c.kept hx q kp.1).2.2.1];exact t.2 x hx
 .intro i hi hk;simp only[LA]at hi hk ⊢;rw[hb];have n:=hng i oq oq;by_cases q:(i:Int)∈w.T
  .have t:=c.k.tk i q;rw[n.2]at hk;omega
  .have kp:=hkept i oq q oq;have t:=g.t2 i oq oq;have hx:bsP h i∈T i:=by rw[t.1];simp
   have e:=c.kept hx q kp.1;have hq:=c.k.lg i oq kp.1;have st:=c.start (i:=i) (x:=bsP h i) (by rw[tE,if_neg q,if_pos kp.1];exact hx);rw[tE,if_neg q,if_pos kp.1,<- kp.2.2.1];exact⟨t.1,e.2.1,by rw[e.2.2.1];exact t.2.2.1,st.2.2 hq⟩
 .intro i x hx;simp only[LA];rcases c.mem hx with⟨q1,q2⟩ | ⟨q1,q2,q3⟩
  .have t:=c.k.tk i q1;have:Z12 w.heap.S (w.heap.P.getD i X)=w.heap.P.getD i X:=by rw[Z12,if_neg (c.gone0 q1)]
   rw[hgt i t.1,this];exact⟨by omega,Y t.2.2.1⟩
  .have t:=g.t0 i x q3;have pg:=c.k.pg i q1;have:Z12 w.heap.S (w.heap.P.getD i X)=w.heap.P.getD i X:=by rw[Z12,if_neg (λq=>q2 q.2)]
   rw[hgt i t.1,this];exact⟨by omega,by rw[pg.1];exact t.2⟩
 .intro a ha;simp only at ha ⊢;have h4:(loadA l4 a).1≠0:=by
   have hr:4096<=a/\a<4096+l5.length:=by
    unfold loadA at ha;by_cases q:4096<=a/\a<4096+l5.length
    .exact q
    .rw[if_neg q]at ha;simp at ha
   have hl5:=c.n5;have hL:=c.i.L;rw[hcc]at hL;have h0:0<=(a-4096)/h.C.pw:=L5 oq oq;have h3:=LR (a-4096) h.C.pw;have h5:=LJ (a-4096) (b:=h.C.pw) oq;have h6:=LF (a-4096) (b:=h.C.pw) oq;have h7:(a-4096)/h.C.pw<h.C.pg:=L4 oq (by rw[Ls];omega);rw[Ls]at h3;have f:=c.fr ((a-4096)/h.C.pw).toNat ((a-4096)%h.C.pw) oq h5 h6;have ea:bsP h ((a-4096)/h.C.pw).toNat+(a-4096)%h.C.pw=a:=by
    unfold bsP;rw[LS h0];omega
   rw[ea]at f;rw[f]at ha;split at ha
   .simp at ha
   .exact ha
  have hks:∀ i x,x∈T i->x<=a->a<=x+hlA h.W x->(i:Int)∉w.T/\(w.heap.P.getD i X).S≠w.heap.S:=λi x hx h1 h2 =>
   ⟨c.k.nt g hx,λq=>ha (c.gonew hx q h1 h2)⟩
  have cov:∀ i x,x∈T i->x<=a->a<=x+hlA h.W x->(x∉w.Q->a=x)->∃ i x,x∈tE T tq w i/\x<=a/\a<x+kpA l5 x:=by
   intro i x hx h1 h2 h3;obtain⟨n1,n2⟩:=hks i x hx h1 h2;have hm:x∈tE T tq w i:=by rw[tE,if_neg n1,if_pos n2];exact hx
   have kk:=c.kept hx n1 n2;have r:=Z09 l5 x;refine⟨i,x,hm,h1, ?_⟩;by_cases q:x∈w.Q
   .rw[kpA,if_neg ((c.start hm).2.2 q),kk.2.2.1];omega
   .have:=h3 q;unfold kpA;split<;>omega
  rcases c.f3 a with q | ⟨x,hx,q1,q2,q3,q4⟩
  .rw[q]at h4;rcases c.k.dt a h4 with⟨i,x,hx,h1,h2⟩ | ⟨i,i1,i2,i3⟩
   .have hkp:kpA h.W x<=hlA h.W x+1:=by
     have:=Z09 h.W x;unfold kpA;split<;>omega
    have hh:=hks i x hx h1 oq;refine cov i x hx h1 oq λhq=>?_;have kk:=(c.kept hx hh.1 hh.2).2.2.2 hq;by_cases hk:kdA h.W x=0
    .rw[kpA,if_pos hk]at h2;omega
    .have fl:=kk.2.2 hk;have oh:=Z1E (c.kept hx hh.1 hh.2).1;have v:=c.f4 x fl.1 fl.2 a h1 (by rw[oh.2.1];omega);rw[<- q]at h4;rw[v,Z9x]at h4;split at h4
     .rename_i e;exact e
     .exact absurd rfl h4
   .have t:=c.k.tk i i1;obtain⟨x,hx,x1,x2⟩:=Zae t.2.2.2.2.2.1 i2 i3;have hm:x∈tE T tq w i:=by rw[tE,if_pos i1];exact hx
    have hq:=(t.2.2.2.2.2.2 x hx).1;have e:=hk5 x hq (Z1C t.2.2.2.2.2.1 hx).1;refine⟨i,x,hm,x1, ?_⟩;rw[kpA,if_neg ((c.start hm).2.2 hq),e.2.1];omega
  .obtain⟨i,hi,hk⟩:=(c.k.old x).1 hx;have sj:(loadA w.heap.W x).1=(loadA h.W x).1:=by
    rcases c.k.hd i x hi with q | q
    .exact q
    .exfalso;have o2:=q1.1;unfold Z13 at o2;rw[hcc,g.ofx hi]at o2;simp only[decide_eq_true_eq,Lc]at o2;exact o2.2.2.2.1 q.2.2
   rw[(Z1E sj).2.1]at q3;refine cov i x hi q2 q3 λ_=>?_;rw[q4,Z9x]at h4;split at h4
   .rename_i e;exact e
   .exact absurd rfl h4
 .intro i x m hx hk h0 h1 hpt;simp only at hk h1 hpt ⊢;have hq:=(c.start hx).2.1 hk;have sk:=c.seenK hq;have e:=hk5 x hq sk.2;rw[e.2.1]at h1;rw[e.2.2.2]at hpt;rw[c.seen hq (a:=x+1+m) oq oq];obtain⟨n,n1,n2⟩:=getD_mem_iff.1 hq;have sd:=(c.sd (x+1+m) ⟨n,m,by rw[c.sc];simpa using n1,by rw[n2];exact Z4C h0 h1 hpt,by rw[n2]⟩).2;rcases sd with q | q
  .exact Y q
  .obtain⟨j,hj⟩:=c.where' q;exact O ⟨j,hj,(c.start hj).2.2 q⟩
 .have:crowd (w.heap.P.map (Z12 w.heap.S))<=crowd h.P:=by
   refine Z6j qo λi hi k1 k2=>?_;by_cases q:(i:Int)∈w.T
   .have t:=c.k.tk i q;have n:=hng i hi oq;rw[n.2]at k2;omega
   .have kp:=hkept i hi q oq;omega
  have g2:=g.cr;simp only[hcc];omega
end
def ZiL{B:Int}(hB:0<=B){h:Heap}{T:Nat->List Int}(g:Gd h T){s k:List Int}(hw:WOk h.W)(hb:∀ p∈h.P,p.N<=B)(e1:(rootsF (beginW h) s).2.2=0)(e2:(allF (rootsF (beginW h) s).1).2=0) :
  ∃ tq,CE h T tq (cW2 h s) (cW4 h s k).heap.W (Z16 (cW4 h s k)).heap.W/\endH (cW5 h s k)=⟨(cW2 h s).heap.C,(Z16 (cW4 h s k)).heap.W,(cW2 h s).heap.P.map (Z12 (cW2 h s).heap.S),1-(cW2 h s).heap.S,(endH (cW5 h s k)).B⟩:=by
 have hp:=g.p;have ck:=cOk h s k hw hp e1 e2;have pr:=ZiH hB hw hp hb e1 e2;have sd:=ZoF hB hw hp hb e1 e2;obtain⟨tq,ki⟩:=ZoP g hw e1 e2;obtain⟨g1,g2,g3,g4,g5⟩:=ck.h4;have po:=Z07 hp;obtain⟨a1,a2,a3,a4,a5,a6,a7,a8⟩:=Z5o (cW2 h s) k k.length;have a1:(cW3 h s k).heap=(cW2 h s).heap:=a1;have a2:(cW3 h s k).old=(cW2 h s).old:=a2;have a3:(cW3 h s k).T=(cW2 h s).T:=a3;have a4:(cW3 h s k).Q=(cW2 h s).Q:=a4;have fl:FL (cW3 h s k) (cW4 h s k).heap.W (cW3 h s k).old.length:=ZfQ ck.f3 ck.i3 (cW3 h s k).old.length (Le _);have tf:∀ x,Z5O (cW3 h s k) x↔Z5O (cW2 h s) x:=λx=>by
  unfold Z5O Z13;rw[a1,a3,a4]
 have hcc:=ki.c;have hpl:=ki.pl;have hwl:=ki.wl;have w4:(cW4 h s k).heap.W.length=h.W.length:=by
  have:=fl.l;rw[a1]at this;exact this.trans hwl
 have fw:=Zd0 (c:=h.C) (s:=(cW2 h s).heap.S) (l:=(cW2 h s).heap.P) (ws:=(cW4 h s k).heap.W) oq (by rw[w4,hpl,po.2.2.2.2.2.2.2.1];exact po.2.2.2.2.2.1) (cW2 h s).heap.P.length (Le _);have e5:(Z16 (cW4 h s k)).heap.W=Z2e h.C.pw (cW2 h s).heap.S (cW2 h s).heap.P (cW4 h s k).heap.W (cW2 h s).heap.P.length:=by
  simp only[Z16,g1,g2,g3]
 have ce:CE h T tq (cW2 h s) (cW4 h s k).heap.W (Z16 (cW4 h s k)).heap.W:=by
  refine⟨g,ki,ck.i2,ck.w2.sp,pr.tab.pt,pr.tab.tk,sd.1,sd.2, ?_, ?_, ?_, ?_, ?_⟩
  .intro a;rcases fl.s a with q | ⟨x,hx,q1,q2,q3,q4⟩
   .refine Y ?_;rw[a1]at q;exact q
   .refine O ⟨x,a2▸hx,(tf x).1 q1,q2, ?_, ?_⟩
    .rw[a1]at q3;exact q3
    .rw[a1]at q4;exact q4
  .intro x hx hf a h1 h2;obtain⟨j,j1,j2⟩:=getD_mem_iff.1 hx;have:=fl.f j (by rw[a2];exact j1);rw[a2,a1,j2]at this;exact this ((tf x).2 hf) a h1 h2
  .rw[w4,hwl]
  .rw[e5,fw.1,w4,hwl]
  .intro i o hi h0 ho;have:=fw.2 i o oq h0 ho;rw[e5];show loadA _ (4096+(i:Int)*h.C.pw+o)=_;rw[this];by_cases q:Z2h (cW2 h s).heap.S ((cW2 h s).heap.P.getD i X)
   .rw[if_pos ⟨by omega,q⟩,if_pos q]
   .rw[if_neg (λc=>q c.2),if_neg q];rfl
 have eh:endH (cW5 h s k)=⟨(cW2 h s).heap.C,(Z16 (cW4 h s k)).heap.W,(cW2 h s).heap.P.map (Z12 (cW2 h s).heap.S),1-(cW2 h s).heap.S,(endH (cW5 h s k)).B⟩:=by
  unfold endH cW5;simp only[Z16,g1,g2,g3,hcc]
 exact⟨tq,ce,eh⟩
def Zhf{B:Int}(hB:0<=B){h:Heap}{T:Nat->List Int}(g:Gd h T){s k:List Int}(hw:WOk h.W)(hb:∀ p∈h.P,p.N<=B)(hs:RtOb h T s)(hk:RtOb h T k)(e:(collectF h s k).2.2.2.2=0) :
  ∃ T',Gd (collectF h s k).1 T'/\RtOb (collectF h s k).1 T' (collectF h s k).2.1/\RtOb (collectF h s k).1 T' (collectF h s k).2.2.1:=by
 have hp:=g.p;have hr:=g.refers hs;have hr':=g.refers hk;have pr1:=(Z7a hB hw hb e).p1;by_cases e1:(rootsF (beginW h) s).2.2=0
 .by_cases e2:(allF (rootsF (beginW h) s).1).2=0
  .have e7:collectF h s k=(endH (cW5 h s k),(rootsF (beginW h) s).2.1,Z3U (cW2 h s) k k.length,(cW5 h s k).rep,0):=by rw[collectF,if_pos hp,if_pos ⟨hr,hr'⟩,if_pos e1,if_pos e2]
   rw[e7]at pr1 ⊢;have pr:=ZiH hB hw hp hb e1 e2;obtain⟨tq,ce,eh⟩:=ZiL hB g hw hb e1 e2 (k:=k);have ki:=ce.k;rw[eh]at pr1 ⊢;have gd:=ce.good pr1;have seen:∀ x,ToOk (cW2 h s) x->x=0\/Ob ⟨(cW2 h s).heap.C,(Z16 (cW4 h s k)).heap.W,(cW2 h s).heap.P.map (Z12 (cW2 h s).heap.S),1-(cW2 h s).heap.S,(endH (cW5 h s k)).B⟩ (tE T tq (cW2 h s)) x:=by
    intro x hx;rcases hx with q | q
    .exact Y q
    .obtain⟨i,hi⟩:=ce.where' q;exact O ⟨i,hi,(ce.start hi).2.2 q⟩
   refine⟨tE T tq (cW2 h s),gd,λx hx=>seen x ?_,λx hx=>seen x ?_⟩
   .have hbg:=Z3o hw hp;have hib:=Z3g hp;have pr0:PR B (beginW h):=⟨Z6u hp hb,ZbG hp⟩
    have hall:=Z3w (roots:=s) hbg hib e1;have ax:=ZfD hall.1 hall.2.1 e2;have:ToOk (rootsF (beginW h) s).1 x:=by
     unfold rootsF at e1 hx ⊢;cases hbb:(Ld s.length).find? (λk=>LC (Z1W (beginW h) s k≠0))with
     | none =>
      rw[hbb]at hx;have h0:∀ j,j<s.length->Z1W (beginW h) s j=0:=λj hj=>by
       have:=Lq.1 hbb j (Lb.2 hj);simpa using this
      exact Zdc hB hbg hib pr0 s.length h0 x hx
     | some k =>
      rw[hbb]at e1;simp only at e1;have:=(LG.1 hbb).1;simp[e1]at this
    rcases this with q | q
    .exact Y q
    .exact O (ax.2.q x q)
   .have:∀ i,i<=k.length->∀ x∈Z3U (cW2 h s) k i,ToOk (cW2 h s) x:=by
     intro i;induction i with
     | zero=>intro _ x hx;simp[Z3U]at hx
     | succ i ih =>
      intro hi' x hx;simp only[Z3U,Li,Lk]at hx;rcases hx with hx | rfl
      .exact ih oq x hx
      .have hsi:=Z5o (cW2 h s) k i;unfold Z7E;split
       .exact Y rfl
       .rename_i hne;unfold Z1z;rw[hsi.2.2.2.1,hsi.1];split
        .rename_i hq;exact O hq
        .cases ht:(Z0e (loadA (cW2 h s).heap.W (k.getD i X)).1).2 with
         | true =>
          refine O (pr.rt.t _ ?_ ht);rw[ki.old];rcases hk _ (getD_mem_iff.2 ⟨i,by omega,rfl⟩)with q | q
          .exact absurd q hne
          .exact q
         | false =>
          refine Y ?_;unfold Z0e at ht ⊢;split at ht
          .simp at ht
          .rename_i hcc2;rw[if_neg hcc2]
    exact this k.length (Le _) x hx
  .rw[collectF,if_pos hp,if_pos ⟨hr,hr'⟩,if_pos e1,if_neg e2]at e;exact absurd e e2
 .rw[collectF,if_pos hp,if_pos ⟨hr,hr'⟩,if_neg e1]at e;exact absurd e e1
def WG.collect{w:WorldM}{n:Nat}(h:WG w)(hm:MOk w n):WG w.collect:=by
 unfold WorldM.collect;split
 .rename_i e;obtain⟨T,g,g1,g2⟩:=h;exact Zhf (B:=n) oq g hm.W (λp hp=>(hm.pin_mem p hp).2) g1 g2 e
 .exact h
def WG.step{w:WorldM}{n:Nat}(h:WG w)(hm:MOk w n)(hn:n<=1000000)(t:Tape):WG (w.step t):=by
 unfold WorldM.step;repeat' split
 .exact h.put hm.W (Z5u _ _)
 .exact h.link hm hn _
 .exact h.pin hm hn _
 .exact h.drop _
 .exact h.collect hm
 .exact h.dup _
def ZjQ{w:WorldM}{n:Nat}(h:WG w)(hm:MOk w n)(t:Tape):∀ k,n+k<=1000000->WG (mkS w t k).1
 | 0,_=>h
 | k+1,hk=>(ZjQ h hm t k oq).step (ZaH hm t k oq) oq _
def ZfY(l:List Int):WG (Z0o l):=by
 have e:=Z5n l;have hl:(((Z2N l).step 4).step 5).l.length<=300:=by rw[e.1];simp;omega
 have hk:=Zcm (Z2N l).empty (((Z2N l).step 4).step 5) oq;exact ZjQ (ZbH (Z2N l)) (Z7P (Z2N l)) _ _ oq
def Z3O(l:List Page):sumP nzP l=Z1M l:=by
 rw[Z1x];unfold Z1M;have:∀ n,((Ld n).map λi=>nzP (l.getD i X)).sum=Z1I l n:=by
  intro n;induction n with
  | zero=>simp[Z1I]
  | succ n ih =>
   have hpa:Z1b l n=l.getD n X:=by rw[Z4A];simp
   rw[LZ,LX,L0,ih,Z1I,hpa];simp only[Lj,LY,Lm,L1,nzP];split<;>simp
 exact this _
def ZoK{pw:Int}:∀ {l:List Page},(∀ p∈l,usP p+lgP p*pw<=nzP p*pw)->sumP usP l+sumP lgP l*pw<=sumP nzP l*pw
 | [],_=>by simp[sumP]
 | x::l,h=>by
  have h1:=ZoK (l:=l) λp hp=>h p (Lu _ hp);have h2:=h x pq;simp only[sumP,Lj,Lm,LQ]at h1 h2 ⊢;omega
def ZdI{h:Heap}(hp:Z03 h=Z):0<=sumP usP h.P:=Z2H λp hq=>by
 obtain⟨j,hj,rfl⟩:=LH hq;have pp:=Z0u hp hj;rw[M,Ln hj,Lw]at pp;unfold usP;split<;>omega
def ZhQ(l:List Page):0<=sumP lgP l:=Z2H λp _=>by unfold lgP;split<;>omega
def MV.few{h:Heap}(hp:Z03 h=Z)(hn:(Z1M h.P:Int)<=h.C.pg/4):MV h:=by
 have po:=Z07 hp;rw[<- Z3O]at hn;have u0:=ZdI hp;have l0:=ZhQ h.P;refine⟨?_,0,by omega,by omega⟩;have:=ZoK (pw:=h.C.pw) (l:=h.P) λp hq=>by
  obtain⟨j,hj,rfl⟩:=LH hq;have pp:=Z0u hp hj;rw[M,Ln hj,Lw]at pp;unfold usP lgP nzP;split
  .rename_i k;rw[if_neg oq,if_neg oq];omega
  .split
   .rw[if_neg oq];omega
   .split<;>omega
 have:=Ly hn (show 0<=h.C.pw by omega);omega
def MV.same{h h':Heap}(m:MV h)(hc:h'.C=h.C)(hl:h'.P.length=h.P.length)(hk:∀ i,i<h.P.length->(h'.P.getD i X).K=(h.P.getD i X).K/\(h'.P.getD i X).U=(h.P.getD i X).U):MV h':=by
 have e1:sumP usP h'.P=sumP usP h.P:=Z2G usP hl λi hi=>by unfold usP;rw[(hk i hi).1,(hk i hi).2]
 have e2:sumP nzP h'.P=sumP nzP h.P:=Z2G nzP hl λi hi=>by unfold nzP;rw[(hk i hi).1]
 have e3:sumP lgP h'.P=sumP lgP h.P:=Z2G lgP hl λi hi=>by unfold lgP;rw[(hk i hi).1]
 refine⟨by rw[e1,e3,hc];exact m.v, ?_⟩;rw[e1,e2,e3,hc];exact m.n
def Zoy{l m:List Page}{i:Nat}(h:i+m.length<=l.length):∀ k,k<=m.length->sumP nzP (wr l m i k)<=sumP nzP l+k
 | 0,_=>by rw[Z76];simp
 | k+1,hk=>by
  have ih:=Zoy h k oq;have e:=Z9c h oq (X:Page) (k:=k);rw[<- e];have s:=Z5h nzP (m.getD k X) (wr l m i k) (i+k) (by rw[Z48 h oq];omega);have r1:∀ p:Page,0<=nzP p/\nzP p<=1:=λp=>by unfold nzP;split<;>omega
  have:=r1 (m.getD k X);have:=r1 ((wr l m i k).getD (i+k) X);omega
def Znw{l:List Page}{i k:Nat}{p q:Page}(hk:1<=k)(h:i+k<=l.length)(hq:q.K≠0):sumP nzP (tookP l i k p q)<=sumP nzP l+k:=by
 have h':i+(Ll k q).length<=l.length:=by simpa using h
 have w:=Zoy h' k pq;have s:=Z5h nzP p (wr l (Ll k q) i k) i (by rw[Z48 h' pq];omega);have g:(wr l (Ll k q) i k).getD i X=q:=by
  rw[M,Z8p h' pq,if_neg oq,if_pos oq,Nat.sub_self,Lz,if_pos oq];rfl
 rw[g]at s;have:nzP q=1:=by unfold nzP;rw[if_neg hq]
 have:nzP p<=1:=by unfold nzP;split<;>omega
 unfold tookP;omega
def ZkC{h:Heap}{hd:Header}(hp:Z03 h=Z)(hc:(put7 h hd).2.2=Z):(Z1M (put7 h hd).1.P:Int)<=h.C.pg/4:=by
 have po:=Z07 hp;have hv:=validB_iff.1 po.1;have li:Z2c h.C=h.C.pg/4:=by rw[Z2c,if_pos po.1,Z47 oq]
 unfold put7 at hc ⊢;split at hc
 .rename_i c;rw[if_pos c];unfold Z0s at hc ⊢;split at hc
  .rename_i c2;rw[if_pos c2];have ff:=Z1F c2.1;rw[<- Z3O];simp only;have e:(Z2w h.C h.P (first h.P (need h.C (sizeH hd))) h.S (sizeH hd)).1=tookP h.P (first h.P (need h.C (sizeH hd))).toNat (need h.C (sizeH hd)).toNat ⟨2,h.S,sizeH hd,0⟩ ⟨3,h.S,0,0⟩:=by
    unfold Z2w Z2K;rw[if_pos oq,if_pos oq,if_pos ff.2.2]
   rw[e];have:=Znw (l:=h.P) (i:=(first h.P (need h.C (sizeH hd))).toNat) (k:=(need h.C (sizeH hd)).toNat) (p:=⟨2,h.S,sizeH hd,0⟩) (q:=⟨3,h.S,0,0⟩) oq oq pq;rw[Z3O h.P]at this;omega
  .simp at hc
 .rename_i c;rw[if_neg c];unfold Z0j at hc ⊢;split at hc
  .rename_i c2;rw[if_pos c2];rw[<- Z3O];simp only;have e:sumP nzP (Z1R h.P h.B.toNat (sizeH hd))=sumP nzP h.P:=Z2G nzP (by simp[Z1R]) λi hi=>by
    rw[Z3E];by_cases hb:h.B.toNat<h.P.length
    .rw[Z0k hb];split
     .rename_i q;rw[<- q];rfl
     .rfl
    .rw[Xd oq]
   rw[e,Z3O];have:=c2.2.2.2;omega
  .rename_i c2;rw[if_neg c2];split at hc
   .rename_i c3;rw[if_pos c3];obtain⟨g1,g2,g3⟩:=Z2X po.2.2.2.2.2.2.2.2 c3.1 (sizeH hd);rw[<- Z3O];simp only;rw[g1];have s:=Z5h nzP ⟨1,h.S,sizeH hd,0⟩ h.P (first h.P 1).toNat g3;have z1:nzP ⟨1,h.S,sizeH hd,0⟩=1:=rfl;have z0:0<=nzP (h.P.getD (first h.P 1).toNat X):=by unfold nzP;split<;>omega
    rw[Z3O h.P]at s;omega
   .simp at hc
def MV.put{w:WorldM}(m:MV w.heap)(hw:WOk w.heap.W){hd:Header}(hm:0<=hd.map/\hd.map<=4294967295):MV (w.put hd).heap:=by
 unfold WorldM.put;split
 .rename_i e;obtain⟨k1,k2,k3,k4,k5,k6,k7,k8⟩:=Zey hw hm e;have f:=ZkC k1 k4;refine MV.few k7 ?_;rw[k6];simp only;rw[k3.c];exact f
 .exact m
def MV.setf{h:Heap}{a i v:Int}(m:MV h)(hw:WOk h.W)(hv:0<=v/\v<=18446744073709551615)(e:(getH h a).2=0)(hi:0<=i/\i<(getH h a).1.length):MV (Z0n h a i v).1:=by
 obtain⟨s1,s2,s3⟩:=Z5V hw hv (a:=a) (i:=i) e hi;rw[s1];exact m.same rfl rfl λ_ _=>⟨rfl,rfl⟩
def MV.link{w:WorldM}{n:Nat}(m:MV w.heap)(hm:MOk w n)(hn:n<=1000000)(t:Tape):MV (w.link t).heap:=by
 unfold WorldM.link;split
 .rename_i hc;have hw:=hm.wm hn;have n1:=Z0M (w.pickT (w.pickT t)) (n:=8) dd;have gg:=Z3B hc.1;have hi:0<=Z4M w t/\Z4M w t<(getH w.heap (w.pick t)).1.length:=by
   unfold Z4M;rw[LK n1.1];exact⟨LJ _ oq,LF _ oq⟩
  have hv:0<=Z53 w t/\Z53 w t<=18446744073709551615:=by
   unfold Z53;split
   .exact Z36 hw _
   .have:=Z0M ((w.pickT (w.pickT t)).step 8) (n:=1048576) dd;omega
  exact m.setf hm.W hv hc.1 hi
 .exact m
def MV.pinB{w:WorldM}(m:MV w.heap)(i:Nat)(d:Int):MV (Go.Proofs.YtgedmeaemofdkaaGreat.pinB w i d).heap:=by
 refine m.same rfl (by simp[Go.Proofs.YtgedmeaemofdkaaGreat.pinB]) λj hj=>?_;simp only[Go.Proofs.YtgedmeaemofdkaaGreat.pinB];by_cases hi:i<w.heap.P.length
 .rw[Z0k hi];split
  .rename_i q;subst q;exact⟨rfl,rfl⟩
  .exact⟨rfl,rfl⟩
 .rw[Xd oq];exact⟨rfl,rfl⟩
def MV.pin{w:WorldM}(m:MV w.heap)(t:Tape):MV (w.pin t).heap:=by
 unfold WorldM.pin;repeat' split
 .exact m.pinB _ _
 .exact m.pinB _ _
 .exact m
 .exact m
def MV.drop{w:WorldM}(m:MV w.heap)(t:Tape):MV (w.drop t).heap:=by
 unfold WorldM.drop;split
 .exact m
 .exact m
def MI.in1{h:Heap}{T tq:Nat->List Int}(g:Gd h T){w:Work}(m:MI h T w)(k:KI h T tq w)(mv:MV h)(hw:WkOk w)(hi:CIv w){q j:Int}(hq:q∈w.Q)(hj:0<=j/\j<hlA w.heap.W q)(e:(w.fwd (loadA w.heap.W (q+1+j)).1).2.2=0):MI h T (w.in1 (q+1+j)):=by
 obtain⟨tq',k'⟩:=k.fwd g hw hi _ e;have m':=m.fwd g k hw mv hi e;obtain⟨i1,x1⟩:=Z3z hw hi _ e;have hq1:=x1.q q hq;have hl1:=x1.l q hq;have hr:=i1.r q (Lr _ hq1);have hin:4096<=q+1+j/\q+1+j<4096+(w.fwd (loadA w.heap.W (q+1+j)).1).1.heap.W.length:=by omega
 obtain⟨f1,f2,f3⟩:=k'.field g hq1 (j:=j) oq;have er:Z5G h T (w.in1 (q+1+j))<=Z5G h T (w.fwd (loadA w.heap.W (q+1+j)).1).1:=by
  refine Z4c λi _=>?_;unfold Z8q;split
  .refine Z4c λx hx=>?_;unfold wtW;rw[show(w.in1 (q+1+j)).heap.W=(Z0B (w.fwd (loadA w.heap.W (q+1+j)).1).1.heap.W (q+1+j) (w.fwd (loadA w.heap.W (q+1+j)).1).2.1).1 from rfl,Z0l hin (f1 i x hx)];exact Lp _
  .exact Lp _
 have m3:=m'.m3;exact⟨m'.m0,m'.m1,m'.m2,by show sumP usP (w.fwd (loadA w.heap.W (q+1+j)).1).1.heap.P+_<=_;omega,m'.m4,m'.m5⟩
def ZoU{h:Heap}{T:Nat->List Int}(g:Gd h T)(mv:MV h){s:List Int}(hw:WOk h.W)(e:(rootsF (beginW h) s).2.2=0)(e2:(allF (rootsF (beginW h) s).1).2=0):(∃ tq,KI h T tq (cW2 h s))/\MI h T (cW2 h s) :=
 Zkn (λw=>(∃ tq,KI h T tq w)/\MI h T w) (λw r hw hi ⟨⟨_,k⟩,m⟩ e=>⟨k.fwd g hw hi r e,m.fwd g k hw mv hi e⟩) (λw q j hw hi ⟨⟨_,k⟩,m⟩ hq h0 h1 e=>⟨k.in1 g hw hi hq ⟨h0,h1⟩ e,m.in1 g k mv hw hi hq ⟨h0,h1⟩ e⟩)
  (λw n ⟨⟨tq,k⟩,m⟩=>⟨⟨tq,k.c,k.sp,k.old,k.pl,k.wl,k.pg,k.tk,k.tk0,k.q,k.hd,k.dt,k.lg⟩,⟨m.m0,m.m1,m.m2,m.m3,m.m4,m.m5⟩⟩) hw g.p ⟨⟨_,KI.begin g⟩,MI.begin g⟩ e e2
def Z7d{α:Type}{f g:α->Int}:∀ l:List α,(l.map λx=>f x+g x).sum=(l.map f).sum+(l.map g).sum
 | []=>by simp
 | x::l=>by
  simp only[Lj,Lm,Z7d l];omega
def crP(p:Page):Int:=if p.K=1/\0<p.N then 1 else 0
def ZhH(l:List Page):sumP crP l=crowd l:=by
 rw[Z1x];unfold crowd;have:∀ n,((Ld n).map λi=>crP (l.getD i X)).sum=Z0I l n:=by
  intro n;induction n with
  | zero=>simp[Z0I]
  | succ n ih =>
   rw[LZ,LX,L0,ih,Z0I];simp only[Lj,LY,Lm,L1,crP];split<;>simp
 exact this _
def Z6v{f:Page->Int}{q:Page->Page}(l:List Page):sumP f (l.map q)=((Ld l.length).map λi=>f (q (l.getD i X))).sum:=by
 rw[Z1x,LA];congr 1;refine List.map_congr_left λi hi=>?_;have hi:=Lb.1 hi;simp[M,hi]
def MI.end{h:Heap}{T tq:Nat->List Int}(g:Gd h T){w:Work}(m:MI h T w)(k:KI h T tq w)(mv:MV h)(hw:WkOk w)(ts:∀ x∈w.T,(w.heap.P.getD x.toNat X).S=1-w.heap.S){h':Heap}(hc:h'.C=h.C)(hpg:h'.P=w.heap.P.map (Z12 w.heap.S)):MV h':=by
 have hl:=m.m0.1;have sp:=hw.sp;have po:=Z07 g.p;have page:∀ i,i<h.P.length->((i:Int)∈w.T/\(h.P.getD i X).K=0/\(w.heap.P.getD i X).K=1/\(w.heap.P.getD i X).S=1-w.heap.S)\/((w.heap.P.getD i X).K=(h.P.getD i X).K/\(w.heap.P.getD i X).U=(h.P.getD i X).U/\((h.P.getD i X).K=1->((w.heap.P.getD i X).S=w.heap.S↔¬ 0<(h.P.getD i X).N))):=by
  intro i hi;by_cases c:(i:Int)∈w.T
  .have t:=k.tk i c;have:=ts _ c;rw[Lc]at this;exact Y ⟨c,t.2.1,t.2.2.1,this⟩
  .have q:=k.pg i c;exact O ⟨q.1,q.2.1,m.m5 i hi⟩
 have usr:∀ i,i<h.P.length->0<=(w.heap.P.getD i X).U/\0<=(h.P.getD i X).U:=λi hi=>by
  have a:=hw.us i oq;have b:=Z0u g.p hi;omega
 have q0:(⟨0,0,0,0⟩:Page).K=0:=rfl;have e1:sumP usP h'.P+sumP unP h.P<=sumP usP w.heap.P:=by
  rw[hpg,Z6v,Z1x unP,Z1x usP,<- hl,<- Z7d];refine Z4c λi hi=>?_;have hi:=Lb.1 hi;have p:=page i oq;have u:=usr i oq;by_cases gq:Z2h w.heap.S (w.heap.P.getD i X)
  .rw[Z12,if_pos gq];unfold Z2h at gq;unfold usP unP;repeat' split
   all_goals (try simp only at *)
   all_goals omega
  .rw[Z12,if_neg gq];unfold Z2h at gq;unfold usP unP;repeat' split
   all_goals omega
 have e2:sumP usP w.heap.P<=sumP usP h'.P+sumP usP h.P:=by
  rw[hpg,Z6v,Z1x usP h.P,Z1x usP,<- hl,<- Z7d];refine Z4c λi hi=>?_;have hi:=Lb.1 hi;have p:=page i oq;have u:=usr i oq;by_cases gq:Z2h w.heap.S (w.heap.P.getD i X)
  .rw[Z12,if_pos gq];unfold Z2h at gq;unfold usP;repeat' split
   all_goals (try simp only at *)
   all_goals omega
  .rw[Z12,if_neg gq];unfold Z2h at gq;unfold usP;repeat' split
   all_goals omega
 have e3:sumP lgP h'.P<=sumP lgP h.P:=by
  rw[hpg,Z6v,Z1x lgP h.P,<- hl];refine Z4c λi hi=>?_;have hi:=Lb.1 hi;have p:=page i oq;by_cases gq:Z2h w.heap.S (w.heap.P.getD i X)
  .rw[Z12,if_pos gq];unfold Z2h at gq;unfold lgP;repeat' split
   all_goals (try simp only at *)
   all_goals omega
  .rw[Z12,if_neg gq];unfold Z2h at gq;unfold lgP;repeat' split
   all_goals omega
 have e4:sumP nzP h'.P+sumP nzP h.P<=sumP nzP w.heap.P+(sumP lgP h'.P+sumP crP h.P):=by
  rw[hpg,Z6v,Z6v,Z1x nzP h.P,Z1x nzP,Z1x crP,<- hl,<- Z7d,<- Z7d,<- Z7d];refine Z4c λi hi=>?_;have hi:=Lb.1 hi;have p:=page i oq;have kr:0<=(h.P.getD i X).K/\(h.P.getD i X).K<=3:=by
   have:=Z0u g.p (show i<h.P.length by omega);omega
  by_cases gq:Z2h w.heap.S (w.heap.P.getD i X)
  .rw[Z12,if_pos gq];unfold Z2h at gq;unfold nzP lgP crP;repeat' split
   all_goals (try simp only at *)
   all_goals omega
  .rw[Z12,if_neg gq];unfold Z2h at gq;unfold nzP lgP crP;repeat' split
   all_goals omega
 have cr:=g.cr;rw[<- ZhH]at cr;have m1:=m.m1;have m3:=m.m3;have m4:=m.m4;have r:=ZdP h T w;have v:=mv.v;have u0:=ZdI g.p;have hpw:0<=h.C.pw:=by omega
 refine⟨?_,w.T.length,by rw[hc];omega, ?_⟩
 .rw[hc];have:=Ly e3 hpw;omega
 .rw[hc];by_cases z:0<w.T.length
  .have m2:=m.m2 z;have:=hw.us (Z0E w).toNat (by have:=hw.tk _ (Z1c z);omega)
   omega
  .have:w.T.length=0:=by omega
   rw[this];simp only[Int.natCast_zero,Int.zero_sub];have:0<=sumP usP h'.P:=by
    have:sumP unP h.P<=sumP usP h.P:=Z4c λp hp=>by
     obtain⟨j,hj,rfl⟩:=LH hp;have pp:=Z0u g.p hj;rw[M,Ln hj,Lw]at pp;unfold unP usP;split
     .rename_i c;rw[if_pos c.1];omega
     .split<;>omega
    omega
   omega
def MV.collectF{B:Int}(hB:0<=B){h:Heap}{T:Nat->List Int}(g:Gd h T)(mv:MV h){s k:List Int}(hw:WOk h.W)(hb:∀ p∈h.P,p.N<=B)(hs:RtOb h T s)(hk:RtOb h T k)(e:(Go.Proofs.YtgedmeaemofdkaaGreat.collectF h s k).2.2.2.2=0):MV (Go.Proofs.YtgedmeaemofdkaaGreat.collectF h s k).1:=by
 have hp:=g.p;have hr:=g.refers hs;have hr':=g.refers hk;by_cases e1:(rootsF (beginW h) s).2.2=0
 .by_cases e2:(allF (rootsF (beginW h) s).1).2=0
  .have e7:Go.Proofs.YtgedmeaemofdkaaGreat.collectF h s k=(endH (cW5 h s k),(rootsF (beginW h) s).2.1,Z3U (cW2 h s) k k.length,(cW5 h s k).rep,0):=by rw[Go.Proofs.YtgedmeaemofdkaaGreat.collectF,if_pos hp,if_pos ⟨hr,hr'⟩,if_pos e1,if_pos e2]
   rw[e7];have ck:=cOk h s k hw hp e1 e2;obtain⟨g1,g2,g3,g4,g5⟩:=ck.h4;have pr:=ZiH hB hw hp hb e1 e2;obtain⟨⟨tq,ki⟩,mi⟩:=ZoU g mv hw e1 e2;refine mi.end g ki mv ck.w2 pr.tab.tk (h':=endH (cW5 h s k)) ?_ ?_
   .unfold endH cW5;simp only[Z16,g1]
   .unfold endH cW5;simp only[Z16,g2,g3]
  .rw[Go.Proofs.YtgedmeaemofdkaaGreat.collectF,if_pos hp,if_pos ⟨hr,hr'⟩,if_pos e1,if_neg e2]at e;exact absurd e e2
 .rw[Go.Proofs.YtgedmeaemofdkaaGreat.collectF,if_pos hp,if_pos ⟨hr,hr'⟩,if_neg e1]at e;exact absurd e e1
def MV.collect{w:WorldM}{n:Nat}(m:MV w.heap)(h:WG w)(hm:MOk w n):MV w.collect.heap:=by
 unfold WorldM.collect;split
 .rename_i e;obtain⟨T,g,g1,g2⟩:=h;exact MV.collectF (B:=n) oq g m hm.W (λp hp=>(hm.pin_mem p hp).2) g1 g2 e
 .exact m
def MV.step{w:WorldM}{n:Nat}(m:MV w.heap)(h:WG w)(hm:MOk w n)(hn:n<=1000000)(t:Tape):MV (w.step t).heap:=by
 unfold WorldM.step;repeat' split
 .exact m.put hm.W (Z5u _ _)
 .exact m.link hm hn _
 .exact m.pin _
 .exact m.drop _
 .exact m.collect h hm
 .exact m
def Zms{w:WorldM}{n:Nat}(m:MV w.heap)(h:WG w)(hm:MOk w n)(t:Tape):∀ k,n+k<=1000000->MV (mkS w t k).1.heap
 | 0,_=>m
 | k+1,hk=>(Zms m h hm t k oq).step (ZjQ h hm t k oq) (ZaH hm t k oq) oq _
def Zkk(l:List Int):MV (Z0o l).heap:=by
 have e:=Z5n l;have hl:(((Z2N l).step 4).step 5).l.length<=300:=by rw[e.1];simp;omega
 have hk:=Zcm (Z2N l).empty (((Z2N l).step 4).step 5) oq;obtain⟨_,ge,_⟩:=ZbH (Z2N l);have hp:=ge.p;refine Zms (MV.few hp ?_) (ZbH (Z2N l)) (Z7P (Z2N l)) _ _ oq;have hv:=validB_iff.1 (Z07 hp).1;have z:sumP nzP (Z2N l).empty.heap.P=0:=by simp[sumP,Tape.empty,Z2M,nzP]
 rw[Z3O]at z;omega
end Go.Proofs.YtgedmeaemofdkaaGreat
