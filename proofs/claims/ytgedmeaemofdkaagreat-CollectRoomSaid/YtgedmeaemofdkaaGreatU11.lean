/-
 The statement CollectRoom: part 11.
 Conditions: none.
-/
import Derived.Test.YtgedmeaemofdkaaGreatU10
set_option maxRecDepth 100000
set_option maxHeartbeats 2000000
set_option linter.all false
open Inhabited renaming default->X
open Bool renaming true->Y,false->Lf,and_eq_true->Lv,not_eq_true'->LY
open Or renaming inl->Z,inr->M
open List renaming getD_eq_getElem?_getD->O,mem_append_left->La,mem_range->Lb,range->Lc,find?_eq_none->Le,mem_append->Lg,mem_singleton->Lj,getElem?_eq_none->Lk,replicate->Ll,mem_append_right->Ln,take->Lp,length_set->Lt,mem_cons_of_mem->Lu,length_replicate->Lx,mem_cons->Ly,find?_range_eq_some->LD,getElem?_replicate->LF,length_map->LG,map_cons->LH,sum_cons->LI,getElem_of_mem->LM,map->LN,getElem?_eq_getElem->LW,range_succ->LX,any_eq_true->L1,eq_nil_iff_forall_not_mem->L2,ext_getElem->L3,getElem?_drop->L4,getElem?_map->L5,getElem?_range->L6,getElem?_take_of_lt->L7,length_drop->L8,length_singleton->L9,length_take->Xa,mem_map->Xb
open Int renaming toNat_natCast->Ld,mul_nonneg->Li,mul_comm->Lm,toNat->Lo,emod_lt_of_pos->Lr,le_refl->Ls,mul_le_mul_of_nonneg_right->Lw,add_zero->LA,emod_nonneg->LB,mul_ediv_add_emod->LC,add_assoc->LL,ediv_lt_of_lt_mul->LQ,ediv_nonneg->LR,eq_ofNat_of_zero_le->LS,tmod_eq_emod_of_nonneg->LU,toNat_of_nonneg->LV,add_mul->LZ,tdiv_eq_ediv_of_nonneg->L0
open Nat renaming le_refl->Lh,lt_trichotomy->LO,add_zero->Xc
open Option renaming none->Lq,getD_some->LJ,getD_none->Xd,map_some->Xe
open Decidable renaming decide->Lz,not_not->LK
namespace Go.Proofs.YtgedmeaemofdkaaGreat
open Go.Sx
def Z5I w t n(b:C2 w n)(c:n<=1000000)(d:Et t)(a:t.at'<=900000):LP 54 [w.av,.pt 0 0 0] [t.b] (w.step t).av [(w.stepT t).b]:=
 ZbD w t n b c d a
structure E7 (n:Int) (t u:Tape):Prop where
 l:u.l=t.l
 lo:t.at'<=u.at'
 hi:u.at'<=t.at'+n
def E7.step t n:E7 1 t (t.step n):=by have:=Nt (t:=t) n;exact⟨this.2.2,this.1,this.2.1⟩
def E7.trans{m n t u v}(a:E7 m t u)(b:E7 n u v):E7 (m+n) t v:=
 ⟨b.l.trans a.l,by have:=a.lo;have:=b.lo;omega,by have:=a.hi;have:=b.hi;omega⟩
def E7.mono{m n:Int}{t u}(h:E7 m t u)(a:m<=n):E7 n t u:=⟨h.l,h.lo,by have:=h.hi;omega⟩
def Zbx t c:E7 10 t (t.headerT c):=by
 have a:E7 4 t (Gf t c):=by(unfold Gf;split;exact(((E7.step t _).trans (E7.step _ 12)).trans (E7.step _ _)).mono dd;exact((E7.step t _).trans (E7.step _ 12)).mono dd)
 unfold Tape.headerT;repeat' split
 exact(a.trans (E7.step _ 4)).mono dd;exact(a.trans (E7.step _ 4)).mono dd;exact((a.trans (E7.step _ 4)).trans (E7.step _ _)).mono dd
def ZiU(w:Zj) t:E7 10 t (w.linkT t):=by have a:E7 1 t (w.pickT t):=E7.step _ _;have b:E7 1 (w.pickT t) (w.pickT (w.pickT t)):=E7.step _ _;unfold Zj.linkT;split;exact((((a.trans b).trans (E7.step _ 8))).trans (E7.step _ _)).mono dd;exact((a.trans b).trans (E7.step _ 8)).mono dd
def Zha(w:Zj) t:(w.stepT t).l=t.l/\t.at'+1<=(w.stepT t).at'/\(w.stepT t).at'<=t.at'+20:=by
 have e:(t.step 12).at'=t.at'+1/\(t.step 12).l=t.l:=by simp[Tape.step]
 have d:E7 10 (t.step 12) (w.stepT t):=by
  unfold Zj.stepT;repeat' split
  exact Zbx _ _;exact ZiU _ _;unfold Zj.pinT;split;exact((E7.step _ _).trans (E7.step _ 2)).mono dd;exact(E7.step _ _).mono dd;unfold Zj.dropT;split;exact((E7.step _ _).trans (E7.step _ 3)).mono dd;exact⟨rfl,by omega,by omega⟩;exact⟨rfl,by omega,by omega⟩;exact(E7.step _ _).mono dd
 have a:=d.l;have b:=d.lo;have c:=d.hi;exact⟨a.trans e.2,by omega,by omega⟩
def G3(w:Zj)(t:Tape):Nat->Zj×Tape|0=>(w,t)|k+1=>((G3 w t k).1.step (G3 w t k).2,(G3 w t k).1.stepT (G3 w t k).2)
def mkB(w:Zj)(t:Tape)(k:Nat):Bool:=Lz (((G3 w t k).2.l.length:Int)<=(G3 w t k).2.at')
def mkN(w:Zj)(t:Tape):Nat:=((Lc (2+t.l.length)).find? (mkB w t)).getD 0
def Aj(w:Zj)(t:Tape):Zj:=(G3 w t (mkN w t)).1
def P8 w t:∀k:Nat,(G3 w t k).2.l=t.l/\t.at'+k<=(G3 w t k).2.at'/\(G3 w t k).2.at'<=t.at'+20*k
 |0=>by simp[G3]
 |k+1=>by
  have a:=P8 w t k;have:=Zha (G3 w t k).1 (G3 w t k).2;refine⟨this.1.trans a.1, ?_, ?_⟩
  .simp only[G3];omega
  .simp only[G3];omega
def DI{w n}(h:C2 w n) t:∀k,n+k<=1000000->C2 (G3 w t k).1 (n+k)|0,_=>h|k+1,hk=>(DI h t k oq).step oq _
def MG w(t:Tape)(ht:0<=t.at'):mkB w t (mkN w t)=Y/\(∀j,j<mkN w t->mkB w t j=Lf)/\mkN w t<=t.l.length+1:=by
 cases hb:(Lc (2+t.l.length)).find? (mkB w t)with
 |none =>exfalso;have:=Le.1 hb t.l.length (Lb.2 oq);have u:=P8 w t t.l.length;simp only[mkB,decide_eq_true_eq,u.1]at this;omega
 |some k =>
  obtain⟨b,a,c⟩:=LD.1 hb;have a:=Lb.1 a;have e:mkN w t=k:=by rw[mkN,hb];rfl
  rw[e];exact⟨b,λj d=>by simpa using c j d,by omega⟩
def Z0k(w:Zj)(t:Tape):Tg:=⟨tm 22 [(2,.pt 8002 0 0),(3,.pt 32012 0 0),(4,.pt 40004 0 0)],[(40004,.box 30 w.cells),(32012,t.b),(8002,.box 30 [int 0,int 0,.d (.sl 0 []),.d (.sl 0 []),int 0,int 0,.d (.sl 0 []),.d (.sl 0 [])])],60⟩
def Ziy w t n(hm:C2 w n)(hn:n<=1000000)(ht:Et t)(ha:t.at'<=900000)(hd:t.at'<t.l.length):CP (Zo Tryz.f15 0) (Z0k w t).st .nrm (Z0k (w.step t) (w.stepT t)).st:=by exact sF [] [] (Fbq 16 [32012] (@PE t aa) (Ftb 17 (!decide ((t.l.length:Int)<=t.at')) (Fbr 20 [32012] (@Z5I w t n aa aa aa aa) Fz)))
def ZaT w t(ht:Et t)(hd:¬ t.at'<t.l.length):CP (Zo Tryz.f15 0) (Z0k w t).st (.ext 0) (Tg.st ⟨tm 22 [(2,.pt 8002 0 0),(4,.pt 40004 0 0)],[(40004,.box 30 w.cells),(8002,.box 30 [int 0,int 0,.d (.sl 0 []),.d (.sl 0 []),int 0,int 0,.d (.sl 0 []),.d (.sl 0 [])])],60⟩):=by exact sF [] [] (Fbq 16 [32012] (@PE t aa) (Ffb 17 (!decide ((t.l.length:Int)<=t.at')) Fz))
def ZfC w(t:Tape)(f:C2 w 0)(hl:t.l.length<=300)(e:0<=t.at')(h1:t.at'<=1000):CP (Zk Tryz.f15 0) (Tg.st ⟨tm 22 [(2,.pt 8002 0 0),(3,.pt 32012 0 0),(4,.pt 40004 0 0)],[(40004,.box 30 w.cells),(32012,t.b),(8002,.box 30 [int 0,int 0,.d (.sl 0 []),.d (.sl 0 []),int 0,int 0,.d (.sl 0 []),.d (.sl 0 [])])],60⟩) .nrm (Tg.st ⟨tm 22 [(2,.pt 8002 0 0),(4,.pt 40004 0 0)],[(40004,.box 30 (Aj w t).cells),(8002,.box 30 [int 0,int 0,.d (.sl 0 []),.d (.sl 0 []),int 0,int 0,.d (.sl 0 []),.d (.sl 0 [])])],60⟩):=by
 have d:=MG w t e;have a:∀k,k<=mkN w t->Et (G3 w t k).2/\(G3 w t k).2.at'<=900000:=λk b=>by(have u:=P8 w t k;refine⟨?_,by omega⟩;unfold Et;rw[u.1];omega)
 refine Bw (S:=λk=>(Z0k (G3 w t k).1 (G3 w t k).2).st) (mkN w t) kr (λk b=>?_) ?_;have c:=d.2.1 k b;simp only[mkB,decide_eq_false_iff_not]at c;have m:=DI f t k oq;exact Ziy _ _ (0+k) m oq (a k oq).1 (a k oq).2 oq;have c:=d.1;simp only[mkB,decide_eq_true_eq]at c;exact ZaT _ _ (a _ (Lh _)).1 oq
def O5(w:Zj)(t:Tape):Tg:=⟨tm 22 [(2,.pt 8002 0 0),(3,.pt 24012 0 0),(4,.pt 32004 0 0)],[(32004,.box 30 w.cells),(24012,t.b),(8002,.box 30 [int 0,int 0,.d (.sl 0 []),.d (.sl 0 []),int 0,int 0,.d (.sl 0 []),.d (.sl 0 [])])],60⟩
def Zez w t n(hm:C2 w n)(hn:n<=1000000)(ht:Et t)(ha:t.at'<=900000)(hd:t.at'<t.l.length):CP (Zo Tryz.f15 0) (O5 w t).st .nrm (O5 (w.step t) (w.stepT t)).st:=by exact sF [] [] (Fbq 16 [24012] (@PE t aa) (Ftb 17 (!decide ((t.l.length:Int)<=t.at')) (Fbr 20 [24012] (@Z5I w t n aa aa aa aa) Fz)))
def Zkg w t(ht:Et t)(hd:¬ t.at'<t.l.length):CP (Zo Tryz.f15 0) (O5 w t).st (.ext 0) (Tg.st ⟨tm 22 [(2,.pt 8002 0 0),(4,.pt 32004 0 0)],[(32004,.box 30 w.cells),(8002,.box 30 [int 0,int 0,.d (.sl 0 []),.d (.sl 0 []),int 0,int 0,.d (.sl 0 []),.d (.sl 0 [])])],60⟩):=by exact sF [] [] (Fbq 16 [24012] (@PE t aa) (Ffb 17 (!decide ((t.l.length:Int)<=t.at')) Fz))
def Zga w(t:Tape)(f:C2 w 0)(hl:t.l.length<=300)(e:0<=t.at')(h1:t.at'<=1000):CP (Zk Tryz.f15 0) (Tg.st ⟨tm 22 [(2,.pt 8002 0 0),(3,.pt 24012 0 0),(4,.pt 32004 0 0)],[(32004,.box 30 w.cells),(24012,t.b),(8002,.box 30 [int 0,int 0,.d (.sl 0 []),.d (.sl 0 []),int 0,int 0,.d (.sl 0 []),.d (.sl 0 [])])],60⟩) .nrm (Tg.st ⟨tm 22 [(2,.pt 8002 0 0),(4,.pt 32004 0 0)],[(32004,.box 30 (Aj w t).cells),(8002,.box 30 [int 0,int 0,.d (.sl 0 []),.d (.sl 0 []),int 0,int 0,.d (.sl 0 []),.d (.sl 0 [])])],60⟩):=by
 have d:=MG w t e;have a:∀k,k<=mkN w t->Et (G3 w t k).2/\(G3 w t k).2.at'<=900000:=λk b=>by(have u:=P8 w t k;refine⟨?_,by omega⟩;unfold Et;rw[u.1];omega)
 refine Bw (S:=λk=>(O5 (G3 w t k).1 (G3 w t k).2).st) (mkN w t) kr (λk b=>?_) ?_;have c:=d.2.1 k b;simp only[mkB,decide_eq_false_iff_not]at c;have m:=DI f t k oq;exact Zez _ _ (0+k) m oq (a k oq).1 (a k oq).2 oq;have c:=d.1;simp only[mkB,decide_eq_true_eq]at c;exact Zkg _ _ (a _ (Lh _)).1 oq
def EK(l:List Int):Tape:=⟨l.take 300,0⟩
def ZP(l:List Int):Zj:=Aj (EK l).empty (((EK l).step 4).step 5)
def PM(t:Tape):C2 t.empty 0:=by
 have c:=O9 t;have hb:=BD.1 c;refine⟨?_,c, ?_, ?_, ?_, ?_, ?_, ?_,by simp[Tape.empty],by simp[Tape.empty]⟩;intro x b;simp only[Tape.empty,Il,List.mem_replicate]at b;omega;simp only[Tape.empty,Il,Lx];omega;have:=HM c;simp only[Tape.empty,Il,Lx];omega;intro j a;simp only[Tape.empty,Il,Lx]at a⊢;have:(Ll t.C.pg.toNat (⟨0,0,0,0⟩:Z0)).getD j X=⟨0,0,0,0⟩:=by simp[O,a]
 rw[this];simp;intro j a;simp only[Tape.empty,Il,Lx]at a⊢;have:(Ll t.C.pg.toNat (⟨0,0,0,0⟩:Z0)).getD j X=⟨0,0,0,0⟩:=by simp[O,a]
 rw[this];simp;intro x b;simp[Tape.empty]at b;intro x b;simp[Tape.empty]at b
def Z0o l:(((EK l).step 4).step 5).l=l.take 300/\(((EK l).step 4).step 5).at'=2:=by simp[EK,Tape.step]
def D5 l:C2 (ZP l) 1000:=by
 have e:=Z0o l;have hl:(((EK l).step 4).step 5).l.length<=300:=by rw[e.1];simp;omega
 have hk:=MG (EK l).empty (((EK l).step 4).step 5) oq;have m:=DI (PM (EK l)) (((EK l).step 4).step 5) (mkN (EK l).empty (((EK l).step 4).step 5)) oq;have c:∀(w:Zj) (a b:Nat),C2 w a->a<=b->C2 w b:=λw a b h d =>
  ⟨h.W,h.hv,h.pl,h.L,λj f=>by have:=h.N j f;omega,h.us,h.G,h.E,by have:=h.sl;omega,by have:=h.wl;omega⟩
 exact c _ _ _ m oq
def Z4L(l:List Int)(hl:l.length<=140737488355328):GP 15 [ZD l] Lf (ZP l).av []:=by
 have e:=Z0o l;have d:=PM (EK l);have b:(((EK l).step 4).step 5).l.length<=300:=by rw[e.1];simp;omega
 have c:=e.2;by_cases h:300<l.length;have f:Et ⟨Lp (Lo 300) l,0⟩:=by simp[Et];omega
 have a:EK l=⟨Lp (Lo 300) l,0⟩:=rfl;unfold ZP;rw[a]at d b c⊢;exact gF [] Tryz.func15 [] (Fh 9 [.els (LN idv (Lp (Lo 300) l))] (Fl 6 idv l (Ftb 7 (Lz (300<(l.length:Int))) (Fa (by(simp only[LG];omega):(0:Int)<=(300:Int)/\300<=(↑(LN idv l).length:Int)) (Fa (ms:Lp (Lo 300) (LN idv l)=LN idv (Lp (Lo 300) l)) (Fbr 14 [32012] (@Z43 (Tape.mk (Lp (Lo 300) l) 0) aa (by(simp only[bs];omega))) (Fu (@ZfC ((Tape.mk (Lp (Lo 300) l) 0).empty) (((Tape.mk (Lp (Lo 300) l) 0).step 4).step 5) aa aa oq oq) Fz)))))));have f:Et ⟨l,0⟩:=by simp[Et];omega
 have a:EK l=⟨l,0⟩:=by rw[EK,List.take_of_length_le oq]
 unfold ZP;rw[a]at d b c⊢;exact gF [] Tryz.func15 [] (Fl 6 idv l (Ffb 7 (Lz (300<(l.length:Int))) (Fbr 14 [24012] (@Z43 (Tape.mk l 0) aa (by(simp only[bs];omega))) (Fu (@Zga ((Tape.mk l 0).empty) (((Tape.mk l 0).step 4).step 5) aa aa oq oq) Fz))))
def RH(h:Heap)(r:Int):Prop:=(Z2 h.C r).2.2=0->(h.P.getD (Z2 h.C r).1.toNat X).K=1\/(h.P.getD (Z2 h.C r).1.toNat X).K=2
structure POk (w:Zj):Prop where
 p:Z8 w.heap=Y
 s:∀r∈w.G,RH w.heap r
 k:∀r∈w.E,RH w.heap r
theorem Z9q(h:Heap):RH h 0:=by intro e;grind[Z2]
def RH.mono{h h':Heap}{r}(b:RH h r)(a:h'.C=h.C)(hk:∀j:Nat,(h.P.getD j X).K≠0->(h'.P.getD j X).K=(h.P.getD j X).K):RH h' r:=by intro e;rw[a]at e⊢;have q:=b e;grind
def ZgN{c}{hd:Zy}(g:EU c hd=Y)(i:Zs c=Y)(f:¬ 0<need c (Z5 hd)):Z5 hd<=c.pw:=by
 obtain⟨a1,a2,a3,a,a5⟩:=DY g;have hb:=BD.1 i;unfold need at f a;split at a;rename_i h;rw[if_pos h]at f;split at a;omega;rename_i d;rw[if_neg d]at f;have e:=LC (Z5 hd+c.pw-1) c.pw;have j:(Z5 hd+c.pw-1)/c.pw=0:=by omega
 rw[j]at e;have:=Lr (Z5 hd+c.pw-1) (b:=c.pw) oq;omega;omega
def PT.setPins{c l}(h:PT c l){i:Nat}(hi:i<l.length)(hk:(l.getD i X).K=1\/(l.getD i X).K=2){n:Int}(k:0<=n/\n<=2147483647):PT c (l.set i ⟨(l.getD i X).K,(l.getD i X).S,(l.getD i X).U,n⟩):=by
 have e:∀j,((l.set i ⟨(l.getD i X).K,(l.getD i X).S,(l.getD i X).U,n⟩).getD j X).K=(l.getD j X).K/\((l.set i ⟨(l.getD i X).K,(l.getD i X).S,(l.getD i X).U,n⟩).getD j X).S=(l.getD j X).S/\((l.set i ⟨(l.getD i X).K,(l.getD i X).S,(l.getD i X).U,n⟩).getD j X).U=(l.getD j X).U:=by grind
 refine⟨?_, ?_, ?_⟩;intro j d;rw[Lt]at d;rw[Cn hi];split;have b:=h.b i hi;exact⟨b.s,k,b.k,λq=>by grind,b.k1,λq=>by grind⟩;exact h.b j d;intro j d f;rw[Lt]at d;rw[(e j).1]at f;rw[(e j).2.2,(e j).2.1];have q:=h.lg j d f;grind;intro j d g;rw[Lt]at d;rw[(e j).1]at g;obtain⟨a,a1,a2,a3⟩:=h.tl j d g;grind
def Z6g{w n}(h:POk w)(f:C2 w n)(hn:n<=1000000){i:Nat}(hi:i<w.heap.P.length)(e:(w.heap.P.getD i X).K=1\/(w.heap.P.getD i X).K=2){d:Int}(hd:d=1\/(d=-1/\0<(w.heap.P.getD i X).N)):POk (pinB w i d):=by
 have hp:=f.N i hi;have b:∀j:Nat,((pinB w i d).heap.P.getD j X).K=(w.heap.P.getD j X).K:=by grind[pinB]
 have c:=h.p;rw[Gh]at c;obtain⟨g,p2,p3,p4,p5,k⟩:=c;refine⟨?_,λr a=>(h.s r a).mono rfl (λj _=>b j),λr a=>(h.k r a).mono rfl (λj _=>b j)⟩;rw[Gh];refine⟨g,p2,by grind[pinB],p4, ?_,k.setPins hi e oq⟩;grind[pinB]
def Z44(w:Zj)(t:Tape):w.pick t=0\/w.pick t∈w.G\/w.pick t∈w.E:=by have hn:=Gx t (n:=(w.refs.length:Int)) (by grind[Zj.refs]);have:w.pick t∈w.refs:=Bs.2 ⟨_,by omega,rfl⟩;grind[Zj.refs]
def POk.pick{w}(h:POk w) t:RH w.heap (w.pick t):=by rcases Z44 w t with e|e|e;grind[Z9q];exact h.s _ e;exact h.k _ e
def POk.pin{w n}(h:POk w)(a:C2 w n)(c:n<=1000000) t:POk (w.pin t):=by
 unfold Zj.pin;split;rename_i e;have o:=GM a.hv e;have f:=a.pl;have hi:I7 w t<w.heap.P.length:=by grind[I7]
 have b:=h.pick t e;split;rename_i d;exact Z6g h a c hi b (M ⟨rfl,d.1⟩);split;exact Z6g h a c hi b (Z rfl);exact h;exact h
def Zdw(t:Tape):POk t.empty:=by
 refine⟨?_,by simp[Tape.empty],by simp[Tape.empty]⟩;have b:=O9 t;have hb:=BD.1 b;have ha:=HM b;rw[Gh];have c:∀j,j<t.C.pg.toNat->(Ll t.C.pg.toNat (⟨0,0,0,0⟩:Z0)).getD j X=⟨0,0,0,0⟩:=λj a=>by grind
 refine⟨b,by grind[Tape.empty,Il],by grind[Tape.empty,Il],Z rfl,Z rfl, ?_⟩;simp only[Tape.empty,Il];refine⟨λj a=>?_,λj a d=>?_,λj a d=>?_⟩;rw[Lx]at a;rw[c j a];exact⟨by simp,by simp,by simp,by simp,by simp,by simp⟩;all_goals grind
def Bg(ws:List Int)(a:Int):Zy:=(Z7 (Z1 ws a).1).1
def ET(ws:List Int)(a:Int):Prop:=(Z7 (Z1 ws a).1).2=Y
def Cr(ws:List Int)(a:Int):Int:=(Bg ws a).K
def EJ(ws:List Int)(a:Int):Int:=if Cr ws a=0 then 1 else Zl ws a+1
def Zz(h:Heap)(i:Nat):Int:=4096+i*h.C.pw
def EA(ws:List Int):Int->Int->List Int->Prop|a,b,[]=>a=b|a,b,x::l=>x=a/\ET ws a/\EA ws (a+Zl ws a+1) b l
def NC ws a:Z5 (Bg ws a)=Zl ws a+1:=by unfold Bg;rw[Z5,if_pos (Aq _)];rfl
def Z0M{ws}:∀{l:List Int} {a b:Int},EA ws a b l->a<=b
 |[],a,b,h=>by simp only[EA]at h;omega
 |x::l,a,b,h=>by
  have:=Z0M h.2.2;have:=Bm ws a;omega
def GV{ws}{x:Int}:∀{l:List Int} {a b:Int},EA ws a b l->x∈l->ET ws x/\a<=x/\x+Zl ws x<b
 |[],_,_,_,hx=>by simp at hx
 |y::l,a,b,h,hx=>by
  have hr:=Bm ws a;rcases Ly.1 hx with rfl|hx
  .have:=Z0M h.2.2;rw[h.1];exact⟨h.2.1,by omega,by omega⟩
  .have:=GV h.2.2 hx;exact⟨this.1,by omega,this.2.2⟩
def Z3h{ws}{x y:Int}:∀{l:List Int} {a b:Int},EA ws a b l->x∈l->y∈l->x<y->x+Zl ws x<y
 |[],_,_,_,hx,_,_=>by simp at hx
 |z::l,a,b,h,hx,hy,hxy=>by
  have hr:=Bm ws a;have c:=h.1;rcases Ly.1 hx with e|hx'
  .rcases Ly.1 hy with e2|hy'
   .omega
   .have:=(GV h.2.2 hy').2.1;rw[e,c];omega
  .rcases Ly.1 hy with e2|hy'
   .have:=(GV h.2.2 hx').2.1;omega
   .exact Z3h h.2.2 hx' hy' hxy
def Z1B{ws}{m:List Int}{b c}:∀{l:List Int} {a:Int},EA ws a b l->EA ws b c m->EA ws a c (l++m)|[],a,h,d=>by simp only[EA]at h;subst h;exact d|_::_,_,h,d=>⟨h.1,h.2.1,Z1B h.2.2 d⟩
def NJ{ws ws'}:∀{l:List Int} {a b:Int},EA ws a b l->(∀x∈l,ET ws' x/\Zl ws' x=Zl ws x)->EA ws' a b l
 |[],_,_,h,_=>h
 |x::l,a,b,h,hh=>by
  have c:=hh x pq;have d:=h.1;subst d;refine⟨rfl,c.1, ?_⟩;rw[c.2];exact NJ h.2.2 λy e=>hh y (Lu _ e)
def Z69{ws}{c:Int}:∀{l:List Int} {a b:Int},EA ws a b l->a<=c->c<b->∃x∈l,x<=c/\c<=x+Zl ws x
 |[],a,b,h,d,h2=>by simp only[EA]at h;omega
 |x::l,a,b,h,d,h2=>by
  by_cases f:c<=a+Zl ws a
  .exact⟨a,by rw[h.1];simp,d,f⟩
  .obtain⟨y,g,e⟩:=Z69 h.2.2 (show a+Zl ws a+1<=c by omega) h2;exact⟨y,Lu _ g,e⟩
theorem E6{ws ws' a}(h:(Z1 ws' a).1=(Z1 ws a).1):(ET ws a->ET ws' a)/\Zl ws' a=Zl ws a/\Cr ws' a=Cr ws a/\Bg ws' a=Bg ws a/\EJ ws' a=EJ ws a:=by
 have e:Bg ws' a=Bg ws a:=by rw[Bg,Bg,h]
 have b:Zl ws' a=Zl ws a:=by rw[Zl,Zl,h]
 have c:Cr ws' a=Cr ws a:=by rw[Cr,Cr,e]
 exact⟨λq=>by rw[ET,h];exact q,b,c,e,by rw[EJ,EJ,b,c]⟩
section
variable {h:Heap} (p:Z8 h=Y) {i:Nat} (hi:i<h.P.length) (a:(h.P.getD i X).K=1)
include p hi a
theorem at_one{x:Int}(h1:Zz h i<=x)(h2:x+Zl h.W x<Zz h i+(h.P.getD i X).U)(o:ET h.W x):Z9 h x=(Bg h.W x,0):=by
 have b:=B1 p;have pp:=Ea p hi;have r:=Bm h.W x;have e:Z2 h.C x=((i:Int),x-Zz h i,0):=by(rw[<-M8 (c:=h.C) (i:=i) (o:=x-Zz h i) b.1 oq oq];congr 1;unfold Zz;omega)
 have s:Z5 (Z7 (Z1 h.W x).1).1=Zl h.W x+1:=NC h.W x;unfold Z9;rw[if_pos p,e];simp only[Ld,s,if_true];rw[if_pos ⟨.inl a,by omega,o⟩,if_neg];rfl;omega
theorem Z1s:∀(f:Nat) (o:Int) (l:List Int),EA h.W (Zz h i+o) (Zz h i+(h.P.getD i X).U) l->0<=o->(h.P.getD i X).U-o<=f->Er h i f o=some l
 |0,o,[],ht,b,hf=>rfl
 |0,o,x::l,ht,b,hf=>by
  have:=Z0M ht.2.2;have:=Bm h.W (Zz h i+o);omega
 |f+1,o,[],ht,b,hf=>by
  simp only[EA]at ht;unfold Er;rw[if_neg];show¬ o<(h.P.getD (i:Int).toNat X).U;rw[Ld];omega
 |f+1,o,x::l,ht,b,hf=>by
  have e:=ht.1;have m:=GV ht (x:=x) pq;have k:=B1 p;have pp:=Ea p hi;have hr:=Bm h.W x;have c:pg h (i:Int)=h.P.getD i X:=by simp[pg]
  have g:Bb h i o=x:=by
   unfold Bb address;rw[if_pos k.1,if_pos (HU.2 ⟨by omega,by omega,b,by omega⟩),e];unfold Zz;simp only;omega
  have d:=ht.2.2;rw[<-e]at d;have j:=Z1s f (o+(Zl h.W x+1)) l (by rw[show Zz h i+(o+(Zl h.W x+1))=x+Zl h.W x+1 by omega];exact d) oq oq;unfold Er;rw[c,if_pos oq,g,at_one p hi a oq m.2.2 m.1];simp only[if_true];rw[if_neg oq,NC,j];rfl
theorem Zjz{l}(t:EA h.W (Zz h i) (Zz h i+(h.P.getD i X).U) l):Zd h i=(l,0):=by
 have pp:=Ea p hi;have b:pg h (i:Int)=h.P.getD i X:=by simp[pg]
 unfold Zd;rw[if_pos p,if_pos oq,b,if_neg oq,Z1s p hi a 256 0 l (by rw[LA];exact t) oq oq]
end
structure Gt (h:Heap) (T:Nat->List Int):Prop where
 p:Z8 h=Y
 t1:∀i,i<h.P.length->(h.P.getD i X).K=1->EA h.W (Zz h i) (Zz h i+(h.P.getD i X).U) (T i)
 t2:∀i,i<h.P.length->(h.P.getD i X).K=2->T i=[Zz h i]/\ET h.W (Zz h i)/\Zl h.W (Zz h i)+1=(h.P.getD i X).U
 t0:∀i x,x∈T i->i<h.P.length/\((h.P.getD i X).K=1\/(h.P.getD i X).K=2)
structure Gd (h:Heap) (T:Nat->List Int):Prop where
 p:Z8 h=Y
 sp:∀i,i<h.P.length->(h.P.getD i X).K≠0->(h.P.getD i X).S=h.S
 t1:∀i,i<h.P.length->(h.P.getD i X).K=1->EA h.W (Zz h i) (Zz h i+(h.P.getD i X).U) (T i)/\∀x∈T i,Zl h.W x+1<=Zb h.C
 t2:∀i,i<h.P.length->(h.P.getD i X).K=2->T i=[Zz h i]/\ET h.W (Zz h i)/\Zl h.W (Zz h i)+1=(h.P.getD i X).U/\Cr h.W (Zz h i)≠0
 t0:∀i x,x∈T i->i<h.P.length/\((h.P.getD i X).K=1\/(h.P.getD i X).K=2)
 d:∀a,(Z1 h.W a).1≠0->∃i x,x∈T i/\x<=a/\a<x+EJ h.W x
 q:∀i x k,x∈T i->Cr h.W x≠0->0<=k->k<Zl h.W x->Bo (Bg h.W x) k=Y->(Z1 h.W (x+1+k)).1=0\/∃j,(Z1 h.W (x+1+k)).1∈T j/\Cr h.W (Z1 h.W (x+1+k)).1≠0
 cr:(crowd h.P:Int)<=h.C.pg/4
def Ob(h:Heap)(T:Nat->List Int)(x:Int):Prop:=∃j,x∈T j/\Cr h.W x≠0
section
variable {h:Heap} {T:Nat->List Int} (g:Gt h T)
include g
theorem Gt.on{i}{x:Int}(a:x∈T i):i<h.P.length/\((h.P.getD i X).K=1\/(h.P.getD i X).K=2)/\Zz h i<=x/\x<Zz h i+h.C.pw/\x+Zl h.W x<Zz h i+(h.P.getD i X).U/\ET h.W x/\((h.P.getD i X).K=2->x=Zz h i/\Zl h.W x+1=(h.P.getD i X).U):=by have t:=g.t0 i x a;have po:=B1 g.p;have pp:=Ea g.p t.1;have hr:=Bm h.W x;refine⟨t.1,t.2, ?_⟩;rcases t.2 with k|k;have m:=GV (g.t1 i t.1 k) a;exact⟨m.2.1,by omega,m.2.2,m.1,λq=>by omega⟩;have m:=g.t2 i t.1 k;rw[m.1]at a;have a:=Lj.1 a;subst a;exact⟨by omega,by omega,by omega,m.2.1,λ_=>⟨rfl,m.2.2⟩⟩
theorem Gt.ofx{i}{x:Int}(a:x∈T i):Z2 h.C x=((i:Int),x-Zz h i,0):=by have o:=g.on a;have b:=B1 g.p;have:=M8 (c:=h.C) (i:=i) (o:=x-Zz h i) b.1 oq oq;rw[<-this];congr 1;unfold Zz;omega
theorem Gt.sep{i j}{x y:Int}(d:x∈T i)(e:y∈T j)(c:x<y):x+Zl h.W x<y:=by have a:=g.on d;have b:=g.on e;have r2:=Bm h.W y;have r1:=Bm h.W x;unfold Zz at a b;rcases LO i j with q|q|q;have:=SQ g.p q b.1 a.2.1 oq;omega;subst q;rcases a.2.1 with k|k;exact Z3h (g.t1 i a.1 k) d e c;have:=(a.2.2.2.2.2.2 k).1;have:=(b.2.2.2.2.2.2 k).1;omega;have:=SQ g.p q a.1 b.2.1 oq;omega
theorem Gt.free{i j:Nat}{x:Int}(hi:i<h.P.length)(hk:(h.P.getD i X).K=0\/(h.P.getD i X).K=1)(b:x∈T j):x+Zl h.W x<Zz h i+BY (h.P.getD i X)\/Zz h i+h.C.pw<=x:=by
 have o:=g.on b;have po:=B1 g.p;have pp:=Ea g.p hi;have a:0<=BY (h.P.getD i X):=by unfold BY;split<;>omega
 unfold Zz at o⊢;rcases LO i j with q|q|q;have:=EF (i:=i) (j:=j) (pw:=h.C.pw) oq oq;omega;subst q;rw[BY,if_neg oq];omega;have:=SQ g.p q hi o.2.1 oq;omega
theorem Gt.at'{i}{x:Int}(a:x∈T i):Z9 h x=(Bg h.W x,0):=by have o:=g.on a;have r:=Bm h.W x;have s:Z5 (Z7 (Z1 h.W x).1).1=Zl h.W x+1:=NC h.W x;unfold Z9;rw[if_pos g.p,g.ofx a];simp only[Ld,s,if_true];rw[if_pos ⟨o.2.1,by omega,o.2.2.2.2.2.1⟩,if_neg];rfl;have:=o.2.2.2.2.2.2;omega
theorem Gt.page{i:Nat}(hi:i<h.P.length):Zd h i=(T i,0):=by
 have pp:=Ea g.p hi;have a:pg h (i:Int)=h.P.getD i X:=by simp[pg]
 unfold Zd;rw[if_pos g.p,if_pos oq,a];by_cases e:(h.P.getD i X).K=0\/(h.P.getD i X).K=3;rw[if_pos e];have:T i=[]:=L2.2 λx b=>by have:=(g.t0 i x b).2;omega
 rw[this];rw[if_neg e];by_cases c:(h.P.getD i X).K=1;have:=Z1s g.p hi c 256 0 (T i) (by rw[LA];exact(g.t1 i hi c)) oq oq;rw[this];have d:(h.P.getD i X).K=2:=by omega
 have t:=g.t2 i hi d;have b:Zz h i∈T i:=by rw[t.1];simp
 have on:=g.on b;have j:=B1 g.p;have hr:=Bm h.W (Zz h i);have f:Bb h i 0=Zz h i:=by(unfold Bb address;rw[if_pos j.1,if_pos (HU.2 ⟨by omega,by omega,by omega,by omega⟩)];unfold Zz;simp)
 have:Er h i 256 0=some (T i):=by(unfold Er;rw[a,if_pos oq,f,g.at' b];simp only[if_true];rw[if_pos d,t.1])
 rw[this]
theorem Gt.starts:∀(f i:Nat),i+f=h.P.length->(Co h f i).2=0/\∀x,x∈(Co h f i).1↔∃j,i<=j/\x∈T j
 |0,i,hf=>by
  refine⟨rfl,λx=>⟨λa=>by simp[Co]at a, ?_⟩⟩;rintro⟨j,b,a⟩;have:=(g.t0 j x a).1;omega
 |f+1,i,hf=>by
  obtain⟨c,d⟩:=Gt.starts f (i+1) oq;unfold Co;rw[g.page (show i<h.P.length by omega)];simp only[c,if_true];refine⟨trivial,λx=>?_⟩;rw[Lg,d];constructor
  .rintro(a|⟨j,b,a⟩)
   .exact⟨i,Lh _,a⟩
   .exact⟨j,by omega,a⟩
  .rintro⟨j,b,a⟩;by_cases q:j=i
   .subst q;exact Z a
   .exact M ⟨j,by omega,a⟩
theorem Gt.objs:(Zg h).2=0/\∀x,x∈(Zg h).1↔Ob h T x:=by
 have s:=g.starts h.P.length 0 oq;have e:CC h=Co h h.P.length 0:=by rw[CC,if_pos g.p]
 unfold Zg;rw[e];refine⟨s.1,λx=>?_⟩;rw[List.mem_filter,s.2];constructor;rintro⟨⟨j,_,hj⟩,hb⟩;have hb':(Z9 h x).1.K≠0:=of_decide_eq_true hb;rw[g.at' hj]at hb';exact⟨j,hj,hb'⟩;rintro⟨j,hj,hb⟩;refine⟨⟨j,by omega,hj⟩,decide_eq_true ?_⟩;rw[g.at' hj];exact hb
end
section
variable {h:Heap} {T:Nat->List Int} (g:Gd h T)
include g
theorem Gd.gt:Gt h T:=⟨g.p,λi hi a=>(g.t1 i hi a).1,λi hi a=>⟨(g.t2 i hi a).1,(g.t2 i hi a).2.1,(g.t2 i hi a).2.2.1⟩,g.t0⟩
theorem Gd.on{i}{x:Int}(a:x∈T i):i<h.P.length/\((h.P.getD i X).K=1\/(h.P.getD i X).K=2)/\Zz h i<=x/\x<Zz h i+h.C.pw/\x+Zl h.W x<Zz h i+(h.P.getD i X).U/\ET h.W x/\((h.P.getD i X).K=2->x=Zz h i/\Zl h.W x+1=(h.P.getD i X).U):=g.gt.on a
theorem Gd.ofx{i}{x:Int}(a:x∈T i):Z2 h.C x=((i:Int),x-Zz h i,0):=g.gt.ofx a
theorem Gd.sep{i j}{x y:Int}(b:x∈T i)(c:y∈T j)(a:x<y):x+Zl h.W x<y:=g.gt.sep b c a
theorem Gd.free{i j:Nat}{x:Int}(hi:i<h.P.length)(a:(h.P.getD i X).K=0\/(h.P.getD i X).K=1)(b:x∈T j):x+Zl h.W x<Zz h i+BY (h.P.getD i X)\/Zz h i+h.C.pw<=x:=g.gt.free hi a b
theorem Gd.at'{i}{x:Int}(a:x∈T i):Z9 h x=(Bg h.W x,0):=g.gt.at' a
theorem Gd.page{i:Nat}(hi:i<h.P.length):Zd h i=(T i,0):=g.gt.page hi
theorem Gd.objs:(Zg h).2=0/\∀x,x∈(Zg h).1↔Ob h T x:=g.gt.objs
end
def Z7s{l:List Z0}:∀{i j:Nat},j<=i->(l.getD j X).K≠3->(∀m,j<m->m<=i->(l.getD m X).K=3)->ZX l i=j
 |0,j,h,_,_=>by simp[ZX];omega
 |i+1,j,h,hk,hm=>by
  unfold ZX;by_cases q:j=i+1
  .subst q;rw[if_neg hk]
  .rw[if_pos (hm (i+1) oq (Lh _))];exact Z7s oq hk λm a h2=>hm m a oq
def Z6Y{ws:List Int}{a n:Int}{k:Nat}(hn:0<=n)(b:4096<=a/\a-4096+n<=ws.length)(hk:(k:Int)<n):(BX ws a n).1.getD k X=(Z1 ws (a+k)).1:=by unfold BX Z1;rw[if_neg oq,if_pos b,if_pos oq];simp only[O];rw[L7 oq,L4,show(a-4096).toNat+k=(a+k-4096).toNat by omega];rfl
section
variable {h:Heap} {T:Nat->List Int} (g:Gd h T)
include g
theorem Gd.inw{i}{x:Int}(a:x∈T i):4096<=x/\x+Zl h.W x<4096+h.W.length:=by have o:=g.on a;have po:=B1 g.p;have u:=Z0A g.p o.1 o.2.1;have h0:0<=(i:Int)*h.C.pw:=Li oq oq;unfold Zz at o;omega
theorem Gd.head{i j:Nat}{x a:Int}(l:x∈T j)(h1:x<=a)(h2:a<=x+Zl h.W x)(hi:i<h.P.length)(c:Zz h i<=a)(d:a<Zz h i+h.C.pw):ZX h.P i=j:=by
 have o:=g.on l;have po:=B1 g.p;unfold Zz at o c d;have b:j<=i:=by(by_cases q:j<=i;exact q;have:=EF (i:=i) (j:=j) (pw:=h.C.pw) oq oq;omega)
 refine Z7s b oq λm m1 m2=>?_;have f:=EF (i:=j) (j:=m) (pw:=h.C.pw) oq oq;have e:(m:Int)*h.C.pw<=i*h.C.pw:=Lw oq oq;rcases o.2.1 with k|k;have pp:=Ea g.p o.1;omega;by_cases q:(h.P.getD m X).K=3;exact q;have:=SQ g.p m1 oq (M k) q;omega
theorem Gd.badd{i k:Nat}(hi:i<h.P.length)(hk:(k:Int)<h.C.pw):Hx h i (CI h i) k=Lf:=by
 have p:=B1 g.p;unfold Hx;have f:Gr h i k=(Z1 h.W (Zz h i+k)).1:=by(unfold Gr address;rw[if_pos p.1,if_pos (HU.2 ⟨by omega,by omega,by omega,by omega⟩)];unfold Zz;simp only;rw[LL])
 rw[f];by_cases c:(Z1 h.W (Zz h i+k)).1=0;rw[c];simp;obtain⟨j,x,a,d,l⟩:=g.d _ c;have hr:=Bm h.W x;have o:EJ h.W x<=Zl h.W x+1:=by unfold EJ;split<;>omega
 have n:=g.head a d oq hi oq oq;have m:(CI h i).getD k X=Y:=by
  unfold CI Cu;rw[n,g.page (g.on a).1];have b:k<h.C.pw.toNat:=by omega
  simp only[O,L5,L6 b,Xe,LJ,L1];refine⟨x,a, ?_⟩;unfold DW;have e:GB h x=EJ h.W x:=by(unfold GB EJ;rw[g.at' a];rw[NC];rfl)
  rw[e,Lv,decide_eq_true_eq,decide_eq_true_eq];unfold Zz at d l;omega
 rw[m];simp
theorem Gd.dirt{i:Nat}(hi:i<h.P.length):Ei h i (CI h i)=0:=by
 have hl:=Mu h i;unfold Ei;have:(Lc (CI h i).length).find? (Hx h i (CI h i))=Lq:=by(rw[Le];intro k a;have a:=Lb.1 a;rw[g.badd hi oq];simp)
 rw[this]
theorem Gd.cls{i}{x:Int}(a:x∈T i):Gp h i x=Lf:=by
 have o:=g.on a;unfold Gp;rw[g.at' a,NC,Ld];rcases o.2.1 with k|k;have:=(g.t1 i o.1 k).2 x a;rw[k];simp;omega;have t:=g.t2 i o.1 k;have b:=(o.2.2.2.2.2.2 k).1;have:(Bg h.W x).K≠0:=by rw[b];exact t.2.2.2
 rw[k];simp;exact this
theorem Gd.pageF{i:Nat}(hi:i<h.P.length):(pageF h i).fault=0:=by
 have b:=g.sp i hi;have a:Cq h i (T i)=0:=by
  unfold Cq;have:(T i).find? (Gp h i)=Lq:=by(rw[Le];intro x c;rw[g.cls c];simp)
  rw[this];rfl
 unfold Go.Proofs.YtgedmeaemofdkaaGreat.pageF;rw[if_neg (by rintro⟨d,e⟩;exact e (b d)),g.page hi,if_neg pq,if_neg (by rw[a];simp),if_neg (by rw[g.dirt hi];simp)]
theorem Gd.fields{i}{x:Int}(d:x∈T i)(a:Cr h.W x≠0):Zp h x=(Bg h.W x,0)/\((Ct h x).1.length:Int)=Zl h.W x/\∀k:Nat,(k:Int)<Zl h.W x->(Ct h x).1.getD k X=(Z1 h.W (x+1+k)).1:=by
 have n:=g.inw d;have r:=Bm h.W x;have c:Zp h x=(Bg h.W x,0):=by(unfold Zp;rw[if_pos g.p,if_neg oq,g.at' d,if_neg];rintro⟨_,q⟩;exact a q)
 have b:Ct h x=BX h.W (x+1) (Zl h.W x):=by(unfold Ct;rw[c,if_pos rfl];rfl)
 refine⟨c, ?_, ?_⟩;rw[b];unfold BX;rw[if_neg oq,if_pos oq];simp only[Xa,L8];omega;intro k a;rw[b];exact Z6Y r.1 oq a
theorem Gd.good:Bh h=⟨0,0,0⟩:=by
 have n:=g.objs;have o:Gu h=Lq:=by(unfold Gu;rw[Le];intro i hi;have:=g.pageF (Lb.1 hi);simp[this])
 have p:ED h (Zg h).1=⟨0,0,0⟩:=by
  unfold ED;have:(Lc (Zg h).1.length).find? (λi=>(HB h (Zg h).1 i).isSome)=Lq:=by
   rw[Le];intro i hi;have l:(Zg h).1.getD i X∈(Zg h).1:=Bs.2 ⟨i,Lb.1 hi,rfl⟩;have:HB h (Zg h).1 i=Lq:=by
    unfold HB;generalize (Zg h).1.getD i X=x at l⊢;obtain⟨j,d,b⟩:=(n.2 x).1 l;have f:=g.fields d b;rw[Le];intro k e;have e:=Lb.1 e;have a:(k:Int)<Zl h.W x:=by omega
    unfold II;rw[f.1,f.2.2 k a];intro c;simp only[Lv,LY,decide_eq_true_eq,decide_eq_false_iff_not]at c;rcases g.q j x k d b oq a c.1.1 with q|⟨m,r,s⟩;exact c.1.2 q;exact c.2 ((n.2 _).2 ⟨m,r,s⟩)
   rw[this];simp
  rw[this]
 unfold Bh;rw[if_pos g.p,o];simp only[p,ne_eq,not_true_eq_false,if_false];rw[if_neg];have:=g.cr;show¬ h.C.pg/4<(crowd h.P:Int);omega
theorem Gd.refers{s:List Int}(hs:∀r∈s,r=0\/Ob h T r):BA h s=Y:=by
 unfold BA;rw[Lv,decide_eq_true_eq];refine⟨g.good, ?_⟩;have:(Lc s.length).find? (Ih s (Zg h).1)=Lq:=by(rw[Le];intro i hi;have a:s.getD i X∈s:=Bs.2 ⟨i,Lb.1 hi,rfl⟩;unfold Ih;rw[decide_eq_true_eq];rintro⟨b,c⟩;rcases hs _ a with q|q;exact b q;exact c ((g.objs.2 _).2 q))
 rw[this];rfl
end
def decode_encode{hd:Zy}(c:ZR hd=Y)(e:0<=hd.map/\hd.map<=4294967295):Z7 (Zt hd).1=(hd,Y):=by
 have b:=Gl.1 c;have a:Zt hd=(1+4*hd.K+16*hd.length+65536*hd.map,0):=by rw[Zt,if_pos c]
 have d:EL (1+4*hd.K+16*hd.length+65536*hd.map)=hd:=by(obtain⟨k,l,m⟩:=hd;simp only at b e;simp only[EL,Zy.mk.injEq];omega)
 rw[a];unfold Z7;simp only[d,a];simp
def Z8P{l a:List Z0}:∀n:Nat,(∀i,i<n->(a.getD i X).K=1->0<(a.getD i X).N->(l.getD i X).K=1/\0<(l.getD i X).N)->Bd a n<=Bd l n
 |0,_=>Lh _
 |n+1,hh=>by
  have ih:=Z8P n λi hi=>hh i oq;have b:=hh n oq;unfold Bd;split
  .rename_i c;rw[if_pos (b c.1 c.2)];omega
  .split<;>omega
def Z6h{l:List Z0}{i:Nat}{p:Z0}(hi:i<l.length):∀n:Nat,Bd (l.set i p) n<=Bd l n+1/\(n<=i->Bd (l.set i p) n<=Bd l n)
 |0=>⟨by simp[Bd],λ_=>Lh _⟩
 |n+1=>by
  obtain⟨i1,a⟩:=Z6h (p:=p) hi n;unfold Bd;rw[Cn hi];by_cases q:i=n
  .have:=a oq;subst q;refine⟨?_,λq=>by omega⟩;split<;>split<;>omega
  .rw[if_neg q];refine⟨?_,λq2=>?_⟩
   .split<;>omega
   .have:=a oq;split<;>omega
def Tt{l a:List Z0}(hl:a.length=l.length)(b:∀i,i<l.length->(a.getD i X).K=1->0<(a.getD i X).N->(l.getD i X).K=1/\0<(l.getD i X).N):crowd a<=crowd l:=by unfold crowd;rw[hl];exact Z8P _ b
def Gd.P{h h':Heap}{T}(g:Gd h T)(j:Z8 h'=Y)(d:h'.C=h.C)(c:h'.W=h.W)(hs:h'.S=h.S)(hl:h'.P.length=h.P.length)(b:∀i,i<h.P.length->(h'.P.getD i X).K=(h.P.getD i X).K/\(h'.P.getD i X).S=(h.P.getD i X).S/\(h'.P.getD i X).U=(h.P.getD i X).U)(e:(crowd h'.P:Int)<=h.C.pg/4):Gd h' T:=by
 have f:∀i,Zz h' i=Zz h i:=λi=>by rw[Zz,Zz,d]
 refine⟨j, ?_, ?_, ?_, ?_,by rw[c];exact g.d,by rw[c];exact g.q,by rw[d];exact e⟩;intro i hi a;rw[hl]at hi;rw[(b i hi).1]at a;rw[(b i hi).2.1,hs];exact g.sp i hi a;intro i hi a;rw[hl]at hi;rw[(b i hi).1]at a;rw[(b i hi).2.2,c,f,d];exact g.t1 i hi a;intro i hi a;rw[hl]at hi;rw[(b i hi).1]at a;rw[(b i hi).2.2,c,f];exact g.t2 i hi a;intro i x k;have t:=g.t0 i x k;rw[hl,(b i t.1).1];exact t
def Gd.store{h T}(g:Gd h T){x k v:Int}(hx:Ob h T x)(hk:0<=k/\k<Zl h.W x)(hv:Bo (Bg h.W x) k=Y->v=0\/Ob h T v) :Gd {h with W:=(BQ h.W (x+1+k) v).1} T/\(∀i y,y∈T i->(Z1 (BQ h.W (x+1+k) v).1 y).1=(Z1 h.W y).1):=by
 obtain⟨j,p,a2⟩:=hx;have n:=g.inw p;have d:4096<=x+1+k/\x+1+k<4096+h.W.length:=by omega
 have s:=Ap (ws:=h.W) (v:=v) d;have u:∀i y,y∈T i->(Z1 (BQ h.W (x+1+k) v).1 y).1=(Z1 h.W y).1:=by(intro i y c;rw[Gg d];intro e;have:=g.sep p c oq;omega)
 have l:∀i y,y∈T i->ET h.W y/\ET (BQ h.W (x+1+k) v).1 y/\Zl (BQ h.W (x+1+k) v).1 y=Zl h.W y/\Cr (BQ h.W (x+1+k) v).1 y=Cr h.W y/\Bg (BQ h.W (x+1+k) v).1 y=Bg h.W y/\EJ (BQ h.W (x+1+k) v).1 y=EJ h.W y:=by(intro i y c;have o:=E6 (u i y c);have:=(g.on c).2.2.2.2.2.1;exact⟨this,o.1 this,o.2⟩)
 refine⟨⟨?_,g.sp, ?_, ?_,g.t0, ?_, ?_,g.cr⟩,u⟩;have q:=g.p;rw[Gh]at q⊢;refine⟨q.1, ?_,q.2.2.1,q.2.2.2.1,q.2.2.2.2.1,q.2.2.2.2.2⟩;simp only[s];exact q.2.1;intro i hi a0;have t:=g.t1 i hi a0;exact⟨NJ t.1 λy c=>⟨(l i y c).2.1,(l i y c).2.2.1⟩,λy c=>by rw[(l i y c).2.2.1];exact t.2 y c⟩;intro i hi a1;have t:=g.t2 i hi a1;have q:=l i (Zz h i) (by rw[t.1];simp);refine⟨t.1,q.2.1, ?_, ?_⟩;exact q.2.2.1▸t.2.2.1;exact q.2.2.2.1▸t.2.2.2;intro a ha;by_cases e:a=x+1+k;refine⟨j,x,p,by omega, ?_⟩;simp only;rw[(l j x p).2.2.2.2.2,EJ,if_neg a2];omega;simp only at ha;rw[Gg d e]at ha;obtain⟨i,y,c,r,h2⟩:=g.d a ha;refine⟨i,y,c,r, ?_⟩;simp only;rw[(l i y c).2.2.2.2.2];exact h2;intro i y m c f h0 r w;simp only at f r w⊢;obtain⟨c0,c1,c2,c3,c4,c5⟩:=l i y c;rw[c3]at f;rw[c2]at r;rw[c4]at w;have fin:∀z,z=0\/Ob h T z->z=0\/∃j,z∈T j/\Cr (BQ h.W (x+1+k) v).1 z≠0:=by(rintro z (q|⟨b,b1,b2⟩);exact Z q;exact M ⟨b,b1,by rw[(l b z b1).2.2.2.1];exact b2⟩)
 by_cases e:y+1+m=x+1+k;have a4:y=x:=by(rcases Int.lt_trichotomy y x with q|q|q;have:=g.sep c p q;omega;exact q;have:=g.sep p c q;omega)
 subst a4;have a3:m=k:=by omega
 subst a3;rw[RV d];exact fin _ (hv w);rw[Gg d e];exact fin _ (g.q i y m c f h0 r w)
def Gd.add{h h':Heap}{T}(g:Gd h T){i:Nat}{a}{hd:Zy}(hv:ZR hd=Y)(hm:0<=hd.map/\hd.map<=4294967295)(hk:hd.K≠0)(hp:Z8 h'=Y)(hc:h'.C=h.C)(hs:h'.S=h.S)(hl:h'.P.length=h.P.length)(hw:h'.W=(ZS h.W a (BI hd)).1)(hin:4096<=a/\a+Z5 hd<=4096+h.W.length)(hi:i<h.P.length)(hj:∀j,j<h.P.length->j≠i->h'.P.getD j X=h.P.getD j X\/((h.P.getD j X).K=0/\(h'.P.getD j X).K=3/\(h'.P.getD j X).S=h.S))(hI:((h.P.getD i X).K=0\/(h.P.getD i X).K=1)/\(h'.P.getD i X).K=1/\a=Zz h i+BY (h.P.getD i X)/\(h'.P.getD i X).U=BY (h.P.getD i X)+Z5 hd/\Z5 hd<=Zb h.C\/(h.P.getD i X).K=0/\(h'.P.getD i X).K=2/\a=Zz h i/\(h'.P.getD i X).U=Z5 hd)(hsp:(h'.P.getD i X).S=h.S)(hcr:crowd h'.P<=crowd h.P)(hdis:∀j x,x∈T j->x+Zl h.W x<a\/a+Z5 hd<=x) :Gd h' (λj=>if j=i then T i++[a]else T j)/\Cr h'.W a≠0/\Bg h'.W a=hd/\(∀k,a<k->k<a+Z5 hd->(Z1 h'.W k).1=0)/\(∀k,k<a\/a+Z5 hd<=k->Z1 h'.W k=Z1 h.W k):=by
 have ow:=Z6a hv hm;have hs1:Z5 hd=hd.length+1:=by rw[Z5,if_pos hv]
 have vb:=Gl.1 hv;have hin':4096<=a/\a-4096+(BI hd).length<=h.W.length:=by omega
 have out:∀k,k<a\/a+Z5 hd<=k->Z1 h'.W k=Z1 h.W k:=by(intro k hk;rw[hw];exact Ag hin' oq)
 have wa:(Z1 h'.W a).1=(Zt hd).1:=by(rw[hw,Sw hin' oq];simp[BI])
 have z:∀k,a<k->k<a+Z5 hd->(Z1 h'.W k).1=0:=by
  intro k h1 h2;rw[hw,Sw hin' oq];have:(k-a).toNat=(k-a-1).toNat+1:=by omega
  rw[this,BI];simp[O,LF];split<;>rfl
 have de:=decode_encode hv hm;have ha1:Bg h'.W a=hd:=by rw[Bg,wa,de]
 have ha2:ET h'.W a:=by rw[ET,wa,de]
 have ha3:Zl h'.W a=hd.length:=by rw[Zl,wa,de]
 have ha4:Cr h'.W a≠0:=by rw[Cr,ha1];exact hk
 have hb:∀j,Zz h' j=Zz h j:=λj=>by rw[Zz,Zz,hc]
 have ky:∀j x,x∈T j->ET h'.W x/\Zl h'.W x=Zl h.W x/\Cr h'.W x=Cr h.W x/\Bg h'.W x=Bg h.W x/\EJ h'.W x=EJ h.W x/\∀m,0<=m->m<=Zl h.W x->Z1 h'.W (x+m)=Z1 h.W (x+m):=by(intro j x hx;have d:=hdis j x hx;have r:=Bm h.W x;have o:=E6 (ws:=h.W) (ws':=h'.W) (a:=x) (by rw[out x oq]);refine⟨o.1 (g.on hx).2.2.2.2.2.1,o.2.1,o.2.2.1,o.2.2.2.1,o.2.2.2.2,λm h1 h2=>out _ oq⟩)
 have mem:∀j x,x∈(if j=i then T i++[a]else T j)->x∈T j\/(j=i/\x=a):=by(intro j x hx;split at hx;rename_i q;subst q;rcases Lg.1 hx with hx|hx;exact Z hx;exact M ⟨rfl,Lj.1 hx⟩;exact Z hx)
 have mem2:∀j x,x∈T j->x∈(if j=i then T i++[a]else T j):=by(intro j x hx;split;rename_i q;subst q;exact La _ hx;exact hx)
 have mem3:a∈(if i=i then T i++[a]else T i):=by simp
 have hnil:(h.P.getD i X).K=0->T i=[]:=λq=>L2.2 λx hx=>by have:=(g.t0 i x hx).2;omega
 refine⟨⟨hp, ?_, ?_, ?_, ?_, ?_, ?_, ?_⟩,ha4,ha1,z,out⟩;intro j hj1 hk1;rw[hl]at hj1;rw[hs];by_cases q:j=i;subst q;exact hsp;rcases hj j hj1 q with e|e;rw[e]at hk1⊢;exact g.sp j hj1 hk1;exact e.2.2;intro j hj1 hk1;rw[hl]at hj1;rw[hb,hc];by_cases q:j=i;subst q;simp only[if_true];rcases hI with⟨c1,c2,c3,c4,c5⟩|c;refine⟨?_, ?_⟩;have last:EA h'.W a (Zz h j+(h'.P.getD j X).U) [a]:=⟨rfl,ha2,by rw[ha3];simp only[EA];omega⟩;refine Z1B (b:=a) ?_ last;rcases c1 with c1|c1;rw[hnil c1];rw[BY,if_pos c1]at c3;simp only[EA];omega;have t:=(g.t1 j hi c1).1;rw[BY,if_neg oq]at c3;rw[c3];exact NJ t λx hx=>⟨(ky j x hx).1,(ky j x hx).2.1⟩;intro x hx;rcases Lg.1 hx with hx|hx;rw[(ky j x hx).2.1];rcases c1 with c1|c1;rw[hnil c1]at hx;simp at hx;exact(g.t1 j hi c1).2 x hx;have:=Lj.1 hx;subst this;omega;omega;rw[if_neg q];rcases hj j hj1 q with e|e;rw[e]at hk1⊢;have t:=g.t1 j hj1 hk1;exact⟨NJ t.1 λx hx=>⟨(ky j x hx).1,(ky j x hx).2.1⟩,λx hx=>by rw[(ky j x hx).2.1];exact t.2 x hx⟩;omega;intro j hj1 hk2;rw[hl]at hj1;rw[hb];by_cases q:j=i;subst q;simp only[if_true];rcases hI with c|⟨c1,c2,c3,c4⟩;omega;rw[hnil c1,<-c3,ha3];exact⟨rfl,ha2,by omega,ha4⟩;rw[if_neg q];rcases hj j hj1 q with e|e;rw[e]at hk2⊢;have t:=g.t2 j hj1 hk2;have k:=ky j (Zz h j) (by rw[t.1];simp);exact⟨t.1,k.1,by rw[k.2.1];exact t.2.2.1,by rw[k.2.2.1];exact t.2.2.2⟩;omega;intro j x hx;rw[hl];rcases mem j x hx with hx|⟨q,_⟩;have t:=g.t0 j x hx;refine⟨t.1, ?_⟩;by_cases q:j=i;subst q;rcases hI with c|c<;>omega;rcases hj j t.1 q with e|e;rw[e];exact t.2;omega;subst q;exact⟨hi,by rcases hI with c|c<;>omega⟩;intro k hk0;by_cases hr:k<a\/a+Z5 hd<=k;rw[out k hr]at hk0;obtain⟨j,x,hx,h1,h2⟩:=g.d k hk0;exact⟨j,x,mem2 j x hx,h1,by rw[(ky j x hx).2.2.2.2.1];exact h2⟩;refine⟨i,a,mem3,by omega, ?_⟩;rw[EJ,if_neg ha4,ha3];omega;intro j x k hx hkd h0 h1 hpt;rcases mem j x hx with hx|⟨_,q⟩;have c:=ky j x hx;rw[c.2.2.1]at hkd;rw[c.2.1]at h1;rw[c.2.2.2.1]at hpt;have e:=c.2.2.2.2.2 (1+k) oq oq;rw[<-LL]at e;rw[e];rcases g.q j x k hx hkd h0 h1 hpt with q|⟨b,b1,b2⟩;exact Z q;exact M ⟨b,mem2 b _ b1,by rw[(ky b _ b1).2.2.1];exact b2⟩;subst q;rw[ha3]at h1;exact Z (z _ oq oq);rw[hc];have:=g.cr;omega
structure AL (h h':Heap) (T:Nat->List Int) (hd:Zy) (i:Nat) (a:Int):Prop where
 g:Gd h' (λj=>if j=i then T i++[a]else T j)
 k:Cr h'.W a≠0
 e:Bg h'.W a=hd
 z:∀k,a<k->k<a+Z5 hd->(Z1 h'.W k).1=0
 o:∀k,k<a\/a+Z5 hd<=k->Z1 h'.W k=Z1 h.W k
 d:∀j x,x∈T j->x+Zl h.W x<a\/a+Z5 hd<=x
 c:h'.C=h.C
def Zax{c n}(f:¬ 0<need c n)(a:0<=need c n):n<=Zb c:=by
 unfold need at f a;split at a;rename_i d;rw[if_pos d]at f;have hb:=BD.1 d.1;rw[Zb,if_pos d.1,L0 oq];split at a;rename_i hd;exact hd;rename_i hd;rw[if_neg hd]at f;have e:=LC (n+c.pw-1) c.pw;have:=Lr (n+c.pw-1) (b:=c.pw) oq;have g:(n+c.pw-1)/c.pw=0:=by omega
 rw[g]at e;omega;omega
def Gd.newOk{h T}(g:Gd h T){hd:Zy}(hw:Zx h.W)(hm:0<=hd.map/\hd.map<=4294967295)(e:(ZT h hd).2.2=0):∃i,AL h (ZT h hd).1 T hd i (ZT h hd).2.1:=by
 obtain⟨k1,k2,k3,k4,k5,k6,k7,k8⟩:=O1 hw hm e;obtain⟨a1,a2,a3,a4,a5⟩:=DY k2;have po:=B1 g.p;have hpt:=g.p;rw[Gh]at hpt;obtain⟨p1,p2,p3,p4,p5,p6⟩:=hpt;have hin:4096<=(Ch h hd).2.1/\(Ch h hd).2.1+Z5 hd<=4096+h.W.length:=⟨k3.lo,k3.hi⟩;have e1:(ZT h hd).1.C=h.C:=by rw[k6];exact k3.c
 have e2:(ZT h hd).1.S=h.S:=by rw[k6];exact k3.sp
 have e3:(ZT h hd).1.P.length=h.P.length:=by rw[k6];exact k3.l
 have e4:(ZT h hd).1.W=(ZS h.W (Ch h hd).2.1 (BI hd)).1:=by rw[k6]
 have e5:(ZT h hd).1.P=(Ch h hd).1.P:=by rw[k6]
 rw[k5];have fin:∀i:Nat,i<h.P.length->(∀j,j<h.P.length->j≠i->(ZT h hd).1.P.getD j X=h.P.getD j X\/((h.P.getD j X).K=0/\((ZT h hd).1.P.getD j X).K=3/\((ZT h hd).1.P.getD j X).S=h.S)) ->
   ((h.P.getD i X).K=0\/(h.P.getD i X).K=1)/\((ZT h hd).1.P.getD i X).K=1/\(Ch h hd).2.1=Zz h i+BY (h.P.getD i X)/\((ZT h hd).1.P.getD i X).U=BY (h.P.getD i X)+Z5 hd/\Z5 hd<=Zb h.C\/(h.P.getD i X).K=0/\((ZT h hd).1.P.getD i X).K=2/\(Ch h hd).2.1=Zz h i/\((ZT h hd).1.P.getD i X).U=Z5 hd ->
   ((ZT h hd).1.P.getD i X).S=h.S->crowd (ZT h hd).1.P<=crowd h.P->(∀j x,x∈T j->x+Zl h.W x<(Ch h hd).2.1\/(Ch h hd).2.1+Z5 hd<=x)->∃i,AL h (ZT h hd).1 T hd i (Ch h hd).2.1:=by
  intro i hi hj hI hsp hcr hdis;obtain⟨q1,q2,q3,q4,q5⟩:=g.add a1 hm a5 k7 e1 e2 e3 e4 hin hi hj hI hsp hcr hdis;exact⟨i,q1,q2,q3,q4,q5,hdis,e1⟩
 rw[e5]at fin;by_cases hn:0<need h.C (Z5 hd);have e7:Ch h hd=BH h (Z5 hd) (need h.C (Z5 hd)):=by rw[Ch,if_pos hn]
 rw[e7]at k4 fin⊢;by_cases hg:0<=first h.P (need h.C (Z5 hd))/\Bj h.P+need h.C (Z5 hd)<=CW h.C
 obtain⟨g1,g2,g3⟩:=HS hg.1;have el:(GE h.C h.P (first h.P (need h.C (Z5 hd))) h.S (Z5 hd)).1=ZK h.P (first h.P (need h.C (Z5 hd))).toNat (need h.C (Z5 hd)).toNat ⟨2,h.S,Z5 hd,0⟩ ⟨3,h.S,0,0⟩:=by(rw[GE,if_pos ⟨g1,by omega⟩,EG,if_pos oq,if_pos g3])
 have e8:BH h (Z5 hd) (need h.C (Z5 hd))=(⟨h.C,h.W,ZK h.P (first h.P (need h.C (Z5 hd))).toNat (need h.C (Z5 hd)).toNat ⟨2,h.S,Z5 hd,0⟩ ⟨3,h.S,0,0⟩,h.S,h.B⟩,4096+first h.P (need h.C (Z5 hd))*h.C.pw,Y):=by rw[BH,if_pos hg,el]
 have hf:∀j,j<(need h.C (Z5 hd)).toNat->(h.P.getD ((first h.P (need h.C (Z5 hd))).toNat+j) X).K=0:=RQ.1 g3;have hu:=Mv g1;rw[e8]at fin⊢;simp only at fin⊢;generalize hk:need h.C (Z5 hd)=k at *;generalize hfi:first h.P k=f at *
 have hge:∀j,(ZK h.P f.toNat k.toNat ⟨2,h.S,Z5 hd,0⟩ ⟨3,h.S,0,0⟩).getD j X=if j=f.toNat then⟨2,h.S,Z5 hd,0⟩else if f.toNat<j/\j<f.toNat+k.toNat then⟨3,h.S,0,0⟩else h.P.getD j X:=Z1V oq oq;have h0:=hf 0 oq;rw[Xc]at h0;refine fin f.toNat oq ?_ ?_ ?_ ?_ ?_;intro j hj1 hj2;rw[hge,if_neg hj2];split;rename_i q;have:=hf (j-f.toNat) oq;rw[show f.toNat+(j-f.toNat)=j by omega]at this;exact M ⟨this,rfl,rfl⟩;exact Z rfl;rw[hge,if_pos rfl];refine M ⟨h0,rfl, ?_,rfl⟩;rw[Zz,LV oq];rw[hge,if_pos rfl];refine Tt (OL oq) λj hj1 q1 q2=>?_;rw[hge]at q1 q2;split at q1;simp at q1;rename_i c1;rw[if_neg c1]at q2;split at q1;simp at q1;rename_i c2;rw[if_neg c2]at q2;exact⟨q1,q2⟩;intro j x hx;have o:=g.on hx;have hr:=Bm h.W x;unfold Zz at o;have hfe:((f.toNat:Nat):Int)=f:=by omega
 by_cases q:j<f.toNat
 have:=SQ g.p q oq o.2.1 oq;rw[hfe]at this;omega;have hjk:f.toNat+k.toNat<=j:=by(by_cases q2:f.toNat+k.toNat<=j;exact q2;have:=hf (j-f.toNat) oq;rw[show f.toNat+(j-f.toNat)=j by omega]at this;omega)
 have:=Lw (show f+k<=(j:Int) by omega) (show 0<=h.C.pw by omega);rw[LZ]at this;omega;rw[BH,if_neg hg]at k4;simp at k4;have e7:Ch h hd=Bf h (Z5 hd):=by rw[Ch,if_neg hn]
 have hsm:=Zax hn a4;have hsw:Zb h.C<=h.C.pw:=by(rw[Zb,if_pos p1,L0 oq];omega)
 rw[e7]at k4 fin⊢;by_cases hf:IL h (Z5 hd);have e8:Bf h (Z5 hd)=(⟨h.C,h.W,Cs h.P h.B.toNat (Z5 hd),h.S,h.B⟩,4096+h.B*h.C.pw+(h.P.getD h.B.toNat X).U,Y):=by rw[Bf,if_pos hf]
 unfold IL at hf;have hbi:h.B.toNat<h.P.length:=by omega
 have hk:(h.P.getD h.B.toNat X).K=1:=by omega
 have hbe:((h.B.toNat:Nat):Int)=h.B:=by omega
 have hoc:BY (h.P.getD h.B.toNat X)=(h.P.getD h.B.toNat X).U:=by rw[BY,if_neg oq]
 rw[e8,RU]at fin;rw[e8];simp only at fin⊢;refine fin h.B.toNat hbi ?_ ?_ ?_ ?_ ?_;intro j hj1 hj2;rw[Cn hbi,if_neg (λq=>hj2 q.symm)];exact Z rfl;rw[Cn hbi,if_pos rfl,hoc];refine Z ⟨M hk,hk, ?_,rfl,hsm⟩;rw[Zz,hbe];rw[Cn hbi,if_pos rfl];exact hf.2.1;refine Tt (by rw[Lt]) λj hj1 q1 q2=>?_;rw[Cn hbi]at q1 q2;split at q1;rename_i c;rw[if_pos c]at q2;subst c;exact⟨q1,q2⟩;rename_i c;rw[if_neg c]at q2;exact⟨q1,q2⟩;intro j x hx;have:=g.free hbi (M hk) hx;rw[hoc,Zz,hbe]at this;omega;by_cases hg:0<=first h.P 1/\(Bj h.P:Int)<CW h.C
 have e8:Bf h (Z5 hd)=(⟨h.C,h.W,Cs (HD h) (first h.P 1).toNat (Z5 hd),h.S,first h.P 1⟩,4096+first h.P 1*h.C.pw+((HD h).getD (first h.P 1).toNat X).U,Y):=by rw[Bf,if_neg hf,if_pos hg]
 obtain⟨g1,g2,g3⟩:=A5 p4 hg.1 (Z5 hd);have g4:=congrArg Z0.U (NT p4 hg.1).2.2.2;simp only at g4;have hbe:(((first h.P 1).toNat:Nat):Int)=first h.P 1:=by omega
 have hoc:BY (h.P.getD (first h.P 1).toNat X)=0:=by rw[BY,if_pos g2]
 rw[e8,g1,g4]at fin;rw[e8,g4];simp only at fin⊢;refine fin (first h.P 1).toNat g3 ?_ ?_ ?_ ?_ ?_;intro j hj1 hj2;rw[Cn g3,if_neg (λq=>hj2 q.symm)];exact Z rfl;rw[Cn g3,if_pos rfl,hoc];refine Z ⟨Z g2,rfl, ?_,by simp,hsm⟩;rw[Zz,hbe];rw[Cn g3,if_pos rfl];refine Tt (by rw[Lt]) λj hj1 q1 q2=>?_;rw[Cn g3]at q1 q2;split at q1;rename_i c;rw[if_pos c]at q2;simp at q2;rename_i c;rw[if_neg c]at q2;exact⟨q1,q2⟩;intro j x hx;have:=g.free g3 (Z g2) hx;rw[hoc,Zz,hbe]at this;omega;rw[Bf,if_neg hf,if_neg hg]at k4;simp at k4
def GN(h:Heap)(T:Nat->List Int)(l:List Int):Prop:=∀r∈l,r=0\/Ob h T r
def WG(w:Zj):Prop:=∃T,Gd w.heap T/\GN w.heap T w.G/\GN w.heap T w.E
def AL.ob{h h' T hd i a}(n:AL h h' T hd i a){x}(d:Ob h T x):Ob h' (λj=>if j=i then T i++[a]else T j) x:=by obtain⟨j,b,c⟩:=d;have r:=Bm h.W x;have o:=E6 (ws:=h.W) (ws':=h'.W) (a:=x) (by rw[n.o x (by have:=n.d j x b;omega)]);refine⟨j, ?_,by rw[o.2.2.1];exact c⟩;show x∈(if j=i then T i++[a]else T j);split;rename_i q;subst q;exact La _ b;exact b
def AL.ob0{h h' T hd i a}(n:AL h h' T hd i a):Ob h' (λj=>if j=i then T i++[a]else T j) a:=
 ⟨i,by simp,n.k⟩
def WG.put{w}(h:WG w)(f:Zx w.heap.W){hd:Zy}(d:0<=hd.map/\hd.map<=4294967295):WG (w.put hd):=by unfold Zj.put;split;rename_i e;obtain⟨T,g,b,c⟩:=h;obtain⟨i,n⟩:=g.newOk f d e;refine⟨_,n.g,λr a=>?_,λr a=>?_⟩;rcases Lg.1 a with a|a;rcases b r a with q|q;exact Z q;exact M (n.ob q);have:=Lj.1 a;subst this;exact M n.ob0;rcases c r a with q|q;exact Z q;exact M (n.ob q);exact h
def WG.pick{w:Zj}{T}(a:GN w.heap T w.G)(b:GN w.heap T w.E)(t:Tape):w.pick t=0\/Ob w.heap T (w.pick t):=by rcases Z44 w t with e|e|e;exact Z e;exact a _ e;exact b _ e
def Gd.setf{h T}(g:Gd h T)(l:Zx h.W){a i v:Int}(k:0<=v/\v<=18446744073709551615)(e:Ob h T a)(hi:0<=i/\i<(Zp h a).1.length)(d:Bo (Zp h a).1 i=Y->v=0\/Ob h T v):Gd (CZ h a i v).1 T/\∀x,Ob h T x->Ob (CZ h a i v).1 T x:=by obtain⟨j,b,c⟩:=e;have f:=g.fields b c;obtain⟨s1,s2,s3⟩:=Z1d l k (a:=a) (i:=i) (by rw[f.1]) hi;rw[f.1]at hi d;have q:=g.store (v:=v) ⟨j,b,c⟩ hi d;rw[s1];refine⟨q.1, ?_⟩;rintro x ⟨m,m1,m2⟩;refine⟨m,m1, ?_⟩;have:=(E6 (q.2 m x m1)).2.2.1;simp only;rw[this];exact m2
def WG.link{w n}(h:WG w)(d:C2 w n)(f:n<=1000000) t:WG (w.link t):=by
 unfold Zj.link;split;rename_i e;obtain⟨T,g,a,b⟩:=h;have k:=d.wm f;have gg:=NG e.1;have l:=Gx (w.pickT (w.pickT t)) (n:=8) dd;have hi:0<=Hi w t/\Hi w t<(Zp w.heap (w.pick t)).1.length:=by(unfold Hi;rw[LU l.1];exact⟨LB _ oq,Lr _ oq⟩)
 have j:0<=Hu w t/\Hu w t<=18446744073709551615:=by(unfold Hu;split;exact Ax k _;have:=Gx ((w.pickT (w.pickT t)).step 8) (n:=1048576) dd;omega)
 have i:Ob w.heap T (w.pick t):=by(rcases WG.pick a b t with q|q;omega;exact q)
 have s:=g.setf d.W j i hi (λq=>by
  unfold Hu;rw[if_pos q];exact WG.pick a b _)
 exact⟨T,s.1,λr c=>(a r c).imp id (s.2 r),λr c=>(b r c).imp id (s.2 r)⟩;exact h
def WG.pinned{w}(h:WG w){i d}(r:Z8 (pinB w i d).heap=Y)(hi:i<w.heap.P.length)(hd:d=-1\/0<(w.heap.P.getD i X).N\/(w.heap.P.getD i X).K=2\/(crowd w.heap.P:Int)<w.heap.C.pg/4):WG (pinB w i d):=by
 obtain⟨T,g,l,m⟩:=h;have pp:=Ea g.p hi;have s:∀j,j<w.heap.P.length->((pinB w i d).heap.P.getD j X).K=(w.heap.P.getD j X).K/\((pinB w i d).heap.P.getD j X).S=(w.heap.P.getD j X).S/\((pinB w i d).heap.P.getD j X).U=(w.heap.P.getD j X).U:=by(intro j o;simp only[pinB];rw[Cn hi];split;rename_i q;subst q;exact⟨rfl,rfl,rfl⟩;exact⟨rfl,rfl,rfl⟩)
 have k:(crowd (pinB w i d).heap.P:Int)<=w.heap.C.pg/4:=by
  have c0:=g.cr;have a:(0<(w.heap.P.getD i X).N+d->(w.heap.P.getD i X).K=1->0<(w.heap.P.getD i X).N)->(crowd (pinB w i d).heap.P:Int)<=w.heap.C.pg/4:=by
   intro n;have:crowd (pinB w i d).heap.P<=crowd w.heap.P:=by(refine Tt (by simp[pinB]) λj o b f=>?_;simp only[pinB]at b f;rw[Cn hi]at b f;split at b;rename_i c;rw[if_pos c]at f;subst c;exact⟨b,n f b⟩;rename_i c;rw[if_neg c]at f;exact⟨b,f⟩)
   omega
  rcases hd with q|q|q|q;exact a oq;exact a oq;exact a oq;have:=(Z6h (p:=⟨(w.heap.P.getD i X).K,(w.heap.P.getD i X).S,(w.heap.P.getD i X).U,(w.heap.P.getD i X).N+d⟩) hi w.heap.P.length).1;have e:crowd (pinB w i d).heap.P=Bd (w.heap.P.set i ⟨(w.heap.P.getD i X).K,(w.heap.P.getD i X).S,(w.heap.P.getD i X).U,(w.heap.P.getD i X).N+d⟩) w.heap.P.length:=by(simp only[crowd,pinB,Lt])
  have e2:crowd w.heap.P=Bd w.heap.P w.heap.P.length:=rfl;omega
 exact⟨T,g.P r rfl rfl rfl (by simp[pinB]) s k,l,m⟩
def WG.pok{w}(h:WG w):POk w:=by
 obtain⟨T,g,b,c⟩:=h;have k:∀l,GN w.heap T l->∀r∈l,RH w.heap r:=λl d r e=>by(rcases d r e with rfl|⟨j,a,_⟩;exact Z9q _;intro _;rw[g.ofx a];simpa using (g.on a).2.1)
 exact⟨g.p,k _ b,k _ c⟩
def WG.pin{w n}(h:WG w)(b:C2 w n)(d:n<=1000000) t:WG (w.pin t):=by
 have a:=(h.pok.pin b d t).p;unfold Zj.pin at a⊢;split;rename_i e;rw[if_pos e]at a;have o:=GM b.hv e;have f:=b.pl;have hi:I7 w t<w.heap.P.length:=by unfold I7;omega
 split;rename_i c;rw[if_pos c]at a;exact h.pinned a hi (Z rfl);rename_i c;rw[if_neg c]at a;split;rename_i c2;rw[if_pos c2]at a;exact h.pinned a hi (M c2);exact h;exact h
def WG.drop{w}(h:WG w) t:WG (w.drop t):=by unfold Zj.drop;split;rename_i hl;obtain⟨T,g,b,c⟩:=h;have n1:=Gx t (n:=(w.G.length:Int)) oq;refine⟨T,g,λr a=>?_,λr a=>?_⟩;rcases Lg.1 a with a|a;exact b r (List.mem_of_mem_take a);exact b r (List.mem_of_mem_drop a);simp only at a;split at a;rcases Lg.1 a with a|a;exact c r a;simp only[Lj]at a;subst a;refine b _ (Bs.2 ⟨_, ?_,rfl⟩);unfold OT;omega;exact c r a;exact h
def WG.dup{w}(h:WG w) t:WG (w.dup t):=by obtain⟨T,g,b,c⟩:=h;refine⟨T,g,λr a=>?_,c⟩;rcases Lg.1 a with a|a;exact b r a;simp only[Lj]at a;subst a;exact WG.pick b c _
def Z3s(t:Tape):WG t.empty:=by
 have e:=(Zdw t).p;have h:=O9 t;have hb:=BD.1 h;have d:∀j,(t.empty.heap.P.getD j X).K=0/\(t.empty.heap.P.getD j X).N=0:=by(intro j;simp only[Tape.empty,Il,O,LF];split;exact⟨rfl,rfl⟩;exact⟨rfl,rfl⟩)
 refine⟨λ_=>[],⟨e, ?_, ?_, ?_,by simp, ?_,by simp, ?_⟩,by simp[GN,Tape.empty],by simp[GN,Tape.empty]⟩;intro i _ b;exact absurd (d i).1 b;intro i _ b;rw[(d i).1]at b;omega;intro i _ b;rw[(d i).1]at b;omega;intro a g;exfalso;apply g;show(Z1 (Ll (t.C.pw*t.C.pg).toNat 0) a).1=0;unfold Z1;by_cases c:4096<=a/\a<4096+((Ll (t.C.pw*t.C.pg).toNat (0:Int)).length:Int);rw[if_pos c];simp only[O,LF];split<;>rfl;rw[if_neg c];have:crowd t.empty.heap.P=0:=by
  have f:∀n,Bd t.empty.heap.P n=0:=by
   intro n;induction n with|zero=>rfl|succ n k =>unfold Bd;rw[k,if_neg (by rw[(d n).1];omega)]
  exact f _
 rw[this];show(0:Int)<=t.C.pg/4;omega
def Dm{w}{n:Int}(hw:B7 w)(hn:1<=n/\n<=w.heap.C.pw)(h:(w.place n).2.2=Y) :∃(i:Nat) (p:Z0) (t:List Int),i<w.heap.P.length/\((w.heap.P.getD i X).K=0/\t=w.T++[(i:Int)]/\p.N=0\/(i:Int)∈w.T/\(w.heap.P.getD i X).K=1/\t=w.T/\p.N=(w.heap.P.getD i X).N)/\p.K=1/\p.U=BY (w.heap.P.getD i X)+n/\BY (w.heap.P.getD i X)+n<=w.heap.C.pw/\0<=BY (w.heap.P.getD i X)/\(w.place n).2.1=4096+i*w.heap.C.pw+BY (w.heap.P.getD i X) /\
  (w.place n).1=⟨⟨w.heap.C,w.heap.W,w.heap.P.set i p,w.heap.S,w.heap.B⟩,w.old,t,w.Q,w.D,w.rep⟩:=by
 by_cases hf:E8 w n;have e:w.place n=(⟨⟨w.heap.C,w.heap.W,Cs w.heap.P (ZG w).toNat n,w.heap.S,w.heap.B⟩,w.old,w.T,w.Q,w.D,w.rep⟩,4096+ZG w*w.heap.C.pw+(w.heap.P.getD (ZG w).toNat X).U,Y):=by rw[Z6.place,if_pos hf]
 unfold E8 at hf;have hm:=hw.tk _ (GJ hf.1);have hu:=hw.us (ZG w).toNat oq;have hoc:BY (w.heap.P.getD (ZG w).toNat X)=(w.heap.P.getD (ZG w).toNat X).U:=by rw[BY,if_neg oq]
 have hle:(((ZG w).toNat:Nat):Int)=ZG w:=by omega
 refine⟨(ZG w).toNat,⟨(w.heap.P.getD (ZG w).toNat X).K,(w.heap.P.getD (ZG w).toNat X).S,(w.heap.P.getD (ZG w).toNat X).U+n,(w.heap.P.getD (ZG w).toNat X).N⟩,w.T,by omega,M ⟨by rw[hle];exact GJ hf.1,hm.2.2,rfl,rfl⟩,hm.2.2, ?_,by rw[hoc];omega,by rw[hoc];omega, ?_, ?_⟩;rw[hoc];rw[e,hoc,hle];rw[e,RU];by_cases hg:0<=ZN w;have e:w.place n=(⟨⟨w.heap.C,w.heap.W,Cs (ER w) (ZN w).toNat n,w.heap.S,w.heap.B⟩,w.old,w.T++[ZN w],w.Q,w.D,w.rep⟩,4096+ZN w*w.heap.C.pw,Y):=by rw[Z6.place,if_neg hf,if_pos hg]
 obtain⟨g1,g2,g3⟩:=A5 (h:=⟨w.heap.C,w.heap.W,w.heap.P,1-w.heap.S,w.heap.B⟩) (by have:=hw.sp;simp only;omega) hg n;have g1':Cs (ER w) (ZN w).toNat n=w.heap.P.set (ZN w).toNat ⟨1,1-w.heap.S,n,0⟩:=g1;have g2':(w.heap.P.getD (ZN w).toNat X).K=0:=g2;have g3':(ZN w).toNat<w.heap.P.length:=g3;have hoc:BY (w.heap.P.getD (ZN w).toNat X)=0:=by rw[BY,if_pos g2']
 have hle:(((ZN w).toNat:Nat):Int)=ZN w:=by omega
 refine⟨(ZN w).toNat,⟨1,1-w.heap.S,n,0⟩,w.T++[ZN w],g3',Z ⟨g2',by rw[hle],rfl⟩,rfl,by rw[hoc];simp,by rw[hoc];omega,by rw[hoc];omega, ?_, ?_⟩;rw[e,hoc,hle];simp;rw[e,g1'];rw[Z6.place,if_neg hf,if_neg hg]at h;simp at h
structure KI (h:Heap) (T tq:Nat->List Int) (w:Z6):Prop where
 c:w.heap.C=h.C
 sp:w.heap.S=h.S
 old:∀x,x∈w.old↔Ob h T x
 pl:w.heap.P.length=h.P.length
 wl:w.heap.W.length=h.W.length
 pg:∀i:Nat,(i:Int)∉w.T->(w.heap.P.getD i X).K=(h.P.getD i X).K/\(w.heap.P.getD i X).U=(h.P.getD i X).U/\(w.heap.P.getD i X).N=(h.P.getD i X).N
 tk:∀i:Nat,(i:Int)∈w.T->i<h.P.length/\(h.P.getD i X).K=0/\(w.heap.P.getD i X).K=1/\(w.heap.P.getD i X).N=0/\(w.heap.P.getD i X).U<=h.C.pw/\EA w.heap.W (Zz h i) (Zz h i+(w.heap.P.getD i X).U) (tq i)/\∀x∈tq i,x∈w.Q/\Cr w.heap.W x≠0/\Zl w.heap.W x+1<=Zb h.C
 tk0:∀i:Nat,(i:Int)∉w.T->tq i=[]
 q:∀x∈w.Q,(∃i:Nat,(i:Int)∉w.T/\x∈T i/\Cr h.W x≠0/\(w.heap.P.getD i X).S≠w.heap.S)\/(∃i:Nat,(i:Int)∈w.T/\x∈tq i)
 hd:∀i x,x∈T i->(Z1 w.heap.W x).1=(Z1 h.W x).1\/((ZE (Z1 w.heap.W x).1).2=Y/\(w.heap.P.getD i X).K=1/\(w.heap.P.getD i X).S=w.heap.S)
 dt:∀a,(Z1 w.heap.W a).1≠0->(∃i x,x∈T i/\x<=a/\a<x+EJ h.W x)\/(∃i:Nat,(i:Int)∈w.T/\Zz h i<=a/\a<Zz h i+(w.heap.P.getD i X).U)
 lg:∀i:Nat,(h.P.getD i X).K=2->(w.heap.P.getD i X).S≠w.heap.S->Zz h i∈w.Q
section
variable {h:Heap} {T:Nat->List Int} (g:Gd h T)
include g
theorem KI.nt{b w}(k:KI h T b w){i}{x:Int}(a:x∈T i):(i:Int)∉w.T:=by intro q;have:=(k.tk i q).2.1;have:=(g.t0 i x a).2;omega
theorem KI.sepT{a w}(k:KI h T a w){i j:Nat}{x y:Int}(hi:(i:Int)∈w.T)(b:x∈a i)(c:y∈T j):Zz h i<=x/\x+Zl w.heap.W x<Zz h i+h.C.pw/\(y+Zl h.W y<Zz h i\/Zz h i+h.C.pw<=y):=by have t:=k.tk i hi;have m:=GV t.2.2.2.2.2.1 b;have f:=g.free t.1 (Z t.2.1) c;rw[BY,if_pos t.2.1]at f;exact⟨m.2.1,by omega,by omega⟩
omit g in
theorem KI.sepQ(g:Gd h T){b w}(k:KI h T b w){i j:Nat}{x y:Int}(hi:(i:Int)∈w.T)(c:x∈b i)(e:(j:Int)∈w.T)(d:y∈b j)(a:x<y):x+Zl w.heap.W x<y:=by have t:=k.tk i hi;have u:=k.tk j e;have m:=GV t.2.2.2.2.2.1 c;have n:=GV u.2.2.2.2.2.1 d;have po:=B1 g.p;have r:=Bm w.heap.W y;unfold Zz at m n;rcases LO i j with q|q|q;have:=EF (i:=i) (j:=j) (pw:=h.C.pw) oq oq;omega;subst q;exact Z3h t.2.2.2.2.2.1 c d a;have:=EF (i:=j) (j:=i) (pw:=h.C.pw) oq oq;omega
theorem KI.withWords{d w}(k:KI h T d w){l:List Int}(hl:l.length=w.heap.W.length)(f:∀i x,x∈T i->(Z1 l x).1=(Z1 w.heap.W x).1)(j:∀(i:Nat) x,(i:Int)∈w.T->x∈d i->(Z1 l x).1=(Z1 w.heap.W x).1)(m:∀a,(Z1 l a).1≠0->(Z1 w.heap.W a).1≠0\/(∃i x,x∈T i/\x<=a/\a<x+EJ h.W x)\/(∃i:Nat,(i:Int)∈w.T/\Zz h i<=a/\a<Zz h i+(w.heap.P.getD i X).U)) :KI h T d ⟨⟨w.heap.C,l,w.heap.P,w.heap.S,w.heap.B⟩,w.old,w.T,w.Q,w.D,w.rep⟩:=by refine⟨k.c,k.sp,k.old,k.pl,hl.trans k.wl,k.pg, ?_,k.tk0,k.q, ?_, ?_,k.lg⟩;intro i hi;obtain⟨t1,t2,o,p,r,e,s⟩:=k.tk i hi;have c:=λx b=>E6 (j i x hi b);refine⟨t1,t2,o,p,r,NJ e λx b=>⟨(c x b).1 (GV e b).1,(c x b).2.1⟩,λx b=>?_⟩;have:=s x b;simp only;rw[(c x b).2.2.1,(c x b).2.1];exact this;intro i x b;simp only;rw[f i x b];exact k.hd i x b;intro a n;rcases m a n with q|q;exact k.dt a q;exact q
theorem KI.keep{c w}(k:KI h T c w){r:Int}{i}(hi:r∈T i)(l:Cr h.W r≠0)(hs:(w.heap.P.getD i X).S≠w.heap.S):KI h T c (w.keep r):=by refine⟨k.c,k.sp,k.old,k.pl,k.wl,k.pg, ?_,k.tk0, ?_,k.hd,k.dt, ?_⟩;intro j f;obtain⟨t1,t2,m,n,o,p,b⟩:=k.tk j f;exact⟨t1,t2,m,n,o,p,λx a=>⟨La _ (b x a).1,(b x a).2⟩⟩;intro x a;simp only[Z6.keep,Lg,Lj]at a;rcases a with a|rfl;exact k.q x a;exact Z ⟨i,k.nt g hi,hi,l,hs⟩;intro j d e;exact La _ (k.lg j d e)
theorem KI.flip{tq w}(k:KI h T tq w)(hw:B7 w){r:Int}{i}(hi:r∈T i)(hk:Cr h.W r≠0)(h2:(w.heap.P.getD i X).K=2):KI h T tq ((w.flip i).keep r):=by
 have hil:=(g.t0 i r hi).1;have hpl:=k.pl;have hsp:=hw.sp;have hu:∀j,((ZF w.heap.P i (ZB w.heap.P i) (1-w.heap.S)).getD j X).K=(w.heap.P.getD j X).K/\((ZF w.heap.P i (ZB w.heap.P i) (1-w.heap.S)).getD j X).U=(w.heap.P.getD j X).U/\((ZF w.heap.P i (ZB w.heap.P i) (1-w.heap.S)).getD j X).N=(w.heap.P.getD j X).N:=by(intro j;by_cases hj:j<w.heap.P.length;rw[Hb hj];split;exact⟨rfl,rfl,rfl⟩;exact⟨rfl,rfl,rfl⟩;rw[O,O,Lk (by rw[H1];omega),Lk oq];exact⟨rfl,rfl,rfl⟩)
 have hs1:∀j,(w.heap.P.getD j X).K=1->((ZF w.heap.P i (ZB w.heap.P i) (1-w.heap.S)).getD j X).S=(w.heap.P.getD j X).S:=by(intro j hj;by_cases hjl:j<w.heap.P.length;rw[Hb hjl];split;rename_i c;exfalso;by_cases q:j=i;subst q;omega;have:=(RD (l:=w.heap.P) (i:=i) (m:=j-i-1) oq).2;rw[show i+1+(j-i-1)=j by omega]at this;omega;rfl;rw[O,O,Lk (by rw[H1];omega),Lk oq])
 have hs2:∀j,(w.heap.P.getD j X).S≠w.heap.S->((ZF w.heap.P i (ZB w.heap.P i) (1-w.heap.S)).getD j X).S≠w.heap.S:=by(intro j hj;by_cases hjl:j<w.heap.P.length;rw[Hb hjl];split;simp only[N8];omega;exact hj;rw[O,Lk (by rw[H1];omega)];rw[O,Lk oq]at hj;exact hj)
 have hs3:∀j,(w.heap.P.getD j X).K=2->j≠i->((ZF w.heap.P i (ZB w.heap.P i) (1-w.heap.S)).getD j X).S=(w.heap.P.getD j X).S:=by(intro j hj hne;by_cases hjl:j<w.heap.P.length;rw[Hb hjl];split;rename_i c;exfalso;have:=(RD (l:=w.heap.P) (i:=i) (m:=j-i-1) oq).2;rw[show i+1+(j-i-1)=j by omega]at this;omega;rfl;rw[O,Lk oq]at hj;have d:(X:Z0).K=0:=rfl;simp only[Xd]at hj;omega)
 have hsi:((ZF w.heap.P i (ZB w.heap.P i) (1-w.heap.S)).getD i X).S≠w.heap.S:=by(rw[Hb oq,if_pos ⟨Lh _,Nat.le_add_right _ _⟩];simp only[N8];omega)
 have kf:KI h T tq ⟨⟨w.heap.C,w.heap.W,ZF w.heap.P i (ZB w.heap.P i) (1-w.heap.S),w.heap.S,w.heap.B⟩,w.old,w.T,w.Q++[r],w.D,w.rep⟩:=by
  refine⟨k.c,k.sp,k.old,by simp only[H1];exact k.pl,k.wl, ?_, ?_,k.tk0, ?_, ?_, ?_, ?_⟩;intro j hj;simp only[hu];exact k.pg j hj;intro j hj;simp only[hu];obtain⟨t1,t2,t3,t4,t5,t6,t7⟩:=k.tk j hj;exact⟨t1,t2,t3,t4,t5,t6,λx hx=>⟨La _ (t7 x hx).1,(t7 x hx).2⟩⟩;intro x hx;simp only[Lg,Lj]at hx;rcases hx with hx|rfl;rcases k.q x hx with⟨j,j1,j2,j3,j4⟩|q;exact Z ⟨j,j1,j2,j3,hs2 j j4⟩;exact M q;exact Z ⟨i,k.nt g hi,hi,hk,hsi⟩;intro j x hx;rcases k.hd j x hx with q|q;exact Z q;refine M ⟨q.1, ?_, ?_⟩;simp only[hu];exact q.2.1;simp only;rw[hs1 j q.2.1];exact q.2.2;intro a ha;simp only[hu];exact k.dt a ha;intro j h1 h2';simp only at h2'⊢;by_cases q:j=i;subst q;have:=(g.on hi).2.2.2.2.2.2 h1;rw[<-this.1];simp;have hjt:(j:Int)∉w.T:=λq=>by have:=(k.tk j q).2.1;omega
  rw[hs3 j (by rw[(k.pg j hjt).1];exact h1) q]at h2';exact La _ (k.lg j h1 h2')
 exact⟨kf.c,kf.sp,kf.old,kf.pl,kf.wl,kf.pg,kf.tk,kf.tk0,kf.q,kf.hd,kf.dt,kf.lg⟩
end
section
variable {h:Heap} {T:Nat->List Int} (g:Gd h T)
include g
theorem KI.copy{tq w}(k:KI h T tq w)(hw:B7 w){r n:Int}{i0}(hr:r∈T i0)(hkd:Cr h.W r≠0)(h1:(h.P.getD i0 X).K=1)(hs:(w.heap.P.getD i0 X).S=w.heap.S)(he:(Z1 w.heap.W r).1=(Z1 h.W r).1)(hn:n=Zl w.heap.W r+1)(hp:n<=w.heap.C.pw)(hc:(w.place n).2.2=Y):∃tq',KI h T tq' ((w.place n).1.copy r (w.place n).2.1 n):=by
 have hlr:=Bm w.heap.W r;have ey:=E6 he;obtain⟨i,p,t,p1,p2,p3,p4,p5,p6,p7,e⟩:=Dm hw ⟨by omega,hp⟩ hc;have hcc:=k.c;have hpl:=k.pl;have hwl:=k.wl;have po:=B1 g.p;have hin:=g.inw hr;have hki:(h.P.getD i X).K=0:=by(rcases p2 with q|q;by_cases c:(i:Int)∈w.T;exact(k.tk i c).2.1;rw[<-(k.pg i c).1];exact q.1;exact(k.tk i q.1).2.1)
 have hio:=EF (i:=i) (j:=h.C.pg) (pw:=h.C.pw) oq oq;rw[Lm h.C.pg]at hio;have hi0:0<=(i:Int)*h.C.pw:=Li oq oq;rw[hcc]at p5 p7 hp;have hbp:4096+(i:Int)*h.C.pw=Zz h i:=rfl;rw[e,p7,hbp];generalize hu:BY (w.heap.P.getD i X)=u at *;generalize ha:Zz h i+u=a;have hbl:4096<=a/\a+n<=4096+w.heap.W.length:=by omega
 have far:∀j x,x∈T j->x+Zl h.W x<Zz h i\/Zz h i+h.C.pw<=x:=by(intro j x hx;have:=g.free (show i<h.P.length by omega) (Z hki) hx;rw[BY,if_pos hki]at this;omega)
 have farr:=far i0 r hr;obtain⟨m1,m2,m3⟩:=RP (ws:=w.heap.W) (a:=a) (b:=r) (n:=n) oq oq oq;have hsr:4096<=r/\r<4096+(moveA w.heap.W a r n).1.length:=by omega
 have w1:∀x,x≠r->(x<a\/a+n<=x)->Z1 (BQ (moveA w.heap.W a r n).1 r (4*a+2)).1 x=Z1 w.heap.W x:=λx q1 q2=>by rw[Gg hsr q1,m3 x q2]
 have w2:(Z1 (BQ (moveA w.heap.W a r n).1 r (4*a+2)).1 r).1=4*a+2:=by rw[RV hsr]
 have w3:(Z1 (BQ (moveA w.heap.W a r n).1 r (4*a+2)).1 a).1=(Z1 w.heap.W r).1:=by rw[Gg hsr oq,m2]
 have hlen:(BQ (moveA w.heap.W a r n).1 r (4*a+2)).1.length=w.heap.W.length:=by rw[Ap hsr,m1]
 have hit:(i:Int)∈t:=by rcases p2 with q|q;(rw[q.2.1];simp);(rw[q.2.2.1];exact q.1)
 have htt:∀x,x∈t↔x∈w.T\/x=(i:Int):=by(intro x;rcases p2 with q|q;rw[q.2.1];simp;rw[q.2.2.1];exact⟨Z,λc=>c.elim id λc=>c▸q.1⟩)
 have w4:∀(j:Nat) x,(j:Int)∈w.T->x∈tq j->x≠r/\(x<a\/a+n<=x)/\(j=i->x+Zl w.heap.W x<a):=by
  intro j x hj hx;have s:=k.sepT g hj hx hr;have rx:=Bm w.heap.W x;have t:=k.tk j hj;have m:=GV t.2.2.2.2.2.1 hx;refine⟨by omega, ?_⟩;rcases LO j i with q|q|q;have:=EF (i:=j) (j:=i) (pw:=h.C.pw) oq oq;unfold Zz at s;rw[<-hbp]at ha;exact⟨Z oq,λq2=>by omega⟩;subst q;have:u=(w.heap.P.getD j X).U:=by rw[<-hu,BY,if_neg oq]
  exact⟨Z oq,λ_=>by omega⟩;have:=EF (i:=i) (j:=j) (pw:=h.C.pw) oq oq;unfold Zz at s;rw[<-hbp]at ha;exact⟨M oq,λq2=>by omega⟩
 have kq:∀(j:Nat) x,(j:Int)∈w.T->x∈tq j->(Z1 (BQ (moveA w.heap.W a r n).1 r (4*a+2)).1 x).1=(Z1 w.heap.W x).1:=λj x hj hx=>by(have:=w4 j x hj hx;rw[w1 x this.1 this.2.1])
 refine⟨λj=>if j=i then tq i++[a]else tq j,k.c,k.sp,k.old, ?_, ?_, ?_, ?_, ?_, ?_, ?_, ?_, ?_⟩;simp only[Z6.copy,Lt];exact k.pl;simp only[Z6.copy,hlen];exact k.wl;intro j hj;simp only[Z6.copy]at hj⊢;have hj':=λq=>hj ((htt _).2 (Z q));have hne:¬ i=j:=λq=>hj (q▸hit);rw[Cn p1,if_neg hne];exact k.pg j hj';intro j hj;simp only[Z6.copy]at hj⊢;rw[Cn p1];by_cases q:i=j;subst q;rw[if_pos rfl];simp only[if_true];have ka:=E6 (ws:=w.heap.W) (ws':=(BQ (moveA w.heap.W a r n).1 r (4*a+2)).1) (a:=a);have ke:Bg (BQ (moveA w.heap.W a r n).1 r (4*a+2)).1 a=Bg h.W r:=by rw[Bg,Bg,w3,he]
 have kl:Zl (BQ (moveA w.heap.W a r n).1 r (4*a+2)).1 a=n-1:=by
  have:Zl (BQ (moveA w.heap.W a r n).1 r (4*a+2)).1 a=Zl w.heap.W r:=by rw[Zl,Zl,w3]
  omega
 have kk:ET (BQ (moveA w.heap.W a r n).1 r (4*a+2)).1 a:=by(have:=(g.on hr).2.2.2.2.2.1;rw[ET]at this⊢;rw[w3,he];exact this)
 refine⟨by omega,hki,p3, ?_,by omega, ?_, ?_⟩;rcases p2 with q|q;exact q.2.2;rw[q.2.2.2];exact(k.tk i q.1).2.2.2.1;refine Z1B (b:=a) ?_ ⟨rfl,kk,by rw[kl];simp only[EA];omega⟩;by_cases c:(i:Int)∈w.T;have t:=k.tk i c;have hue:u=(w.heap.P.getD i X).U:=by rw[<-hu,BY,if_neg oq]
 have t6:=t.2.2.2.2.2.1;rw[<-hue,ha]at t6;exact NJ t6 λx hx=>⟨(E6 (kq i x c hx)).1 (GV t6 hx).1,(E6 (kq i x c hx)).2.1⟩;rw[k.tk0 i c];have hue:u=0:=by(rcases p2 with q|q;rw[<-hu,BY,if_pos q.1];exact absurd q.1 c)
 simp only[EA];omega;intro x hx;rcases Lg.1 hx with hx|hx;by_cases c:(i:Int)∈w.T;have t:=(k.tk i c).2.2.2.2.2.2 x hx;have o:=E6 (kq i x c hx);rw[o.2.2.1,o.2.1];exact⟨La _ t.1,t.2⟩;rw[k.tk0 i c]at hx;simp at hx;have:=Lj.1 hx;subst this;refine⟨by simp,by rw[Cr,ke];exact hkd, ?_⟩;have:=(g.t1 i0 (g.t0 i0 r hr).1 h1).2 r hr;rw[kl];have:=ey.2.1;omega;rw[if_neg q];have hj':(j:Int)∈w.T:=by(rcases(htt _).1 hj with c|c;exact c;omega)
 obtain⟨t1,t2,t3,t4,t5,t6,t7⟩:=k.tk j hj';simp only[show¬ j=i fromλc=>q c.symm,if_false];refine⟨t1,t2,t3,t4,t5,NJ t6 λx hx=>⟨(E6 (kq j x hj' hx)).1 (GV t6 hx).1,(E6 (kq j x hj' hx)).2.1⟩,λx hx=>?_⟩;have o:=E6 (kq j x hj' hx);rw[o.2.2.1,o.2.1];exact⟨La _ (t7 x hx).1,(t7 x hx).2⟩;intro j hj;simp only[Z6.copy]at hj;have hne:¬ j=i:=λq=>hj (q▸hit);simp only[hne,if_false];exact k.tk0 j λq=>hj ((htt _).2 (Z q));intro x hx;simp only[Z6.copy,Lg,Lj]at hx⊢;rcases hx with hx|rfl;rcases k.q x hx with⟨j,j1,j2,j3,j4⟩|⟨j,j1,j2⟩;have hne:¬ i=j:=by(rintro rfl;have:=(g.t0 i x j2).2;omega)
 refine Z ⟨j,λc=>?_,j2,j3,by rw[Cn p1,if_neg hne];exact j4⟩;rcases(htt _).1 c with c|c;exact j1 c;omega;refine M ⟨j,(htt _).2 (Z j1), ?_⟩;split;rename_i q;subst q;exact La _ j2;exact j2;exact M ⟨i,hit,by simp⟩;intro j x hx;simp only[Z6.copy];have hne:¬ i=j:=by(rintro rfl;have:=(g.t0 i x hx).2;omega)
 rw[Cn p1,if_neg hne];by_cases q:x=r;subst q;refine M ⟨by rw[w2,P5 oq oq], ?_, ?_⟩;have e1:=g.ofx hx;have e2:=g.ofx hr;rw[e1]at e2;have:j=i0:=by simp only[Prod.mk.injEq]at e2;omega
 subst this;rw[(k.pg j (k.nt g hx)).1];exact h1;have e1:=g.ofx hx;have e2:=g.ofx hr;rw[e1]at e2;have:j=i0:=by simp only[Prod.mk.injEq]at e2;omega
 subst this;exact hs;have f:=far j x hx;have rx:=Bm h.W x;rw[w1 x q oq];exact k.hd j x hx;intro b hb;simp only[Z6.copy]at hb⊢;by_cases q:a<=b/\b<a+n;exact M ⟨i,hit,by omega,by rw[Cn p1,if_pos rfl];omega⟩;by_cases q2:b=r;refine Z ⟨i0,r,hr,by omega, ?_⟩;rw[EJ,if_neg hkd];have:=Bm h.W r;omega;rw[w1 b q2 oq]at hb;rcases k.dt b hb with c|⟨j,j1,j2,j3⟩;exact Z c;refine M ⟨j,(htt _).2 (Z j1),j2, ?_⟩;rw[Cn p1];split;rename_i c;subst c;have:=(k.tk i j1).2.2.1;have:u=(w.heap.P.getD i X).U:=by rw[<-hu,BY,if_neg oq]
 omega;exact j3;intro j h2 hsj;simp only[Z6.copy]at hsj⊢;have hne:¬ i=j:=by rintro rfl;omega
 rw[Cn p1,if_neg hne]at hsj;exact La _ (k.lg j h2 hsj)
theorem KI.fwd{n w}(k:KI h T n w)(t:B7 w)(hi:Bt w) r(e:(w.fwd r).2.2=0):∃p,KI h T p (w.fwd r).1:=by
 unfold Z6.fwd at e⊢;split at e;rename_i c1;rw[if_pos c1];exact⟨n,k⟩;rename_i c1;rw[if_neg c1];split at e;simp at e;rename_i c2;rw[if_neg c2];have l:r∈w.old:=LK.1 c2;obtain⟨a,d,i⟩:=(k.old r).1 l;have b:Z2 w.heap.C r=((a:Int),r-Zz h a,0):=by rw[k.c];exact g.ofx d
 have u:=k.nt g d;have a1:=k.pg a u;have x:=(g.t0 a r d).1;have y:=(g.t0 a r d).2;have a0:=k.pl;split at e;rename_i c3;rw[if_pos c3];exact⟨n,k⟩;rename_i c3;rw[if_neg c3];split at e;simp at e;rename_i c4;rw[if_neg c4];split at e;rename_i c;rw[if_pos c];simp only[ZH,decide_eq_true_eq]at c;rw[b]at c;simp only[Ld]at c;exact⟨n,k.keep g d i c.2.2.2.1⟩;rename_i c;rw[if_neg c];have m:Cx w r=a:=by rw[Cx,b];simp
 split at e;rename_i f;rw[if_pos f];rw[m]at f⊢;exact⟨n,k.flip g t d i f⟩;rename_i f;rw[if_neg f];split at e;simp at e;rename_i s;rw[if_neg s];have o:(w.place (Z5 (Zu w r))).2.2=Y:=by simpa using s
 rw[m]at f;have k1:(h.P.getD a X).K=1:=by omega
 have hs:(w.heap.P.getD a X).S=w.heap.S:=by(by_cases q:(w.heap.P.getD a X).S=w.heap.S;exact q;exfalso;apply c;simp only[ZH,decide_eq_true_eq];rw[b];simp only[Ld];exact⟨by omega,by omega,by omega,q,u⟩)
 have v:(Z1 w.heap.W r).1=(Z1 h.W r).1:=by(rcases k.hd a r d with q|q;exact q;exact absurd q.1 c3)
 have j:=hi.z r l;have z:Z5 (Zu w r)<=w.heap.C.pw:=by(rw[Gz];rw[b]at j;simp only[Ld]at j;rcases j with j|j;exact absurd j f;exact j)
 exact k.copy g t d i k1 hs v (Gz w r) z o
theorem KI.field{tq w}(k:KI h T tq w){q j:Int}(hq:q∈w.Q)(hj:0<=j/\j<Zl w.heap.W q) :(∀i x,x∈T i->x≠q+1+j)/\(∀(i:Nat) x,(i:Int)∈w.T->x∈tq i->x≠q+1+j)/\((∃i x,x∈T i/\x<=q+1+j/\q+1+j<x+EJ h.W x)\/(∃i:Nat,(i:Int)∈w.T/\Zz h i<=q+1+j/\q+1+j<Zz h i+(w.heap.P.getD i X).U)):=by
 rcases k.q q hq with⟨i,i1,i2,i3,i4⟩|⟨i,i1,i2⟩;have he:(Z1 w.heap.W q).1=(Z1 h.W q).1:=by(rcases k.hd i q i2 with c|c;exact c;exact absurd c.2.2 i4)
 have o:=E6 he;rw[o.2.1]at hj;refine⟨λm x hx c=>?_,λm x hm hx c=>?_,Z ⟨i,q,i2,by omega,by rw[EJ,if_neg i3];omega⟩⟩;have:=g.sep i2 hx oq;omega;have:=k.sepT g hm hx i2;have:=Bm w.heap.W x;omega;have t:=k.tk i i1;have m:=GV t.2.2.2.2.2.1 i2;refine⟨λm x hx c=>?_,λm x hm hx c=>?_,M ⟨i,i1,by omega,by omega⟩⟩;have:=k.sepT g i1 i2 hx;have:=Bm h.W x;omega;have:=k.sepQ g i1 i2 hm hx oq;omega
theorem KI.in1{z w}(k:KI h T z w)(o:B7 w)(hi:Bt w){q j:Int}(n:q∈w.Q)(hj:0<=j/\j<Zl w.heap.W q)(e:(w.fwd (Z1 w.heap.W (q+1+j)).1).2.2=0):∃d,KI h T d (w.in1 (q+1+j)):=by
 obtain⟨d,p⟩:=k.fwd g o hi _ e;obtain⟨y,r⟩:=R2 o hi _ e;have f:=r.q q n;have u:=r.l q n;have hr:=y.r q (Ln _ f);have b:4096<=q+1+j/\q+1+j<4096+(w.fwd (Z1 w.heap.W (q+1+j)).1).1.heap.W.length:=by omega
 obtain⟨s,t,f3⟩:=p.field g f (j:=j) oq;refine⟨d,p.withWords g (Ap b) (λi x l=>?_) (λi x v l=>?_) (λa m=>?_)⟩;rw[Gg b (s i x l)];rw[Gg b (t i x v l)];by_cases c:a=q+1+j;subst c;exact M f3;rw[Gg b c]at m;exact Z m
theorem KI.begin:KI h T (λ_=>[]) (Zr h):=by
 have hq:∀j,((h.P.map (Zq (1-h.S))).getD j X).K=(h.P.getD j X).K/\((h.P.map (Zq (1-h.S))).getD j X).U=(h.P.getD j X).U/\((h.P.map (Zq (1-h.S))).getD j X).N=(h.P.getD j X).N/\((h.P.getD j X).K=2->((h.P.map (Zq (1-h.S))).getD j X).S=(h.P.getD j X).S):=by
  intro j;by_cases hj:j<h.P.length;have:(h.P.map (Zq (1-h.S))).getD j X=Zq (1-h.S) (h.P.getD j X):=by simp[O,hj]
  rw[this,Zq];split;rename_i c;exact⟨rfl,rfl,rfl,λq=>by omega⟩;exact⟨rfl,rfl,rfl,λ_=>rfl⟩;rw[O,O,Lk qo,Lk oq];exact⟨rfl,rfl,rfl,λ_=>rfl⟩
 refine⟨rfl,rfl,g.objs.2,by simp[Zr],rfl,λi _=>⟨(hq i).1,(hq i).2.1,(hq i).2.2.1⟩,by simp[Zr],λ_ _=>rfl,by simp[Zr],λ_ _ _=>Z rfl,λa ha=>Z (g.d a ha), ?_⟩;intro i h2 hs;exfalso;simp only[Zr]at hs;rw[(hq i).2.2.2 h2]at hs;by_cases hi:i<h.P.length;exact hs (g.sp i hi oq);rw[O,Lk oq]at h2;have d:(X:Z0).K=0:=rfl;simp only[Xd]at h2;omega
theorem Zdo{s}(a:Zx h.W)(e:(rootsF (Zr h) s).2.2=0)(c:(Bu (rootsF (Zr h) s).1).2=0):∃b,KI h T b (ZA h s):=
 AW (λw=>∃b,KI h T b w) (λw r a hi ⟨_,k⟩ e=>k.fwd g a hi r e) (λw q j a hi ⟨_,k⟩ hq d f e=>k.in1 g a hi hq ⟨d,f⟩ e) (λw n ⟨b,k⟩=>⟨b,k.c,k.sp,k.old,k.pl,k.wl,k.pg,k.tk,k.tk0,k.q,k.hd,k.dt,k.lg⟩) a g.p ⟨_,KI.begin g⟩ e c
end
def Z5Z{h:Heap}(a:Z8 h=Y){i:Nat}(hi:i<h.P.length){o:Int}(h0:0<=o)(hu:o<(h.P.getD i X).U)(hk:(h.P.getD i X).K=1\/(h.P.getD i X).K=2/\o=0)(e:(Z9 h (Bb h i o)).2=0):Bb h i o=Zz h i+o/\ET h.W (Zz h i+o)/\(Z9 h (Bb h i o)).1=Bg h.W (Zz h i+o)/\((h.P.getD i X).K=1->o+Zl h.W (Zz h i+o)+1<=(h.P.getD i X).U)/\((h.P.getD i X).K=2->Zl h.W (Zz h i+o)+1=(h.P.getD i X).U):=by
 have b:=B1 a;have pp:=Ea a hi;have ht:=BD.1 b.1;have ho:o<h.C.pw:=by omega
 have f:Bb h i o=Zz h i+o:=by(unfold Bb address;rw[if_pos b.1,if_pos (HU.2 ⟨by omega,by omega,by omega,by omega⟩)];unfold Zz;simp only;omega)
 rw[f]at e⊢;have d:=M8 (c:=h.C) (i:=i) (o:=o) b.1 oq oq;rw[show 4096+((i:Int)*h.C.pw+o)=Zz h i+o by unfold Zz;omega]at d;unfold Z9 at e⊢;rw[if_pos a,d]at e⊢;simp only[Ld,if_true]at e⊢;by_cases q:((h.P.getD i X).K=1\/(h.P.getD i X).K=2)/\o<(h.P.getD i X).U/\(Z7 (Z1 h.W (Zz h i+o)).1).2=Y;rw[if_pos q]at e⊢;have s:Z5 (Z7 (Z1 h.W (Zz h i+o)).1).1=Zl h.W (Zz h i+o)+1:=NC h.W _;split at e;simp at e;rename_i g;rw[if_neg g];refine⟨trivial,q.2.2,rfl, ?_, ?_⟩<;>omega;rw[if_neg q]at e;simp at e
def Z6D{h:Heap}(c:Z8 h=Y){i:Nat}(hi:i<h.P.length)(a:(h.P.getD i X).K=1):∀(f:Nat) (o:Int) (l:List Int),Er h i f o=some l->0<=o->o<=(h.P.getD i X).U->(h.P.getD i X).U-o<=f->EA h.W (Zz h i+o) (Zz h i+(h.P.getD i X).U) l
 |0,o,l,e,h0,h1,hf=>by
  cases e;simp only[EA];omega
 |f+1,o,l,e,h0,h1,hf=>by
  have b:pg h (i:Int)=h.P.getD i X:=by simp[pg]
  unfold Er at e;rw[b]at e;split at e
  .rename_i g;split at e
   .rename_i d;rw[if_neg oq]at e;obtain⟨t1,t2,k,m,_⟩:=Z5Z c hi h0 g (Z a) d;simp only[Option.map_eq_some_iff]at e;obtain⟨j,e,rfl⟩:=e;have r:=Bm h.W (Zz h i+o);rw[k,NC]at e;have:=Z6D c hi a f _ j e oq (by have:=m a;omega) oq;refine⟨t1,by rw[t1]at *;exact t2, ?_⟩;rw[show Zz h i+o+Zl h.W (Zz h i+o)+1=Zz h i+(o+(Zl h.W (Zz h i+o)+1)) by omega];exact this
   .cases e
  .cases e;simp only[EA];omega
def Zbz{h:Heap}(p:Bh h=⟨0,0,0⟩):Gd h (λi:Nat=>(Zd h (i:Int)).1):=by
 have s:Z8 h=Y:=by(by_cases q:Z8 h=Y;exact q;rw[Bh,if_neg q]at p;cases p)
 have po:=B1 s;have ht:=BD.1 po.1;rw[Bh,if_pos s]at p;have a4:∀i,i<h.P.length->(pageF h i).fault=0:=by
  intro i hi;cases hb:Gu h with|some j =>rw[hb]at p;simp only at p;have:=List.find?_some hb;rw[p]at this;simp at this|none =>have:=Le.1 hb i (Lb.2 hi);simpa using this
 have a0:Gu h=Lq:=by(unfold Gu;rw[Le];intro i hi;simp[a4 i (Lb.1 hi)])
 rw[a0]at p;simp only at p;have v:∀i,i<h.P.length->((h.P.getD i X).K≠0->(h.P.getD i X).S=h.S)/\(Zd h (i:Int)).2=0/\Cq h (i:Int) (Zd h (i:Int)).1=0/\Ei h i (CI h i)=0:=by(intro i hi;have q:=a4 i hi;unfold pageF at q;split at q;simp at q;rename_i c1;split at q;simp at q;rename_i c2;split at q;simp at q;rename_i c3;split at q;simp at q;rename_i c4;exact⟨λc=>by by_cases d:(h.P.getD i X).S=h.S;exact d;exact absurd ⟨c,d⟩ c1,by simpa using c2,by simpa using c3,by simpa using c4⟩)
 have hT:∀i,i<h.P.length->((h.P.getD i X).K=1->EA h.W (Zz h i) (Zz h i+(h.P.getD i X).U) (Zd h (i:Int)).1)/\((h.P.getD i X).K=2->(Zd h (i:Int)).1=[Zz h i]/\ET h.W (Zz h i)/\Zl h.W (Zz h i)+1=(h.P.getD i X).U):=by
  intro i hi;have q:=(v i hi).2.1;have pp:=Ea s hi;have e:pg h (i:Int)=h.P.getD i X:=by simp[pg]
  unfold Zd at q⊢;rw[if_pos s,if_pos oq,e]at q⊢;refine⟨λk=>?_,λk=>?_⟩;rw[if_neg oq]at q⊢;cases hw:Er h i 256 0 with|none=>rw[hw]at q;simp at q|some l =>have:=Z6D s hi k 256 0 l hw oq oq oq;rwa [LA]at this
  rw[if_neg oq]at q⊢;cases hw:Er h i 256 0 with
  |none=>rw[hw]at q;simp at q
  |some l =>
   have u:=s;rw[Gh]at u;have lg:=(u.2.2.2.2.2.lg i hi k).1;have hu:0<(h.P.getD i X).U:=by(unfold need at lg;split at lg;rename_i c;omega;omega)
   unfold Er at hw;rw[e,if_pos hu]at hw;split at hw;rename_i ha;obtain⟨t1,t2,t3,_,t5⟩:=Z5Z s hi (Ls 0) hu (M ⟨k,rfl⟩) ha;rw[LA]at t1 t2 t5;cases hw;exact⟨by rw[t1],t2,t5 k⟩;cases hw
 have a2:∀i x,x∈(Zd h ((i:Nat):Int)).1->i<h.P.length/\((h.P.getD i X).K=1\/(h.P.getD i X).K=2):=by
  intro i x f;have e:pg h (i:Int)=h.P.getD i X:=by simp[pg]
  unfold Zd at f;rw[if_pos s,e]at f;split at f;rename_i c;have pp:=Ea s (show i<h.P.length by omega);split at f;simp at f;exact⟨by omega,by omega⟩;simp at f
 have g:Gt h (λi:Nat=>(Zd h (i:Int)).1):=⟨s,λi hi=>(hT i hi).1,λi hi=>(hT i hi).2,a2⟩;have w:∀i x,x∈(Zd h ((i:Nat):Int)).1->Gp h i x=Lf:=by
  intro i x f;have c:=(v i (a2 i x f).1).2.2.1;unfold Cq at c;cases hb:(Zd h (i:Int)).1.find? (Gp h i)with|some y =>rw[hb]at c;simp only[LJ]at c;have hy:=List.mem_of_find?_eq_some hb;have o:=g.on (i:=i) hy;have:0<=(i:Int)*h.C.pw:=Li oq oq;unfold Zz at o;omega|none=>simpa using Le.1 hb x f
 refine⟨s,λi hi=>(v i hi).1,λi hi k=>⟨(hT i hi).1 k,λx f=>?_⟩,λi hi k=>?_,a2,λa ha=>?_,λi x k f hk h0 h1 a5=>?_, ?_⟩;have c:=w i x f;unfold Gp at c;rw[g.at' f,NC,Ld,k]at c;simp at c;omega;have t:=(hT i hi).2 k;refine⟨t.1,t.2.1,t.2.2, ?_⟩;have f:Zz h i∈(Zd h (i:Int)).1:=by rw[t.1];simp
 have c:=w i _ f;unfold Gp at c;rw[g.at' f,Ld,k]at c;simp at c;exact c;have a8:4096<=a/\a-4096<h.W.length:=by(by_cases q:4096<=a/\a-4096<h.W.length;exact q;unfold Z1 at ha;rw[if_neg oq]at ha;exact absurd rfl ha)
 have hL:=po.2;have q1:=LR (a:=a-4096) (b:=h.C.pw) oq oq;have q2:(a-4096)/h.C.pw<h.C.pg:=LQ oq (by rw[Lm];omega);have q3:=LB (a-4096) (b:=h.C.pw) oq;have q4:=Lr (a-4096) (b:=h.C.pw) oq;have q5:=LC (a-4096) h.C.pw;obtain⟨i,hi⟩:=LS q1;obtain⟨k,hk⟩:=LS q3;rw[hi,hk,Lm]at q5;rw[hi]at q2;rw[hk]at q4;have a6:i<h.P.length:=by omega
 have ea:a=Zz h i+k:=by unfold Zz;omega
 have hd:=(v i a6).2.2.2;unfold Ei at hd;cases hb:(Lc (CI h i).length).find? (Hx h i (CI h i))with
 |some m=>rw[hb]at hd;simp only at hd;have:0<=(i:Int)*h.C.pw:=Li oq oq;omega
 |none =>
  have:=Le.1 hb k (Lb.2 (by rw[Mu];omega));unfold Hx at this;have ew:Gr h i k=(Z1 h.W (Zz h i+k)).1:=by(unfold Gr address;rw[if_pos po.1,if_pos (HU.2 ⟨by omega,by omega,by omega,by omega⟩)];unfold Zz;simp only;rw[LL])
  rw[ea]at ha;rw[ew,decide_eq_true ha,Bool.and_true]at this;have hu:(CI h i).getD k X=Y:=by simpa using this
  unfold CI Cu at hu;have a7:k<h.C.pw.toNat:=by omega
  simp only[O,L5,L6 a7,Xe,LJ,L1]at hu;obtain⟨x,f,hc⟩:=hu;unfold DW at hc;rw[Lv,decide_eq_true_eq,decide_eq_true_eq]at hc;have ek:GB h x=EJ h.W x:=by(unfold GB EJ;rw[g.at' f,NC];rfl)
  rw[ek]at hc;refine⟨_,x,f, ?_, ?_⟩<;>(rw[ea];unfold Zz;omega)
 have a3:=(g.objs.2 x).2 ⟨i,f,hk⟩;have u:(ED h (Zg h).1).fault=0:=by(by_cases q:(ED h (Zg h).1).fault=0;exact q;rw[if_pos q]at p;rw[p]at q;exact absurd rfl q)
 obtain⟨m,hm,e⟩:=Bs.1 a3;unfold ED at u;cases hb:(Lc (Zg h).1.length).find? (λi=>(HB h (Zg h).1 i).isSome)with
 |some y=>rw[hb]at u;simp at u
 |none =>
  have:=Le.1 hb m (Lb.2 hm);unfold HB at this;rw[e]at this;have n:=g.on f;have r:=Bm h.W x;have pp:=Ea s n.1;have eg:Zp h x=(Bg h.W x,0):=by(unfold Zp;rw[if_pos s,if_neg (by have:0<=(i:Int)*h.C.pw:=Li oq oq;unfold Zz at n;omega),g.at' f,if_neg];rintro⟨_,q⟩;exact hk q)
  have ue:=Z0A s n.1 n.2.1;have a9:0<=(i:Int)*h.C.pw:=Li oq oq;have b0:4096<=x/\x+Zl h.W x<4096+h.W.length:=by unfold Zz at n;omega
  have ef:Ct h x=BX h.W (x+1) (Zl h.W x):=by(unfold Ct;rw[eg,if_pos rfl];rfl)
  have fl:((Ct h x).1.length:Int)=Zl h.W x:=by(rw[ef];unfold BX;rw[if_neg oq,if_pos oq];simp only[Xa,L8];omega)
  obtain⟨k',rfl⟩:=LS h0;have fk:(Ct h x).1.getD k' X=(Z1 h.W (x+1+k')).1:=by(rw[ef];exact Z6Y r.1 oq h1)
  have hn:(Lc (Ct h x).1.length).find? (II (Zp h x).1 (Ct h x).1 (Zg h).1)=Lq:=by simpa using this
  have:=Le.1 hn k' (Lb.2 oq);unfold II at this;rw[eg,fk]at this;have a1:Bo (Bg h.W x) (k':Int)=Y:=a5;simp only[a1,Bool.true_and,Lv,decide_eq_true_eq,LY,decide_eq_false_iff_not,not_and,LK]at this;by_cases z:(Z1 h.W (x+1+(k':Int))).1=0;exact Z z;exact M ((g.objs.2 _).1 (this z))
 by_cases q:(ED h (Zg h).1).fault=0;rw[if_neg (by rw[q];simp)]at p;split at p;cases p;rename_i c;show(Bd h.P h.P.length:Int)<=_;omega;rw[if_pos q]at p;rw[p]at q;exact absurd rfl q
def GX(l:List Z0):Prop:=∀p∈l,p.S=0\/p.S=1
def GX.at{l}(h:GX l){i:Nat}(hi:i<l.length):(l.getD i X).S=0\/(l.getD i X).S=1:=by rw[O,LW hi];exact h _ (List.getElem_mem hi)
def GX.set{l}(h:GX l)(i:Nat){p:Z0}(a:p.S=0\/p.S=1):GX (l.set i p):=λq b=>by
 rcases List.mem_or_eq_of_mem_set b with q1|q1
 .exact h q q1
 .rw[q1];exact a
def GX.fwd{w}(g:B7 w)(h:GX w.heap.P) r(e:(w.fwd r).2.2=0):GX (w.fwd r).1.heap.P:=by
 have sp:=g.sp;have pl:∀n,(w.place n).2.2=Y->GX (w.place n).1.heap.P:=λn d=>by(by_cases a:E8 w n;rw[Z6.place,if_pos a];unfold E8 at a;have hm:=g.tk _ (GJ a.1);show GX (Cs _ _ _);rw[RU];exact h.set _ (h.at oq);by_cases c:0<=ZN w;rw[Z6.place,if_neg a,if_pos c];obtain⟨i,_,_⟩:=A5 (h:=⟨w.heap.C,w.heap.W,w.heap.P,1-w.heap.S,w.heap.B⟩) (by simp only;omega) c n;have b:Cs (ER w) (ZN w).toNat n=w.heap.P.set (ZN w).toNat ⟨1,1-w.heap.S,n,0⟩:=i;show GX (Cs _ _ _);rw[b];exact h.set _ (by simp only;omega);rw[Z6.place,if_neg a,if_neg c]at d;cases d)
 unfold Z6.fwd at e⊢;repeat' split at e
 all_goals first|(simp at e;done)|skip
 all_goals (repeat' (first|rw[if_pos aa]|rw[if_neg aa]))
 all_goals first|exact h|skip
 intro p f;simp only[Z6.keep,Z6.flip,ZF,Xb,Lb]at f;obtain⟨j,k,rfl⟩:=f;split;simp only[N8];omega;exact h.at k;exact pl _ (by simp only[Bool.not_eq_false]at *;assumption)
def GX.begin{h:Heap}(b:Z8 h=Y):GX (Zr h).heap.P:=λp a=>by
 have po:=B1 b;simp only[Zr,Xb]at a;obtain⟨q,a,rfl⟩:=a;obtain⟨i,hi,rfl⟩:=LM a;have c:=Ea b hi;rw[O,LW hi,LJ]at c;unfold Zq;split
 .simp only;omega
 .omega
structure Ir (w:Z6):Prop where
 ok:B7 w
 so:GX w.heap.P
 L:(w.heap.W.length:Int)=w.heap.C.pw*w.heap.C.pg
structure FwOk (w:Z6) (r:Int):Prop where
 ck:Ir w
 rg:0<=r/\r<=18446744073709551615
 ol:r∈w.old->4096<=r/\r+Zl w.heap.W r<4096+w.heap.W.length/\(Z2 w.heap.C r).2.2=0/\(Z2 w.heap.C r).1.toNat<w.heap.P.length
 dc:r∈w.old->(ZE (Z1 w.heap.W r).1).2=Lf->(Z7 (Z1 w.heap.W r).1).2=Y
 sz:r∈w.old->(w.heap.P.getD (Z2 w.heap.C r).1.toNat X).K=2\/Zl w.heap.W r+1<=w.heap.C.pw
structure EZ (h:Heap) (T:Nat->List Int) (w:Z6):Prop where
 k:∃tq,KI h T tq w
 ok:B7 w
 inv:Bt w
 so:GX w.heap.P
def EZ.begin{h T}(g:Gd h T)(hw:Zx h.W):EZ h T (Zr h):=
 ⟨⟨_,KI.begin g⟩,NP hw g.p,Rc g.p,GX.begin g.p⟩
def EZ.fwd{h T w}(c:EZ h T w)(g:Gd h T){r}(e:(w.fwd r).2.2=0):EZ h T (w.fwd r).1:=by obtain⟨tq,k⟩:=c.k;exact⟨k.fwd g c.ok c.inv r e,(DJ c.ok r e).1,(R2 c.ok c.inv r e).1,c.so.fwd c.ok r e⟩
def EZ.ck{h T w}(c:EZ h T w):Ir w:=⟨c.ok,c.so,c.inv.L⟩
def EZ.fw{h T w}(c:EZ h T w)(g:Gd h T){r:Int}(f:0<=r/\r<=18446744073709551615):FwOk w r:=by obtain⟨tq,k⟩:=c.k;refine⟨c.ck,f,λa=>?_,λa b=>?_,λa=>c.inv.z r a⟩;obtain⟨i,hi,d⟩:=(k.old r).1 a;have q:=c.inv.r r (La _ a);have e:=g.ofx hi;rw[<-k.c]at e;rw[e];have:=(g.t0 i r hi).1;have:=k.pl;refine⟨q.1,q.2,rfl, ?_⟩;simp only[Ld];omega;obtain⟨i,hi,d⟩:=(k.old r).1 a;rcases k.hd i r hi with q|q;rw[q];exact(g.on hi).2.2.2.2.2.1;rw[q.1]at b;cases b
def B8(f:Z0->Int)(l:List Z0):Int:=(l.map f).sum
def BF(p:Z0):Int:=if p.K=0 then 0 else 1
def BZ(p:Z0):Int:=if p.K=1 then p.U else 0
def unP(p:Z0):Int:=if p.K=1/\¬ 0<p.N then p.U else 0
def EE(p:Z0):Int:=if p.K=2\/p.K=3 then 1 else 0
def D3 f(p:Z0):∀(l:List Z0) (i:Nat),i<l.length->B8 f (l.set i p)+f (l.getD i X)=B8 f l+f p
 |[],i,h=>by simp at h
 |x::l,0,_=>by grind[B8]
 |x::l,i+1,h=>by
  have:=D3 f p l i (by simpa using h);grind[B8]
def Sd(f:Z0->Int){l a:List Z0}(hl:a.length=l.length)(h:∀i,i<l.length->f (a.getD i X)=f (l.getD i X)):B8 f a=B8 f l:=by unfold B8;congr 1;refine L3 (by simpa using hl) λi h1 h2=>?_;grind
theorem EY f(l:List Z0):B8 f l=((Lc l.length).map λi=>f (l.getD i X)).sum:=by unfold B8;congr 1;refine L3 pq λi h1 h2=>?_;grind
def HZ{α:Type}{f g:α->Int}:∀{l:List α},(∀x∈l,f x<=g x)->(l.map f).sum<=(l.map g).sum
 |[],_=>by simp
 |x::l,h=>by
  have:=HZ (l:=l) λy a=>h y (Lu _ a);grind
def Z1Z{α:Type}{f g:α->Int}{n:Int}{r:α}:∀{l:List α},(∀x∈l,f x<=g x)->r∈l->f r+n<=g r->(l.map f).sum+n<=(l.map g).sum
 |[],_,hr,_=>by simp at hr
 |x::l,h,hr,hn=>by
  have h0:=h x pq;have a:∀y∈l,f y<=g y:=λy b=>h y (Lu _ b);simp only[LH,LI];rcases Ly.1 hr with rfl|hr
  .have:=HZ a;omega
  .have:=Z1Z a hr hn;omega
def Nh{α:Type}{f:α->Int}:∀{l:List α},(∀x∈l,0<=f x)->0<=(l.map f).sum
 |[],_=>by simp
 |x::l,h=>by
  have:=Nh (l:=l) λy a=>h y (Lu _ a);grind
def Z22{ws}:∀{l:List Int} {a b:Int},EA ws a b l->(l.map λx=>Zl ws x+1).sum=b-a
 |[],a,b,h=>by grind[EA]
 |x::l,a,b,h=>by
  have:=Z22 h.2.2;simp only[LH,LI,this,h.1];omega
def Z61(l:List Z0):∀i,i<=l.length->(∃j,j<i/\(l.getD j X).K=0)->Zf l i≠[]
 |0,_,⟨j,b,_⟩=>by omega
 |i+1,hi,⟨j,b,d⟩=>by
  have a:CN l i=l.getD i X:=by grind[Mj]
  simp only[Zf,NB];split
  .split<;>simp
  .rename_i c;rw[a]at c;exact Z61 l i oq ⟨j,by
    grind,d⟩
def Ziq{l}(h:¬ 0<=first l 1):∀j,j<l.length->(l.getD j X).K≠0:=by
 intro j a b;have hn:=Z61 l l.length (Lh _) ⟨j,a,b⟩;unfold first at h
 rw[if_neg oq]at h;have ok:=(Nb l l.length).2;cases hr:Zf l l.length<;>grind[Zf,runs,HL]
def Zkc{l:List Z0}(h:∀j,j<l.length->(l.getD j X).K≠0):B8 BF l=l.length:=by
 rw[EY];have:∀n,n<=l.length->((Lc n).map λi=>BF (l.getD i X)).sum=n:=by
  intro n;induction n with|zero=>simp|succ n ih =>grind[LX,BF]
 grind
def wtW(h:Heap)(w:Z6)(x:Int):Int:=if(ZE (Z1 w.heap.W x).1).2=Y then 0 else Zl h.W x+1
def Nq(h:Heap)(T:Nat->List Int)(w:Z6)(i:Nat):Int:=if(h.P.getD i X).K=1/\¬ 0<(h.P.getD i X).N then((T i).map (wtW h w)).sum else 0
def HG(h:Heap)(T:Nat->List Int)(w:Z6):Int:=((Lc h.P.length).map (Nq h T w)).sum
structure MI (h:Heap) (T:Nat->List Int) (w:Z6):Prop where
 m0:w.heap.P.length=h.P.length/\w.heap.C=h.C
 m1:B8 BZ h.P<=B8 BZ w.heap.P
 m2:0<w.T.length->((w.T.length:Int)-1)*(h.C.pw/4*3+1)+(w.heap.P.getD (ZG w).toNat X).U<=B8 BZ w.heap.P-B8 BZ h.P
 m3:B8 BZ w.heap.P+HG h T w<=B8 BZ h.P+B8 unP h.P
 m4:B8 BF w.heap.P=B8 BF h.P+w.T.length
 m5:∀i,i<h.P.length->(h.P.getD i X).K=1->((w.heap.P.getD i X).S=w.heap.S↔¬ 0<(h.P.getD i X).N)
def Om(h:Heap) w(x:Int):0<=wtW h w x/\wtW h w x<=Zl h.W x+1:=by have:=Bm h.W x;grind[wtW]
def Zbh{h T}{w w':Z6}(e:w'.heap.W=w.heap.W):HG h T w'=HG h T w:=by unfold HG Nq wtW;rw[e]
def Zev{h T}(g:Gd h T)(w:Z6):HG h T w<=B8 unP h.P:=by rw[EY];refine HZ λi hi=>?_;have hi:=Lb.1 hi;unfold Nq unP;split;rename_i k;have t:=Z22 (g.t1 i hi k.1).1;have:=HZ (l:=T i) (f:=wtW h w) (g:=λx=>Zl h.W x+1) λx _=>(Om h w x).2;omega;omega
def Za0(h:Heap) T w:0<=HG h T w:=by refine Nh λi _=>?_;unfold Nq;split;exact Nh λx _=>(Om h w x).1;omega
def Zhn{h:Heap}{T:Nat->List Int}{w w'}{n r:Int}{a:Nat}(hi:a<h.P.length)(d:(h.P.getD a X).K=1/\¬ 0<(h.P.getD a X).N)(f:r∈T a)(c:∀i x,x∈T i->wtW h w' x<=wtW h w x)(e:wtW h w' r+n<=wtW h w r):HG h T w'+n<=HG h T w:=by refine Z1Z (r:=a) (λi hi=>?_) (Lb.2 hi) ?_;unfold Nq;split;exact HZ λx b=>c i x b;omega;unfold Nq;rw[if_pos d,if_pos d];exact Z1Z (λx b=>c a x b) f e
def MI.begin{h T}(g:Gd h T):MI h T (Zr h):=by
 have e:∀i,i<h.P.length->(((Zr h).heap.P.getD i X).K=(h.P.getD i X).K/\((Zr h).heap.P.getD i X).U=(h.P.getD i X).U):=by grind[Zr,Zq]
 have l:(Zr h).heap.P.length=h.P.length:=by simp[Zr]
 have e1:B8 BZ (Zr h).heap.P=B8 BZ h.P:=Sd BZ l λi hi=>by grind[BZ]
 have e2:B8 BF (Zr h).heap.P=B8 BF h.P:=Sd BF l λi hi=>by grind[BF]
 have r:=Zev g (Zr h);refine⟨⟨l,rfl⟩,by omega,by simp[Zr],by omega,by grind[Zr],λi hi hk=>?_⟩;have sp:=g.sp i hi oq;grind[Zr,Zq]
def MI.keep{h T w}(m:MI h T w) r:MI h T (w.keep r):=⟨m.m0,m.m1,m.m2,m.m3,m.m4,m.m5⟩
def MI.flip{h T r w}(m:MI h T w)(k:KI h T r w){i:Nat}(h2:(w.heap.P.getD i X).K=2):MI h T (w.flip i):=by
 have e:∀j,((w.flip i).heap.P.getD j X).K=(w.heap.P.getD j X).K/\((w.flip i).heap.P.getD j X).U=(w.heap.P.getD j X).U:=by(intro j;simp only[Z6.flip];by_cases b:j<w.heap.P.length;rw[Hb b];split<;>exact⟨rfl,rfl⟩;grind[H1])
 have l:(w.flip i).heap.P.length=w.heap.P.length:=by simp[Z6.flip,H1]
 have a:B8 BZ (w.flip i).heap.P=B8 BZ w.heap.P:=Sd BZ l λj _=>by grind[BZ]
 have f:B8 BF (w.flip i).heap.P=B8 BF w.heap.P:=Sd BF l λj _=>by grind[BF]
 have g:HG h T (w.flip i)=HG h T w:=Zbh rfl;have c:(w.flip i).T=w.T:=rfl;have el:ZG (w.flip i)=ZG w:=rfl;refine⟨⟨by rw[l];exact m.m0.1,m.m0.2⟩,by rw[a];exact m.m1, ?_,by rw[a,g];exact m.m3,by rw[f,c];exact m.m4,λj b d=>?_⟩;rotate_left;have n:=m.m0.1;have o:(j:Int)∉w.T:=λq=>by have:=(k.tk j q).2.1;omega
 have p:=(k.pg j o).1;rw[d]at p;have:(w.flip i).heap.P.getD j X=w.heap.P.getD j X:=by(simp only[Z6.flip];rw[Hb oq,if_neg];rintro⟨q1,q2⟩;by_cases q:j=i;subst q;omega;have:=(RD (l:=w.heap.P) (i:=i) (m:=j-i-1) oq).2;grind)
 rw[this];exact m.m5 j b d;intro q;rw[c,el,(e _).2,a];exact m.m2 q
def MI.copy{h T tq w}(g:Gd h T)(m:MI h T w)(k:KI h T tq w)(hw:B7 w){r n:Int}{s}(o:r∈T s)(h1:(h.P.getD s X).K=1)(a3:¬ 0<(h.P.getD s X).N)(ht:(ZE (Z1 w.heap.W r).1).2=Lf)(hn:n=Zl w.heap.W r+1)(hc:(w.place n).2.2=Y):MI h T ((w.place n).1.copy r (w.place n).2.1 n):=by
 have he:(Z1 w.heap.W r).1=(Z1 h.W r).1:=by(rcases k.hd s r o with q|q;exact q;grind)
 have a8:=Bm w.heap.W r;have a5:Zl w.heap.W r=Zl h.W r:=(E6 he).2.1;have y:=(g.t0 s r o).1;have b2:=(g.t1 s y h1).2 r o;have po:=B1 g.p;have sw:=Ro po.1;have hv:=BD.1 po.1;have a1:n<=w.heap.C.pw:=by rw[k.c];omega
 obtain⟨i,p,t,p1,p2,p3,p4,p5,p6,p7,e⟩:=Dm hw ⟨by omega,a1⟩ hc;have v:=k.c;have a7:=g.inw o;have d:(h.P.getD i X).K=0:=by(rcases p2 with q|q;by_cases c:(i:Int)∈w.T;exact(k.tk i c).2.1;rw[<-(k.pg i c).1];exact q.1;exact(k.tk i q.1).2.1)
 have b0:=k.pl;have b3:=k.wl;have a0:=EF (i:=i) (j:=h.C.pg) (pw:=h.C.pw) oq oq;rw[Lm h.C.pg]at a0;have a6:0<=(i:Int)*h.C.pw:=Li oq oq;have hx:∀j x,x∈T j->x≠r->(Z1 (BQ (moveA w.heap.W (w.place n).2.1 r n).1 r (4*(w.place n).2.1+2)).1 x).1=(Z1 w.heap.W x).1:=by(intro j x hx a9;have u:=g.free (show i<h.P.length by omega) (Z d) hx;rw[BY,if_pos d]at u;have r1:=Bm h.W x;unfold Zz at u;rw[p7,v];rw[v]at p5;have f:=g.free (show i<h.P.length by omega) (Z d) o;rw[BY,if_pos d]at f;unfold Zz at f;obtain⟨m1,m2,m3⟩:=RP (ws:=w.heap.W) (a:=4+4092+(i:Int)*h.C.pw+BY (w.heap.P.getD i X)) (b:=r) (n:=n) oq oq oq;rw[show(4:Int)+4092+(i:Int)*h.C.pw=4096+(i:Int)*h.C.pw by omega]at m1 m2 m3;grind[Gg])
 have b1:(ZE (Z1 (BQ (moveA w.heap.W (w.place n).2.1 r n).1 r (4*(w.place n).2.1+2)).1 r).1).2=Y:=by grind[RP,RV,P5]
 have ew:((w.place n).1.copy r (w.place n).2.1 n).heap.W=(BQ (moveA w.heap.W (w.place n).2.1 r n).1 r (4*(w.place n).2.1+2)).1:=by(rw[e];rfl)
 have a2:HG h T ((w.place n).1.copy r (w.place n).2.1 n)+n<=HG h T w:=by(refine Zhn y ⟨h1,a3⟩ o (λj x b4=>?_) ?_;grind[wtW];grind[wtW])
 have l:((w.place n).1.copy r (w.place n).2.1 n).heap.P=w.heap.P.set i p:=by rw[e];rfl
 have eT:((w.place n).1.copy r (w.place n).2.1 n).T=t:=by rw[e];rfl
 have eL:ZG ((w.place n).1.copy r (w.place n).2.1 n)=t.getD ((t.length:Int)-1).toNat X:=by grind[ZG]
 have s1:=D3 BZ p w.heap.P i p1;have s2:=D3 BF p w.heap.P i p1;have u1:BZ p=p.U:=by grind[BZ]
 have z1:BF p=1:=by rw[BF,if_neg oq]
 have m1:=m.m1;have m3:=m.m3;have m4:=m.m4;have a4:0<=((w.T.length:Int))*(h.C.pw/4*3+1):=Li oq oq;have h5:∀j,j<h.P.length->(h.P.getD j X).K=1->((((w.place n).1.copy r (w.place n).2.1 n).heap.P.getD j X).S=((w.place n).1.copy r (w.place n).2.1 n).heap.S↔¬ 0<(h.P.getD j X).N):=by
  intro j hj hk;have eS:((w.place n).1.copy r (w.place n).2.1 n).heap.S=w.heap.S:=by rw[e];rfl
  rw[l,eS,Cn p1,if_neg (by grind)];exact m.m5 j hj hk
 rcases p2 with⟨q1,q2,q3⟩|⟨q1,q2,q3,q4⟩;have u2:BZ (w.heap.P.getD i X)=0:=by rw[BZ,if_neg oq]
 have z2:BF (w.heap.P.getD i X)=0:=by grind[BF]
 have oc:BY (w.heap.P.getD i X)=0:=by grind[BY]
 rw[oc]at p4;have hu:B8 BZ (w.heap.P.set i p)=B8 BZ w.heap.P+n:=by omega
 refine⟨⟨by grind,by rw[e];exact m.m0.2⟩,by rw[l];omega, ?_,by rw[l];omega,by grind[L9],h5⟩;intro _;rw[eL,l,eT,hu,q2];have el:(w.T++[(i:Int)]).getD ((((w.T++[(i:Int)]).length:Nat):Int)-1).toNat X=i:=by simp_all
 rw[el,Ld,Cn p1,if_pos rfl,List.length_append,L9];rw[show(((w.T.length+1:Nat):Int)-1)=w.T.length by omega];by_cases z:0<w.T.length;have m2:=m.m2 z;have nf:¬ E8 w n:=by grind[Z6.place]
 grind[E8];grind
 .have u2:BZ (w.heap.P.getD i X)=(w.heap.P.getD i X).U:=by grind[BZ]
  have z2:BF (w.heap.P.getD i X)=1:=by rw[BF,if_neg oq]
  have oc:BY (w.heap.P.getD i X)=(w.heap.P.getD i X).U:=by rw[BY,if_neg oq]
  rw[oc]at p4;have hu:B8 BZ (w.heap.P.set i p)=B8 BZ w.heap.P+n:=by omega
  refine⟨⟨by grind,by rw[e];exact m.m0.2⟩,by rw[l];omega, ?_,by rw[l];omega,by grind,h5⟩;intro z;rw[eT,q3]at z;have m2:=m.m2 z;rw[eL,l,eT,hu,q3];rw[Cn p1];show((w.T.length:Int)-1)*_+Z0.U (if i=(ZG w).toNat then p else w.heap.P.getD (ZG w).toNat X)<=_;split;all_goals grind
structure MV (h:Heap):Prop where
 v:B8 BZ h.P+B8 EE h.P*h.C.pw<=h.C.pg/4*h.C.pw
 n:∃t:Int,B8 BF h.P<=h.C.pg/4+B8 EE h.P+t/\(t-1)*(h.C.pw/4*3+1)<=B8 BZ h.P
def Z3v{α:Type}{f:α->Int}{r:α}:∀{l:List α},(∀x∈l,0<=f x)->r∈l->f r<=(l.map f).sum
 |[],_,hr=>by simp at hr
 |x::l,h,hr=>by
  have h0:=h x pq;have a:∀y∈l,0<=f y:=λy b=>h y (Lu _ b);simp only[LH,LI];rcases Ly.1 hr with rfl|hr
  .have:=Nh a;omega
  .have:=Z3v a hr;omega
def Zet{t t' s q L U nz pg:Int}(hs:4<=s)(hq:2<=q)(a:4*q<=pg)(hL:0<=L)(ht:0<=t)(h1:pg=nz+t)(h2:t*(s*3+1)<=U-1)(h3:nz<=q+L+t')(h4:(t'-1)*(s*3+1)<=U)(h5:U+L*(s*4)<=q*(s*4)):False:=by
 have e2:t*(s*3+1)=3*t*s+t:=by grind
 have e4:(t'-1)*(s*3+1)=3*(t'-1)*s+(t'-1):=by grind
 have e5:q*(s*4)-L*(s*4)=4*(q-L)*s:=by grind
 have a1:3*t<4*(q-L):=by(by_cases c:3*t<4*(q-L);exact c;have:=Lw (show 4*(q-L)<=3*t by omega) (show 0<=s by omega);omega)
 have a2:3*(t'-1)<4*(q-L):=by(by_cases c:3*(t'-1)<4*(q-L);exact c;have:=Lw (show 4*(q-L)<=3*(t'-1) by omega) (show 0<=s by omega);omega)
 omega
def MI.unp{h T g w}(m:MI h T w)(k:KI h T g w){r o:Int}{a:Nat}(b:Z2 w.heap.C r=((a:Int),o,0))(d:(a:Int)∉w.T)(hi:a<h.P.length)(k1:(h.P.getD a X).K=1)(c4:¬ ZH w (Z2 w.heap.C r).1=Y):¬ 0<(h.P.getD a X).N:=by intro e;apply c4;have f:=m.m0.1;have q:=(m.m5 a hi k1);have kk:=(k.pg a d).1;simp only[ZH,decide_eq_true_eq];rw[b];simp only[Ld];exact⟨by omega,by omega,by omega,λc=>(q.1 c) e,d⟩
section
variable {h:Heap} {T tq:Nat->List Int} {w:Z6} (g:Gd h T) (m:MI h T w) (k:KI h T tq w) (d:B7 w) (f:MV h)
include g m k d f
theorem MI.room{r n:Int}{e}(y:r∈T e)(h1:(h.P.getD e X).K=1)(a3:¬ 0<(h.P.getD e X).N)(ht:(ZE (Z1 w.heap.W r).1).2=Lf)(hn:n=Zl w.heap.W r+1):(w.place n).2.2=Y:=by
 have he:(Z1 w.heap.W r).1=(Z1 h.W r).1:=by(rcases k.hd e r y with q|q;exact q;rw[q.1]at ht;cases ht)
 have a5:=Bm w.heap.W r;have a4:Zl w.heap.W r=Zl h.W r:=(E6 he).2.1;have o:=(g.t0 e r y).1;have a6:=(g.t1 e o h1).2 r y;have po:=B1 g.p;have sw:=Ro po.1;have hv:=BD.1 po.1;have a1:h.C.pw=h.C.pw/4*4:=by(have:=hv.2.2.1;rw[LU oq]at this;omega)
 by_cases u:E8 w n;rw[Z6.place,if_pos u];by_cases hg:0<=ZN w;rw[Z6.place,if_neg u,if_pos hg];exfalso;have nz:=Zkc (Ziq (l:=w.heap.P) hg);have m0:=m.m0;have m1:=m.m1;have m3:=m.m3;have m4:=m.m4;have a0:=d.pl;rw[m0.2]at a0;have a2:n<=HG h T w:=by
  have a:Nq h T w e<=HG h T w:=Z3v (λi _=>by
   unfold Nq;split;exact Nh λx _=>(Om h w x).1;exact Ls _) (Lb.2 o)
  have b:wtW h w r<=Nq h T w e:=by(unfold Nq;rw[if_pos ⟨h1,a3⟩];exact Z3v (λx _=>(Om h w x).1) y)
  unfold wtW at b;rw[if_neg (by rw[ht];simp)]at b;omega
 have a7:B8 unP h.P<=B8 BZ h.P:=HZ λp hp=>by(obtain⟨j,hj,rfl⟩:=LM hp;have pp:=Ea g.p hj;rw[O,LW hj,LJ]at pp;unfold unP BZ;split;rename_i c;rw[if_pos c.1];omega;split<;>omega)
 have hL:0<=B8 EE h.P:=Nh λp _=>by unfold EE;split<;>omega
 have h2:(w.T.length:Int)*(h.C.pw/4*3+1)<=B8 BZ h.P-1:=by
  by_cases z:0<w.T.length;have m2:=m.m2 z;unfold E8 at u;rw[m0.2]at u;have hq:h.C.pw/4*3+1<=(w.heap.P.getD (ZG w).toNat X).U:=by omega
  rw[show(w.T.length:Int)*(h.C.pw/4*3+1)=((w.T.length:Int)-1)*(h.C.pw/4*3+1)+(h.C.pw/4*3+1) by rw[Int.sub_mul];omega];omega;have:w.T.length=0:=by omega
  rw[this];simp;omega
 obtain⟨t',n1,n2⟩:=f.n;have v:=f.v;exact Zet (s:=h.C.pw/4) (q:=h.C.pg/4) (pg:=h.C.pg) (nz:=B8 BF h.P) (L:=B8 EE h.P) (U:=B8 BZ h.P) (t:=w.T.length) (t':=t') oq oq oq hL oq oq h2 n1 n2 (by rw[<-a1];exact v)
theorem MI.fwd_ok(hi:Bt w){r:Int}(n:r=0\/r∈w.Q\/r∈w.old):(w.fwd r).2.2=0:=by
 unfold Z6.fwd;by_cases c1:r=0\/r∈w.Q;rw[if_pos c1];rw[if_neg c1];have c2:r∈w.old:=by(rcases n with q|q|q;exact absurd (Z q) c1;exact absurd (M q) c1;exact q)
 rw[if_neg (by simpa using c2)];obtain⟨a,c,l⟩:=(k.old r).1 c2;have b:Z2 w.heap.C r=((a:Int),r-Zz h a,0):=by rw[k.c];exact g.ofx c
 by_cases c3:(ZE (Z1 w.heap.W r).1).2=Y;rw[if_pos c3];rw[if_neg c3,if_neg (by rw[b];simp)];by_cases c4:ZH w (Z2 w.heap.C r).1=Y;rw[if_pos c4];rw[if_neg c4];by_cases e:(w.heap.P.getD (Cx w r) X).K=2;rw[if_pos e];rw[if_neg e];have i:Cx w r=a:=by rw[Cx,b];simp
 rw[i]at e;have j:=k.nt g c;have k1:(h.P.getD a X).K=1:=by(have:=(g.t0 a r c).2;rw[<-(k.pg a j).1]at this⊢;omega)
 have:=m.room g k d f c k1 (m.unp k b j (g.t0 a r c).1 k1 c4) (by simpa using c3) rfl;rw[<-Gz w r]at this;rw[if_neg (by rw[this];simp)]
theorem MI.fwd(hi:Bt w){r}(e:(w.fwd r).2.2=0):MI h T (w.fwd r).1:=by
 unfold Z6.fwd at e⊢;by_cases c1:r=0\/r∈w.Q;rw[if_pos c1];exact m;rw[if_neg c1]at e⊢;by_cases c2:r∈w.old;rw[if_neg (by simpa using c2)]at e⊢;obtain⟨a,c,p⟩:=(k.old r).1 c2;have b:Z2 w.heap.C r=((a:Int),r-Zz h a,0):=by rw[k.c];exact g.ofx c
 by_cases c3:(ZE (Z1 w.heap.W r).1).2=Y;rw[if_pos c3];exact m;rw[if_neg c3,if_neg (by rw[b];simp)]at e⊢;by_cases c4:ZH w (Z2 w.heap.C r).1=Y;rw[if_pos c4];exact m.keep r;rw[if_neg c4]at e⊢;by_cases j:(w.heap.P.getD (Cx w r) X).K=2;rw[if_pos j];exact(m.flip k j).keep r;rw[if_neg j]at e⊢;have n:Cx w r=a:=by rw[Cx,b];simp
 rw[n]at j;have o:=k.nt g c;have k1:(h.P.getD a X).K=1:=by(have:=(g.t0 a r c).2;rw[<-(k.pg a o).1]at this⊢;omega)
 have i:=m.unp k b o (g.t0 a r c).1 k1 c4;have l:=m.room g k d f c k1 i (by simpa using c3) rfl;rw[<-Gz w r]at l;rw[if_neg (by rw[l];simp)];exact m.copy g k d c k1 i (by simpa using c3) (Gz w r) l;rw[if_pos c2]at e;simp at e
end
def Zf2{ws:List Int}{a b n k:Int}(ha:4096<=a/\a-4096+n<=ws.length)(e:4096<=b/\b-4096+n<=ws.length)(hk:0<=k/\k<n):Z1 (moveA ws a b n).1 (a+k)=((Z1 ws (b+k)).1,0):=by
 have c:BX ws b n=((ws.drop (b-4096).toNat).take n.toNat,0):=by rw[BX,if_neg oq,if_pos e]
 have d:moveA ws a b n=ZS ws a ((ws.drop (b-4096).toNat).take n.toNat):=by rw[moveA,c];simp
 have hl:((ws.drop (b-4096).toNat).take n.toNat).length=n.toNat:=by simp;omega
 rw[d,Sw oq oq];congr 1;unfold Z1;rw[if_pos oq];simp only[O];rw[show a+k-a=k by omega,L7 oq,L4];rw[show(b-4096).toNat+k.toNat=(b+k-4096).toNat by omega]
def Ef(w:Z6)(y:Int):Int:=if y∈w.Q then y else if(ZE (Z1 w.heap.W y).1).2=Y then(ZE (Z1 w.heap.W y).1).1 else 0
structure P4 (h:Heap) (T:Nat->List Int) (w:Z6) (r:Int) (i0:Nat) (w':Z6) (a:Int):Prop where
 b:4096<=a
 q:w'.Q=w.Q++[a]
 n:w'.rep.copied+w'.rep.kept=w.rep.copied+w.rep.kept+1
 o:w'.old=w.old
 l:w'.heap.W.length=w.heap.W.length
 s:((h.P.getD i0 X).K=2\/0<(h.P.getD i0 X).N)↔a=r
 e:a-4096+Zl h.W r<w.heap.W.length
 f:a=r->w'.heap.W=w.heap.W
 c:a≠r->ZE (Z1 w'.heap.W r).1=(a,Y)
 t:∀j x,x∈T j->x≠r->a≠x/\Z1 w'.heap.W x=Z1 w.heap.W x
 x:∀k,0<=k->k<=Zl h.W r->(Z1 w'.heap.W (a+k)).1=(Z1 w.heap.W (r+k)).1
section
variable {h:Heap} {T tq:Nat->List Int} {w:Z6} (g:Gd h T) (m:MI h T w) (k:KI h T tq w) (d:B7 w) (f:MV h)
include g m k d f
theorem ZfE{r:Int}{l}(y:r∈T l)(a7:Cr h.W r≠0)(hq:r∉w.Q)(ht:(ZE (Z1 w.heap.W r).1).2=Lf) :(w.fwd r).2.2=0/\P4 h T w r l (w.fwd r).1 (w.fwd r).2.1:=by
 have ho:r∈w.old:=(k.old r).2 ⟨l,y,a7⟩;have b6:=g.inw y;have on:=g.on y;have b7:=Bm h.W r;have he:(Z1 w.heap.W r).1=(Z1 h.W r).1:=by(rcases k.hd l r y with q|q;exact q;rw[q.1]at ht;cases ht)
 have b2:Zl w.heap.W r=Zl h.W r:=(E6 he).2.1;have nt:=k.nt g y;have pg:=k.pg l nt;have wl:=k.wl;have c1:¬ (r=0\/r∈w.Q):=by(rintro(q|q);omega;exact hq q)
 have s:Z2 w.heap.C r=((l:Int),r-Zz h l,0):=by rw[k.c];exact g.ofx y
 have a0:Cx w r=l:=by rw[Cx,s];simp
 by_cases c4:ZH w (Z2 w.heap.C r).1=Y;have ef:w.fwd r=(w.keep r,r,0):=by rw[Z6.fwd,if_neg c1,if_neg (by simpa using ho),if_neg (by rw[ht];simp),if_neg (by rw[s];simp),if_pos c4]
 rw[ef];show(0:Int)=0/\P4 h T w r l (w.keep r) r;have hs:(h.P.getD l X).K=2\/0<(h.P.getD l X).N:=by
  rw[s]at c4;simp only[ZH,decide_eq_true_eq,Ld]at c4;have k1:(h.P.getD l X).K=1:=by rw[<-pg.1];exact c4.2.2.1
  have:=m.m5 l on.1 k1;by_cases q:0<(h.P.getD l X).N;exact .inr q;exact absurd (this.2 q) c4.2.2.2.1
 exact⟨rfl,by omega,rfl,by simp only[Z6.keep];omega,rfl,rfl,⟨λ_=>rfl,λ_=>hs⟩,by omega,λ_=>rfl,λq=>absurd rfl q,λj x _ o=>⟨λq=>o q.symm,rfl⟩,λ_ _ _=>rfl⟩;by_cases c5:(w.heap.P.getD (Cx w r) X).K=2;have ef:w.fwd r=((w.flip (Cx w r)).keep r,r,0):=by rw[Z6.fwd,if_neg c1,if_neg (by simpa using ho),if_neg (by rw[ht];simp),if_neg (by rw[s];simp),if_neg c4,if_pos c5]
 rw[ef];show(0:Int)=0/\P4 h T w r l ((w.flip (Cx w r)).keep r) r;have hs:(h.P.getD l X).K=2\/0<(h.P.getD l X).N:=by(rw[a0,pg.1]at c5;exact .inl c5)
 exact⟨rfl,by omega,rfl,by simp only[Z6.keep,Z6.flip];omega,rfl,rfl,⟨λ_=>rfl,λ_=>hs⟩,by omega,λ_=>rfl,λq=>absurd rfl q,λj x _ o=>⟨λq=>o q.symm,rfl⟩,λ_ _ _=>rfl⟩;have k1:(h.P.getD l X).K=1:=by(have:=on.2.1;rw[a0]at c5;rw[<-pg.1]at this⊢;omega)
 have a3:=m.unp k s nt on.1 k1 c4;have v:=m.room g k d f y k1 a3 ht rfl;have a8:=Gz w r;have ef:w.fwd r=((w.place (Zl w.heap.W r+1)).1.copy r (w.place (Zl w.heap.W r+1)).2.1 (Zl w.heap.W r+1),(w.place (Zl w.heap.W r+1)).2.1,0):=by(rw[Z6.fwd,if_neg c1,if_neg (by simpa using ho),if_neg (by rw[ht];simp),if_neg (by rw[s];simp),if_neg c4,if_neg c5,a8,if_neg (by rw[v];simp)])
 rw[ef];show(0:Int)=0/\P4 h T w r l ((w.place (Zl w.heap.W r+1)).1.copy r (w.place (Zl w.heap.W r+1)).2.1 (Zl w.heap.W r+1)) (w.place (Zl w.heap.W r+1)).2.1;have po:=B1 g.p;have b9:=(g.t1 l on.1 k1).2 r y;have c0:=Ro po.1;have b4:=BD.1 po.1;obtain⟨i,p,t,p1,p2,p3,p4,p5,p6,p7,e⟩:=Dm d ⟨by omega,by rw[k.c];omega⟩ v;have a5:=k.c;have b8:=k.pl;have a2:(h.P.getD i X).K=0:=by(rcases p2 with q|q;by_cases c:(i:Int)∈w.T;exact(k.tk i c).2.1;rw[<-(k.pg i c).1];exact q.1;exact(k.tk i q.1).2.1)
 have a6:=EF (i:=i) (j:=h.C.pg) (pw:=h.C.pw) oq oq;rw[Lm h.C.pg]at a6;have b5:0<=(i:Int)*h.C.pw:=Li oq oq;rw[a5]at p5 p7;have a4:4096+(i:Int)*h.C.pw=Zz h i:=rfl;rw[e,p7,a4];generalize hu:BY (w.heap.P.getD i X)=u at *;generalize ha:Zz h i+u=a;have b3:4096<=a/\a+(Zl w.heap.W r+1)<=4096+w.heap.W.length:=by omega
 have a1:∀j x,x∈T j->x+Zl h.W x<Zz h i\/Zz h i+h.C.pw<=x:=by(intro j x y;have:=g.free (show i<h.P.length by omega) (Z a2) y;rw[BY,if_pos a2]at this;omega)
 have b1:=a1 l r y;obtain⟨m1,m2,m3⟩:=RP (ws:=w.heap.W) (a:=a) (b:=r) (n:=Zl w.heap.W r+1) oq oq oq;have z:4096<=r/\r<4096+(moveA w.heap.W a r (Zl w.heap.W r+1)).1.length:=by omega
 have o:a≠r:=by omega
 refine⟨rfl,by omega,rfl,by simp only[Z6.copy];omega,rfl, ?_,⟨λq=>?_,λq=>absurd q o⟩,by omega,λq=>absurd q o,λ_=>?_,λj x a9 b0=>?_,λj j0 j1=>?_⟩;simp only[Z6.copy];rw[Ap z,m1];rcases q with q|q;omega;exact absurd q a3;simp only[Z6.copy];rw[RV z,P5 oq oq];have fx:=a1 j x a9;have rx:=Bm h.W x;simp only[Z6.copy];exact⟨by omega,by rw[Gg z b0,m3 x oq]⟩;simp only[Z6.copy];rw[Gg z oq,Zf2 oq oq oq]
end
def ZcR{w}(g:B7 w)(h:Bt w){r n:Int}(o:r∈w.old)(hq:r∉w.Q)(hn:n=Zl w.heap.W r+1)(hp:n<=w.heap.C.pw)(z:(w.place n).2.2=Y):∀x∈w.old++w.Q,(x∈w.Q\/x≠r)->∀m,0<=m->m<=Zl w.heap.W x->Z1 ((w.place n).1.copy r (w.place n).2.1 n).heap.W (x+m)=Z1 w.heap.W (x+m):=by
 have a3:=Bm w.heap.W r;obtain⟨i,p,t,v,d,h3,h4,h5,h6,h7,y,e⟩:=TP g ⟨by omega,hp⟩ z;have hb:=BD.1 g.C;have a6:=g.pl;have hL:=h.L;have a2:(i:Int)*w.heap.C.pw+w.heap.C.pw<=w.heap.C.pw*w.heap.C.pg:=by(have:=EF (i:=i) (j:=w.heap.C.pg) (pw:=w.heap.C.pw) oq oq;rw[Lm w.heap.C.pw];exact this)
 have a1:0<=(i:Int)*w.heap.C.pw:=Li oq oq;rw[e,y];generalize hu:BY (w.heap.P.getD i X)=u at *;generalize ha:4096+(i:Int)*w.heap.C.pw+u=at';have a7:=h.r r (La _ o);have l:=h.f i v (by rcases d with d|d;exact Z d;exact M d.1);rw[hu]at l;obtain⟨m1,m2,m3⟩:=RP (ws:=w.heap.W) (a:=at') (b:=r) (n:=n) oq oq oq;have f:4096<=r/\r<4096+(moveA w.heap.W at' r n).1.length:=by omega
 intro x s k m a4 a5;have a0:=l x s;simp only[Z6.copy];rw[Gg f ?_,m3 _ oq];intro c;by_cases q:x=r;exact k.elim (λa=>hq (q▸a)) (λa=>a q);have:=h.s x s r (La _ o) oq;omega
def SG{w}(n:B7 w)(h:Bt w) r(e:(w.fwd r).2.2=0):(∃m,(w.fwd r).1.Q=w.Q++m)/\(w.fwd r).1.D=w.D/\∀x∈w.old++w.Q,(x∈w.Q\/x≠r)->∀m,0<=m->m<=Zl w.heap.W x->Z1 (w.fwd r).1.heap.W (x+m)=Z1 w.heap.W (x+m):=by
 unfold Z6.fwd at e⊢;split at e;rename_i c1;rw[if_pos c1];exact⟨⟨[],by simp⟩,rfl,λ_ _ _ _ _ _=>rfl⟩;rename_i c1;rw[if_neg c1];have f:r∉w.Q:=λh=>c1 (M h);split at e;simp at e;rename_i c2;rw[if_neg c2];have a:r∈w.old:=LK.1 c2;split at e;rename_i c3;rw[if_pos c3];exact⟨⟨[],by simp⟩,rfl,λ_ _ _ _ _ _=>rfl⟩;rename_i c3;rw[if_neg c3];split at e;simp at e;rename_i c4;rw[if_neg c4];split at e;rename_i g;rw[if_pos g];exact⟨⟨[r],rfl⟩,rfl,λ_ _ _ _ _ _=>rfl⟩;rename_i g;rw[if_neg g];split at e;rename_i d;rw[if_pos d];exact⟨⟨[r],rfl⟩,rfl,λ_ _ _ _ _ _=>rfl⟩;rename_i d;rw[if_neg d];split at e;simp at e;rename_i j;rw[if_neg j];have b:(w.place (Z5 (Zu w r))).2.2=Y:=by simpa using j
 have c:=h.z r a;have l:Z5 (Zu w r)<=w.heap.C.pw:=by(rw[Gz];rcases c with c|c;exact absurd c d;exact c)
 have o:=Bm w.heap.W r;obtain⟨i,p,t,p1,p2,p3,p4,p5,p6,p7,k⟩:=Dm n ⟨by rw[Gz];omega,l⟩ b;refine⟨⟨[(w.place (Z5 (Zu w r))).2.1], ?_⟩, ?_,ZcR n h a f (Gz w r) l b⟩;rw[k];rfl;rw[k];rfl
def FD(w:Z6)(F:Int->Prop):Prop:=∀z,F z->(∃q j,q∈w.Q/\0<=j/\j<Zl w.heap.W q/\z=q+1+j)/\NK w (Z1 w.heap.W z).1
structure Sm (w v:Z6):Prop where
 q:∃m,v.Q=w.Q++m
 h:∀x∈w.Q,Bg v.heap.W x=Bg w.heap.W x
def Sm.trans{u v w}(a:Sm u v)(b:Sm v w):Sm u w:=by obtain⟨m,c⟩:=a.q;obtain⟨n,e⟩:=b.q;exact⟨⟨m++n,by rw[e,c,List.append_assoc]⟩,λx d=>(b.h x (by rw[c];exact La _ d)).trans (a.h x d)⟩
def Sm.mem{w v}(a:Sm w v){x:Int}(c:x∈w.Q):x∈v.Q:=by obtain⟨m,b⟩:=a.q;rw[b];exact La _ c
def Sm.len{w v}(a:Sm w v){x:Int}(b:x∈w.Q):Zl v.heap.W x=Zl w.heap.W x:=congrArg Zy.length (a.h x b)
def Sm.to{w v}(a:Sm w v){x}(b:NK w x):NK v x:=b.imp id a.mem
def Td{w}(b:B7 w)(h:Bt w) r(e:(w.fwd r).2.2=0):Sm w (w.fwd r).1:=by have s:=SG b h r e;refine⟨s.1,λx a=>?_⟩;have:=s.2.2 x (Ln _ a) (.inl a) 0 oq (Bm _ _).1;rw[LA]at this;rw[Bg,Bg,this]
def FD.fwd{w F}(f:FD w F)(b:B7 w)(h:Bt w) r(e:(w.fwd r).2.2=0):FD (w.fwd r).1 F:=by have s:=SG b h r e;have m:=Td b h r e;intro z g;obtain⟨⟨q,j,a,c,d,rfl⟩,t⟩:=f z g;refine⟨⟨q,j,m.mem a,c,by rw[m.len a];exact d,rfl⟩, ?_⟩;have:=s.2.2 q (Ln _ a) (.inl a) (1+j) oq oq;rw[<-LL]at this;rw[this];exact m.to t
def Zfv{B w}(k:B7 w)(h:Bt w)(hp:PR B w){F}(f:FD w F){q j:Int}(n:q∈w.Q)(r:0<=j/\j<Zl w.heap.W q)(e:(w.fwd (Z1 w.heap.W (q+1+j)).1).2.2=0):Sm w (w.in1 (q+1+j))/\(w.in1 (q+1+j)).D=w.D/\FD (w.in1 (q+1+j)) (λz=>F z\/z=q+1+j):=by
 have s:=SG k h _ e;have m:=Td k h _ e;have v:=f.fwd k h _ e;have to:=Z4d w _ hp e;obtain⟨t,u⟩:=R2 k h _ e;have d:=u.q q n;have a0:=u.l q n;have hr:=t.r q (Ln _ d);have b:4096<=q+1+j/\q+1+j<4096+(w.fwd (Z1 w.heap.W (q+1+j)).1).1.heap.W.length:=by omega
 have l:∀x∈(w.fwd (Z1 w.heap.W (q+1+j)).1).1.Q,x≠q+1+j:=by(intro x o c;have:=t.s q (Ln _ d) x (Ln _ o) oq;omega)
 have y:∀x∈(w.fwd (Z1 w.heap.W (q+1+j)).1).1.Q,Bg (w.in1 (q+1+j)).heap.W x=Bg (w.fwd (Z1 w.heap.W (q+1+j)).1).1.heap.W x:=by(intro x o;simp only[Z6.in1];rw[Bg,Bg,Gg b (l x o)])
 have m2:Sm (w.fwd (Z1 w.heap.W (q+1+j)).1).1 (w.in1 (q+1+j)):=⟨⟨[],by simp[Z6.in1]⟩,y⟩;refine⟨m.trans m2,s.2.1, ?_⟩;intro z a;have p:(∃i g,i∈w.Q/\0<=g/\g<Zl w.heap.W i/\z=i+1+g):=by(rcases a with a|rfl;exact(f z a).1;exact⟨q,j,n,r.1,r.2,rfl⟩)
 obtain⟨i,g,k1,k2,k3,k4⟩:=p;refine⟨⟨i,g,(m.trans m2).mem k1,k2,by rw[(m.trans m2).len k1];exact k3,k4⟩, ?_⟩;by_cases c:z=q+1+j;subst c;have:(Z1 (w.in1 (q+1+j)).heap.W (q+1+j)).1=(w.fwd (Z1 w.heap.W (q+1+j)).1).2.1:=by(simp only[Z6.in1];rw[RV b])
 rw[this];exact m2.to to;have:Z1 (w.in1 (q+1+j)).heap.W z=Z1 (w.fwd (Z1 w.heap.W (q+1+j)).1).1.heap.W z:=by(simp only[Z6.in1];rw[Gg b c])
 rw[this];rcases a with a|a;exact m2.to (v z a).2;exact absurd a c
section
variable {B:Int} (hB:0<=B)
include hB
theorem Z96{w}(m:B7 w)(h:Bt w)(o:PR B w){F}(f:FD w F){q:Int}(g:q∈w.Q){l:List Int}(hl:∀x∈l,0<=x/\x<Zl w.heap.W q):∀k,k<=l.length->(∀j,j<k->CH w q l j=0)->Sm w (Br w q l k)/\(Br w q l k).D=w.D/\FD (Br w q l k) (λz=>F z\/∃i,i<k/\z=q+1+l.getD i X)
 |0,_,_=>⟨⟨⟨[],by simp[Br]⟩,λ_ _=>rfl⟩,rfl,λz d=>f z (d.resolve_right (by rintro⟨i,hi,_⟩;omega))⟩
 |k+1,hk,he=>by
  obtain⟨a,b,c⟩:=Z96 m h o f g hl k oq (λj n=>he j oq);have ok:=(Nf m q l k (λj n=>he j oq)).1;have t:=Tk m h g hl k oq (λj n=>he j oq);have u:=TS (PR B) (λw q j m hi h g r s e=>PR.in1 hB w q j m hi h g r s e) m h o g hl k oq (λj n=>he j oq);have p:=hl _ (Bs.2 ⟨k,by omega,rfl⟩);obtain⟨d1,d2,d3⟩:=Zfv ok t.1 u c (a.mem g) (j:=l.getD k X) ⟨p.1,by rw[a.len g];exact p.2⟩ (he k oq);refine⟨a.trans d1,d2.trans b,λz d=>d3 z ?_⟩;rcases d with d|⟨i,hi,d⟩
  .exact Z (Z d)
  .by_cases v:i=k
   .subst v;exact M d
   .exact Z (M ⟨i,by omega,d⟩)
def SD(w:Z6):Prop:=FD w (λz=>∃i j,i<w.D.toNat/\j∈ZC (Bg w.heap.W (w.Q.getD i X))/\z=w.Q.getD i X+1+j)
omit hB in
theorem Sm.get{w v}(a:Sm w v){i:Nat}(hi:i<w.Q.length):v.Q.getD i X=w.Q.getD i X:=by obtain⟨m,b⟩:=a.q;rw[b,O,O,List.getElem?_append_left hi]
theorem Z5T{w}(o:B7 w)(h:Bt w)(s:PR B w)(f:SD w)(e:(ZZ w).2.2=0):SD (ZZ w).1:=by
 by_cases m:w.D<w.Q.length;have u:=o.sc;have t:Cb w∈w.Q:=Bs.2 ⟨w.D.toNat,by omega,rfl⟩;unfold ZZ at e⊢;rw[if_pos m]at e⊢;cases hb:(Lc (Bl w).length).find? (λk=>Lz (CH w (Cb w) (Bl w) k≠0))with
 |none =>
  have p:∀j,j<(Bl w).length->CH w (Cb w) (Bl w) j=0:=λj d=>by(have:=Le.1 hb j (Lb.2 d);simpa using this)
  obtain⟨a,b,c⟩:=Z96 hB o h s f t (l:=Bl w) (SL (Zu w (Cb w))) (Bl w).length (Lh _) p;intro z v;obtain⟨i,j,hi,d,rfl⟩:=v;simp only[Hz]at hi d⊢;rw[b]at hi;have g:=a.get (show i<w.Q.length by omega);have r:w.Q.getD i X∈w.Q:=Bs.2 ⟨i,by omega,rfl⟩;rw[g,a.h _ r]at d;rw[g];refine c _ ?_;by_cases q:i=w.D.toNat
  subst q;obtain⟨n,x,y⟩:=Bs.1 d;exact M ⟨n,x,by rw[<-y];rfl⟩;exact Z ⟨i,j,by omega,d,rfl⟩
 |some k =>simp only[hb]at e;have:=(LD.1 hb).1;simp[e]at this
 have e:ZZ w=(w,Lf,0):=by rw[ZZ,if_neg m]
 rw[e];exact f
theorem Z6u{w}(a:B7 w)(h:Bt w)(d:PR B w)(f:SD w):∀k,(∀j,j<k->Ew w j=Lf)->SD (Cy w k)
 |0,_=>f
 |k+1,hh=>by
  have m:=Z6u a h d f k (λj b=>hh j oq);have ok:=(Iw a k (λj b=>hh j oq)).1;have o:=(D1 a h k (λj b=>hh j oq)).1;have p:=Oa (PR B) (λw q j a hi h l g i e=>PR.in1 hB w q j a hi h l g i e) (λw n h=>⟨⟨h.tab.pt,h.tab.tk,h.tab.pin⟩,h.rt.q,h.rt.t⟩) a h d k (λj b=>hh j oq);have c:=hh k oq;simp only[Ew,decide_eq_false_iff_not,not_or,LK]at c;exact Z5T hB ok o p m c.1
theorem Zct{w}(a:B7 w)(h:Bt w)(l:PR B w)(f:SD w)(e:(Bu w).2=0):SD (Bu w).1/\(Bu w).1.D=(Bu w).1.Q.length:=by
 obtain⟨k,i⟩:=Ay a;obtain⟨d,h2,r⟩:=LD.1 i;have b:∀j,j<k->Ew w j=Lf:=λj s=>by simpa using r j s
 unfold Bu at e⊢;rw[i]at e⊢;simp only at e⊢;split at e;rename_i c;rw[if_pos c];have ok:=(Iw a k b).1;have v:=(D1 a h k b).1;have x:=Oa (PR B) (λw q j a hi h t b d e=>PR.in1 hB w q j a hi h t b d e) (λw n h=>⟨⟨h.tab.pt,h.tab.tk,h.tab.pin⟩,h.rt.q,h.rt.t⟩) a h l k b;refine⟨Z5T hB ok v x (Z6u hB a h l f k b) c, ?_⟩;simp only[Ew,decide_eq_true_eq]at d;have g:(ZZ (Cy w k)).2.1=Lf:=d.resolve_left (λq=>q c);have u:=ok.sc;by_cases o:(Cy w k).D<(Cy w k).Q.length;exfalso;unfold ZZ at g c;rw[if_pos o]at g c;cases hb2:(Lc (Bl (Cy w k)).length).find? (λm=>Lz (CH (Cy w k) (Cb (Cy w k)) (Bl (Cy w k)) m≠0))with|none =>rw[hb2]at g;simp at g|some m =>simp only[hb2]at c;have:=(LD.1 hb2).1;simp[c]at this
 have p:ZZ (Cy w k)=(Cy w k,Lf,0):=by rw[ZZ,if_neg o]
 rw[p];simp only;omega;rename_i c;exact absurd e c
theorem ZgP{h:Heap}{s}(hw:Zx h.W)(hp:Z8 h=Y)(hb:∀p∈h.P,p.N<=B)(e:(rootsF (Zr h) s).2.2=0)(e2:(Bu (rootsF (Zr h) s).1).2=0):SD (ZA h s)/\(ZA h s).D=(ZA h s).Q.length:=by have wb:=NP hw hp;have hi:=Rc hp;have ho:=RL (roots:=s) wb hi e;have pr:=Z2n (PR B) (λw r hw hi h e=>PR.fwd hB w r hw hi h e) (roots:=s) wb hi ⟨Oe hp hb,Z3u hp⟩ e;have s0:=Z2n (λw=>w.D=0) (λw r hw hi h e=>(SG hw hi r e).2.1.trans h) (roots:=s) wb hi rfl e;exact Zct hB ho.1 ho.2.1 pr (λz hz=>by obtain⟨i,j,q,_⟩:=hz;rw[s0]at q;simp at q) e2
end
def IH(w:Z6)(x:Int):Prop:=ZH w (Z2 w.heap.C x).1=Y/\x∉w.Q
def NZ(n:Int)(a x:Int):Int:=if a=x then 1+16*n else 0
def Z4p{n:Int}(h:0<=n/\n<=255):Z7 (1+16*n)=(⟨0,n,0⟩,Y):=by have a:ZR ⟨0,n,0⟩=Y:=Gl.2 ⟨by simp,by simp,h.1,h.2,by simp⟩;have:=decode_encode a pq;rw[Mb h]at this;exact this
def Zkv{n:Int}(h:0<=n/\n<=255){ws:List Int}{a x:Int}(hx:4096<=x/\x+n<4096+ws.length)(ha:x<=a/\a<=x+n):(Z1 (ZS ws x (BI ⟨0,n,0⟩)).1 a).1=NZ n a x:=by
 have hl:(BI ⟨0,n,0⟩).length=n.toNat+1:=by simp[BI]
 rw[Sw oq oq];unfold NZ;by_cases c:a=x;subst c;simp[BI,Mb h];rw[if_neg c,BI,show(a-x).toNat=(a-x-1).toNat+1 by omega];simp[O,LF];split<;>rfl
structure FL (v:Z6) (ws:List Int) (k:Nat):Prop where
 l:ws.length=v.heap.W.length
 h:∀x∈v.old,Zl ws x=Zl v.heap.W x
 s:∀a,Z1 ws a=Z1 v.heap.W a\/∃x∈v.old,IH v x/\x<=a/\a<=x+Zl v.heap.W x/\(Z1 ws a).1=NZ (Zl v.heap.W x) a x
 f:∀j,j<k->IH v (v.old.getD j X)->∀a,v.old.getD j X<=a->a<=v.old.getD j X+Zl v.heap.W (v.old.getD j X)->(Z1 ws a).1=NZ (Zl v.heap.W (v.old.getD j X)) a (v.old.getD j X)
def Ta{v:Z6}(hw:FOk v)(hi:Bt v):∀k,k<=v.old.length->FL v (Cl v k).heap.W k
 |0,_=>⟨rfl,λ_ _=>rfl,λ_=>Z rfl,λj hj=>by omega⟩
 |k+1,hk=>by
  have ih:=Ta hw hi k oq;obtain⟨i0,i1,i2,i3,i4,i5,i6,i7,i8,i9,i10,i11⟩:=HP v hw k;have hm:v.old.getD k X∈v.old:=Bs.2 ⟨k,by omega,rfl⟩;have hr:=hi.r _ (La _ hm);have hn:=Bm v.heap.W (v.old.getD k X);have hprom:ZH (Cl v k) (Z2 (Cl v k).heap.C (v.old.getD k X)).1=ZH v (Z2 v.heap.C (v.old.getD k X)).1:=by
   unfold ZH;rw[i1,i2,i3,i6]
  by_cases c:IH v (v.old.getD k X)
  .have e:(Cl v (k+1)).heap.W=(ZS (Cl v k).heap.W (v.old.getD k X) (BI ⟨0,Zl v.heap.W (v.old.getD k X),0⟩)).1:=by
    show(GK (Cl v k) (v.old.getD k X)).heap.W=_;rw[GK,hprom,i7,if_pos (show ZH v (Z2 v.heap.C (v.old.getD k X)).1=Y/\v.old.getD k X∉v.Q from c)];simp only;rw[<-ih.h _ hm];rfl
   rw[e];have hl:=ih.l;generalize hx:v.old.getD k X=x at *;have hin:4096<=x/\x+Zl v.heap.W x<4096+(Cl v k).heap.W.length:=by omega
   have ho:(BI ⟨0,Zl v.heap.W x,0⟩).length=(Zl v.heap.W x).toNat+1:=by simp[BI]
   have win:=λa ha=>Zkv hn (ws:=(Cl v k).heap.W) (a:=a) hin ha;have wout:∀a,a<x\/x+Zl v.heap.W x<a->Z1 (ZS (Cl v k).heap.W x (BI ⟨0,Zl v.heap.W x,0⟩)).1 a=Z1 (Cl v k).heap.W a:=λa ha=>Ag oq oq;have sep:=λy hy=>hi.s x (La _ hm) y (La _ hy);have sep2:=λy hy=>hi.s y (La _ hy) x (La _ hm);refine⟨?_, ?_, ?_, ?_⟩
   .unfold ZS;rw[if_pos oq];exact(N7 oq).trans hl
   .intro y hy;by_cases q:y=x
    .subst q;have:=win y oq;rw[Zl,this,NZ,if_pos rfl,Z4p hn]
    .have s1:=sep y hy;have s2:=sep2 y hy;have:=Bm v.heap.W y;rw[Zl,wout y oq];exact ih.h y hy
   .intro a;by_cases q:x<=a/\a<=x+Zl v.heap.W x
    .exact M ⟨x,hm,c,q.1,q.2,win a q⟩
    .rw[wout a oq];exact ih.s a
   .intro j hj hf a h1 h2;by_cases q:v.old.getD j X=x
    .rw[q]at h1 h2⊢;exact win a ⟨h1,h2⟩
    .have hjk:j<k:=by
      by_cases q2:j=k
      .subst q2;exact absurd hx q
      .omega
     have hmj:v.old.getD j X∈v.old:=Bs.2 ⟨j,by omega,rfl⟩;have s1:=sep _ hmj;have s2:=sep2 _ hmj;have:=Bm v.heap.W (v.old.getD j X);rw[wout a oq];exact ih.f j hjk hf a h1 h2
  .have e:Cl v (k+1)=Cl v k:=by
    show GK (Cl v k) (v.old.getD k X)=_;rw[GK,hprom,i7,if_neg (show¬ (ZH v (Z2 v.heap.C (v.old.getD k X)).1=Y/\v.old.getD k X∉v.Q)from c)]
   rw[e];refine⟨ih.l,ih.h,ih.s,λj hj hf=>?_⟩;by_cases q:j=k
   .subst q;exact absurd hf c
   .exact ih.f j oq hf
def Z4A{c:ZY}{s}{l:List Z0}{ws:List Int}(b:0<=c.pw)(hl:(ws.length:Int)=c.pw*l.length):∀k,k<=l.length->(Ee c.pw s l ws k).length=ws.length/\∀(i:Nat) (o:Int),i<l.length->0<=o->o<c.pw->Z1 (Ee c.pw s l ws k) (4096+i*c.pw+o)=if i<k/\C8 s (l.getD i X)then(0,0)else Z1 ws (4096+i*c.pw+o)
 |0,_=>⟨rfl,λi o _ _ _=>by rw[if_neg oq];rfl⟩
 |k+1,hk=>by
  obtain⟨m,n⟩:=Z4A (s:=s) b hl k oq;unfold Ee;by_cases d:C8 s (l.getD k X)
  .rw[if_pos d];have g:=EF (i:=k) (j:=l.length) (pw:=c.pw) oq b;have u:0<=(k:Int)*c.pw:=Li oq b;rw[Lm (l.length:Int)]at g;have p:(Ll c.pw.toNat (0:Int)).length=c.pw.toNat:=Lx;have en:((k*c.pw.toNat:Nat):Int)=k*c.pw:=by rw[Int.natCast_mul,LV b]
   have e:Cg (Ee c.pw s l ws k) (k*c.pw.toNat) (Ll c.pw.toNat 0)=(ZS (Ee c.pw s l ws k) (4096+k*c.pw) (Ll c.pw.toNat 0)).1:=by
    unfold ZS;rw[if_pos oq];simp only;congr 1;omega
   refine⟨?_, ?_⟩
   .rw[N7 oq];exact m
   .intro i o hi f h;rw[e];by_cases q:i=k
    .subst q;rw[Sw oq oq,if_pos ⟨by omega,d⟩];simp[O,LF];split<;>rfl
    .have v:4096+(i:Int)*c.pw+o<4096+k*c.pw\/4096+k*c.pw+c.pw<=4096+(i:Int)*c.pw+o:=by
      rcases Nat.lt_or_gt_of_ne q with q|q
      .have:=EF (i:=i) (j:=k) (pw:=c.pw) oq b;omega
      .have:=EF (i:=k) (j:=i) (pw:=c.pw) oq b;omega
     rw[Ag oq oq,n i o hi f h];by_cases a:i<k/\C8 s (l.getD i X)
     .rw[if_pos a,if_pos ⟨by omega,a.2⟩]
     .rw[if_neg a,if_neg (λr=>a ⟨by omega,r.2⟩)]
  .rw[if_neg d];refine⟨m,λi o hi f h=>?_⟩;rw[n i o hi f h];by_cases a:i<k/\C8 s (l.getD i X)
   .rw[if_pos a,if_pos ⟨by omega,a.2⟩]
   .rw[if_neg a,if_neg];rintro⟨r,t⟩;by_cases w:i=k
    .subst w;exact d t
    .exact a ⟨by omega,t⟩
def Z4i(hd:Zy){k:Int}(c:0<=k)(a:Bo hd k=Y):∀n:Nat,k<n->k∈C6 hd n
 |0,h=>by omega
 |n+1,h=>by
  unfold C6;by_cases q:k=n
  .subst q;rw[if_pos a];simp
  .have b:=Z4i hd c a n oq;split
   .exact La _ b
   .exact b
def Zd4{hd:Zy}{k:Int}(b:0<=k)(h1:k<hd.length)(a:Bo hd k=Y):k∈ZC hd:=by
 have c:ZR hd=Y:=by(unfold Bo at a;simp only[Lv]at a;exact a.1.1.1)
 unfold ZC;rw[if_pos c];exact Z4i hd b a _ oq
structure CE (h:Heap) (T tq:Nat->List Int) (w:Z6) (l4 l5:List Int):Prop where
 g:Gd h T
 k:KI h T tq w
 i:Bt w
 s:w.heap.S=0\/w.heap.S=1
 pt:PT w.heap.C w.heap.P
 ts:∀x∈w.T,(w.heap.P.getD x.toNat X).S=1-w.heap.S
 sd:SD w
 sc:w.D=w.Q.length
 f3:∀a,Z1 l4 a=Z1 w.heap.W a\/∃x∈w.old,IH w x/\x<=a/\a<=x+Zl w.heap.W x/\(Z1 l4 a).1=NZ (Zl w.heap.W x) a x
 f4:∀x∈w.old,IH w x->∀a,x<=a->a<=x+Zl w.heap.W x->(Z1 l4 a).1=NZ (Zl w.heap.W x) a x
 n4:l4.length=w.heap.W.length
 n5:l5.length=w.heap.W.length
 fr:∀(i:Nat) (o:Int),i<h.P.length->0<=o->o<h.C.pw->Z1 l5 (Zz h i+o)=if C8 w.heap.S (w.heap.P.getD i X)then(0,0)else Z1 l4 (Zz h i+o)
def tE(T a:Nat->List Int)(w:Z6)(i:Nat):List Int:=if(i:Int)∈w.T then a i else if(w.heap.P.getD i X).S≠w.heap.S then T i else []
section
variable {h:Heap} {T tq:Nat->List Int} {w:Z6} {l4 l5:List Int} (c:CE h T tq w l4 l5)
include c
theorem CE.mem{i}{x:Int}(hx:x∈tE T tq w i):(i:Int)∈w.T/\x∈tq i\/(i:Int)∉w.T/\(w.heap.P.getD i X).S≠w.heap.S/\x∈T i:=by grind[tE]
theorem CE.gone0{i:Nat}(hi:(i:Int)∈w.T):¬ C8 w.heap.S (w.heap.P.getD i X):=by have:=c.ts _ hi;grind[C8]
theorem CE.pgof{i}{x a:Int}(e:x∈T i)(h1:x<=a)(h2:a<=x+Zl h.W x):∃(j:Nat) (o:Int),j<h.P.length/\0<=o/\o<h.C.pw/\a=Zz h j+o/\(w.heap.P.getD j X).K≠0/\(w.heap.P.getD j X).S=(w.heap.P.getD i X).S:=by
 have g:=c.g;have o:=g.on e;have po:=B1 g.p;have pg:=c.k.pg i (c.k.nt g e);have d:=c.k.c;have r:=c.k.pl;rcases o.2.1 with k|k;have pp:=Ea g.p o.1;exact⟨i,a-Zz h i,o.1,by omega,by omega,by omega,by omega,rfl⟩;have s:=o.2.2.2.2.2.2 k;have lg:=c.pt.lg i oq oq;rw[pg.2.1,d]at lg;have nu:=Mv lg.1;have h0:0<=(a-Zz h i)/h.C.pw:=LR oq oq;have f:=LC (a-Zz h i) h.C.pw;have l:=LB (a-Zz h i) (b:=h.C.pw) oq;have n:=Lr (a-Zz h i) (b:=h.C.pw) oq;have h6:(a-Zz h i)/h.C.pw<need h.C (h.P.getD i X).U:=LQ oq oq;rw[Lm]at f;generalize hm:(a-Zz h i)/h.C.pw=m at *;have p:((m.toNat:Nat):Int)=m:=by omega
 refine⟨i+m.toNat,(a-Zz h i)%h.C.pw, ?_,l,n, ?_, ?_⟩;grind;grind[Zz];by_cases q:m.toNat=0;rw[q,Xc];omega;grind
theorem CE.keptw{i}{x a:Int}(f:x∈T i)(hs:(w.heap.P.getD i X).S≠w.heap.S)(b:x<=a)(d:a<=x+Zl h.W x):Z1 l5 a=Z1 l4 a:=by obtain⟨j,o,g,k,l,e,k0,k1⟩:=c.pgof f b d;rw[e,c.fr j o g k l,if_neg];grind[C8]
theorem CE.gonew{i}{x a:Int}(f:x∈T i)(hs:(w.heap.P.getD i X).S=w.heap.S)(b:x<=a)(d:a<=x+Zl h.W x):(Z1 l5 a).1=0:=by obtain⟨j,o,g,l,m,e,k,k1⟩:=c.pgof f b d;rw[e,c.fr j o g l m,if_pos ⟨k,k1.trans hs⟩]
theorem CE.seen4{x a:Int}(b:x∈w.Q)(h1:x<=a)(h2:a<=x+Zl w.heap.W x):Z1 l4 a=Z1 w.heap.W a:=by rcases c.f3 a with q|⟨y,d,g,q2,q3,q4⟩;exact q;exfalso;have f:x≠y:=λe=>g.2 (e▸b);have s1:=c.i.s x (Ln _ b) y (La _ d);have s2:=c.i.s y (La _ d) x (Ln _ b);omega
theorem CE.takenw{i:Nat}{a:Int}(hi:(i:Int)∈w.T)(h1:Zz h i<=a)(h2:a<Zz h i+h.C.pw):Z1 l5 a=Z1 l4 a:=by have t:=c.k.tk i hi;have:=c.fr i (a-Zz h i) t.1 oq oq;rw[show Zz h i+(a-Zz h i)=a by omega,if_neg (c.gone0 hi)]at this;exact this
theorem CE.seen{x a:Int}(g:x∈w.Q)(f:x<=a)(d:a<=x+Zl w.heap.W x):Z1 l5 a=Z1 w.heap.W a:=by
 rw[<-c.seen4 g f d];rcases c.k.q x g with⟨i,e,b,i3,k⟩|⟨i,e,b⟩;have j:(Z1 w.heap.W x).1=(Z1 h.W x).1:=by(rcases c.k.hd i x b with q|q;exact q;omega)
 rw[(E6 j).2.1]at d;exact c.keptw b k f d;have t:=c.k.tk i e;have m:=GV t.2.2.2.2.2.1 b;exact c.takenw e oq oq
theorem CE.where'{x:Int}(a:x∈w.Q):∃i,x∈tE T tq w i:=by rcases c.k.q x a with⟨i,b,d,i3,i4⟩|⟨i,b,d⟩;exact⟨i,by grind[tE]⟩;exact⟨i,by grind[tE]⟩
theorem CE.seenK{x:Int}(e:x∈w.Q):Cr w.heap.W x≠0/\ET w.heap.W x:=by
 rcases c.k.q x e with⟨i,b,a,i3,i4⟩|⟨i,b,a⟩;have d:(Z1 w.heap.W x).1=(Z1 h.W x).1:=by(rcases c.k.hd i x a with q|q;exact q;omega)
 have o:=E6 d;exact⟨by omega,o.1 (c.g.on a).2.2.2.2.2.1⟩;have t:=c.k.tk i b;exact⟨(t.2.2.2.2.2.2 x a).2.1,(GV t.2.2.2.2.2.1 a).1⟩
theorem CE.kept{i}{x:Int}(a:x∈T i)(g:(i:Int)∉w.T)(hs:(w.heap.P.getD i X).S≠w.heap.S):(Z1 w.heap.W x).1=(Z1 h.W x).1/\ET l5 x/\Zl l5 x=Zl h.W x/\(x∉w.Q->Cr l5 x=0/\(h.P.getD i X).K=1/\(Cr h.W x≠0->x∈w.old/\IH w x)):=by
 have f:(Z1 w.heap.W x).1=(Z1 h.W x).1:=by(rcases c.k.hd i x a with q|q;exact q;omega)
 have u:=c.g.on a;have t:=E6 f;have rx:=Bm h.W x;refine⟨f, ?_⟩;by_cases k:x∈w.Q;have e:=E6 (congrArg Prod.fst (c.seen k (Ls _) oq));grind;have k1:(h.P.getD i X).K=1:=by(rcases u.2.1 with q|q;exact q;have:=c.k.lg i q hs;grind)
 have m:Z1 l5 x=Z1 l4 x:=c.keptw a hs (Ls _) oq;by_cases p:Cr h.W x=0;have e4:Z1 l4 x=Z1 w.heap.W x:=by
  rcases c.f3 x with q|⟨y,s,z,q2,q3,q4⟩;exact q;exfalso;obtain⟨j,b,o⟩:=(c.k.old y).1 s;by_cases e:y=x;grind;have sj:(Z1 w.heap.W y).1=(Z1 h.W y).1:=by(rcases c.k.hd j y b with q|q;exact q;exfalso;have l:=z.1;unfold ZH at l;rw[c.k.c,c.g.ofx b]at l;grind)
  rw[(E6 sj).2.1]at q3;have:=c.g.sep b a oq;omega
 grind[E6];have r:x∈w.old:=(c.k.old x).2 ⟨i,a,p⟩;have n:IH w x:=by(refine⟨?_,k⟩;have pg:=c.k.pg i g;have pl:=c.k.pl;unfold ZH;rw[c.k.c,c.g.ofx a];simp only[decide_eq_true_eq,Ld];exact⟨by omega,by omega,by omega,hs,g⟩)
 have v:=c.f4 x r n x (Ls _) oq;rw[NZ,if_pos rfl,t.2.1]at v;rw[<-m]at v;have d:=Z4p rx;grind[ET,Zl,Cr,Bg]
theorem CE.start{i}{x:Int}(f:x∈tE T tq w i):ET l5 x/\(Cr l5 x≠0↔x∈w.Q):=by
 have sq:x∈w.Q->ET l5 x/\Cr l5 x≠0:=λa=>by(have e:=E6 (congrArg Prod.fst (c.seen a (Ls _) (by have:=Bm w.heap.W x;omega)));have s:=c.seenK a;grind)
 rcases c.mem f with⟨b,d⟩|⟨b,d,g⟩;have a:=((c.k.tk i b).2.2.2.2.2.2 x d).1;grind;have kk:=c.kept g b d;grind
theorem CE.good{b:Int}(hp:Z8 ⟨w.heap.C,l5,w.heap.P.map (Bv w.heap.S),1-w.heap.S,b⟩=Y):Gd ⟨w.heap.C,l5,w.heap.P.map (Bv w.heap.S),1-w.heap.S,b⟩ (tE T tq w):=by
 have g:=c.g;have hcc:=c.k.c;have hpl:=c.k.pl;have hs:=c.s;have po:=B1 g.p;have hgt:∀i,i<h.P.length->(w.heap.P.map (Bv w.heap.S)).getD i X=Bv w.heap.S (w.heap.P.getD i X):=λi hi=>by(grind)
 have hng:∀i,i<h.P.length->((w.heap.P.map (Bv w.heap.S)).getD i X).K≠0->¬ C8 w.heap.S (w.heap.P.getD i X)/\(w.heap.P.map (Bv w.heap.S)).getD i X=w.heap.P.getD i X:=by grind[Bv]
 have hb:∀i,Zz ⟨w.heap.C,l5,w.heap.P.map (Bv w.heap.S),1-w.heap.S,b⟩ i=Zz h i:=λi=>by grind[Zz]
 have hk5:∀x,x∈w.Q->ET w.heap.W x->ET l5 x/\Zl l5 x=Zl w.heap.W x/\Cr l5 x=Cr w.heap.W x/\Bg l5 x=Bg w.heap.W x:=λx hq ho=>by(have e:=E6 (congrArg Prod.fst (c.seen hq (Ls _) (by have:=Bm w.heap.W x;omega)));grind)
 have hkept:∀i,i<h.P.length->(i:Int)∉w.T->((w.heap.P.map (Bv w.heap.S)).getD i X).K≠0->(w.heap.P.getD i X).S≠w.heap.S/\(h.P.getD i X).K=((w.heap.P.map (Bv w.heap.S)).getD i X).K/\(h.P.getD i X).U=((w.heap.P.map (Bv w.heap.S)).getD i X).U/\(h.P.getD i X).N=((w.heap.P.map (Bv w.heap.S)).getD i X).N:=by(intro i hi hn hk;have n:=hng i hi hk;have pg:=c.k.pg i hn;rw[n.2]at hk⊢;refine⟨λq=>n.1 ⟨hk,q⟩,pg.1.symm,pg.2.1.symm,pg.2.2.symm⟩)
 refine⟨hp, ?_, ?_, ?_, ?_, ?_, ?_, ?_⟩;intro i hi hk;simp only[LG]at hi hk⊢;have n:=hng i oq hk;rw[n.2]at hk⊢;have:=(c.pt.b i hi).s;grind[C8];intro i hi hk;simp only[LG]at hi hk⊢;rw[hb];have n:=hng i oq oq;by_cases q:(i:Int)∈w.T;have t:=c.k.tk i q;rw[tE,if_pos q,n.2,hcc];refine⟨NJ t.2.2.2.2.2.1 λx hx=>?_,λx hx=>?_⟩;have e:=hk5 x (t.2.2.2.2.2.2 x hx).1 (GV t.2.2.2.2.2.1 hx).1;grind;have e:=hk5 x (t.2.2.2.2.2.2 x hx).1 (GV t.2.2.2.2.2.1 hx).1;grind;have kp:=hkept i oq q oq;rw[tE,if_neg q,if_pos kp.1,<-kp.2.2.1,hcc];have t:=g.t1 i oq oq;refine⟨NJ t.1 λx hx=>?_,λx hx=>?_⟩;have e:=c.kept hx q kp.1;grind;rw[(c.kept hx q kp.1).2.2.1];exact t.2 x hx;intro i hi hk;simp only[LG]at hi hk⊢;rw[hb];have n:=hng i oq oq;by_cases q:(i:Int)∈w.T;have t:=c.k.tk i q;grind;have kp:=hkept i oq q oq;have t:=g.t2 i oq oq;have hx:Zz h i∈T i:=by grind
 have e:=c.kept hx q kp.1;have hq:=c.k.lg i oq kp.1;have st:=c.start (i:=i) (x:=Zz h i) (by grind[tE]);grind[tE];intro i x hx;simp only[LG];rcases c.mem hx with⟨q1,q2⟩|⟨q1,q2,q3⟩;have t:=c.k.tk i q1;have:Bv w.heap.S (w.heap.P.getD i X)=w.heap.P.getD i X:=by rw[Bv,if_neg (c.gone0 q1)]
 grind;have t:=g.t0 i x q3;have pg:=c.k.pg i q1;have:Bv w.heap.S (w.heap.P.getD i X)=w.heap.P.getD i X:=by rw[Bv,if_neg (λq=>q2 q.2)]
 grind;intro a ha;simp only at ha⊢;have h4:(Z1 l4 a).1≠0:=by
  have hr:4096<=a/\a<4096+l5.length:=by grind[Z1]
  have hl5:=c.n5;have hL:=c.i.L;rw[hcc]at hL;have h0:0<=(a-4096)/h.C.pw:=LR oq oq;have h3:=LC (a-4096) h.C.pw;have h5:=LB (a-4096) (b:=h.C.pw) oq;have h6:=Lr (a-4096) (b:=h.C.pw) oq;have h7:(a-4096)/h.C.pw<h.C.pg:=LQ oq (by grind);rw[Lm]at h3;have f:=c.fr ((a-4096)/h.C.pw).toNat ((a-4096)%h.C.pw) oq h5 h6;have ea:Zz h ((a-4096)/h.C.pw).toNat+(a-4096)%h.C.pw=a:=by grind[Zz,LV]
  rw[ea]at f;rw[f]at ha;split at ha;simp at ha;exact ha
 have hks:∀i x,x∈T i->x<=a->a<=x+Zl h.W x->(i:Int)∉w.T/\(w.heap.P.getD i X).S≠w.heap.S:=λi x hx h1 h2 =>
  ⟨c.k.nt g hx,λq=>ha (c.gonew hx q h1 h2)⟩
 have cov:∀i x,x∈T i->x<=a->a<=x+Zl h.W x->(x∉w.Q->a=x)->∃i x,x∈tE T tq w i/\x<=a/\a<x+EJ l5 x:=by
  intro i x hx h1 h2 h3;obtain⟨n1,n2⟩:=hks i x hx h1 h2;have hm:x∈tE T tq w i:=by grind[tE]
  have kk:=c.kept hx n1 n2;have r:=Bm l5 x;refine⟨i,x,hm,h1, ?_⟩;by_cases q:x∈w.Q;rw[EJ,if_neg ((c.start hm).2.2 q),kk.2.2.1];omega;grind[EJ]
 rcases c.f3 a with q|⟨x,hx,q1,q2,q3,q4⟩;rw[q]at h4;rcases c.k.dt a h4 with⟨i,x,hx,h1,h2⟩|⟨i,i1,i2,i3⟩;have hkp:EJ h.W x<=Zl h.W x+1:=by(have:=Bm h.W x;unfold EJ;omega)
 have hh:=hks i x hx h1 oq;refine cov i x hx h1 oq λhq=>?_;have kk:=(c.kept hx hh.1 hh.2).2.2.2 hq;by_cases hk:Cr h.W x=0;grind[EJ];have fl:=kk.2.2 hk;have oh:=E6 (c.kept hx hh.1 hh.2).1;have v:=c.f4 x fl.1 fl.2 a h1 oq;grind[NZ];have t:=c.k.tk i i1;obtain⟨x,hx,x1,x2⟩:=Z69 t.2.2.2.2.2.1 i2 i3;have hm:x∈tE T tq w i:=by grind[tE]
 have hq:=(t.2.2.2.2.2.2 x hx).1;have e:=hk5 x hq (GV t.2.2.2.2.2.1 hx).1;grind[EJ];obtain⟨i,hi,hk⟩:=(c.k.old x).1 hx;have sj:(Z1 w.heap.W x).1=(Z1 h.W x).1:=by(rcases c.k.hd i x hi with q|q;exact q;exfalso;have o2:=q1.1;unfold ZH at o2;rw[hcc,g.ofx hi]at o2;grind)
 rw[(E6 sj).2.1]at q3;grind[NZ];intro i x m hx hk h0 h1 hpt;simp only at hk h1 hpt⊢;have hq:=(c.start hx).2.1 hk;have sk:=c.seenK hq;have e:=hk5 x hq sk.2;rw[e.2.1]at h1;rw[e.2.2.2]at hpt;rw[c.seen hq (a:=x+1+m) oq oq];obtain⟨n,n1,n2⟩:=Bs.1 hq;have sd:=(c.sd (x+1+m) ⟨n,m,by rw[c.sc];simpa using n1,by rw[n2];exact Zd4 h0 h1 hpt,by rw[n2]⟩).2;rcases sd with q|q;exact Z q;obtain⟨j,hj⟩:=c.where' q;exact M ⟨j,hj,(c.start hj).2.2 q⟩;have:crowd (w.heap.P.map (Bv w.heap.S))<=crowd h.P:=by(refine Tt qo λi hi k1 k2=>?_;by_cases q:(i:Int)∈w.T;have t:=c.k.tk i q;grind;grind)
 have g2:=g.cr;grind
end
def Tr{B:Int}(hB:0<=B){h T}(g:Gd h T){s k}(m:Zx h.W)(hb:∀p∈h.P,p.N<=B)(e1:(rootsF (Zr h) s).2.2=0)(e:(Bu (rootsF (Zr h) s).1).2=0) :∃r,CE h T r (ZA h s) (C4 h s k).heap.W (H6 (C4 h s k)).heap.W/\Eo (Bz h s k)=⟨(ZA h s).heap.C,(H6 (C4 h s k)).heap.W,(ZA h s).heap.P.map (Bv (ZA h s).heap.S),1-(ZA h s).heap.S,(Eo (Bz h s k)).B⟩:=by
 have f:=g.p;have ck:=cOk h s k m f e1 e;have pr:=Z32 hB m f hb e1 e;have sd:=ZgP hB m f hb e1 e;obtain⟨r,n⟩:=Zdo g m e1 e;obtain⟨g1,g2,g3,g4,g5⟩:=ck.h4;have po:=B1 f;obtain⟨a1,d,t,u,a5,a6,a7,a8⟩:=Sc (ZA h s) k k.length;have a1:(Cv h s k).heap=(ZA h s).heap:=a1;have d:(Cv h s k).old=(ZA h s).old:=d;have t:(Cv h s k).T=(ZA h s).T:=t;have u:(Cv h s k).Q=(ZA h s).Q:=u;have v:FL (Cv h s k) (C4 h s k).heap.W (Cv h s k).old.length:=Ta ck.f3 ck.i3 (Cv h s k).old.length (Lh _);have tf:∀x,IH (Cv h s k) x↔IH (ZA h s) x:=λx=>by(unfold IH ZH;rw[a1,t,u])
 have w:=n.c;have y:=n.pl;have b:=n.wl;have w4:(C4 h s k).heap.W.length=h.W.length:=by(have:=v.l;rw[a1]at this;exact this.trans b)
 have fw:=Z4A (c:=h.C) (s:=(ZA h s).heap.S) (l:=(ZA h s).heap.P) (ws:=(C4 h s k).heap.W) oq (by rw[w4,y,po.2.2.2.2.2.2.2.1];exact po.2.2.2.2.2.1) (ZA h s).heap.P.length (Lh _);have e5:(H6 (C4 h s k)).heap.W=Ee h.C.pw (ZA h s).heap.S (ZA h s).heap.P (C4 h s k).heap.W (ZA h s).heap.P.length:=by(simp only[H6,g1,g2,g3])
 have ce:CE h T r (ZA h s) (C4 h s k).heap.W (H6 (C4 h s k)).heap.W:=by(refine⟨g,n,ck.i2,ck.w2.sp,pr.tab.pt,pr.tab.tk,sd.1,sd.2, ?_, ?_, ?_, ?_, ?_⟩;intro a;rcases v.s a with q|⟨x,z,q1,q2,q3,q4⟩;refine Z ?_;rw[a1]at q;exact q;refine M ⟨x,d▸z,(tf x).1 q1,q2, ?_, ?_⟩;rw[a1]at q3;exact q3;rw[a1]at q4;exact q4;intro x z hf a h1 h2;obtain⟨j,j1,j2⟩:=Bs.1 z;have:=v.f j (by rw[d];exact j1);rw[d,a1,j2]at this;exact this ((tf x).2 hf) a h1 h2;rw[w4,b];rw[e5,fw.1,w4,b];intro i o hi h0 ho;have:=fw.2 i o oq h0 ho;rw[e5];show Z1 _ (4096+(i:Int)*h.C.pw+o)=_;rw[this];by_cases q:C8 (ZA h s).heap.S ((ZA h s).heap.P.getD i X);rw[if_pos ⟨by omega,q⟩,if_pos q];rw[if_neg (λc=>q c.2),if_neg q];rfl)
 have eh:Eo (Bz h s k)=⟨(ZA h s).heap.C,(H6 (C4 h s k)).heap.W,(ZA h s).heap.P.map (Bv (ZA h s).heap.S),1-(ZA h s).heap.S,(Eo (Bz h s k)).B⟩:=by(unfold Eo Bz;simp only[H6,g1,g2,g3,w])
 exact⟨r,ce,eh⟩
def Zc1{B:Int}(hB:0<=B){h T}(g:Gd h T){s k}(hw:Zx h.W)(hb:∀p∈h.P,p.N<=B)(hs:GN h T s)(hk:GN h T k)(e:(collectF h s k).2.2.2.2=0) :∃T',Gd (collectF h s k).1 T'/\GN (collectF h s k).1 T' (collectF h s k).2.1/\GN (collectF h s k).1 T' (collectF h s k).2.2.1:=by
 have hp:=g.p;have hr:=g.refers hs;have hr':=g.refers hk;have pr1:=(Z28 hB hw hb e).p1;by_cases e1:(rootsF (Zr h) s).2.2=0;by_cases e2:(Bu (rootsF (Zr h) s).1).2=0;have e7:collectF h s k=(Eo (Bz h s k),(rootsF (Zr h) s).2.1,Eg (ZA h s) k k.length,(Bz h s k).rep,0):=by rw[collectF,if_pos hp,if_pos ⟨hr,hr'⟩,if_pos e1,if_pos e2]
 rw[e7]at pr1⊢;have pr:=Z32 hB hw hp hb e1 e2;obtain⟨tq,ce,eh⟩:=Tr hB g hw hb e1 e2 (k:=k);have ki:=ce.k;rw[eh]at pr1⊢;have gd:=ce.good pr1;have seen:∀x,NK (ZA h s) x->x=0\/Ob ⟨(ZA h s).heap.C,(H6 (C4 h s k)).heap.W,(ZA h s).heap.P.map (Bv (ZA h s).heap.S),1-(ZA h s).heap.S,(Eo (Bz h s k)).B⟩ (tE T tq (ZA h s)) x:=by(intro x hx;rcases hx with q|q;exact Z q;obtain⟨i,hi⟩:=ce.where' q;exact M ⟨i,hi,(ce.start hi).2.2 q⟩)
 refine⟨tE T tq (ZA h s),gd,λx hx=>seen x ?_,λx hx=>seen x ?_⟩;have hbg:=NP hw hp;have hib:=Rc hp;have pr0:PR B (Zr h):=⟨Oe hp hb,Z3u hp⟩;have hall:=RL (roots:=s) hbg hib e1;have ax:=Z8s hall.1 hall.2.1 e2;have:NK (rootsF (Zr h) s).1 x:=by
  unfold rootsF at e1 hx⊢;cases hbb:(Lc s.length).find? (λk=>Lz (CV (Zr h) s k≠0))with
  |none =>
   rw[hbb]at hx;have h0:∀j,j<s.length->CV (Zr h) s j=0:=λj hj=>by(have:=Le.1 hbb j (Lb.2 hj);simpa using this)
   exact Z40 hB hbg hib pr0 s.length h0 x hx
  |some k =>rw[hbb]at e1;simp only at e1;have:=(LD.1 hbb).1;simp[e1]at this
 rcases this with q|q;exact Z q;exact M (ax.2.q x q);have:∀i,i<=k.length->∀x∈Eg (ZA h s) k i,NK (ZA h s) x:=by
  intro i;induction i with
  |zero=>intro _ x hx;simp[Eg]at hx
  |succ i ih =>
   intro hi' x hx;simp only[Eg,Lg,Lj]at hx;rcases hx with hx|rfl;exact ih oq x hx;have hsi:=Sc (ZA h s) k i;unfold Ip;split;exact Z rfl;rename_i hne;unfold C7;rw[hsi.2.2.2.1,hsi.1];split;rename_i hq;exact M hq;cases ht:(ZE (Z1 (ZA h s).heap.W (k.getD i X)).1).2 with
   |true =>refine M (pr.rt.t _ ?_ ht);rw[ki.old];rcases hk _ (Bs.2 ⟨i,by omega,rfl⟩)with q|q;exact absurd q hne;exact q
   |false =>refine Z ?_;unfold ZE at ht⊢;split at ht;simp at ht;rename_i hcc2;rw[if_neg hcc2]
 exact this k.length (Lh _) x hx;rw[collectF,if_pos hp,if_pos ⟨hr,hr'⟩,if_pos e1,if_neg e2]at e;exact absurd e e2;rw[collectF,if_pos hp,if_pos ⟨hr,hr'⟩,if_neg e1]at e;exact absurd e e1
def WG.collect{w n}(h:WG w)(a:C2 w n):WG w.collect:=by unfold Zj.collect;split;rename_i e;obtain⟨T,g,b,c⟩:=h;exact Zc1 (B:=n) oq g a.W (λp d=>(a.pin_mem p d).2) b c e;exact h
def WG.step{w n}(h:WG w)(a:C2 w n)(b:n<=1000000) t:WG (w.step t):=by
 unfold Zj.step;repeat' split
 exact h.put a.W (Od _ _);exact h.link a b _;exact h.pin a b _;exact h.drop _;exact h.collect a;exact h.dup _
def Z1L{w n}(h:WG w)(a:C2 w n) t:∀k,n+k<=1000000->WG (G3 w t k).1|0,_=>h|k+1,hk=>(Z1L h a t k oq).step (DI a t k oq) oq _
def Z9p l:WG (ZP l):=by
 have e:=Z0o l;have hl:(((EK l).step 4).step 5).l.length<=300:=by rw[e.1];simp;omega
 have hk:=MG (EK l).empty (((EK l).step 4).step 5) oq;exact Z1L (Z3s (EK l)) (PM (EK l)) _ _ oq
theorem IM(l:List Z0):B8 BF l=Bj l:=by
 rw[EY];unfold Bj;have:∀n,((Lc n).map λi=>BF (l.getD i X)).sum=Eu l n:=by
  intro n;induction n with|zero=>simp[Eu]|succ n ih =>grind[Mj,LX,Eu,BF]
 exact this _
def Z7z{pw:Int}:∀{l:List Z0},(∀p∈l,BZ p+EE p*pw<=BF p*pw)->B8 BZ l+B8 EE l*pw<=B8 BF l*pw
 |[],_=>by simp[B8]
 |x::l,h=>by
  have a:=Z7z (l:=l) λp c=>h p (Lu _ c);have b:=h x pq;simp only[B8,LH,LI,LZ]at a b⊢;omega
def Z9m{h:Heap}(b:Z8 h=Y):0<=B8 BZ h.P:=Nh λp c=>by
 obtain⟨j,a,rfl⟩:=LM c;have pp:=Ea b a;grind[BZ]
def Zgo l:0<=B8 EE l:=Nh λp _=>by grind[EE]
def MV.few{h:Heap}(a:Z8 h=Y)(b:(Bj h.P:Int)<=h.C.pg/4):MV h:=by
 have po:=B1 a;rw[<-IM]at b;have u0:=Z9m a;have l0:=Zgo h.P;refine⟨?_,0,by omega,by omega⟩;have:=Z7z (pw:=h.C.pw) (l:=h.P) λp d=>by(obtain⟨j,c,rfl⟩:=LM d;have pp:=Ea a c;grind[BZ,EE,BF])
 have:=Lw b (show 0<=h.C.pw by omega);omega
def MV.same{h h':Heap}(m:MV h)(c:h'.C=h.C)(hl:h'.P.length=h.P.length)(hk:∀i,i<h.P.length->(h'.P.getD i X).K=(h.P.getD i X).K/\(h'.P.getD i X).U=(h.P.getD i X).U):MV h':=by
 have a:B8 BZ h'.P=B8 BZ h.P:=Sd BZ hl λi hi=>by grind[BZ]
 have d:B8 BF h'.P=B8 BF h.P:=Sd BF hl λi hi=>by grind[BF]
 have b:B8 EE h'.P=B8 EE h.P:=Sd EE hl λi hi=>by grind[EE]
 refine⟨by rw[a,b,c];exact m.v, ?_⟩;rw[a,d,b,c];exact m.n
def Z50{l m:List Z0}{i:Nat}(h:i+m.length<=l.length):∀k,k<=m.length->B8 BF (wr l m i k)<=B8 BF l+k
 |0,_=>by rw[DK];simp
 |k+1,hk=>by
  have ih:=Z50 h k oq;have e:=TC h oq (X:Z0) (k:=k);rw[<-e];have s:=D3 BF (m.getD k X) (wr l m i k) (i+k) (by grind[IA]);grind[BF]
def ZgL{l:List Z0}{i k:Nat}{p q:Z0}(hk:1<=k)(h:i+k<=l.length)(hq:q.K≠0):B8 BF (ZK l i k p q)<=B8 BF l+k:=by
 have a:i+(Ll k q).length<=l.length:=by grind
 have w:=Z50 a k pq;have s:=D3 BF p (wr l (Ll k q) i k) i (by grind[IA]);grind[Ac,BF,ZK]
def ZbB{h:Heap}{hd:Zy}(hp:Z8 h=Y)(hc:(Ch h hd).2.2=Y):(Bj (Ch h hd).1.P:Int)<=h.C.pg/4:=by
 have po:=B1 hp;have hv:=BD.1 po.1;have li:CW h.C=h.C.pg/4:=by grind[CW]
 unfold Ch at hc⊢;split at hc
 .rename_i c;rw[if_pos c];unfold BH at hc⊢;split at hc
  .rename_i c2;rw[if_pos c2];have ff:=HS c2.1;rw[<-IM];simp only;have e:(GE h.C h.P (first h.P (need h.C (Z5 hd))) h.S (Z5 hd)).1=ZK h.P (first h.P (need h.C (Z5 hd))).toNat (need h.C (Z5 hd)).toNat ⟨2,h.S,Z5 hd,0⟩ ⟨3,h.S,0,0⟩:=by grind[GE,EG]
   rw[e];have:=ZgL (l:=h.P) (i:=(first h.P (need h.C (Z5 hd))).toNat) (k:=(need h.C (Z5 hd)).toNat) (p:=⟨2,h.S,Z5 hd,0⟩) (q:=⟨3,h.S,0,0⟩) oq oq pq;grind[IM]
  .simp at hc
 .rename_i c;rw[if_neg c];unfold Bf at hc⊢;split at hc
  .rename_i c2;rw[if_pos c2];rw[<-IM];simp only;have e:B8 BF (Cs h.P h.B.toNat (Z5 hd))=B8 BF h.P:=Sd BF (by simp[Cs]) λi hi=>by
    rw[RU];by_cases hb:h.B.toNat<h.P.length
    .rw[Cn hb];split
     .rename_i q;rw[<-q];rfl
     .rfl
    grind
   rw[e,IM];have:=c2.2.2.2;omega
  .rename_i c2;rw[if_neg c2];split at hc
   .rename_i c3;rw[if_pos c3];obtain⟨g1,g2,g3⟩:=A5 po.2.2.2.2.2.2.2.2 c3.1 (Z5 hd);rw[<-IM];simp only;rw[g1];have s:=D3 BF ⟨1,h.S,Z5 hd,0⟩ h.P (first h.P 1).toNat g3;grind[BF,IM]
   .simp at hc
def MV.put{w:Zj}(m:MV w.heap)(b:Zx w.heap.W){hd:Zy}(a:0<=hd.map/\hd.map<=4294967295):MV (w.put hd).heap:=by unfold Zj.put;split;rename_i e;obtain⟨k1,k2,c,d,k5,g,h,k8⟩:=O1 b a e;have f:=ZbB k1 d;refine MV.few h ?_;rw[g];simp only;rw[c.c];exact f;exact m
def MV.setf{h}{a i v:Int}(m:MV h)(c:Zx h.W)(b:0<=v/\v<=18446744073709551615)(e:(Zp h a).2=0)(hi:0<=i/\i<(Zp h a).1.length):MV (CZ h a i v).1:=by obtain⟨s1,s2,s3⟩:=Z1d c b (a:=a) (i:=i) e hi;rw[s1];exact m.same rfl rfl λ_ _=>⟨rfl,rfl⟩
def MV.link{w:Zj}{n}(m:MV w.heap)(b:C2 w n)(c:n<=1000000) t:MV (w.link t).heap:=by
 unfold Zj.link;split;rename_i a;have e:=b.wm c;have f:=Gx (w.pickT (w.pickT t)) (n:=8) dd;have gg:=NG a.1;have hi:0<=Hi w t/\Hi w t<(Zp w.heap (w.pick t)).1.length:=by(unfold Hi;rw[LU f.1];exact⟨LB _ oq,Lr _ oq⟩)
 have d:0<=Hu w t/\Hu w t<=18446744073709551615:=by(unfold Hu;split;exact Ax e _;have:=Gx ((w.pickT (w.pickT t)).step 8) (n:=1048576) dd;omega)
 exact m.setf b.W d a.1 hi;exact m
def MV.pinB{w:Zj}(m:MV w.heap) i d:MV (Go.Proofs.YtgedmeaemofdkaaGreat.pinB w i d).heap:=by refine m.same rfl (by simp[Go.Proofs.YtgedmeaemofdkaaGreat.pinB]) λj hj=>?_;simp only[Go.Proofs.YtgedmeaemofdkaaGreat.pinB];by_cases hi:i<w.heap.P.length;rw[Cn hi];split;rename_i q;subst q;exact⟨rfl,rfl⟩;exact⟨rfl,rfl⟩;rw[List.set_eq_of_length_le oq];exact⟨rfl,rfl⟩
def MV.pin{w:Zj}(m:MV w.heap) t:MV (w.pin t).heap:=by
 unfold Zj.pin;repeat' split
 exact m.pinB _ _;exact m.pinB _ _;all_goals omega
def MV.drop{w:Zj}(m:MV w.heap) t:MV (w.drop t).heap:=by grind[Zj.drop]
def MI.in1{h T u}(g:Gd h T){w}(m:MI h T w)(k:KI h T u w)(t:MV h)(d:B7 w)(hi:Bt w){q j:Int}(f:q∈w.Q)(hj:0<=j/\j<Zl w.heap.W q)(e:(w.fwd (Z1 w.heap.W (q+1+j)).1).2.2=0):MI h T (w.in1 (q+1+j)):=by
 obtain⟨v,s⟩:=k.fwd g d hi _ e;have a:=m.fwd g k d t hi e;obtain⟨r,l⟩:=R2 d hi _ e;have b:=l.q q f;have o:=l.l q f;have hr:=r.r q (Ln _ b);have c:4096<=q+1+j/\q+1+j<4096+(w.fwd (Z1 w.heap.W (q+1+j)).1).1.heap.W.length:=by omega
 obtain⟨n,f2,f3⟩:=s.field g b (j:=j) oq;have er:HG h T (w.in1 (q+1+j))<=HG h T (w.fwd (Z1 w.heap.W (q+1+j)).1).1:=by(refine HZ λi _=>?_;unfold Nq;split;refine HZ λx p=>?_;unfold wtW;rw[show(w.in1 (q+1+j)).heap.W=(BQ (w.fwd (Z1 w.heap.W (q+1+j)).1).1.heap.W (q+1+j) (w.fwd (Z1 w.heap.W (q+1+j)).1).2.1).1 from rfl,Gg c (n i x p)];omega;omega)
 have m3:=a.m3;exact⟨a.m0,a.m1,a.m2,by show B8 BZ (w.fwd (Z1 w.heap.W (q+1+j)).1).1.heap.P+_<=_;omega,a.m4,a.m5⟩
def Zhj{h T}(g:Gd h T)(i:MV h){s}(a:Zx h.W)(e:(rootsF (Zr h) s).2.2=0)(l:(Bu (rootsF (Zr h) s).1).2=0):(∃b,KI h T b (ZA h s))/\MI h T (ZA h s):=
 AW (λw=>(∃b,KI h T b w)/\MI h T w) (λw r a hi ⟨⟨_,k⟩,m⟩ e=>⟨k.fwd g a hi r e,m.fwd g k a i hi e⟩) (λw q j a hi ⟨⟨_,k⟩,m⟩ f c d e=>⟨k.in1 g a hi f ⟨c,d⟩ e,m.in1 g k i a hi f ⟨c,d⟩ e⟩)
  (λw n ⟨⟨b,k⟩,m⟩=>⟨⟨b,k.c,k.sp,k.old,k.pl,k.wl,k.pg,k.tk,k.tk0,k.q,k.hd,k.dt,k.lg⟩,⟨m.m0,m.m1,m.m2,m.m3,m.m4,m.m5⟩⟩) a g.p ⟨⟨_,KI.begin g⟩,MI.begin g⟩ e l
def Nx{α:Type}{f g:α->Int}:∀l:List α,(l.map λx=>f x+g x).sum=(l.map f).sum+(l.map g).sum
 |[]=>by simp
 |x::l=>by
  simp only[LH,LI,Nx l];omega
def crP(p:Z0):Int:=if p.K=1/\0<p.N then 1 else 0
def Z7u(l:List Z0):B8 crP l=crowd l:=by
 rw[EY];unfold crowd;have:∀n,((Lc n).map λi=>crP (l.getD i X)).sum=Bd l n:=by
  intro n;induction n with|zero=>simp[Bd]|succ n ih =>grind[LX,Bd,crP]
 exact this _
def TI{f}{q:Z0->Z0}(l:List Z0):B8 f (l.map q)=((Lc l.length).map λi=>f (q (l.getD i X))).sum:=by grind[EY,List.map_congr_left]
def MI.end{h T tq}(g:Gd h T){w}(m:MI h T w)(k:KI h T tq w)(mv:MV h)(n:B7 w)(ts:∀x∈w.T,(w.heap.P.getD x.toNat X).S=1-w.heap.S){h':Heap}(o:h'.C=h.C)(f:h'.P=w.heap.P.map (Bv w.heap.S)):MV h':=by
 have l:=m.m0.1;have sp:=n.sp;have po:=B1 g.p;have d:∀i,i<h.P.length->((i:Int)∈w.T/\(h.P.getD i X).K=0/\(w.heap.P.getD i X).K=1/\(w.heap.P.getD i X).S=1-w.heap.S)\/((w.heap.P.getD i X).K=(h.P.getD i X).K/\(w.heap.P.getD i X).U=(h.P.getD i X).U/\((h.P.getD i X).K=1->((w.heap.P.getD i X).S=w.heap.S↔¬ 0<(h.P.getD i X).N))):=by(intro i hi;by_cases c:(i:Int)∈w.T;have t:=k.tk i c;grind;have q:=k.pg i c;exact M ⟨q.1,q.2.1,m.m5 i hi⟩)
 have j:∀i,i<h.P.length->0<=(w.heap.P.getD i X).U/\0<=(h.P.getD i X).U:=λi hi=>by(have a:=n.us i oq;have b:=Ea g.p hi;omega)
 have q0:(⟨0,0,0,0⟩:Z0).K=0:=rfl;have e1:B8 BZ h'.P+B8 unP h.P<=B8 BZ w.heap.P:=by(rw[f,TI,EY unP,EY BZ,<-l,<-Nx];refine HZ λi hi=>?_;have hi:=Lb.1 hi;have p:=d i oq;have u:=j i oq;by_cases e:C8 w.heap.S (w.heap.P.getD i X);grind[Bv,C8,BZ,unP];grind[Bv,C8,unP])
 have e2:B8 BZ w.heap.P<=B8 BZ h'.P+B8 BZ h.P:=by(rw[f,TI,EY BZ h.P,EY BZ,<-l,<-Nx];refine HZ λi hi=>?_;have hi:=Lb.1 hi;have p:=d i oq;have u:=j i oq;by_cases e:C8 w.heap.S (w.heap.P.getD i X);grind[Bv,C8,BZ];grind[Bv,BZ])
 have y:B8 EE h'.P<=B8 EE h.P:=by(rw[f,TI,EY EE h.P,<-l];refine HZ λi hi=>?_;have hi:=Lb.1 hi;have p:=d i oq;by_cases e:C8 w.heap.S (w.heap.P.getD i X);rw[Bv,if_pos e];unfold C8 at e;unfold EE;omega;rw[Bv,if_neg e];unfold C8 at e;grind[EE])
 have e4:B8 BF h'.P+B8 BF h.P<=B8 BF w.heap.P+(B8 EE h'.P+B8 crP h.P):=by
  rw[f,TI,TI,EY BF h.P,EY BF,EY crP,<-l,<-Nx,<-Nx,<-Nx];refine HZ λi hi=>?_;have hi:=Lb.1 hi;have p:=d i oq;have kr:0<=(h.P.getD i X).K/\(h.P.getD i X).K<=3:=by(have:=Ea g.p (show i<h.P.length by omega);omega)
  by_cases e:C8 w.heap.S (w.heap.P.getD i X);rw[Bv,if_pos e];grind[C8,BF,EE,crP];rw[Bv,if_neg e];unfold C8 at e;unfold BF EE crP;omega
 have cr:=g.cr;rw[<-Z7u]at cr;have m1:=m.m1;have m3:=m.m3;have m4:=m.m4;have r:=Za0 h T w;have v:=mv.v;have u0:=Z9m g.p;have s:0<=h.C.pw:=by omega
 refine⟨?_,w.T.length,by rw[o];omega, ?_⟩;rw[o];have:=Lw y s;omega;rw[o];by_cases z:0<w.T.length;have m2:=m.m2 z;have:=n.us (ZG w).toNat (by have:=n.tk _ (GJ z);omega);omega;grind
def MV.collectF{B:Int}(hB:0<=B){h:Heap}{T:Nat->List Int}(g:Gd h T)(mv:MV h){s k:List Int}(hw:Zx h.W)(hb:∀p∈h.P,p.N<=B)(hs:GN h T s)(hk:GN h T k)(e:(Go.Proofs.YtgedmeaemofdkaaGreat.collectF h s k).2.2.2.2=0):MV (Go.Proofs.YtgedmeaemofdkaaGreat.collectF h s k).1:=by
 have hp:=g.p;have hr:=g.refers hs;have hr':=g.refers hk;by_cases e1:(rootsF (Zr h) s).2.2=0
 .by_cases e2:(Bu (rootsF (Zr h) s).1).2=0
  .have e7:Go.Proofs.YtgedmeaemofdkaaGreat.collectF h s k=(Eo (Bz h s k),(rootsF (Zr h) s).2.1,Eg (ZA h s) k k.length,(Bz h s k).rep,0):=by rw[Go.Proofs.YtgedmeaemofdkaaGreat.collectF,if_pos hp,if_pos ⟨hr,hr'⟩,if_pos e1,if_pos e2]
   rw[e7];have ck:=cOk h s k hw hp e1 e2;obtain⟨g1,g2,g3,g4,g5⟩:=ck.h4;have pr:=Z32 hB hw hp hb e1 e2;obtain⟨⟨tq,ki⟩,mi⟩:=Zhj g mv hw e1 e2;refine mi.end g ki mv ck.w2 pr.tab.tk (h':=Eo (Bz h s k)) ?_ ?_;all_goals grind[Eo,Bz,H6]
  .rw[Go.Proofs.YtgedmeaemofdkaaGreat.collectF,if_pos hp,if_pos ⟨hr,hr'⟩,if_pos e1,if_neg e2]at e;exact absurd e e2
 .rw[Go.Proofs.YtgedmeaemofdkaaGreat.collectF,if_pos hp,if_pos ⟨hr,hr'⟩,if_neg e1]at e;exact absurd e e1
def MV.collect{w:Zj}{n}(m:MV w.heap)(h:WG w)(a:C2 w n):MV w.collect.heap:=by unfold Zj.collect;split;rename_i e;obtain⟨T,g,b,c⟩:=h;exact MV.collectF (B:=n) oq g m a.W (λp d=>(a.pin_mem p d).2) b c e;exact m
def MV.step{w:Zj}{n}(m:MV w.heap)(h:WG w)(a:C2 w n)(b:n<=1000000) t:MV (w.step t).heap:=by
 unfold Zj.step;repeat' split
 exact m.put a.W (Od _ _);exact m.link a b _;exact m.pin _;exact m.drop _;exact m.collect h a;exact m
def Z5i{w:Zj}{n}(m:MV w.heap)(h:WG w)(a:C2 w n) t:∀k,n+k<=1000000->MV (G3 w t k).1.heap|0,_=>m|k+1,hk=>(Z5i m h a t k oq).step (Z1L h a t k oq) (DI a t k oq) oq _
def Z4P l:MV (ZP l).heap:=by
 have e:=Z0o l;have hl:(((EK l).step 4).step 5).l.length<=300:=by grind
 have hk:=MG (EK l).empty (((EK l).step 4).step 5) oq;obtain⟨_,ge,_⟩:=Z3s (EK l);have a:=ge.p;refine Z5i (MV.few a ?_) (Z3s (EK l)) (PM (EK l)) _ _ oq;have hv:=BD.1 (B1 a).1;have z:B8 BF (EK l).empty.heap.P=0:=by simp[B8,Tape.empty,Il,BF]
 grind[IM]
end Go.Proofs.YtgedmeaemofdkaaGreat
