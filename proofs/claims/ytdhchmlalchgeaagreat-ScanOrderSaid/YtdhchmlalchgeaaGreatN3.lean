/-
 The statement ScanOrder: part 3.
 Conditions: none.
-/
import Derived.Test.YtdhchmlalchgeaaGreatN2
set_option maxRecDepth 100000
set_option maxHeartbeats 2000000
set_option linter.all false
open Option renaming some->U,none->X,getD_some->LJ,map_some->LK
open Bool renaming true->Y,false->Z,and_eq_true->M,not_eq_true'->Ln,or_eq_true->Lo,false_or->Lv,not_true->Lw
open List renaming mem_of_getElem?->W,mem_cons->N,all_eq_true->O,mem_append->F,getD->La,map_cons->Lb,mem_map->Lc,getElem?_eq_getElem->Le,getElem?_eq_none->Lf,map_append->Lg,mem_cons_of_mem->Lh,mem_range->Li,range->Lr,getElem?_append_left->Ly,getElem?_eq_some_iff->Lz,length_eq_one_iff->LA,mem_filter->LB,nodup_cons->LC,replicate->LD
open Option.some renaming injEq->L
open Nat renaming beq->Ld,eq_of_beq_eq_true->LF,le_trans->LG,strongRecOn->LH,testBit_or->LI
open Go.Result renaming andThen_ok->Lj
open Array renaming getD->Lk,getElem?_eq_getElem->Ll,replicate->Lm,all_eq_true_iff_forall_mem->Lu
open Classical renaming choose->Lp,choose_spec->Lx
open List.cons renaming injEq->Lq
open Go.Sem renaming run_bind->Ls,run_pure->Lt
namespace Go.Sx
open Go.Region
def Z3w(acc:List Nat):List Edge->Nat
 | []=>0
 | e::l=>if binds .any e then Z3w acc l ||| 2^e.on ||| acc.getD e.on 0 else Z3w acc l
def Z4I{acc:List Nat}{y:Nat}:∀ {l:List Edge},(Z3w acc l).testBit y=Y->∃ e∈l,binds .any e=Y/\(e.on=y\/(acc.getD e.on 0).testBit y=Y)
 | [],h=>by simp[Z3w]at h
 | e::l,h=>by
  simp only[Z3w]at h;split at h
  .rename_i hb;rw[LI,LI,Lo,Lo]at h;rcases h with(h | h) | h
   .obtain⟨e',h1,h2⟩:=Z4I h;exact⟨e',by simp[h1],h2⟩
   .rw[Nat.testBit_two_pow]at h;exact⟨e,by simp,hb,.inl (by simpa using h)⟩
   .exact⟨e,by simp,hb,.inr h⟩
  .obtain⟨e',h1,h2⟩:=Z4I h;exact⟨e',by simp[h1],h2⟩
def ZdV:List Oper->List Nat->List Nat
 | [],acc=>acc
 | o::l,acc=>ZdV l (acc++[Z3w acc o.after.toList])
def Z5s:∀ {l:List Oper} {acc:List Nat} {k:Nat},k<acc.length->(ZdV l acc).getD k 0=acc.getD k 0
 | [],acc,k,h=>rfl
 | o::l,acc,k,h=>by
  simp only[ZdV];rw[Z5s qo];simp[La,Ly h]
def ZaU:∀ {l:List Oper} {acc:List Nat} {i y:Nat},acc.length<=i->((ZdV l acc).getD i 0).testBit y=Y->∃ o,l[i-acc.length]? = U o/\∃ e∈o.after.toList,binds .any e=Y/\(e.on=y\/((ZdV l acc).getD e.on 0).testBit y=Y)
 | [],acc,i,y,hi,h=>by
  simp only[ZdV]at h;rw[show acc.getD i 0=0 from by simp[La,Lf hi]]at h;simp at h
 | o::l,acc,i,y,hi,h=>by
  simp only[ZdV]at h ⊢;by_cases he:i=acc.length
  .subst he;rw[Z5s pq]at h;rw[show(acc++[Z3w acc o.after.toList]).getD acc.length 0=Z3w acc o.after.toList from by simp[La]]at h;obtain⟨e,h1,h2,h3⟩:=Z4I h;refine⟨o,by simp,e,h1,h2,h3.imp (λh=>h) λh=>?_⟩;by_cases hlt:e.on<acc.length
   .rw[Z5s qo];rw[show(acc++[Z3w acc o.after.toList]).getD e.on 0=acc.getD e.on 0 from by simp[La,Ly hlt]];exact h
   .rw[show acc.getD e.on 0=0 from by simp[La,Lf (Nat.le_of_not_lt hlt)]]at h;simp at h
  .obtain⟨o',h1,h2⟩:=ZaU (l:=l) (acc:=acc++[Z3w acc o.after.toList]) (i:=i) (y:=y) qo h;refine⟨o', ?_,h2⟩;simp only[List.length_append,List.length_cons,List.length_nil]at h1;rw[show i-acc.length=(i-(acc.length+(0+1)))+1 from by omega];simpa using h1
def bitsOf(ops:Array Oper):List Nat:=ZdV ops.toList []
def Z7A(bt:List Nat)(y x:Nat):Bool:=(bt.getD x 0).testBit y
def Zcw{ops:Array Oper}{i y:Nat}(h:Z7A (bitsOf ops) y i=Y):∃ o,ops[i]? = U o/\∃ e∈o.after.toList,binds .any e=Y/\(e.on=y\/Z7A (bitsOf ops) y e.on=Y):=by
 obtain⟨o,h1,h2⟩:=ZaU (l:=ops.toList) (acc:=[]) pq h;exact⟨o,by simpa using h1,h2⟩
def ZcW(n:Nat):List Oper->Bool
 | []=>Y
 | o::l=>o.after.toList.all (λe=>!(binds .any e)||decide (e.on<n))&&ZcW (n+1) l
def Z6f:∀ {l:List Oper} {n:Nat},ZcW n l=Y->∀ (i:Nat) (o:Oper),l[i]? = U o->∀ e∈o.after.toList,binds .any e=Y->e.on<n+i
 | [],n,_,i,o,h=>by simp at h
 | o0::l,n,h,i,o,hi=>by
  simp only[ZcW,M,O]at h;intro e he hb;cases i with
  | zero =>
   simp at hi;subst hi;have:=h.1 e he;simpa[hb]using this
  | succ i =>
   have:=Z6f h.2 i o (by simpa using hi) e he hb;omega
section
variable {clk:Nat} {ops:Array Oper}
def PairsOk(clk:Nat)(ops:Array Oper):List Rec->Prop
 | []=>True
 | y::l=>(∀ x∈l,Z7A (bitsOf ops) y.i x.i=Y\/Apart clk ops y x)/\PairsOk clk ops l
theorem PairsOk.mid:∀ {r1:List Rec} {x:Rec} {r2:List Rec},PairsOk clk ops (r1++x::r2)->∀ y∈r1,Z7A (bitsOf ops) y.i x.i=Y\/Apart clk ops y x
 | [],_,_,_,y,hy=>by simp at hy
 | z::r1,x,r2,h,y,hy=>by
  rcases N.1 hy with e | e
  .rw[e];exact h.1 x pq
  .exact PairsOk.mid h.2 y e
theorem PairsOk.drop:∀ {r1:List Rec} {x:Rec} {r2:List Rec},PairsOk clk ops (r1++x::r2)->PairsOk clk ops (r1++r2)
 | [],_,_,h=>h.2
 | z::r1,x,r2,h=>⟨λy hy=>h.1 y (by
   rcases F.1 hy with h | h
   .exact F.2 (.inl h)
   .exact F.2 (.inr (Lh _ h))),PairsOk.drop h.2⟩
theorem Ze2{a:Nat}:∀ {l1 l2:List Nat},(l1++a::l2).Nodup->a∉l1++l2/\(l1++l2).Nodup:=by
 intro l1 l2 h;have:=(List.perm_middle (a:=a) (l₁:=l1) (l₂:=l2)).nodup_iff.1 h;exact LC.1 this
theorem ZkC{p:Nat->Prop}:(∃ n,p n)->∃ n,p n/\∀ m,p m->n<=m:=by
 intro⟨n,hn⟩;induction n using LH with
 | ind n ih =>
  by_cases h:∃ m,m<n/\p m
  .obtain⟨m,h1,h2⟩:=h;exact ih m h1 h2
  .refine⟨n,hn,λm hm=>?_⟩;by_cases hlt:m<n
   .exact absurd ⟨m,hlt,hm⟩ h
   .omega
theorem ZlF(hback:ZcW 0 ops.toList=Y):∀ (fuel t:Nat) (listed:Array Bool) (acc:List Nat) (recs:List Rec),recs.length=fuel->listed.size=ops.size ->
  (∀ i,i<ops.size->(listed.getD i Y=Z↔i∈recs.map (·.i)))->(∀ r∈recs,r.i<ops.size)->(recs.map (·.i)).Nodup->PairsOk clk ops recs ->
  (∀ j,j<ops.size->listed.getD j Y=Y->∀ y,Z7A (bitsOf ops) y j=Y->y∉recs.map (·.i)) ->
  ∃ l,linearise.go .any ops fuel t listed acc=acc.reverse++l/\Sched clk ops l recs:=by
 intro fuel;induction fuel with
 | zero =>
  intro t listed acc recs hn _ _ _ _ _ _;have:recs=[]:=List.length_eq_zero_iff.1 hn;subst this;exact⟨[],by simp[linearise.go],.nil⟩
 | succ fuel ih =>
  intro t listed acc recs hn hls hl hlt hnd hp hclos;simp only[linearise.go];generalize hrs:(Lr ops.size).filter (λi=>!listed.getD i Y&&((ops[i]?).map (·.after.all λe=>!binds .any e||listed.getD e.on Z)).getD Z)=rs;have hne:rs≠[]:=by
   have hpos:recs.map (·.i)≠[]:=by
    intro h;have h2:recs=[]:=by simpa using h
    rw[h2]at hn;simp at hn
   obtain⟨m,hm1,hm2⟩:=ZkC (p:=λi=>i∈recs.map (·.i)) (List.exists_mem_of_ne_nil _ hpos);have hmlt:m<ops.size:=by obtain⟨r,hr,rfl⟩:=Lc.1 hm1;exact hlt r hr
   intro hempty;have:m∈rs:=by
    rw[<- hrs,LB];refine⟨Li.2 hmlt, ?_⟩;have h1:=(hl m hmlt).2 hm1;rw[h1,Ll hmlt];simp only[Bool.not_false,Bool.true_and,LK,LJ];rw[Lu];intro e he;cases hb:binds .any e with
    | false=>rfl
    | true =>
     simp only[Lw,Lv];have hon:=Z6f hback m ops[m] (by simp[hmlt]) e (by simpa using he) hb;have honlt:e.on<ops.size:=by omega
     have hnot:e.on∉recs.map (·.i):=λh=>by have:=hm2 e.on h;omega
     have:¬ listed.getD e.on Y=Z:=λh=>hnot ((hl e.on honlt).1 h);have hs:e.on<listed.size:=by omega
     simp only[Lk,hs,dite_true]at this ⊢;simpa using this
   rw[hempty]at this;simp at this
  have hidx:t%rs.length<rs.length:=Nat.mod_lt _ (List.length_pos_iff.2 hne);rw[Le hidx];simp only;generalize hi:rs[t%rs.length]=i;have hirs:i∈rs:=by rw[<- hi];exact List.getElem_mem hidx
  rw[<- hrs,LB]at hirs;obtain⟨hir,hic⟩:=hirs;have hilt:=Li.1 hir;simp only[M,Ln]at hic;obtain⟨hi1,hi2⟩:=hic;have himem:=(hl i hilt).1 hi1;obtain⟨x,hx,hxi⟩:=Lc.1 himem;obtain⟨r1,r2,rfl⟩:=List.append_of_mem hx;rw[Ll hilt]at hi2;simp only[LK,LJ]at hi2;rw[Lu]at hi2;have hfree:∀ y,Z7A (bitsOf ops) y i=Y->y∉(r1++x::r2).map (·.i):=by
   intro y hy;obtain⟨o,ho,e,he,hb,hor⟩:=Zcw hy;rw[Ll hilt]at ho;cases ho;have hel:=hi2 e (by simpa using he);rw[hb]at hel;simp only[Lw,Lv]at hel;have honlt:e.on<ops.size:=by
    have:=Z6f hback i ops[i] (by simp[hilt]) e he hb;omega
   have hlisted:listed.getD e.on Y=Y:=by
    have hs:e.on<listed.size:=by omega
    simp only[Lk,hs,dite_true]at hel ⊢;exact hel
   rcases hor with rfl | hor
   .intro h;rw[(hl e.on honlt).2 h]at hlisted;cases hlisted
   .exact hclos e.on honlt hlisted y hor
  have hapart:∀ y∈r1,Apart clk ops y x:=by
   intro y hy;rcases hp.mid y hy with h | h
   .exfalso;rw[hxi]at h;exact hfree y.i h (Lc.2 ⟨y,by simp[hy],rfl⟩)
   .exact h
  have hndm:i∉(r1++r2).map (·.i):=by
   rw[<- hxi];simp only[Lg,Lb]at hnd ⊢;exact(Ze2 hnd).1
  have hnd2:((r1++r2).map (·.i)).Nodup:=by
   simp only[Lg,Lb]at hnd ⊢;exact(Ze2 hnd).2
  have hls2:(listed.setIfInBounds i Y).size=ops.size:=by simp[hls]
  have hget:∀ j d,(listed.setIfInBounds i Y).getD j d=if j=i then(if i<listed.size then Y else d)else listed.getD j d:=by
   intro j d;simp only[Array.getD_eq_getD_getElem?,Array.getElem?_setIfInBounds];by_cases hji:i=j
   .subst hji;simp only[if_true];split<;>rfl
   .simp only[hji,if_false];rw[if_neg (λh=>hji h.symm)]
  obtain⟨l,h1,h2⟩:=ih (t/rs.length) (listed.setIfInBounds i Y) (i::acc) (r1++r2) (by simp at hn ⊢;omega) hls2 (λj hj=>by
    rw[hget];by_cases hji:j=i
    .subst hji;simp only[if_true,hls,hj];exact⟨(λh=>nomatch h),λh=>absurd h hndm⟩
    .simp only[hji,if_false];rw[hl j hj];simp only[Lg,Lb,F,N,hxi,hji,false_or]) (λr hr=>hlt r (by
    rcases F.1 hr with h | h
    .simp[h]
    .simp[h])) hnd2 hp.drop (λj hj hjl y hy=>by
    have hsub:y∉(r1++x::r2).map (·.i)->y∉(r1++r2).map (·.i):=λh h'=>h (by
     simp only[Lg,Lb,F,N]at h' ⊢;rcases h' with h' | h'
     .exact .inl h'
     .exact .inr (.inr h'))
    rw[hget]at hjl;by_cases hji:j=i
    .subst hji;exact hsub (hfree y hy)
    .simp only[hji,if_false]at hjl;exact hsub (hclos j hj hjl y hy))
  refine⟨i::l, ?_,.cons hxi hapart h2⟩;rw[h1];simp
end
end Go.Sx
namespace Go.Sx
open Go.Region
def Z8E(P:Program)(clk:Nat)(ops:Array Oper)(hints:List (Nat×List Hint)):List Nat->List AV->Heap->Option (List Rec)
 | [],_,_=>U []
 | i::l,t,H=>match ops[i]? with
  | none=>X
  | some o=>match Z2R P clk ops hints o t H with
   | none=>X
   | some c=>match Z8E P clk ops hints l (c.slot t) (applyU c.ups H)with
    | none=>X
    | some rs=>U (⟨i,ZhB hints t o,c⟩::rs)
def Z6F{P:Program}{clk:Nat}{ops:Array Oper}{hints:List (Nat×List Hint)}:∀ {l:List Nat} {t:List AV} {H:Heap} {recs:List Rec},Z8E P clk ops hints l t H=U recs->Ze1 P clk ops hints recs t H/\recs.map (·.i)=l
 | [],t,H,recs,h=>by
  simp only[Z8E,L]at h;subst h;exact⟨trivial,rfl⟩
 | i::l,t,H,recs,h=>by
  simp only[Z8E]at h;split at h
  .cases h
  rename_i o ho;split at h
  .cases h
  rename_i c hc;split at h
  .cases h
  rename_i rs hrs;cases h;obtain⟨h1,h2⟩:=Z6F hrs;exact⟨⟨o,ho,hc,rfl,h1⟩,by simp[h2]⟩
def phs:List Rec->List Prop
 | []=>[]
 | r::l=>r.c.ph++phs l
def eqs:List Rec->List (AV×AV)
 | []=>[]
 | r::l=>r.c.eq++eqs l
def ZjH:∀ {l:List Rec},allP (phs l)->∀ r∈l,allP r.c.ph
 | [],_,r,hr=>by simp at hr
 | x::l,h,r,hr=>by
  obtain⟨h1,h2⟩:=allP_append.1 h;rcases N.1 hr with e | e
  .rw[e];exact h1
  .exact ZjH h2 r e
def Zjq:∀ {l:List Rec},EqP (eqs l)->∀ r∈l,EqP r.c.eq
 | [],_,r,hr=>by simp at hr
 | x::l,h,r,hr=>by
  rcases N.1 hr with e | e
  .rw[e];exact h.left
  .exact Zjq h.right r e
structure Foot where
 i:Nat
 bits:Nat
 dst:Option Nat
 reads:List Nat
 rs:List Nat
 own:List Nat
 keys:List Nat
def mem2(b:Nat):List Nat->Bool
 | []=>Z
 | x::l=>match Ld x b with
  | true=>Y
  | false=>mem2 b l
def Zcq{b:Nat}{l:List Nat}:mem2 b l=Z↔b∉l:=by
 induction l with
 | nil=>simp[mem2]
 | cons x l ih =>
  simp only[mem2];cases h:Ld x b with
  | true =>
   have:=LF h;simp[this]
  | false =>
   have:=Nat.ne_of_beq_eq_false h;simp only[ih,N,not_or];exact⟨λh=>⟨λe=>this e.symm,h⟩,λh=>h.2⟩
def feet(clk:Nat)(ops:Array Oper)(bt:List Nat):List Rec->Option (List Foot)
 | []=>U []
 | r::l=>match ops[r.i]? with
  | none=>X
  | some o=>match feet clk ops bt l with
   | none=>X
   | some fs=>U (⟨r.i,bt.getD r.i 0,o.dst,Z44 ops o,r.rs,Z59 clk o,r.c.ups.map (·.1)⟩::fs)
def Zkf(y x:Foot):Bool :=
  (match y.dst with
   | some d=>!mem2 d x.reads&&(match x.dst with | U d'=>!Nat.beq d' d | X=>Y)
   | none=>Y) &&
  (match x.dst with
   | some d=>!mem2 d y.reads
   | none=>Y) &&
  (y.keys.all λb=>!mem2 b x.rs&&!mem2 b x.own&&!mem2 b x.keys) &&
  (x.keys.all λb=>!mem2 b y.rs&&!mem2 b y.own)
def Zgo:List Foot->Bool
 | []=>Y
 | y::l=>(l.all λx=>x.bits.testBit y.i||Zkf y x)&&Zgo l
section
variable {clk:Nat} {ops:Array Oper}
def Zku(clk:Nat)(ops:Array Oper)(bt:List Nat)(r:Rec)(f:Foot):Prop :=
 ∃ o,ops[r.i]? = U o/\f=⟨r.i,bt.getD r.i 0,o.dst,Z44 ops o,r.rs,Z59 clk o,r.c.ups.map (·.1)⟩
theorem Zky{bt:List Nat}{y x:Rec}{fy fx:Foot}(hy:Zku clk ops bt y fy)(hx:Zku clk ops bt x fx)(h:Zkf fy fx=Y):Apart clk ops y x:=by
 obtain⟨oy,hy1,rfl⟩:=hy;obtain⟨ox,hx1,rfl⟩:=hx;unfold Zkf at h;simp only[M,O,Ln,Zcq]at h;obtain⟨⟨⟨h1,h2⟩,h3⟩,h4⟩:=h;refine⟨λoy' ox' hy' hx'=>?_,λox' hx' b hb=>?_,λoy' hy' b hb=>?_⟩
 .rw[hy1]at hy';rw[hx1]at hx';cases hy';cases hx';refine⟨λd hd=>?_,λd hd=>?_⟩
  .rw[hd]at h1;simp only[M,Ln,Zcq]at h1;refine⟨h1.1,λhd'=>?_⟩;have h1:=h1.2;rw[hd']at h1;simp at h1
  .rw[hd]at h2;simpa[Zcq]using h2
 .rw[hx1]at hx';cases hx';obtain⟨⟨q1,q2⟩,q3⟩:=h3 b hb;exact⟨q1,q2,q3⟩
 .rw[hy1]at hy';cases hy';exact h4 b hb
theorem ZgK{bt:List Nat}:∀ {l:List Rec} {fs:List Foot},feet clk ops bt l=U fs->∀ r∈l,∃ f∈fs,Zku clk ops bt r f
 | [],_,_,r,hr=>by simp at hr
 | x::l,fs,h,r,hr=>by
  simp only[feet]at h;split at h
  .cases h
  rename_i o ho;split at h
  .cases h
  rename_i gs hgs;cases h;rcases N.1 hr with e | e
  .subst e;exact⟨_,by simp,o,ho,rfl⟩
  .obtain⟨f,hf,hi⟩:=ZgK hgs r e;exact⟨f,by simp[hf],hi⟩
theorem Zdg:∀ {l:List Rec} {fs:List Foot},feet clk ops (bitsOf ops) l=U fs->Zgo fs=Y->PairsOk clk ops l
 | [],_,_,_=>trivial
 | y::l,fs,h,hp=>by
  simp only[feet]at h;split at h
  .cases h
  rename_i o ho;split at h
  .cases h
  rename_i gs hgs;cases h;simp only[Zgo,M,O,Lo]at hp;refine⟨λx hx=>?_,Zdg hgs hp.2⟩;obtain⟨f,hf,hi⟩:=ZgK hgs x hx;have hi':=hi;obtain⟨ox,hox,e⟩:=hi';rcases hp.1 f hf with h1 | h1
  .left;rw[e]at h1;exact h1
  .right;exact Zky ⟨o,ho,rfl⟩ hi h1
end
def Z4X:List (Nat×List Hint)->Bool
 | []=>Y
 | (_,.call _ _ news::_)::l=>Nat.ble news.length 7&&Z4X l
 | _::l=>Z4X l
def Z9A:∀ {hints:List (Nat×List Hint)},Z4X hints=Y->∀ (d:Nat) fr res news r,look d hints = .call fr res news::r->news.length<=7
 | [],_,d,fr,res,news,r,h=>by simp[look]at h
 | (j,hs)::l,hf,d,fr,res,news,r,h=>by
  have hl:Z4X l=Y:=by
   unfold Z4X at hf;split at hf
   .cases ‹_=[]›
   .rename_i h1;cases h1;exact(M _ _▸hf).2
   .rename_i h1;cases h1;exact hf
  simp only[look]at h;split at h
  .subst h;simp only[Z4X,M]at hf;exact Nat.le_of_ble_eq_true hf.1
  .exact Z9A hl d fr res news r h
def Zev(P:Program)(clk:Nat)(ops:Array Oper)(hints:List (Nat×List Hint))(t:List AV)(H:Heap):Option Out :=
 match Z8E P clk ops hints (Lr ops.size) t H with
 | none=>X
 | some recs=>match feet clk ops (bitsOf ops) recs with
  | none=>X
  | some fs=>match (P.follows .mixedOrders||!departs ops)&&(ZcW 0 ops.toList&&(Z4X hints&&Zgo fs))with
   | true=>U ⟨ZbX recs t,ZbY recs H,phs recs,eqs recs⟩
   | false=>X
def Zhz{P:Program}{Ow:Own}{Im0:Nat->Prop}{w0:World}{clk:Nat}{hints:List (Nat×List Hint)}{ops:Array Oper}{Q:Exit->Act->World->Prop}{tmps:List AV}{H:Heap}{a:Act}{w:World}{out:Out}{id:Nat}
  (h:Zev P clk ops hints tmps H=U out) (hS:Sys Ow Im0 w0 tmps H clk a w) (hph:allP out.ph) (heq:EqP out.eq) (hQ:∀ a' w',Sys Ow Im0 w0 out.tmps out.H clk a' w'->Q .normal a' w'):(Code.region id ops Y).wp P Q a w:=by
 unfold Zev at h;split at h
 .cases h
 rename_i recs hrecs;split at h
 .cases h
 rename_i fs hfs;split at h;rotate_left
 .cases h
 rename_i hb;cases h;simp only[M]at hb;obtain⟨hm,hback,hfit,hpairs⟩:=hb;obtain⟨hchain,hmap⟩:=Z6F hrecs;have hnf:ZbJ ops hints:=λi o _ d _ fr res news r hl=>Z9A hfit d fr res news r hl;refine wp_region_draw λn=>?_;have hsch:schedule (P.follows .mixedOrders) ops n=linearise .any ops n:=by
  unfold schedule;rw[if_pos hm]
 rw[hsch];unfold linearise;have hlen:recs.length=ops.size:=by
  have:=congrArg List.length hmap;simpa using this
 have hget:∀ i,i<ops.size->(Lm ops.size Z).getD i Y=Z:=by
  intro i hi;simp[Lk,hi]
 obtain⟨l,h1,h2⟩:=ZlF (clk:=clk) (ops:=ops) hback ops.size n (Lm ops.size Z) [] recs hlen pq (λi hi=>by
   rw[hmap];exact⟨λ_=>Li.2 hi,λ_=>hget i hi⟩) (λr hr=>by
   have:r.i∈recs.map (·.i):=Lc.2 ⟨r,hr,rfl⟩;rw[hmap]at this;exact Li.1 this) (by rw[hmap];exact List.nodup_range) (Zdg hfs hpairs) (λj hj hl=>by rw[hget j hj]at hl;cases hl)
 rw[h1];have hS':Sys Ow Im0 w0 tmps H clk a { w with drawn:=w.drawn+1 }:=by
  obtain⟨ρ,Im,I,T⟩:=hS;exact⟨ρ,Im,I.draw,T.mono (w':=w.drew) (Ext.draw Im w) (λ_ h=>h) (λ_ _ h=>h) I.bnd⟩
 exact Zm3 hnf h2 hchain hS' (λr hr=>⟨ZjH hph r hr,Zjq heq r hr⟩) hQ
def Z70(P:Program)(clk:Nat)(ops:Array Oper)(hints:List (Nat×List Hint)):List Nat->List AV->Heap->Option Out
 | [],t,H=>U ⟨t,H,[],[]⟩
 | i::l,t,H=>match ops[i]? with
  | none=>X
  | some o=>match Z8H P clk ops hints o t H with
   | none=>X
   | some x=>match Z70 P clk ops hints l x.tmps x.H with
    | none=>X
    | some y=>U ⟨y.tmps,y.H,x.ph++y.ph,x.eq++y.eq⟩
def ZcX{P:Program}{Ow:Own}{Im0:Nat->Prop}{w0:World}{clk:Nat}{hints:List (Nat×List Hint)}{ops:Array Oper}{Q:Exit->Act->World->Prop}:∀ {l:List Nat} {tmps:List AV} {H:Heap} {a:Act} {w:World} {out:Out},
  Z70 P clk ops hints l tmps H=U out->Sys Ow Im0 w0 tmps H clk a w->allP out.ph->EqP out.eq->(∀ a' w',Sys Ow Im0 w0 out.tmps out.H clk a' w'->Q .normal a' w')->wpOps P ops Q l a w
 | [],tmps,H,a,w,out,h,hS,_,_,hQ=>by
  simp only[Z70,L]at h;subst h;exact hQ a w hS
 | i::l,tmps,H,a,w,out,h,hS,hph,heq,hQ=>by
  simp only[Z70]at h;split at h
  .cases h
  rename_i o ho;split at h
  .cases h
  rename_i x hx;split at h
  .cases h
  rename_i y hy;cases h;obtain⟨p1,p2⟩:=allP_append.1 hph;have key:=Z8z (next:=wpOps P ops Q l) (Q:=Q) hx hS p1 heq.left λa' w' hS'=>ZcX hy hS' p2 heq.right hQ;simp only[wpOps,ho];split
  .exact .inl (key.1 aa)
  .rename_i hw;exact key.2 ((Bool.not_eq_true _).mp hw)
structure Tg where
 tmps:List AV
 hl:List (Nat×Blk)
 clk:Nat
def hOf:List (Nat×Blk)->Heap
 | [],_=>X
 | (b,B)::r,k=>if k=b then U B else hOf r k
inductive Ex where
 | nrm
 | ext (n:Nat)
 | ret
def Ex.exit:Ex->Exit
 | .nrm=>.normal
 | .ext n=>.exit n
 | .ret=>.ret
def CSpec(P:Program)(c:Code)(s:St)(e:Ex)(t:St):Prop :=
 ∀ (Ow:Own) (Im0:Nat->Prop) (w0:World) (a:Act) (w:World),Sys Ow Im0 w0 s.tmps s.H s.clk a w->c.wp P (λe' a' w'=>e'=e.exit/\Sys Ow Im0 w0 t.tmps t.H t.clk a' w') a w
def Tg.st(t:Tg):St:=⟨t.tmps,hOf t.hl,t.clk⟩
def memN(b:Nat):List Nat->Bool
 | []=>Z
 | x::l=>if x=b then Y else memN b l
def Zfc(ids:List Nat):AV->Bool
 | .pt b _ _=>memN b ids
 | .os b _ _=>memN b ids
 | .ow b=>memN b ids
 | .d _=>Y
 | .rp .. => Y
 | .any=>Y
 | _=>Z
def refs(ids:List Nat):AV->Bool
 | .ag l=>l.all (Zfc ids)
 | .fn _ l=>l.all (Zfc ids)
 | .fm _ a=>Zfc ids a
 | .ic _ a=>Zfc ids a
 | a=>Zfc ids a
def ZjJ(ids:List Nat):AV->Bool
 | .tu l=>l.all (refs ids)
 | a=>refs ids a
def Zlg(ids:List Nat):Blk->Bool
 | .box _ cells=>cells.all (refs ids)
 | .arr .. => Y
 | .dead=>Z
def encB:Blk->AV
 | .box ty cells=>.tu [.d (.sc (.int .i64 ty)),.tu cells]
 | .arr ty s els=>.tu [.d (.sc (.int .i64 ty)),.d (.sl s els)]
 | .dead=>.tu []
def Zcf{B B':Blk}(h:encB B=encB B'):B=B':=by
 cases B with
 | box ty cells =>
  cases B' with
  | box ty' cells' =>
   simp only[encB,AV.tu.injEq,Lq,AV.d.injEq,DV.sc.injEq,Value.int.injEq,and_true,true_and]at h;obtain⟨h1,h2⟩:=h;have:ty=ty':=by omega
   rw[this,h2]
  | arr=>simp[encB]at h
  | dead=>simp[encB]at h
 | dead =>
  cases B' with
  | dead=>rfl
  | _=>simp[encB]at h
 | arr ty s els =>
  cases B' with
  | box=>simp[encB]at h
  | dead=>simp[encB]at h
  | arr ty' s' els' =>
   simp only[encB,AV.tu.injEq,Lq,AV.d.injEq,DV.sc.injEq,DV.sl.injEq,Value.int.injEq,and_true,true_and]at h;obtain⟨h1,h2,h3⟩:=h;have:ty=ty':=by omega
   rw[this,h2,h3]
def Zq8:AV->Bool
 | .any=>Y
 | _=>Z
def wkT(ids:List Nat):List AV->List AV->Option (List (AV×AV))
 | [],[]=>U []
 | x::xs,y::ys=>match wkT ids xs ys with
  | none=>X
  | some r=>if Zq8 y then U r else if ZjJ ids y then U ((x,y)::r)else X
 | _,_=>X
def wkH(ids:List Nat)(H:Heap):List (Nat×Blk)->Option (List (AV×AV))
 | []=>U []
 | (b,B)::r=>match H b with
  | none=>X
  | some B'=>match wkH ids H r with
   | none=>X
   | some l=>if Zlg ids B then U ((encB B',encB B)::l)else X
def wk(s:St)(t:Tg):Option (List (AV×AV)) :=
 match t.clk with
 | 0=>X
 | _+1=>match wkT (t.hl.map (·.1)) s.tmps t.tmps,wkH (t.hl.map (·.1)) s.H t.hl with
 | some l,some m=>U (l++m)
 | _,_=>X
def memN_iff{b:Nat}{l:List Nat}:memN b l=Y↔b∈l:=by
 induction l with
 | nil=>simp[memN]
 | cons x l ih =>
  simp only[memN];split
  .rename_i h;subst h;simp
  .rename_i h;rw[ih];simp;omega
section
variable {ρ ρ':Rho} {w:World} {Im:Nat->Prop} {ids:List Nat}
theorem Z2h(hρ:∀ b∈ids,∀ β,ρ b=U β->ρ' b=U β){x:AV}{v:Value}(h:Rel ρ w Im x v)(hr:Zfc ids x=Y):Rel ρ' w Im x v:=by
 cases x with
 | pt b i o=>obtain⟨g,s,n,h1,rfl⟩:=Z2U h;exact .pt (hρ b (memN_iff.1 hr) _ h1)
 | os b o n=>cases h with | os h1 h2 h3 h4 h5=>exact .os (hρ b (memN_iff.1 hr) _ h1) h2 h3 h4 h5
 | ow b=>cases h with | ow h1 h2 h3 h4=>exact .ow (hρ b (memN_iff.1 hr) _ h1) h2 h3 h4
 | d x=>cases h with | d h=>exact .d h
 | rp e o=>cases h with | rp h1 h2 h3=>exact .rp h1 h2 h3
 | any=>exact .any _
 | _=>simp[Zfc]at hr
theorem ZbS(hρ:∀ b∈ids,∀ β,ρ b=U β->ρ' b=U β){x:AV}{v:Value}(h:Rel ρ w Im x v)(hr:refs ids x=Y):Rel ρ' w Im x v:=by
 cases x with
 | ag l =>
  obtain⟨cs,rfl,k1,k2,k3⟩:=Z3D h;simp only[refs,O]at hr;exact .ag _ cs k1 k2 λi a u ha hu=>Z2h hρ (k3 i a u ha hu) (hr a (W ha))
 | fn f l =>
  cases h with
  | fn k1 k3 =>
   simp only[refs,O]at hr;exact .fn k1 λi a u ha hu=>Z2h hρ (k3 i a u ha hu) (hr a (W ha))
 | ic t a=>cases h with | ic h=>exact .ic (Z2h hρ h hr)
 | fm t a=>cases h with | fm h=>exact .fm (Z2h hρ h hr)
 | pt=>exact Z2h hρ h hr
 | os=>exact Z2h hρ h hr
 | ow=>exact Z2h hρ h hr
 | d=>exact Z2h hρ h hr
 | rp=>exact Z2h hρ h hr
 | tu=>exact Z2h hρ h hr
 | gd=>exact Z2h hρ h hr
 | any=>exact Z2h hρ h hr
theorem Zdc(hρ:∀ b∈ids,∀ β,ρ b=U β->ρ' b=U β){x:AV}{v:Value}(h:Rel ρ w Im x v)(hr:ZjJ ids x=Y):Rel ρ' w Im x v:=by
 cases x with
 | tu l =>
  cases h with
  | tu _ cs k1 k3 =>
   simp only[ZjJ,O]at hr;exact .tu _ cs k1 λi a u ha hu=>ZbS hρ (k3 i a u ha hu) (hr a (W ha))
 | _=>exact ZbS hρ h hr
theorem ZjD(hρ:∀ b∈ids,∀ β,ρ b=U β->ρ' b=U β){β:Bi}{B:Blk}(h:RelB ρ w Im β B)(hr:Zlg ids B=Y):RelB ρ' w Im β B:=by
 cases B with
 | box ty cells =>
  obtain⟨h0,h00,g,cs,h1,h2,h3,h3',h4⟩:=h;simp only[Zlg,O]at hr;exact⟨h0,h00,g,cs,h1,h2,h3,h3',λo a v ha hv=>ZbS hρ (h4 o a v ha hv) (hr a (W ha))⟩
 | arr ty s els=>exact h
 | dead=>trivial
end
def hOf_mem{hl:List (Nat×Blk)}{k:Nat}:(∀ B,hOf hl k=U B->(k,B)∈hl)/\(hOf hl k=X↔k∉hl.map (·.1)):=by
 induction hl with
 | nil=>simp[hOf]
 | cons p r ih =>
  obtain⟨b,B0⟩:=p;refine⟨λB h=>?_, ?_⟩
  .simp only[hOf]at h;split at h
   .rename_i e;cases h;rw[e];simp
   .exact Lh _ (ih.1 B h)
  .simp only[hOf];split
   .rename_i e;subst e;simp
   .rename_i e;rw[ih.2];simp[e]
def Zbf{ids:List Nat}:∀ {xs ys:List AV} {l:List (AV×AV)},wkT ids xs ys=U l->EqP l->xs.length=ys.length/\∀ (i:Nat) (y:AV),ys[i]? = U y->y = .any\/(xs[i]? = U y/\ZjJ ids y=Y)
 | [],[],l,_,_=>by simp
 | [],_::_,l,h,_=>by simp[wkT]at h
 | _::_,[],l,h,_=>by simp[wkT]at h
 | x::xs,y::ys,l,h,he=>by
  simp only[wkT]at h;split at h
  .cases h
  rename_i r hr;split at h
  .rename_i hy;cases h;obtain⟨h1,h2⟩:=Zbf hr he;refine⟨by simp[h1],λi z hz=>?_⟩;cases i with
   | zero =>
    simp at hz;subst hz;left;cases y<;>first | rfl | simp[Zq8]at hy
   | succ i=>simpa using h2 i z (by simpa using hz)
  .split at h
   .rename_i hy hrf;cases h;obtain⟨h1,h2⟩:=Zbf hr (λp hp=>he p (Lh _ hp));refine⟨by simp[h1],λi z hz=>?_⟩;cases i with
    | zero =>
     simp at hz;subst hz;right;have:x=y:=he (x,y) pq;exact⟨by simp[this],hrf⟩
    | succ i=>simpa using h2 i z (by simpa using hz)
   .cases h
def Zgb{ids:List Nat}{H:Heap}:∀ {hl:List (Nat×Blk)} {l:List (AV×AV)},wkH ids H hl=U l->EqP l->∀ b B,(b,B)∈hl->H b=U B/\Zlg ids B=Y
 | [],l,_,_=>by simp
 | (b0,B0)::r,l,h,he=>by
  simp only[wkH]at h;split at h
  .cases h
  rename_i B' hB';split at h
  .cases h
  rename_i m hm;split at h;rotate_left
  .cases h
  rename_i hrf;cases h;intro b B hb;rcases N.1 hb with e | e
  .injection e with e1 e2;subst e1;subst e2;have:encB B'=encB B:=he (encB B',encB B) pq;rw[Zcf this]at hB';exact⟨hB',hrf⟩
  .exact Zgb hm (λp hp=>he p (Lh _ hp)) b B e
def ZgO{s:St}{t:Tg}{l:List (AV×AV)}(h:wk s t=U l)(he:EqP l){Ow:Own}{Im0:Nat->Prop}{w0:World}{a:Act}{w:World}(hS:Sys Ow Im0 w0 s.tmps s.H s.clk a w):Sys Ow Im0 w0 t.st.tmps t.st.H t.st.clk a w:=by
 unfold wk at h;split at h
 .cases h
 rename_i clk0 hclk;split at h;rotate_left
 .cases h
 rename_i l1 l2 h1 h2;cases h;obtain⟨ρ,Im,I,T⟩:=hS;obtain⟨k1,k2⟩:=Zbf h1 he.left;have k3:=Zgb h2 he.right;let ids:=t.hl.map (·.1);let ρ':Rho:=λb=>if memN b ids then ρ b else X
 have hin:∀ b∈ids,∀ β,ρ b=U β->ρ' b=U β:=by
  intro b hb β h;simp only[ρ'];rw[if_pos (memN_iff.2 hb)];exact h
 have hout:∀ b β,ρ' b=U β->ρ b=U β:=by
  intro b β h;simp only[ρ']at h;split at h
  .exact h
  .cases h
 have hlive:∀ b,live t.st.H b->live s.H b:=λb ⟨B,q1,q2⟩=>⟨B,(k3 b B (hOf_mem.1 B q1)).1,q2⟩
 refine⟨ρ',Im,⟨I.kept,λb b' β β' g l1 l2 q1 q2 q3 q4=>I.inj b b' β β' g (hlive _ l1) (hlive _ l2) (hout _ _ q1) (hout _ _ q2) q3 q4,λb β g l q=>I.notIm b β g (hlive _ l) (hout _ _ q),λb β g q=>I.bnd b β g (hout _ _ q),λb β g q=>I.own b β g (hout _ _ q),I.imb,I.im0,λb B q=>?_,λb _ q=>?_,⟨by show 1<=t.clk;omega,λb β h q=>I.one.2 b β h (hout _ _ q)⟩⟩,⟨by rw[T.size,k1];rfl,λi y v hy hv=>?_,T.defers⟩⟩
 .obtain⟨q1,q2⟩:=k3 b B (hOf_mem.1 B q);obtain⟨β,m1,m2⟩:=I.blk b B q1;have hb:b∈ids:=by
   have:=hOf_mem.1 B q;exact Lc.2 ⟨(b,B),this,rfl⟩
  exact⟨β,hin b hb β m1,ZjD hin m2 q2⟩
 .have:b∉ids:=hOf_mem.2.1 q;simp only[ρ'];rw[if_neg (λh=>this (memN_iff.1 h))]
 .rcases k2 i y hy with rfl | ⟨q1,q2⟩
  .exact .any _
  .exact Zdc hin (T.tmp i y v q1 hv) q2
def Zk2(k:Nat):List (Nat×Tg×Ex×Tg)->Option (Tg×Ex×Tg)
 | []=>X
 | (j,h)::r=>if j=k then U h else Zk2 k r
def keyC:Operand->Nat
 | .tmp t=>t
 | _=>30000
def brs:List Hint->List Hint
 | .br b::l=>.br b::l
 | _::l=>brs l
 | []=>[]
structure Run where
 e:Ex
 s:St
 ph:List Prop
 eq:List (AV×AV)
def runC(P:Program)(hints:List (Nat×List Hint))(cuts:List (Nat×Tg×Ex×Tg)):Code->St->Option Run
 | .skip,s=>U ⟨.nrm,s,[],[]⟩
 | .label _,s=>U ⟨.nrm,s,[],[]⟩
 | .region _ ops dr,s=>match (match dr with | Y=>Zev P s.clk ops hints s.tmps s.H | Z=>Z70 P s.clk ops hints (Lr ops.size) s.tmps s.H)with
  | some x=>U ⟨.nrm,⟨x.tmps,x.H,s.clk+1⟩,x.ph,x.eq⟩
  | none=>X
 | .seq x y,s=>match runC P hints cuts x s with
  | none=>X
  | some r=>match r.e with
   | .nrm=>match runC P hints cuts y r.s with
    | some q=>U ⟨q.e,q.s,r.ph++q.ph,r.eq++q.eq⟩
    | none=>X
   | e=>U ⟨e,r.s,r.ph,r.eq⟩
 | .cond c x y,s=>match asB (ev s.tmps c)with
  | none=>X
  | some b=>match brs (look (keyC c) hints)with
   | .br true::_=>match runC P hints cuts x s with
    | some q=>U ⟨q.e,q.s,(b=Y)::q.ph,q.eq⟩
    | none=>X
   | .br false::_=>match runC P hints cuts y s with
    | some q=>U ⟨q.e,q.s,(b=Z)::q.ph,q.eq⟩
    | none=>X
   | _=>match b with
    | true=>runC P hints cuts x s
    | false=>runC P hints cuts y s
 | .block n c,s=>match Zk2 n cuts with
  | some (pre,e,post)=>match wk s pre with
   | some l=>U ⟨e,post.st,[CSpec P (.block n c) pre.st e post.st],l⟩
   | none=>X
  | none=>match runC P hints cuts c s with
   | none=>X
   | some r=>match r.e with
    | .ext m=>if m=n then U ⟨.nrm,r.s,r.ph,r.eq⟩else U r
    | _=>U r
 | .exit n,s=>U ⟨.ext n,s,[],[]⟩
 | .ret,s=>U ⟨.ret,s,[],[]⟩
 | _,_=>X
def Sys.clk{Ow:Own}{Im0:Nat->Prop}{w0:World}{tmps:List AV}{H:Heap}{clk clk':Nat}{a:Act}{w:World}(h:Sys Ow Im0 w0 tmps H clk a w)(hle:clk<=clk'):Sys Ow Im0 w0 tmps H clk' a w:=by
 obtain⟨ρ,Im,I,T⟩:=h;exact⟨ρ,Im,⟨I.kept,I.inj,I.notIm,I.bnd,I.own,I.imb,I.im0,I.blk,λb hb h=>I.fresh b (LG (Nat.mul_le_mul_right _ hle) hb) h,LG I.one.1 hle,I.one.2⟩,T⟩
def Z8S{P:Program}{hints:List (Nat×List Hint)}{cuts:List (Nat×Tg×Ex×Tg)}:∀ {c:Code} {s:St} {r:Run},runC P hints cuts c s=U r->allP r.ph->EqP r.eq->CSpec P c s r.e r.s:=by
 intro c;induction c with
 | skip=>intro s r h _ _ Ow Im0 w0 a w hS;simp only[runC,L]at h;subst h;exact wp_skip ⟨rfl,hS⟩
 | label n=>intro s r h _ _ Ow Im0 w0 a w hS;simp only[runC,L]at h;subst h;exact wp_label ⟨rfl,hS⟩
 | region n ops dr =>
  intro s r h hph heq Ow Im0 w0 a w hS;simp only[runC]at h;split at h;rotate_left
  .cases h
  rename_i x hx;cases h;cases dr with
  | false=>exact wp_region (ZcX hx hS hph heq λa' w' hS'=>⟨rfl,hS'.clk pq⟩)
  | true=>exact Zhz hx hS hph heq λa' w' hS'=>⟨rfl,hS'.clk pq⟩
 | seq x y ihx ihy =>
  intro s r h hph heq Ow Im0 w0 a w hS;simp only[runC]at h;split at h
  .cases h
  rename_i q hq;split at h
  .rename_i he;split at h;rotate_left
   .cases h
   rename_i q2 hq2;cases h;obtain⟨p1,p2⟩:=allP_append.1 hph;refine wp_seq (wp_mono (ihx hq p1 heq.left Ow Im0 w0 a w hS) ?_);rintro e a' w' ⟨rfl,hS'⟩;rw[he];exact ihy hq2 p2 heq.right Ow Im0 w0 a' w' hS'
  .rename_i he;cases h;refine wp_seq (wp_mono (ihx hq hph heq Ow Im0 w0 a w hS) ?_);rintro e a' w' ⟨rfl,hS'⟩;cases hqe:q.e with
   | nrm=>exact absurd hqe he
   | ext n=>exact⟨rfl,hS'⟩
   | ret=>exact⟨rfl,hS'⟩
 | cond c x y ihx ihy =>
  intro s r h hph heq Ow Im0 w0 a w hS;simp only[runC]at h;split at h
  .cases h
  rename_i b hb;have hv:a.eval c = .bool b:=by
   obtain⟨ρ,Im,I,T⟩:=hS;have:=Z1E T c;rw[Z8s hb]at this;exact Z15 this
  split at h
  .split at h;rotate_left
   .cases h
   rename_i q hq;cases h;obtain⟨p1,p2⟩:=allP_cons.1 hph;exact wp_cond_true (by rw[hv,p1]) (ihx hq p2 heq Ow Im0 w0 a w hS)
  .split at h;rotate_left
   .cases h
   rename_i q hq;cases h;obtain⟨p1,p2⟩:=allP_cons.1 hph;exact wp_cond_false (by rw[hv,p1]) (ihy hq p2 heq Ow Im0 w0 a w hS)
  .split at h
   .exact wp_cond_true hv (ihx h hph heq Ow Im0 w0 a w hS)
   .exact wp_cond_false hv (ihy h hph heq Ow Im0 w0 a w hS)
 | block n c ih =>
  intro s r h hph heq Ow Im0 w0 a w hS;simp only[runC]at h;split at h
  .rename_i pre e post hl;split at h;rotate_left
   .cases h
   rename_i l hwk;cases h;have hC:CSpec P (.block n c) pre.st e post.st:=by simpa[allP]using hph
   exact hC Ow Im0 w0 a w (ZgO hwk heq hS)
  .split at h
   .cases h
   rename_i q hq;split at h
   .rename_i m hm;split at h
    .rename_i hmn;cases h;refine wp_block (wp_mono (ih hq hph heq Ow Im0 w0 a w hS) ?_);rintro e a' w' ⟨rfl,hS'⟩;rw[hm];simp only[Ex.exit,Exit.inBlock,hmn,if_true];exact⟨by trivial,hS'⟩
    .rename_i hmn;cases h;refine wp_block (wp_mono (ih hq hph heq Ow Im0 w0 a w hS) ?_);rintro e a' w' ⟨rfl,hS'⟩;rw[hm];simp only[Ex.exit,Exit.inBlock,hmn,if_false];exact⟨by trivial,hS'⟩
   .rename_i hne;cases h;refine wp_block (wp_mono (ih hq hph heq Ow Im0 w0 a w hS) ?_);rintro e a' w' ⟨rfl,hS'⟩;cases hqe:r.e with
    | nrm=>exact⟨rfl,hS'⟩
    | ext m=>exact absurd hqe (hne m)
    | ret=>exact⟨rfl,hS'⟩
 | exit n=>intro s r h _ _ Ow Im0 w0 a w hS;simp only[runC,L]at h;subst h;exact wp_exit ⟨rfl,hS⟩
 | ret=>intro s r h _ _ Ow Im0 w0 a w hS;simp only[runC,L]at h;subst h;exact wp_ret ⟨rfl,hS⟩
 | loop c ih=>intro s r h;simp[runC]at h
 | rangeFunc f p x y=>intro s r h;simp[runC]at h
 | scope c ih=>intro s r h;simp[runC]at h
 | goto n=>intro s r h;simp[runC]at h
 | refuse y=>intro s r h;simp[runC]at h
def Z2P(P:Program)(c:Code):Nat->St->Ex->St->Prop
 | 0,s,e,t=>e≠.nrm/\CSpec P c s e t
 | n+1,s,e,t=>∃ s',CSpec P c s .nrm s'/\Z2P P c n s' e t
def least{p:Nat->Prop}(h:∃ n,p n):∃ n,p n/\∀ m,p m->n<=m:=by
 obtain⟨n,hn⟩:=h;induction n using LH with
 | _ n ih =>
  by_cases hx:∃ m,m<n/\p m
  .obtain⟨m,h1,h2⟩:=hx;exact ih m h1 h2
  .refine⟨n,hn,λm hm=>?_⟩;rcases Nat.lt_or_ge m n with h | h
   .exact absurd ⟨m,h,hm⟩ hx
   .exact h
open Classical in
def ZeU{P:Program}{c:Code}{n:Nat}{s t:St}{e:Ex}(h:Z2P P c n s e t):CSpec P (.loop c) s e t:=by
 intro Ow Im0 w0 a w hS;let I:Act->World->Prop:=λa w=>∃ n s',Sys Ow Im0 w0 s'.tmps s'.H s'.clk a w/\Z2P P c n s' e t;let μ:Act->World->Nat:=λa w=>if h:I a w then Lp (least h)else 0
 refine wp_loop I μ ⟨n,s,hS,h⟩ λa w hI=>?_;have hμ:μ a w=Lp (least hI):=dif_pos hI;obtain⟨k1,k2⟩:=Lx (least hI);rw[<- hμ]at k1 k2;obtain⟨s',hS',hr⟩:=k1;generalize hm:μ a w=m at hr k2 ⊢;cases m with
 | zero =>
  obtain⟨h1,h2⟩:=hr;refine wp_mono (h2 Ow Im0 w0 a w hS') ?_;rintro e' a' w' ⟨rfl,hS''⟩;cases e with
  | nrm=>exact absurd rfl h1
  | ext n=>exact⟨rfl,hS''⟩
  | ret=>exact⟨rfl,hS''⟩
 | succ m =>
  obtain⟨s2,h1,h2⟩:=hr;refine wp_mono (h1 Ow Im0 w0 a w hS') ?_;rintro e' a' w' ⟨rfl,hS''⟩;have hI':I a' w':=⟨m,s2,hS'',h2⟩
  refine⟨hI', ?_⟩;have hμ':μ a' w'=Lp (least hI'):=dif_pos hI';have:=(Lx (least hI')).2 m ⟨s2,hS'',h2⟩;rw[<- hμ']at this;omega
def ZkB{P:Program}{c:Code}{n:Nat}{s t:St}(h:CSpec P c s (.ext n) t):CSpec P (.block n c) s .nrm t:=by
 intro Ow Im0 w0 a w hS;refine wp_block (wp_mono (h Ow Im0 w0 a w hS) ?_);rintro e a' w' ⟨rfl,hS'⟩;simp only[Ex.exit,Exit.inBlock,if_true];exact⟨by trivial,hS'⟩
def ZiW{P:Program}{c:Code}{n:Nat}{s t:St}(h:CSpec P c s .ret t):CSpec P (.block n c) s .ret t:=by
 intro Ow Im0 w0 a w hS;refine wp_block (wp_mono (h Ow Im0 w0 a w hS) ?_);rintro e a' w' ⟨rfl,hS'⟩;exact⟨rfl,hS'⟩
def rounds{P:Program}{c:Code}{s':St}{n:Nat}{s t:St}{e:Ex}(h1:CSpec P c s .nrm s')(h2:Z2P P c n s' e t):Z2P P c (n+1) s e t:=⟨s',h1,h2⟩
def ZhR(P:Program)(hints:List (Nat×List Hint))(cuts:List (Nat×Tg×Ex×Tg))(c:Code)(s:St)(t:Tg):Option Run :=
 match runC P hints cuts c s with
 | none=>X
 | some r=>match wk r.s t with
  | some l=>U ⟨r.e,r.s,r.ph,r.eq++l⟩
  | none=>X
def oblO:Option Run->Prop
 | some r=>allP r.ph
 | none=>False
def lefO:Option Run->List AV
 | some r=>r.eq.map (·.1)
 | none=>[]
def rigO:Option Run->List AV
 | some r=>r.eq.map (·.2)
 | none=>[]
def exO:Option Run->Option Ex
 | some r=>U r.e
 | none=>X
def Z9l{l:List (AV×AV)}(h:l.map (·.1)=l.map (·.2)):EqP l:=by
 induction l with
 | nil=>intro p hp;simp at hp
 | cons x l ih =>
  simp only[Lb,Lq]at h;intro p hp;rcases N.1 hp with e | e
  .rw[e];exact h.1
  .exact ih h.2 p e
def Z1H{P:Program}(hints:List (Nat×List Hint))(cuts:List (Nat×Tg×Ex×Tg)){c:Code}{s:St}{e:Ex}{t:Tg}{φ:Prop}(hφ:φ)
  (h1:oblO (ZhR P hints cuts c s t)=φ) (h2:lefO (ZhR P hints cuts c s t)=rigO (ZhR P hints cuts c s t)) (h3:exO (ZhR P hints cuts c s t)=U e):CSpec P c s e t.st:=by
 rw[<- h1]at hφ;cases hr:ZhR P hints cuts c s t with
 | none=>rw[hr]at hφ;exact hφ.elim
 | some r =>
  rw[hr]at hφ h2 h3;have heq:EqP r.eq:=Z9l h2;have he:r.e=e:=by simpa[exO]using h3
  unfold ZhR at hr;split at hr
  .cases hr
  rename_i q hq;split at hr;rotate_left
  .cases hr
  rename_i l hl;cases hr;intro Ow Im0 w0 a w hS;refine wp_mono (Z8S hq hφ heq.left Ow Im0 w0 a w hS) ?_;rintro e' a' w' ⟨rfl,hS'⟩;exact⟨by rw[<- he],ZgO hl heq.right hS'⟩
def Z0x(els:List (List DV)):Prop:=∀ e∈els,∀ x∈e,∃ v,x = .sc v
def idx(b:Nat):List Nat->Nat->Option Nat
 | [],_=>X
 | x::l,k=>if x=b then U k else idx b l (k+1)
def fin1(keep:List Nat)(H:Heap)(fr:Bool):AV->Option (AV×List Prop)
 | .d x=>match fr with
  | false=>U (.d x,[])
  | true=>match x with
   | .sc v=>U (.d (.sc v),[])
   | .sl s els=>match els with
    | []=>U (.d (.sl s []),[])
    | _=>X
 | .rp e o=>match fr with
  | false=>U (.rp e o,[])
  | true=>X
 | .ow b=>match idx b keep 0 with
  | some k=>U (.ow k,[])
  | none=>match H b with
   | some (.arr _ s els)=>U (.d (.sl s els),match fr with | Y=>[Z0x els] | Z=>[])
   | _=>X
 | .os b o n=>match idx b keep 0 with
  | some k=>U (.os k o n,[])
  | none=>match H b with
   | some (.arr _ s els)=>U (.d (.sl s ((els.drop o).take n)),match fr with | Y=>[Z0x els] | Z=>[])
   | _=>X
 | _=>X
def finL(f:AV->Option (AV×List Prop)):List AV->Option (List AV×List Prop)
 | []=>U ([],[])
 | a::l=>match f a,finL f l with
  | some (x,p),some (r,q)=>U (x::r,p++q)
  | _,_=>X
def finA(keep:List Nat)(H:Heap)(fr:Bool)(a:AV):Option (AV×List Prop):=match a with
 | .ag l=>match finL (fin1 keep H fr) l with | U (r,q)=>U (.ag r,q) | X=>X
 | .fn f l=>match finL (fin1 keep H fr) l with | U (r,q)=>U (.fn f r,q) | X=>X
 | .ic t (.ag l)=>match finL (fin1 keep H fr) l with | U (r,q)=>U (.ic t (.ag r),q) | X=>X
 | .ic t x=>match fin1 keep H fr x with | U (r,q)=>U (.ic t r,q) | X=>X
 | x=>fin1 keep H fr x
def finT(keep:List Nat)(H:Heap)(fr:Bool)(a:AV):Option (AV×List Prop):=match a with
 | .tu l=>match finL (finA keep H fr) l with | U (r,q)=>U (.tu r,q) | X=>X
 | x=>finA keep H fr x
def finN(keep:List Nat)(H:Heap)(fr:Bool):Option (List Blk×List Prop):=match keep with
 | []=>U ([],[])
 | b::r=>match H b,finN r H fr with
  | some (.arr ty s els),some (l,q)=>U (.arr ty s els::l,(match fr with | Y=>[Z0x els] | Z=>[])++q)
  | _,_=>X
def ZgF(P:Program)(tmps:List AV)(H:Heap):ResultVar->Option AV
 | .tmp t=>U (tmps.getD t .any)
 | .cell t ty=>match Z7B P ty [] (tmps.getD t .any) H with
  | some r=>match r.ph with
   | []=>U r.val
   | _=>X
  | none=>X
def Z8W(P:Program)(tmps:List AV)(H:Heap):List ResultVar->Option (List AV)
 | []=>U []
 | x::l=>match ZgF P tmps H x,Z8W P tmps H l with
  | some a,some r=>U (a::r)
  | _,_=>X
def resV:List AV->AV
 | [a]=>a
 | l=>.tu l
def coe1(x r:AV):AV×List Prop:=match x with
 | .d (.sl s els)=>match s with
  | 0=>match r with
   | .d (.sl s' _)=>(.d (.sl s' []),[els=[]])
   | _=>(.d (.sl 0 els),[])
  | s+1=>(.d (.sl (s+1) els),[])
 | x=>(x,[])
def coeL(f:AV->AV->AV×List Prop):List AV->List AV->List AV×List Prop
 | x::l,r::m=>((f x r).1::(coeL f l m).1,(f x r).2++(coeL f l m).2)
 | l,_=>(l,[])
def coeM(x r:AV):AV×List Prop:=match x with
 | .ag l=>match r with
  | .ag m=>(.ag (coeL coe1 l m).1,(coeL coe1 l m).2)
  | _=>(.ag l,[])
 | x=>coe1 x r
def coeT(x r:AV):AV×List Prop:=match x with
 | .tu l=>match r with
  | .tu m=>(.tu (coeL coeM l m).1,(coeL coeM l m).2)
  | _=>(.tu l,[])
 | x=>coeM x r
section
variable {ρ:Rho} {w:World} {Im:Nat->Prop}
theorem Zbo{x r:AV}{v:Value}(h:Rel ρ w Im x v)(hp:allP (coe1 x r).2):Rel ρ w Im (coe1 x r).1 v:=by
 unfold coe1 at hp ⊢;split at hp
 .rename_i s els;split at hp
  .split at hp
   .rename_i s' e';have he:els=[]:=hp;subst he;cases h with
    | d h =>
     cases h with
     | slNil _ a c=>exact .d (.slNil s' a c)
     | sl _ _ p n c f hn hc=>simp at hn;subst hn;exact .d (.slNil s' _ c)
   .exact h
  .exact h
 .exact h
theorem Z6w{f:AV->AV->AV×List Prop}:∀ {l m:List AV},allP (coeL f l m).2->(coeL f l m).1.length=l.length/\∀ (i:Nat) (y:AV),(coeL f l m).1[i]? = U y->∃ x,l[i]? = U x/\(y=x\/∃ r,y=(f x r).1/\allP (f x r).2)
 | [],_,_=>by simp[coeL]
 | x::l,[],_=>⟨rfl,λi y h=>⟨y,h,.inl rfl⟩⟩
 | x::l,r::m,h=>by
  obtain⟨h1,h2⟩:=allP_append.1 h;obtain⟨k1,k2⟩:=Z6w h2;refine⟨by simp[coeL,k1],λi y hy=>?_⟩;cases i with
  | zero =>
   simp only[coeL,List.getElem?_cons_zero,L]at hy;exact⟨x,rfl,.inr ⟨r,hy.symm,h1⟩⟩
  | succ i =>
   obtain⟨z,h3,h4⟩:=k2 i y (by simpa[coeL]using hy);exact⟨z,by simpa using h3,h4⟩
theorem ZfV{x r:AV}{v:Value}(h:Rel ρ w Im x v)(hp:allP (coeM x r).2):Rel ρ w Im (coeM x r).1 v:=by
 unfold coeM at hp ⊢;split at hp
 .split at hp
  .obtain⟨cs,rfl,k1,k2,k3⟩:=Z3D h;obtain⟨n1,n2⟩:=Z6w hp;refine .ag _ cs (by rw[n1];exact k1) k2 λi a u ha hu=>?_;obtain⟨x,h1,h2⟩:=n2 i a ha;rcases h2 with rfl | ⟨r,rfl,h3⟩
   .exact k3 i _ u h1 hu
   .exact Zbo (k3 i x u h1 hu) h3
  .exact h
 .exact Zbo h hp
theorem Zfz{x r:AV}{v:Value}(h:Rel ρ w Im x v)(hp:allP (coeT x r).2):Rel ρ w Im (coeT x r).1 v:=by
 unfold coeT at hp ⊢;split at hp
 .split at hp
  .cases h with
   | tu _ cs k1 k3 =>
    obtain⟨n1,n2⟩:=Z6w hp;refine .tu _ cs (by rw[n1];exact k1) λi a u ha hu=>?_;obtain⟨x,h1,h2⟩:=n2 i a ha;rcases h2 with rfl | ⟨r,rfl,h3⟩
    .exact k3 i _ u h1 hu
    .exact ZfV (k3 i x u h1 hu) h3
  .exact h
 .exact ZfV h hp
end
def runF(P:Program)(hints:List (Nat×List Hint))(cuts:List (Nat×Tg×Ex×Tg))(keep:List Nat)(fn:Func)(args:List AV)(fr:Bool)(res:AV)(news:List Blk):Option Run :=
 match fn.body with
 | none=>X
 | some c=>match args.all Z8R with
  | false=>X
  | true=>match runC P hints cuts c ⟨args++LD (fn.ntmps-args.length) .any,λ_=>X,1⟩with
   | none=>X
   | some r=>match r.e with
    | .ext _=>X
    | _=>match Z8W P r.s.tmps r.s.H fn.results.toList with
     | none=>X
     | some l=>match finT keep r.s.H fr (resV l),finN keep r.s.H fr with
      | some (x,p),some (ns,q)=>if news.length=ns.length then U ⟨r.e,r.s,r.ph++(p++(coeT x res).2)++q,r.eq++[((coeT x res).1,res)]++(ns.map encB).zip (news.map encB)⟩else X
      | _,_=>X
def Zb0(tmps:Array Value):ResultVar->Sem Value
 | .tmp t=>pure (tmps.getD t undef)
 | .cell a t=>do loadVar t (<- asAddr (tmps.getD a undef))
def ZaR(fn:Func)(tmps:Array Value):results fn tmps=(do
  let vs <- fn.results.mapM (Zb0 tmps)
  pure (if h:vs.size=1 then vs[0]else .tuple vs)):=by
 unfold results;congr 1
section
variable {Ow:Own} {Im0:Nat->Prop} {w0:World} {ρ:Rho} {w:World} {Im:Nat->Prop} {H:Heap} {clk:Nat}
theorem ZiP{P:Program}{tmps:List AV}{a:Act}(I:Inv Ow Im0 w0 ρ w Im H clk)(T:RelT Ow.ds ρ w Im tmps a){r:ResultVar}{x:AV}(h:ZgF P tmps H r=U x) :
  ∃ v,(Zb0 a.tmps r).run P w = .ok v w/\Rel ρ w Im x v:=by
 have hev:∀ t,Rel ρ w Im (tmps.getD t .any) (a.tmps.getD t undef):=λt=>Z1E T (.tmp t);cases r with
 | tmp t =>
  simp only[ZgF,L]at h;subst h;exact⟨_,rfl,hev t⟩
 | cell c t =>
  simp only[ZgF]at h;split at h;rotate_left
  .cases h
  rename_i r hr;split at h;rotate_left
  .cases h
  rename_i hp;cases h;obtain⟨p,v,h1,h2,h3,_⟩:=Zfs I (hev c) hr (by rw[hp];trivial);exact⟨v,by simp only[Zb0,h1,asAddr,Ls,Lt,Lj,h2],h3⟩
theorem ZdW{P:Program}{tmps:List AV}{a:Act}(I:Inv Ow Im0 w0 ρ w Im H clk)(T:RelT Ow.ds ρ w Im tmps a):∀ {rs:List ResultVar} {l:List AV},Z8W P tmps H rs=U l ->
  ∃ vs:List Value,(rs.mapM (Zb0 a.tmps)).run P w = .ok vs w/\vs.length=l.length/\∀ (i:Nat) (x:AV) (v:Value),l[i]? = U x->vs[i]? = U v->Rel ρ w Im x v
 | [],l,h=>by simp[Z8W]at h;subst h;exact⟨[],rfl,rfl,by simp⟩
 | r::rs,l,h=>by
  simp only[Z8W]at h;split at h;rotate_left
  .cases h
  rename_i x m hx hm;cases h;obtain⟨v,h1,h2⟩:=ZiP I T hx;obtain⟨vs,h3,h4,h5⟩:=ZdW I T hm;refine⟨v::vs, ?_,by simp[h4],λi y u hy hu=>?_⟩
  .rw[List.mapM_cons];simp only[Ls,h1,h3,Lj,Lt]
  .cases i with
   | zero=>simp at hy hu;subst hy;subst hu;exact h2
   | succ i=>exact h5 i y u (by simpa using hy) (by simpa using hu)
theorem Z7w{P:Program}{fn:Func}{tmps:List AV}{a:Act}(I:Inv Ow Im0 w0 ρ w Im H clk)(T:RelT Ow.ds ρ w Im tmps a){l:List AV}(h:Z8W P tmps H fn.results.toList=U l) :
  ∃ v,(results fn a.tmps).run P w = .ok v w/\Rel ρ w Im (resV l) v:=by
 obtain⟨vs,h1,h2,h3⟩:=ZdW I T h;have hm:(fn.results.mapM (Zb0 a.tmps)).run P w = .ok vs.toArray w:=by
  have e:fn.results=fn.results.toList.toArray:=by simp
  rw[e,List.mapM_toArray];simp only[Sem.run_map,h1,Lj]
 refine⟨if h:vs.toArray.size=1 then vs.toArray[0]else .tuple vs.toArray, ?_, ?_⟩
 .rw[ZaR];simp only[Ls,hm,Lj,Lt]
 .by_cases hl:vs.length=1
  .obtain⟨v,rfl⟩:∃ v,vs=[v]:=LA.1 hl;obtain⟨x,rfl⟩:∃ x,l=[x]:=LA.1 oq;simpa[resV]using h3 0 x v rfl rfl
  .rw[dif_neg (by simpa using hl)];have:resV l = .tu l:=by
    unfold resV;split
    .rename_i a;simp at h2;omega
    .rfl
   rw[this];exact .tu l _ (by simpa using h2) λi x v hx hv=>h3 i x v hx (by simpa using hv)
end
def ZbV{b:Nat}:∀ {l:List Nat} {k n:Nat},idx b l k=U n->k<=n/\l[n-k]? = U b
 | [],k,n,h=>by simp[idx]at h
 | x::l,k,n,h=>by
  simp only[idx]at h;split at h
  .rename_i e;cases h;simp[e]
  .obtain⟨h1,h2⟩:=ZbV h;refine⟨by omega, ?_⟩;rw[show n-k=(n-(k+1))+1 from by omega];simpa using h2
def ZbA{b:Nat}:∀ {l:List Nat} {k:Nat},idx b l k=X->b∉l
 | [],_,_=>by simp
 | x::l,k,h=>by
  simp only[idx]at h;split at h
  .cases h
  .rename_i e;have:=ZbA h;simp only[N,not_or];exact⟨λh=>e h.symm,this⟩
def ZbC{w w':World}{Im Im':Nat->Prop}{els:List (List DV)}(hf:Z0x els){e:List DV}{x:DV}{v:Value}(he:e∈els)(hx:x∈e)(h:RelD w Im x v):RelD w' Im' x v:=by
 obtain⟨u,rfl⟩:=hf e he x hx;cases h with
 | sc _ h=>exact .sc _ h
def Z5j{f:AV->Option (AV×List Prop)}:∀ {l r:List AV} {q:List Prop},finL f l=U (r,q)->allP q->r.length=l.length/\∀ (i:Nat) (y:AV),r[i]? = U y->∃ x p,l[i]? = U x/\f x=U (y,p)/\allP p
 | [],r,q,h,_=>by simp[finL]at h;obtain⟨rfl,rfl⟩:=h;simp
 | a::l,r,q,h,hq=>by
  simp only[finL]at h;split at h;rotate_left
  .cases h
  rename_i x p m q' hx hm;cases h;obtain⟨p1,p2⟩:=allP_append.1 hq;obtain⟨h1,h2⟩:=Z5j hm p2;refine⟨by simp[h1],λi y hy=>?_⟩;cases i with
  | zero=>simp at hy;subst hy;exact⟨a,p,rfl,hx,p1⟩
  | succ i=>exact h2 i y (by simpa using hy)
section
variable {Im0:Nat->Prop} {w0:World} {ρ:Rho} {w:World} {Im:Nat->Prop} {H:Heap} {clk:Nat} {keep:List Nat} {fr:Bool}
def rhoK(ρ:Rho)(keep:List Nat):Rho:=λk=>match keep[k]? with | U b=>ρ b | X=>X
def ImK(fr:Bool)(Im:Nat->Prop)(ρ:Rho)(H:Heap)(keep:List Nat):Nat->Prop:=λg=>(fr=Z/\Im g)\/∃ b β,b∉keep/\live H b/\ρ b=U β/\β.g=U g
theorem Z6r{x:AV}{v:Value}{s:Nat}{els els0:List (List DV)}{b:Nat}(I:Inv Z4z Im0 w0 ρ w Im H clk)(hx:Rel ρ w Im x v)(h:Z1p H x=U (s,els))(hb:b∉keep)(hlive:live H b)
  (hsub:∀ e∈els,e∈els0) (hf:fr=Y->Z0x els0) (hblk:∀ a n c,v = .slice (U a) n c->n≠0->∃ β,ρ b=U β/\β.g=U a.block):RelD w (ImK fr Im ρ H keep) (.sl s els) v:=by
 obtain⟨p,c,rfl,hbg,hc,hl,hcell⟩:=Z25 I hx h;by_cases he:els=[]
 .subst he;exact .slNil _ _ _
 rcases hcell with hcell | ⟨q,rfl,hq,hcell⟩
 .exact absurd hcell he
 have hn:els.length≠0:=by simpa using he
 obtain⟨β,hβ,hg⟩:=hblk q _ c rfl hn;refine .sl s els q els.length c (λi o=>(w.cell? ⟨q.block,q.off+(i*s+o),X⟩).getD undef) rfl hc hbg (hl he) hq (.inr ⟨b,β,hb,hlive,hβ,hg⟩) ?_ ?_
 .intro i e o y hi ho;obtain⟨u,k1,_⟩:=hcell i e o y hi ho;rw[k1];rfl
 .intro i e o y hi ho;obtain⟨u,k1,k2⟩:=hcell i e o y hi ho;rw[k1];cases fr with
  | true=>exact ZbC (hf rfl) (hsub e (W hi)) (W ho) k2
  | false=>exact k2.mono (Ext.refl _ _) (λg hg=>.inl ⟨rfl,hg⟩)
theorem Za0(I:Inv Z4z Im0 w0 ρ w Im H clk){x y:AV}{v:Value}{p:List Prop}(hx:Rel ρ w Im x v)(h:fin1 keep H fr x=U (y,p))(hp:allP p):Rel (rhoK ρ keep) w (ImK fr Im ρ H keep) y v:=by
 unfold fin1 at h;split at h
 .split at h
  .cases h;cases hx with
   | d hx=>exact .d (hx.mono (Ext.refl _ _) (λg hg=>.inl ⟨rfl,hg⟩))
  .split at h
   .cases h;cases hx with
    | d hx=>cases hx with | sc _ h=>exact .d (.sc _ h)
   .split at h
    .cases h;cases hx with
     | d hx =>
      cases hx with
      | slNil=>exact .d (.slNil _ _ _)
      | sl _ _ _ _ _ _ hn=>simp at hn;subst hn;exact .d (.slNil _ _ _)
    .cases h
 .split at h
  .cases h;cases hx with
   | rp h1 h2 h3=>exact .rp h1 (.inl ⟨rfl,h2⟩) (λj x hx=>let ⟨v,k1,k2⟩:=h3 j x hx;⟨v,k1,k2.mono (Ext.refl _ _) (λg hg=>.inl ⟨rfl,hg⟩)⟩)
  .cases h
 .rename_i b;split at h
  .rename_i k hk;cases h;obtain⟨_,hk2⟩:=ZbV hk;cases hx with
   | ow h1 h2 h3 h4=>exact .ow (by simp only[rhoK];rw[show keep[k]? = U b from by simpa using hk2];exact h1) h2 h3 h4
  .rename_i hk;have hnk:=ZbA hk;split at h;rotate_left
   .cases h
   rename_i ty s els hb;cases h;refine .d (Z6r (b:=b) (els0:=els) I hx (by simp[Z1p,hb]) hnk ⟨_,hb,by simp⟩ (λe he=>he) (λhfr=>by subst hfr;simpa[allP]using hp) λa n c hv hn=>?_);subst hv;generalize hvv:Value.slice (U a) n c=vv at hx;cases hx with
   | ow h1 h2 h3 h4 =>
    injection hvv with e1 e2 e3;rcases h4 with h4 | ⟨g,hg,e,_⟩
    .omega
    .rw[<- e1]at e;cases e;exact⟨_,h1,hg⟩
 .rename_i b oo m;split at h
  .rename_i k hk;cases h;obtain⟨_,hk2⟩:=ZbV hk;cases hx with
   | os h1 h2 h3 h4 h5=>exact .os (by simp only[rhoK];rw[show keep[k]? = U b from by simpa using hk2];exact h1) h2 h3 h4 h5
  .rename_i hk;have hnk:=ZbA hk;split at h;rotate_left
   .cases h
   rename_i ty s els hb;cases h;refine .d (Z6r (b:=b) (els0:=els) I hx (by simp[Z1p,hb]) hnk ⟨_,hb,by simp⟩ (λe he=>List.mem_of_mem_drop (List.mem_of_mem_take he)) (λhfr=>by subst hfr;simpa[allP]using hp) λa n c hv hn=>?_);subst hv;generalize hvv:Value.slice (U a) n c=vv at hx;cases hx with
   | os h1 h2 h3 h4 h5 =>
    injection hvv with e1 e2 e3;rcases h5 with h5 | ⟨g,hg,e,_⟩
    .omega
    .rw[<- e1]at e;cases e;exact⟨_,h1,hg⟩
 .cases h
theorem ZjZ(I:Inv Z4z Im0 w0 ρ w Im H clk){x y:AV}{v:Value}{p:List Prop}(hx:Rel ρ w Im x v)(h:finA keep H fr x=U (y,p))(hp:allP p):Rel (rhoK ρ keep) w (ImK fr Im ρ H keep) y v:=by
 unfold finA at h;split at h
 .split at h;rotate_left
  .cases h
  rename_i r q hr;cases h;obtain⟨h1,h2⟩:=Z5j hr hp;obtain⟨cs,rfl,k1,k2,k3⟩:=Z3D hx;refine .ag _ cs oq k2 λi a u ha hu=>?_;obtain⟨z,p',m1,m2,m3⟩:=h2 i a ha;exact Za0 I (k3 i z u m1 hu) m2 m3
 .split at h;rotate_left
  .cases h
  rename_i r q hr;cases h;obtain⟨h1,h2⟩:=Z5j hr hp;cases hx with
  | fn k1 k3 =>
   refine .fn oq λi a u ha hu=>?_;obtain⟨z,p',m1,m2,m3⟩:=h2 i a ha;exact Za0 I (k3 i z u m1 hu) m2 m3
 .split at h;rotate_left
  .cases h
  rename_i r q hr;cases h;obtain⟨h1,h2⟩:=Z5j hr hp;cases hx with
  | ic hx =>
   obtain⟨cs,rfl,k1,k2,k3⟩:=Z3D hx;refine .ic (.ag _ cs oq k2 λi a u ha hu=>?_);obtain⟨z,p',m1,m2,m3⟩:=h2 i a ha;exact Za0 I (k3 i z u m1 hu) m2 m3
 .split at h;rotate_left
  .cases h
  rename_i r q hr;cases h;cases hx with
  | ic hx=>exact .ic (Za0 I hx hr hp)
 .exact Za0 I hx h hp
theorem ZnE(I:Inv Z4z Im0 w0 ρ w Im H clk){x y:AV}{v:Value}{p:List Prop}(hx:Rel ρ w Im x v)(h:finT keep H fr x=U (y,p))(hp:allP p):Rel (rhoK ρ keep) w (ImK fr Im ρ H keep) y v:=by
 unfold finT at h;split at h
 .split at h;rotate_left
  .cases h
  rename_i r q hr;cases h;obtain⟨h1,h2⟩:=Z5j hr hp;cases hx with
  | tu _ cs k1 k3 =>
   refine .tu _ cs oq λi a u ha hu=>?_;obtain⟨z,p',m1,m2,m3⟩:=h2 i a ha;exact ZjZ I (k3 i z u m1 hu) m2 m3
 .exact ZjZ I hx h hp
theorem ZcL{H:Heap}:∀ {keep:List Nat} {l:List Blk} {q:List Prop},finN keep H fr=U (l,q)->allP q->l.length=keep.length/\∀ (k:Nat) (B:Blk),l[k]? = U B->∃ b ty s els,keep[k]? = U b/\H b=U (.arr ty s els)/\B = .arr ty s els/\(fr=Y->Z0x els)
 | [],l,q,h,_=>by simp[finN]at h;obtain⟨rfl,rfl⟩:=h;simp
 | b::keep,l,q,h,hq=>by
  simp only[finN]at h;split at h;rotate_left
  .cases h
  rename_i ty s els m q' hb hm;cases h;obtain⟨p1,p2⟩:=allP_append.1 hq;obtain⟨h1,h2⟩:=ZcL hm p2;refine⟨by simp[h1],λk B hB=>?_⟩;cases k with
  | zero=>simp at hB;subst hB;exact⟨b,ty,s,els,rfl,hb,rfl,λh=>by subst h;simpa[allP]using p1⟩
  | succ k=>exact h2 k B (by simpa using hB)
end
def Zou(b:Nat):∀ {l:List Nat} {i j:Nat},l.Nodup->l[i]? = U b->l[j]? = U b->i=j
 | [],i,j,_,hi,_=>by simp at hi
 | x::l,i,j,hn,hi,hj=>by
  obtain⟨h1,h2⟩:=LC.1 hn;cases i with
  | zero =>
   cases j with
   | zero=>rfl
   | succ j =>
    simp at hi hj;subst hi;exact absurd (W hj) h1
  | succ i =>
   cases j with
   | zero =>
    simp at hi hj;subst hj;exact absurd (W hi) h1
   | succ j =>
    have:=Zou b h2 (by simpa using hi) (by simpa using hj);omega
def Z0l{P:Program}{f:Nat}{fn:Func}{args:List AV}{fr:Bool}{res:AV}{news:List Blk}(hints:List (Nat×List Hint))(cuts:List (Nat×Tg×Ex×Tg))(keep:List Nat)(hkeep:keep.Nodup)
  (hf:P.funcs[f]? = U fn) {φ:Prop} (hφ:φ) (h1:oblO (runF P hints cuts keep fn args fr res news)=φ) (h2:lefO (runF P hints cuts keep fn args fr res news)=rigO (runF P hints cuts keep fn args fr res news)):GSpec P f args fr res news:=by
 rw[<- h1]at hφ;cases hr:runF P hints cuts keep fn args fr res news with
 | none=>rw[hr]at hφ;exact hφ.elim
 | some r =>
  rw[hr]at hφ h2;have heq:EqP r.eq:=Z9l h2;have hph:allP r.ph:=hφ;clear h1 h2 hφ;unfold runF at hr;split at hr
  .cases hr
  rename_i c hb;split at hr
  .cases hr
  rename_i hpure;split at hr
  .cases hr
  rename_i q hq;split at hr
  .cases hr
  rename_i hne;split at hr
  .cases hr
  rename_i l hl;split at hr;rotate_left
  .cases hr
  rename_i x p ns qq hx hns;split at hr;rotate_left
  .cases hr
  rename_i hlen;cases hr;obtain⟨hph',hph3⟩:=allP_append.1 hph;obtain⟨hph1,hph2⟩:=allP_append.1 hph';have heq1:=heq.left.left;have hxe:(coeT x res).1=res:=heq.left.right ((coeT x res).1,res) pq;obtain⟨hph2,hph2'⟩:=allP_append.1 hph2;have hnse:ns=news:=by
   apply List.ext_getElem?;intro i;by_cases hi:i<ns.length
   .have hi':i<news.length:=by omega
    have:(encB ns[i],encB news[i])∈(ns.map encB).zip (news.map encB):=by
     refine List.mem_iff_getElem?.2 ⟨i, ?_⟩;simp[List.getElem?_zip_eq_some,hi,hi']
    have:=Zcf (heq.right _ this);rw[Le hi,Le hi',this]
   .rw[Lf oq,Lf oq]
  subst hnse;intro w Im vs hIm hsz hargs;refine calls_of_wp hf hb ?_;have hS:Sys Z4z Im w (args++LD (fn.ntmps-args.length) .any) (λ_=>X) 1 { tmps:=vs++Lm (fn.ntmps-vs.size) undef,defers:=[] } w:=by
   refine⟨λ_=>X,Im,⟨Kept.refl _ _,(λb b' β β' g _ _ h=>nomatch h),(λb β g _ h=>nomatch h),(λb β g h=>nomatch h),(λb β g h=>nomatch h),hIm,(λg h=>.inl h),(λb B h=>nomatch h),λ_ _ _=>rfl,Nat.le_refl 1,λb β _ h=>nomatch h⟩,⟨by simp[hsz],λi y v hy hv=>?_,rfl⟩⟩;rw[List.getElem?_append]at hy;simp only[Array.getElem?_append]at hv;rw[hsz]at hv;split at hy
   .rename_i hi;rw[if_pos hi]at hv;exact hargs i y v hy hv
   .have:=W hy;rw[(List.mem_replicate.1 this).2];exact .any _
  refine wp_mono (Z8S hq hph1 heq1 _ _ _ _ _ hS) ?_;rintro e a' w' ⟨rfl,hS'⟩;have post:a'.defers=[]/\∃ v,(results fn a'.tmps).run P w' = .ok v w'/\∃ u,Ending.returned v = .returned u/\Zfe w Im fr res ns u w':=by
   obtain⟨ρ,Im',I,T⟩:=hS';obtain⟨v,h1,h2⟩:=Z7w I T hl;refine⟨T.defers,v,h1,v,rfl, ?_⟩;have hxr:=Zfz (r:=res) (ZnE I h2 hx hph2) hph2';rw[hxe]at hxr;obtain⟨n1,n2⟩:=ZcL hns hph3;have hK:∀ (k b:Nat),keep[k]? = U b->∃ B:Blk,ns[k]? = U B:=by
    intro k b hk;have hk':=(Lz.1 hk).1;exact⟨ns[k],Le oq⟩
   refine⟨⟨I.kept.os,I.kept.tape,I.kept.output,I.kept.size,λk hk _=>I.kept.block k hk (λh=>h.no),I.kept.rows⟩,rhoK ρ keep,ImK fr Im' ρ q.s.H keep, ?_, ?_, ?_, ?_, ?_, ?_,hxr⟩
   .rintro g (⟨h1,h2⟩ | ⟨b,β,_,_,hb,hg⟩)
    .rcases I.im0 g h2 with h | h | h
     .exact .inl ⟨h1,h⟩
     .exact .inr h
     .exact h.no.elim
    .rcases I.own b β g hb hg with⟨h,_⟩ | h
     .exact .inr h
     .exact h.no.elim
   .rintro g (⟨h1,h2⟩ | ⟨b,β,_,_,hb,hg⟩)
    .exact I.imb g h2
    .exact I.bnd b β g hb hg
   .intro k β g hk hg;simp only[rhoK]at hk;split at hk;rotate_left
    .cases hk
    rename_i b hkb;refine⟨?_,I.bnd b β g hk hg, ?_⟩
    .rcases I.own b β g hk hg with⟨h,_⟩ | h
     .exact h
     .exact h.no.elim
    .obtain⟨B,hB⟩:=hK k b hkb;obtain⟨b',ty,s,els,m1,m2,m3,m4⟩:=n2 k B hB;rw[hkb]at m1;cases m1;rintro(⟨_,h⟩ | ⟨b2,β2,h2,hl2,hb2,hg2⟩)
     .exact I.notIm b β g ⟨_,m2,by simp⟩ hk hg h
     .have:=I.inj b b2 β β2 g ⟨_,m2,by simp⟩ hl2 hk hb2 hg hg2;subst this;exact h2 (W hkb)
   .intro k k' β β' g hk hk' hg hg';simp only[rhoK]at hk hk';split at hk;rotate_left
    .cases hk
    rename_i b hkb;split at hk';rotate_left
    .cases hk'
    rename_i b' hkb';obtain⟨B,hB⟩:=hK k b hkb;obtain⟨_,ty,s,els,m1,m2,_,_⟩:=n2 k B hB;rw[hkb]at m1;cases m1;obtain⟨B',hB'⟩:=hK k' b' hkb';obtain⟨_,ty',s',els',m1',m2',_,_⟩:=n2 k' B' hB';rw[hkb']at m1';cases m1';have:=I.inj b b' β β' g ⟨_,m2,by simp⟩ ⟨_,m2',by simp⟩ hk hk' hg hg';subst this;exact Zou b hkeep hkb hkb'
   .intro k β hk;simp only[rhoK]at hk;split at hk;rotate_left
    .cases hk
    rename_i b hkb;rw[n1];exact(Lz.1 hkb).1
   .intro k B hB;obtain⟨b,ty,s,els,m1,m2,rfl,m4⟩:=n2 k B hB;obtain⟨β,h1,h2⟩:=I.blk b _ m2;refine⟨β,by simp only[rhoK];rw[m1];exact h1, ?_⟩;obtain⟨k0,k1,k2,k3,k4⟩:=h2;refine⟨k0,k1,k2,k3,k4.imp (λh=>h) λ⟨g,cs,j1,j2,j3,j4⟩=>⟨g,cs,j1,j2,j3,λi e o y hi ho=>?_⟩⟩;obtain⟨u,j5,j6⟩:=j4 i e o y hi ho;refine⟨u,j5, ?_⟩;cases fr with
    | true=>exact ZbC (m4 rfl) (W hi) (W ho) j6
    | false=>exact j6.mono (Ext.refl _ _) (λg hg=>.inl ⟨rfl,hg⟩)
  cases hqe:q.e with
  | nrm=>exact post
  | ret=>exact post
  | ext n=>exact absurd hqe (hne n)
def Zf7(n:Nat):Code->Option Code
 | .block m c=>match Ld m n with
  | true=>U (.block m c)
  | false=>Zf7 n c
 | .seq a b=>match Zf7 n a with
  | some c=>U c
  | none=>Zf7 n b
 | .cond _ a b=>match Zf7 n a with
  | some c=>U c
  | none=>Zf7 n b
 | .loop c=>Zf7 n c
 | _=>X
def blkF(fn:Func)(n:Nat):Code:=match fn.body with
 | some c=>match Zf7 n c with
  | some b=>b
  | none=>.skip
 | none=>.skip
def rndF(fn:Func)(n:Nat):Code:=match blkF fn n with
 | .block _ (.loop c)=>c
 | _=>.skip
def Z6V(n:Nat):Code->Bool
 | .block m (.loop _)=>Ld m n
 | _=>Z
def Z7g{fn:Func}{n:Nat}(h:Z6V n (blkF fn n)=Y):blkF fn n = .block n (.loop (rndF fn n)):=by
 unfold rndF;generalize blkF fn n=c at h ⊢;unfold Z6V at h;split at h
 .rw[LF h]
 .cases h
def Zc4{P:Program}{fn:Func}{n k:Nat}{s t:St}(h:Z6V n (blkF fn n)=Y)(hr:Z2P P (rndF fn n) k s (.ext n) t):CSpec P (blkF fn n) s .nrm t:=by
 rw[Z7g h];exact ZkB (ZeU hr)
def ZbT{P:Program}{fn:Func}{n k:Nat}{s t:St}(h:Z6V n (blkF fn n)=Y)(hr:Z2P P (rndF fn n) k s .ret t):CSpec P (blkF fn n) s .ret t:=by
 rw[Z7g h];exact ZiW (ZeU hr)
def Zf1{P:Program}{c:Code}{S:Nat->St}{e:Ex}{t:St}(n:Nat)(h:∀ i,i<n->CSpec P c (S i) .nrm (S (i+1)))(hl:e≠.nrm)(hn:CSpec P c (S n) e t):Z2P P c n (S 0) e t:=by
 have:∀ m i,i+m=n->Z2P P c m (S i) e t:=by
  intro m;induction m with
  | zero=>intro i hi;rw[Nat.add_zero]at hi;subst hi;exact⟨hl,hn⟩
  | succ m ih=>intro i hi;exact⟨S (i+1),h i oq,ih (i+1) oq⟩
 exact this n 0 oq
def Z0a{P:Program}{fn:Func}{b:Nat}{S:Nat->St}{t:St}(n:Nat)(hb:Z6V b (blkF fn b)=Y)(h:∀ i,i<n->CSpec P (rndF fn b) (S i) .nrm (S (i+1)))(hn:CSpec P (rndF fn b) (S n) (.ext b) t):CSpec P (blkF fn b) (S 0) .nrm t :=
 Zc4 hb (Zf1 n h (λh=>nomatch h) hn)
def Z0H{P:Program}{fn:Func}{b:Nat}{S:Nat->St}{t:St}(n:Nat)(hb:Z6V b (blkF fn b)=Y)(h:∀ i,i<n->CSpec P (rndF fn b) (S i) .nrm (S (i+1)))(hn:CSpec P (rndF fn b) (S n) .ret t):CSpec P (blkF fn b) (S 0) .ret t :=
 ZbT hb (Zf1 n h (λh=>nomatch h) hn)
def int(n:Int):AV:=.d (.sc (.int .i64 n))
def u64(n:Int):AV:=.d (.sc (.int .u64 n))
def bool(b:Bool):AV:=.d (.sc (.bool b))
def dint(n:Int):DV:=.sc (.int .i64 n)
def du64(n:Int):DV:=.sc (.int .u64 n)
def wdv(x:Int):List DV:=[du64 x]
def idv(x:Int):List DV:=[dint x]
def Zpl(k:Nat):List (Nat×AV)->AV
 | []=>.any
 | (j,a)::r=>match Ld j k with
  | true=>a
  | false=>Zpl k r
def tmGo(l:List (Nat×AV)):Nat->Nat->List AV
 | 0,_=>[]
 | n+1,k=>Zpl k l::tmGo l n (k+1)
def tm(n:Nat)(l:List (Nat×AV)):List AV:=tmGo l n 0
end Go.Sx
